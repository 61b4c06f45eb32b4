import Derived.Test.YtblgnefkgkchhaaGreatDoorRows
import Derived.JoinedOf
namespace Go.Proofs.YtblgnefkgkchhaaGreatDoor
open Go.ChangeShapes
set_option maxRecDepth 100000
theorem reviews_varsNamed:(Rows.topReviewsRow.named==Tryz.pinned.checked.prog.varsNamed 5)=true:=by kernel_rfl
end Go.Proofs.YtblgnefkgkchhaaGreatDoor
