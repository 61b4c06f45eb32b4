import Derived.Test.YtblgnefkgkchhaaGreatDoorRows
import Derived.JoinedOf
namespace Go.Proofs.YtblgnefkgkchhaaGreatDoor
open Go.ChangeShapes
set_option maxRecDepth 100000
theorem reviews_inPlace:(Rows.topReviewsRow.inPlace==Tryz.pinned.checked.prog.inPlace 5)=true:=by kernel_rfl
end Go.Proofs.YtblgnefkgkchhaaGreatDoor
