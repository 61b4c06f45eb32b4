import Derived.Test.YtblgnefkgkchhaaGreatDoorRows
import Derived.Test.YtblgnefkgkchhaaGreatDoorCards
import Derived.SevenTiedAt
namespace Go.Proofs.YtblgnefkgkchhaaGreatDoor
open Go.ChangeShapes
set_option maxRecDepth 100000
theorem reviews_goes:false=Rows.topReviewsRow.goesBy Tryz.pinned.checked.prog:=by kernel_rfl
end Go.Proofs.YtblgnefkgkchhaaGreatDoor
