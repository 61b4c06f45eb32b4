import Derived.Test.YtblgnefkgkchhaaGreatDoorRows
import Derived.Test.YtblgnefkgkchhaaGreatDoorCards
import Derived.SevenTiedAt
namespace Go.Proofs.YtblgnefkgkchhaaGreatDoor
open Go.ChangeShapes
set_option maxRecDepth 100000
theorem reviews_main:Tryz.pinned.checked.prog.mainIs=some (Rows.topReviewsCard.stood.harness.1,Rows.topReviewsCard.stood.harness.2.toList):=by kernel_rfl
end Go.Proofs.YtblgnefkgkchhaaGreatDoor
