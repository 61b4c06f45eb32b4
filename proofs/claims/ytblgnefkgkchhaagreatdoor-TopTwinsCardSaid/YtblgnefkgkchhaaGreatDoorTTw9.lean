/-
  What the statement leans on, part 19.
-/
import Derived.Test.YtblgnefkgkchhaaGreatDoorRows
import Derived.Test.YtblgnefkgkchhaaGreatDoorCards
import Derived.SevenTiedAt
set_option linter.unusedSimpArgs false
set_option linter.unusedVariables false
namespace Go.Proofs.YtblgnefkgkchhaaGreatDoor
open Go.ChangeShapes
set_option maxRecDepth 100000
theorem twins_main:Tryz.pinned.checked.prog.mainIs=some (Rows.topTwinsCard.stood.harness.1,Rows.topTwinsCard.stood.harness.2.toList):=by kernel_rfl
end Go.Proofs.YtblgnefkgkchhaaGreatDoor
