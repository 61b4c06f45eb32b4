/-
  What the statement leans on, part 17.
-/
import Derived.Test.YtblgnefkgkchhaaGreatDoorRows
import Derived.Test.YtblgnefkgkchhaaGreatDoorCards
import Derived.SevenTiedAt
set_option linter.unusedSimpArgs false
set_option linter.unusedVariables false
namespace Go.Proofs.YtblgnefkgkchhaaGreatDoor
open Go.ChangeShapes
set_option maxRecDepth 100000
theorem permit_main:Tryz.pinned.checked.prog.mainIs=some (Rows.topPermitCard.stood.harness.1,Rows.topPermitCard.stood.harness.2.toList):=by kernel_rfl
end Go.Proofs.YtblgnefkgkchhaaGreatDoor
