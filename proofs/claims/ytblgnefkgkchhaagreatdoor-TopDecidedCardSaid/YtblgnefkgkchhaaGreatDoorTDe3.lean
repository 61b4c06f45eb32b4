/-
  What the statement leans on, part 23.
-/
import Derived.Test.YtblgnefkgkchhaaGreatDoorRows
import Derived.JoinedOf
set_option linter.unusedSimpArgs false
set_option linter.unusedVariables false
namespace Go.Proofs.YtblgnefkgkchhaaGreatDoor
open Go.ChangeShapes
set_option maxRecDepth 100000
theorem decided_inPlace:(Rows.topDecidedRow.inPlace==Tryz.pinned.checked.prog.inPlace 12)=true:=by kernel_rfl
end Go.Proofs.YtblgnefkgkchhaaGreatDoor
