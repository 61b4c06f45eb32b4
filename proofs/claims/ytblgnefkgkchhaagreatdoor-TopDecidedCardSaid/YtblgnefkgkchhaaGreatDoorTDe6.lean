/-
  What the statement leans on, part 26.
-/
import Derived.Test.YtblgnefkgkchhaaGreatDoorRows
import Derived.JoinedOf
set_option linter.unusedSimpArgs false
set_option linter.unusedVariables false
namespace Go.Proofs.YtblgnefkgkchhaaGreatDoor
open Go.ChangeShapes
set_option maxRecDepth 100000
theorem decided_varsNamed:(Rows.topDecidedRow.named==Tryz.pinned.checked.prog.varsNamed 12)=true:=by kernel_rfl
end Go.Proofs.YtblgnefkgkchhaaGreatDoor
