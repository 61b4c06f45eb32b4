/-
  What the statement leans on, part 14.
-/
import Derived.Test.YtblgnefkgkchhaaGreatDoorRows
import Derived.JoinedOf
set_option linter.unusedSimpArgs false
set_option linter.unusedVariables false
namespace Go.Proofs.YtblgnefkgkchhaaGreatDoor
open Go.ChangeShapes
set_option maxRecDepth 100000
theorem permit_varsNamed:(Rows.topPermitRow.named==Tryz.pinned.checked.prog.varsNamed 3)=true:=by kernel_rfl
end Go.Proofs.YtblgnefkgkchhaaGreatDoor
