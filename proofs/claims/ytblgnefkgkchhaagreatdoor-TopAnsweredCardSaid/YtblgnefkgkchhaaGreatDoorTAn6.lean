/-
  What the statement leans on, part 36.
-/
import Derived.Test.YtblgnefkgkchhaaGreatDoorRows
import Derived.JoinedOf
set_option linter.unusedSimpArgs false
set_option linter.unusedVariables false
namespace Go.Proofs.YtblgnefkgkchhaaGreatDoor
open Go.ChangeShapes
set_option maxRecDepth 100000
theorem answered_varsNamed:(Rows.topAnsweredRow.named==Tryz.pinned.checked.prog.varsNamed 11)=true:=by kernel_rfl
end Go.Proofs.YtblgnefkgkchhaaGreatDoor
