/-
  What the statement leans on, part 33.
-/
import Derived.Test.YtblgnefkgkchhaaGreatDoorRows
import Derived.JoinedOf
set_option linter.unusedSimpArgs false
set_option linter.unusedVariables false
namespace Go.Proofs.YtblgnefkgkchhaaGreatDoor
open Go.ChangeShapes
set_option maxRecDepth 100000
theorem answered_inPlace:(Rows.topAnsweredRow.inPlace==Tryz.pinned.checked.prog.inPlace 11)=true:=by kernel_rfl
end Go.Proofs.YtblgnefkgkchhaaGreatDoor
