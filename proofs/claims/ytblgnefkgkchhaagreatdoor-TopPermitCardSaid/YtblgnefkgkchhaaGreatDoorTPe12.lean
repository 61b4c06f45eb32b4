/-
  What the statement leans on, part 12.
-/
import Derived.Test.YtblgnefkgkchhaaGreatDoorRows
import Derived.JoinedOf
set_option linter.unusedSimpArgs false
set_option linter.unusedVariables false
namespace Go.Proofs.YtblgnefkgkchhaaGreatDoor
open Go.ChangeShapes
set_option maxRecDepth 100000
theorem permit_unfollowed:(Rows.topPermitRow.unfollowed==Tryz.pinned.checked.prog.unfollowed 3)=true:=by kernel_rfl
end Go.Proofs.YtblgnefkgkchhaaGreatDoor
