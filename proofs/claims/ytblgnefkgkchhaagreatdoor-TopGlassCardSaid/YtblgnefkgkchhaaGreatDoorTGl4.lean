/-
  What the statement leans on, part 44.
-/
import Derived.Test.YtblgnefkgkchhaaGreatDoorRows
import Derived.JoinedOf
set_option linter.unusedSimpArgs false
set_option linter.unusedVariables false
namespace Go.Proofs.YtblgnefkgkchhaaGreatDoor
open Go.ChangeShapes
set_option maxRecDepth 100000
theorem glass_unfollowed:(Rows.topGlassRow.unfollowed==Tryz.pinned.checked.prog.unfollowed 4)=true:=by kernel_rfl
end Go.Proofs.YtblgnefkgkchhaaGreatDoor
