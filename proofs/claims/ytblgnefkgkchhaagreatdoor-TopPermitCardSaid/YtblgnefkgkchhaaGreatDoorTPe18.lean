/-
  What the statement leans on, part 18.
-/
import Derived.Test.YtblgnefkgkchhaaGreatDoorRows
import Derived.Test.YtblgnefkgkchhaaGreatDoorCards
import Derived.SevenTiedAt
set_option linter.unusedSimpArgs false
set_option linter.unusedVariables false
namespace Go.Proofs.YtblgnefkgkchhaaGreatDoor
open Go.ChangeShapes
set_option maxRecDepth 100000
theorem permit_named:Tryz.prog.funcNamed "bailiff/bailifftop.TopPermit"=some 3:=by kernel_rfl
end Go.Proofs.YtblgnefkgkchhaaGreatDoor
