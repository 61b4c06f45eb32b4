/-
  What the statement leans on, part 18.
-/
import Derived.Test.YtblgnefkgkchhaaGreatDoorRows
import Derived.Test.YtblgnefkgkchhaaGreatDoorCards
import Derived.SevenTiedAt
set_option linter.unusedSimpArgs false
set_option linter.unusedVariables false
namespace Go.Proofs.YtblgnefkgkchhaaGreatDoor
open Go.ChangeShapes
set_option maxRecDepth 100000
theorem syntax_named:Tryz.prog.funcNamed "bailiff/bailifftop.TopSyntax"=some 6:=by kernel_rfl
end Go.Proofs.YtblgnefkgkchhaaGreatDoor
