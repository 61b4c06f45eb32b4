import Derived.Test.YtblgnefkgkchhaaGreatDoorRows
import Derived.Test.YtblgnefkgkchhaaGreatDoorCards
import Derived.SevenTiedAt
namespace Go.Proofs.YtblgnefkgkchhaaGreatDoor
open Go.ChangeShapes
set_option maxRecDepth 100000
theorem reviews_named:Tryz.prog.funcNamed "bailiff/bailifftop.TopReviews"=some 5:=by kernel_rfl
end Go.Proofs.YtblgnefkgkchhaaGreatDoor
