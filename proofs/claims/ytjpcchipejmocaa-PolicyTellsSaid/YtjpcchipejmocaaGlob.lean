/-
  The package-level variables that calls may read, as this seat's rows lay them (printed by a program of ours).
-/
import Derived.Test.YtjpcchipejmocaaRowo
namespace Go.Proofs.Ytjpcchipejmocaa
def GTab : List (Nat × List Value) := []
end Go.Proofs.Ytjpcchipejmocaa
