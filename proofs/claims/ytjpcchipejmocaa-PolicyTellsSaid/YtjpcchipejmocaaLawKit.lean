/-
  Shades: the same, no package-level variables on the list.
-/
import Derived.Test.YtjpcchipejmocaaConv
import Derived.Test.YtjpcchipejmocaaLawKit0
namespace Go.Proofs.Ytjpcchipejmocaa
set_option linter.unusedVariables false
set_option linter.unusedSimpArgs false
open Go.RowKit
theorem law_calls {P : Program} {f : FuncId} {args : List PV} {us : List Value} {W : World} (H : Holds P f args (.p (pB true)) []) (hr : RelsP W args us) : Calls P f us.toArray W fun e w' => e = .returned (.bool true) ∧ Below W.heap.size W w' :=
  law_callsG (fun g us h => by simp [GTab, lk] at h) H hr
end Go.Proofs.Ytjpcchipejmocaa
