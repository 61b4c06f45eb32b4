/-
  Layer 12's closed law ExprRuns: worked out.
-/
import Derived.Test.YtjpcchipejmocaaFnsE
namespace Go.Proofs.Ytjpcchipejmocaa
open Go.RowKit
theorem exprRuns_h : Holds Try.prog 19 [] (.p (.v (.bool true))) [] :=
  .ofW (evF1_ok (n := 1000) ttab_ok tabOk_none (FnsEF_ok fun _ _ => none) (by kernel_rfl) (by kernel_rfl))
end Go.Proofs.Ytjpcchipejmocaa
