/-
  Layer 7's closed law LexRuns: worked out.
-/
import Derived.Test.YtiiagdnmbpdlaaaDoorFnsD
import Derived.Test.YtiiagdnmbpdlaaaDoorItoa
namespace Go.Proofs.YtiiagdnmbpdlaaaDoor
open Go.RowKit
theorem lexRuns_h : Holds Tryd.prog 4 [] (.p (.v (.bool true))) [] :=
  .ofW (evF1_ok (n := 5000) ttab_ok (ctab_ok _) (FnsDF_ok ctab) (by kernel_rfl) (by kernel_rfl))
end Go.Proofs.YtiiagdnmbpdlaaaDoor
