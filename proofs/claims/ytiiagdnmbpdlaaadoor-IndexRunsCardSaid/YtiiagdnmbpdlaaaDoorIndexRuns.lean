/-
  Layer 18's closed law IndexRuns: worked out.
-/
import Derived.Test.YtiiagdnmbpdlaaaDoorFnsD
import Derived.Test.YtiiagdnmbpdlaaaDoorItoa
namespace Go.Proofs.YtiiagdnmbpdlaaaDoor
open Go.RowKit
theorem indexRuns_h : Holds Tryd.prog 5 [] (.p (.v (.bool true))) [] :=
  .ofW (evF1_ok (n := 5000) ttab_ok (ctab_ok _) (FnsDF_ok ctab) (by kernel_rfl) (by kernel_rfl))
end Go.Proofs.YtiiagdnmbpdlaaaDoor
