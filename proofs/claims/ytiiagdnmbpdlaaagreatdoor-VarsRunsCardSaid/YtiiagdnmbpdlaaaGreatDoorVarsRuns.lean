/-
  Layer 15's closed law VarsRuns: worked out.
-/
import Derived.Test.YtiiagdnmbpdlaaaGreatDoorFnsV
import Derived.Test.YtiiagdnmbpdlaaaGreatDoorItoa
namespace Go.Proofs.YtiiagdnmbpdlaaaGreatDoor
open Go.RowKit
theorem varsRuns_h : Holds Tryz.prog 3 [] (.p (.v (.bool true))) [] :=
  .ofW (evF1_ok (n := 5000) ttab_ok (ctab_ok _) (FnsVF_ok ctab) (by kernel_rfl) (by kernel_rfl))
end Go.Proofs.YtiiagdnmbpdlaaaGreatDoor
