/-
  Layer 3 (value): may values be a bag? By shades.
-/
import Derived.Test.YtiiagdnmbpdlaaaDoorValH
import Derived.Test.YtiiagdnmbpdlaaaDoorConvV
import Derived.Test.YtiiagdnmbpdlaaaDoorBag2
namespace Go.Proofs.YtiiagdnmbpdlaaaDoor
set_option linter.unusedVariables false
set_option linter.unusedSimpArgs false
open Go.RowKit
set_option maxHeartbeats 1000000
theorem bagOk_right {l : List Val} (h : bagOk l = true) : ∀ x ∈ l, x.right = true := fun x hx => by
  unfold bagOk at h
  rw [Bool.and_eq_true] at h
  have := List.all_eq_true.1 h.1 x hx
  unfold inBag at this
  rw [Bool.and_eq_true] at this
  exact this.1
theorem bag_h (l : List Val) (hf : ∀ x ∈ l, x.Fit) : Holds Tryd.prog 22 [valsP l] (.p (pB (bagOk l))) [] :=
  .of_calls Tryd.func22 (by kernel_rfl) rfl (fun w vs hl hr => by
    obtain ⟨u, rfl⟩ := one_arg hl
    obtain ⟨A, c, rfl, h1, h2, h3⟩ := vals_typed (hr 0 _ u rfl rfl) hf
    exact bag_any l A c w h2.1 h3) rfl fun w => .p (.v rfl)
end Go.Proofs.YtiiagdnmbpdlaaaDoor
