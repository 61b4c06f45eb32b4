/-
  Layer 3's closed law ValueRuns, and what its laws begin with, by shades.
-/
import Derived.Test.YtiiagdnmbpdlaaaDoorSh
import Derived.Test.YtiiagdnmbpdlaaaDoorTextH
import Derived.Test.YtiiagdnmbpdlaaaDoorBagH
import Derived.Test.YtiiagdnmbpdlaaaDoorHasH
import Derived.Test.YtiiagdnmbpdlaaaDoorWithin
import Derived.Test.YtiiagdnmbpdlaaaDoorFork
import Derived.Test.YtiiagdnmbpdlaaaDoorCellR
namespace Go.Proofs.YtiiagdnmbpdlaaaDoor
set_option linter.unusedVariables false
set_option linter.unusedSimpArgs false
open Go.RowKit
set_option maxHeartbeats 4000000
def numV3 (k n : Int) : Val := ⟨k, n, ⟨#[]⟩⟩
theorem of_h (k n : Int) : Holds Tryd.prog 13 [pI k, pI n] (.p (.agg (numV3 k n).pv)) [] := by
  refine .ofW ?_
  refine holdsC_of (T := TTab) ttab_ok Tryd.func13 (by kernel_rfl) rfl rfl rfl ?_
  (repeat refine sw_seq ?_); refine sw_region ?_
  repeat (first | refine sR (h := ?_) | refine sK (h := ?_) | refine sT (h := aM (h := ?_)) | refine sT (h := aB (h := ?_)) | refine sT (h := aA (h := ?_)) | refine sT (h := aS (h := ?_)) | refine sT (h := aL (h := ?_)))
  refine swt_nil ?_
  (repeat refine sw_seq ?_); refine sw_region ?_
  repeat (first | refine sR (h := ?_) | refine sK (h := ?_) | refine sT (h := aM (h := ?_)) | refine sT (h := aB (h := ?_)) | refine sT (h := aA (h := ?_)) | refine sT (h := aS (h := ?_)) | refine sT (h := aL (h := ?_)))
  refine swt_nil ?_
  (repeat refine sw_seq ?_); refine sw_ret ?_
  exact ⟨Or.inr rfl, _, _, [], _, Wk.refl _, rfl, rfl, .refl _, rfl, rfl⟩
theorem fitV (k n : Int) (s : ByteArray) (h1 : -100 ≤ k ∧ k ≤ 100) (h2 : -100 ≤ n ∧ n ≤ 100) (h3 : s.size ≤ 100) : (⟨k, n, s⟩ : Val).Fit := ⟨⟨by show _ ≤ k; omega, by show k ≤ _; omega⟩, ⟨by show _ ≤ n; omega, by show n ≤ _; omega⟩, by show s.size ≤ _; unfold reachBytes; omega⟩
theorem valRuns_h : Holds Tryd.prog 3 [] (.p (pB true)) [] := by
  have L1 := (less_h (numV3 2 2) (numV3 2 10) (by decide) (by decide)).res (r' := .tup [.p (pB true), .p (pI 0)]) (by rw [show lessS (numV3 2 2) (numV3 2 10) = (true, 0) by kernel_rfl])
  have L2 := (less_h ⟨3, 0, ⟨#[50]⟩⟩ ⟨3, 0, ⟨#[49, 48]⟩⟩ (by decide) (by decide)).res (r' := .tup [.p (pB false), .p (pI 0)]) (by rw [show lessS ⟨3, 0, ⟨#[50]⟩⟩ ⟨3, 0, ⟨#[49, 48]⟩⟩ = (false, 0) by kernel_rfl])
  have L3 := (less_h (numV3 2 2) (numV3 4 10) (by decide) (by decide)).res (r' := .tup [.p (pB false), .p (pI 2)]) (by rw [show lessS (numV3 2 2) (numV3 4 10) = (false, 2) by kernel_rfl])
  have T1 := (text_h (numV3 2 (-7)) (fitV _ _ _ (by omega) (by omega) (by decide))).res (r' := .p (pS ⟨#[45, 55]⟩)) (by rw [show textS (numV3 2 (-7)) = ⟨#[45, 55]⟩ by kernel_rfl])
  have T2 := (text_h (numV3 4 5) (fitV _ _ _ (by omega) (by omega) (by decide))).res (r' := .p (pS ⟨#[64, 53]⟩)) (by rw [show textS (numV3 4 5) = ⟨#[64, 53]⟩ by kernel_rfl])
  have T3 := (text_h ⟨5, 0, ⟨#[97, 110, 110]⟩⟩ (fitV _ _ _ (by omega) (by omega) (by decide))).res (r' := .p (pS ⟨#[35, 97, 110, 110]⟩)) (by rw [show textS ⟨5, 0, ⟨#[97, 110, 110]⟩⟩ = ⟨#[35, 97, 110, 110]⟩ by kernel_rfl])
  have T4 := (text_h ⟨3, 0, ⟨#[97, 34, 98]⟩⟩ (fitV _ _ _ (by omega) (by omega) (by decide))).res (r' := .p (pS ⟨#[34, 97, 92, 50, 50, 98, 34]⟩)) (by rw [show textS ⟨3, 0, ⟨#[97, 34, 98]⟩⟩ = ⟨#[34, 97, 92, 50, 50, 98, 34]⟩ by kernel_rfl])
  refine holds_of (ts := [0]) Tryd.func3 (by kernel_rfl) rfl rfl rfl ?_
  (repeat refine sw_seq ?_); refine sw_region ?_
  repeat (first | refine sR (h := ?_) | refine sK (h := ?_) | refine sT (h := aM (h := ?_)) | refine sT (h := aB (h := ?_)) | refine sT (h := aA (h := ?_)) | refine sT (h := aS (h := ?_)) | refine sT (h := aL (h := ?_)))
  refine swt_nil ?_
  (repeat refine sw_seq ?_); refine sw_region ?_
  repeat (first | refine sR (h := ?_) | refine sK (h := ?_) | refine sT (h := aM (h := ?_)) | refine sT (h := aB (h := ?_)) | refine sT (h := aA (h := ?_)) | refine sT (h := aS (h := ?_)) | refine sT (h := aL (h := ?_)))
  refine swt_act rfl (act_call_flat rfl rfl rfl rfl (of_h 2 2) rfl rfl ?_)
  repeat (first | refine sR (h := ?_) | refine sK (h := ?_) | refine sT (h := aM (h := ?_)) | refine sT (h := aB (h := ?_)) | refine sT (h := aA (h := ?_)) | refine sT (h := aS (h := ?_)) | refine sT (h := aL (h := ?_)))
  refine swt_act rfl (act_call_flat rfl rfl rfl rfl (of_h 2 10) rfl rfl ?_)
  repeat (first | refine sR (h := ?_) | refine sK (h := ?_) | refine sT (h := aM (h := ?_)) | refine sT (h := aB (h := ?_)) | refine sT (h := aA (h := ?_)) | refine sT (h := aS (h := ?_)) | refine sT (h := aL (h := ?_)))
  refine swt_act rfl (act_call_flat rfl rfl rfl rfl (L1) rfl rfl ?_)
  repeat (first | refine sR (h := ?_) | refine sK (h := ?_) | refine sT (h := aM (h := ?_)) | refine sT (h := aB (h := ?_)) | refine sT (h := aA (h := ?_)) | refine sT (h := aS (h := ?_)) | refine sT (h := aL (h := ?_)))
  refine swt_nil ?_
  (repeat refine sw_seq ?_); refine sw_region ?_
  repeat (first | refine sR (h := ?_) | refine sK (h := ?_) | refine sT (h := aM (h := ?_)) | refine sT (h := aB (h := ?_)) | refine sT (h := aA (h := ?_)) | refine sT (h := aS (h := ?_)) | refine sT (h := aL (h := ?_)))
  refine swt_act rfl (act_call_flat rfl rfl rfl rfl (L2) rfl rfl ?_)
  repeat (first | refine sR (h := ?_) | refine sK (h := ?_) | refine sT (h := aM (h := ?_)) | refine sT (h := aB (h := ?_)) | refine sT (h := aA (h := ?_)) | refine sT (h := aS (h := ?_)) | refine sT (h := aL (h := ?_)))
  refine swt_nil ?_
  (repeat refine sw_seq ?_); refine sw_region ?_
  repeat (first | refine sR (h := ?_) | refine sK (h := ?_) | refine sT (h := aM (h := ?_)) | refine sT (h := aB (h := ?_)) | refine sT (h := aA (h := ?_)) | refine sT (h := aS (h := ?_)) | refine sT (h := aL (h := ?_)))
  refine swt_act rfl (act_call_flat rfl rfl rfl rfl (of_h 2 2) rfl rfl ?_)
  repeat (first | refine sR (h := ?_) | refine sK (h := ?_) | refine sT (h := aM (h := ?_)) | refine sT (h := aB (h := ?_)) | refine sT (h := aA (h := ?_)) | refine sT (h := aS (h := ?_)) | refine sT (h := aL (h := ?_)))
  refine swt_act rfl (act_call_flat rfl rfl rfl rfl (of_h 4 10) rfl rfl ?_)
  repeat (first | refine sR (h := ?_) | refine sK (h := ?_) | refine sT (h := aM (h := ?_)) | refine sT (h := aB (h := ?_)) | refine sT (h := aA (h := ?_)) | refine sT (h := aS (h := ?_)) | refine sT (h := aL (h := ?_)))
  refine swt_act rfl (act_call_flat rfl rfl rfl rfl (L3) rfl rfl ?_)
  repeat (first | refine sR (h := ?_) | refine sK (h := ?_) | refine sT (h := aM (h := ?_)) | refine sT (h := aB (h := ?_)) | refine sT (h := aA (h := ?_)) | refine sT (h := aS (h := ?_)) | refine sT (h := aL (h := ?_)))
  refine swt_nil ?_
  (repeat refine sw_seq ?_); refine sw_region ?_
  repeat (first | refine sR (h := ?_) | refine sK (h := ?_) | refine sT (h := aM (h := ?_)) | refine sT (h := aB (h := ?_)) | refine sT (h := aA (h := ?_)) | refine sT (h := aS (h := ?_)) | refine sT (h := aL (h := ?_)))
  refine swt_act rfl (act_call_flat rfl rfl rfl rfl (of_h 2 (-7)) rfl rfl ?_)
  repeat (first | refine sR (h := ?_) | refine sK (h := ?_) | refine sT (h := aM (h := ?_)) | refine sT (h := aB (h := ?_)) | refine sT (h := aA (h := ?_)) | refine sT (h := aS (h := ?_)) | refine sT (h := aL (h := ?_)))
  refine swt_act rfl (act_call_flat rfl rfl rfl rfl (T1) rfl rfl ?_)
  repeat (first | refine sR (h := ?_) | refine sK (h := ?_) | refine sT (h := aM (h := ?_)) | refine sT (h := aB (h := ?_)) | refine sT (h := aA (h := ?_)) | refine sT (h := aS (h := ?_)) | refine sT (h := aL (h := ?_)))
  rw [show ((⟨#[45, 55]⟩ : ByteArray).toList == (⟨#[45, 55]⟩ : ByteArray).toList) = true from beq_self_eq_true _]
  repeat (first | refine sR (h := ?_) | refine sK (h := ?_) | refine sT (h := aM (h := ?_)) | refine sT (h := aB (h := ?_)) | refine sT (h := aA (h := ?_)) | refine sT (h := aS (h := ?_)) | refine sT (h := aL (h := ?_)))
  refine swt_act rfl (act_call_flat rfl rfl rfl rfl (of_h 4 5) rfl rfl ?_)
  repeat (first | refine sR (h := ?_) | refine sK (h := ?_) | refine sT (h := aM (h := ?_)) | refine sT (h := aB (h := ?_)) | refine sT (h := aA (h := ?_)) | refine sT (h := aS (h := ?_)) | refine sT (h := aL (h := ?_)))
  refine swt_act rfl (act_call_flat rfl rfl rfl rfl (T2) rfl rfl ?_)
  repeat (first | refine sR (h := ?_) | refine sK (h := ?_) | refine sT (h := aM (h := ?_)) | refine sT (h := aB (h := ?_)) | refine sT (h := aA (h := ?_)) | refine sT (h := aS (h := ?_)) | refine sT (h := aL (h := ?_)))
  rw [show ((⟨#[64, 53]⟩ : ByteArray).toList == (⟨#[64, 53]⟩ : ByteArray).toList) = true from beq_self_eq_true _]
  repeat (first | refine sR (h := ?_) | refine sK (h := ?_) | refine sT (h := aM (h := ?_)) | refine sT (h := aB (h := ?_)) | refine sT (h := aA (h := ?_)) | refine sT (h := aS (h := ?_)) | refine sT (h := aL (h := ?_)))
  refine swt_act rfl (act_call_flat rfl rfl rfl rfl (T3) rfl rfl ?_)
  repeat (first | refine sR (h := ?_) | refine sK (h := ?_) | refine sT (h := aM (h := ?_)) | refine sT (h := aB (h := ?_)) | refine sT (h := aA (h := ?_)) | refine sT (h := aS (h := ?_)) | refine sT (h := aL (h := ?_)))
  rw [show ((⟨#[35, 97, 110, 110]⟩ : ByteArray).toList == (⟨#[35, 97, 110, 110]⟩ : ByteArray).toList) = true from beq_self_eq_true _]
  repeat (first | refine sR (h := ?_) | refine sK (h := ?_) | refine sT (h := aM (h := ?_)) | refine sT (h := aB (h := ?_)) | refine sT (h := aA (h := ?_)) | refine sT (h := aS (h := ?_)) | refine sT (h := aL (h := ?_)))
  refine swt_act rfl (act_call_flat rfl rfl rfl rfl (T4) rfl rfl ?_)
  repeat (first | refine sR (h := ?_) | refine sK (h := ?_) | refine sT (h := aM (h := ?_)) | refine sT (h := aB (h := ?_)) | refine sT (h := aA (h := ?_)) | refine sT (h := aS (h := ?_)) | refine sT (h := aL (h := ?_)))
  rw [show ((⟨#[34, 97, 92, 50, 50, 98, 34]⟩ : ByteArray).toList == (⟨#[34, 97, 92, 50, 50, 98, 34]⟩ : ByteArray).toList) = true from beq_self_eq_true _]
  repeat (first | refine sR (h := ?_) | refine sK (h := ?_) | refine sT (h := aM (h := ?_)) | refine sT (h := aB (h := ?_)) | refine sT (h := aA (h := ?_)) | refine sT (h := aS (h := ?_)) | refine sT (h := aL (h := ?_)))
  refine swt_nil ?_
  (repeat refine sw_seq ?_); refine sw_ret ?_
  exact fin_b rfl rfl
def fewV (v : Val) : Val := ⟨v.kind, v.n, v.s.extract 0 (Int.toNat (if (80 : Int) < v.s.size then 80 else v.s.size))⟩
theorem fewV_fit {v : Val} (h : v.Fit) : (fewV v).Fit := ⟨h.kind, h.n, Nat.le_trans (by show (v.s.extract 0 _).size ≤ v.s.size; simp [ByteArray.size_extract]; omega) h.s⟩
theorem fewV_h (v : Val) (hv : v.Fit) : Holds Tryd.prog 19 [.agg v.pv] (.p (.agg (fewV v).pv)) [] := by
  refine .ofW ?_
  obtain ⟨k, n, s⟩ := v
  refine holdsC_of (T := TTab) ttab_ok Tryd.func19 (by kernel_rfl) rfl rfl rfl ?_
  (repeat refine sw_seq ?_); refine sw_region ?_
  repeat (first | refine sR (h := ?_) | refine sK (h := ?_) | refine sT (h := aM (h := ?_)) | refine sT (h := aB (h := ?_)) | refine sT (h := aA (h := ?_)) | refine sT (h := aS (h := ?_)) | refine sT (h := aL (h := ?_)))
  refine swt_nil ?_
  (repeat refine sw_seq ?_); refine sw_region ?_
  repeat (first | refine sR (h := ?_) | refine sK (h := ?_) | refine sT (h := aM (h := ?_)) | refine sT (h := aB (h := ?_)) | refine sT (h := aA (h := ?_)) | refine sT (h := aS (h := ?_)) | refine sT (h := aL (h := ?_)))
  refine swt_read ttab_ok rfl rfl (by simp only; split <;> omega) rfl ?_
  repeat (first | refine sR (h := ?_) | refine sK (h := ?_) | refine sT (h := aM (h := ?_)) | refine sT (h := aB (h := ?_)) | refine sT (h := aA (h := ?_)) | refine sT (h := aS (h := ?_)) | refine sT (h := aL (h := ?_)))
  refine swt_nil ?_
  (repeat refine sw_seq ?_); refine sw_region ?_
  repeat (first | refine sR (h := ?_) | refine sK (h := ?_) | refine sT (h := aM (h := ?_)) | refine sT (h := aB (h := ?_)) | refine sT (h := aA (h := ?_)) | refine sT (h := aS (h := ?_)) | refine sT (h := aL (h := ?_)))
  refine swt_nil ?_
  (repeat refine sw_seq ?_); refine sw_ret ?_
  exact ⟨Or.inr rfl, _, _, [], _, Wk.refl _, rfl, rfl, .refl _, rfl, rfl⟩
end Go.Proofs.YtiiagdnmbpdlaaaDoor
