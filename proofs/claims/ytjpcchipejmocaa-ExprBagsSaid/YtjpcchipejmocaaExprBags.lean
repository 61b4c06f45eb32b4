/-
  Layer 12's law ExprBags: the walk, by shades.
-/
import Derived.Test.YtjpcchipejmocaaExL
import Derived.Test.YtjpcchipejmocaaAskR
import Derived.Test.YtjpcchipejmocaaFork
namespace Go.Proofs.Ytjpcchipejmocaa
open Go.RowKit
set_option maxHeartbeats 4000000
theorem bagOk_right {l : List Val} (h : bagOk l = true) : ∀ x ∈ l, x.right = true := fun x hx => by
  unfold bagOk at h
  rw [Bool.and_eq_true] at h
  have := List.all_eq_true.1 h.1 x hx
  unfold inBag at this
  rw [Bool.and_eq_true] at this
  exact this.1
theorem size_ext (s : ByteArray) (n : Nat) : (s.extract 0 n).size ≤ n := by simp [ByteArray.size_extract]; omega
theorem exprBags_h (l : List Val) (v : Val) (hfl : ∀ x ∈ l, x.Fit) (hv : v.Fit) : Holds Try.prog 6 [valsP l, .agg v.pv] (.p (pB true)) [] := by
  obtain ⟨kd, vn, s⟩ := v
  refine holds_of (ts := [4]) Try.func6 (by kernel_rfl) rfl rfl rfl ?_
  (repeat refine sw_seq ?_); refine sw_region ?_
  repeat (first | (refine swt_read ttab_ok rfl rfl (by exact True.intro) rfl ?_) | (refine swt_skip rfl rfl ?_) | (refine swt_act rfl (act_makeMap rfl rfl rfl rfl ?_)) | (refine swt_act rfl (act_box rfl rfl rfl rfl rfl rfl rfl ?_)) | (refine swt_act rfl (act_alloc ttab_ok rfl rfl rfl rfl rfl rfl ?_)) | (refine swt_act rfl (act_store ttab_ok rfl rfl rfl rfl rfl rfl rfl rfl rfl rfl ?_)) | (refine swt_act rfl (act_buildSlice ttab_ok rfl rfl rfl rfl rfl rfl rfl rfl rfl rfl rfl rfl ?_)))
  refine swt_nil ?_
  (repeat refine sw_seq ?_); refine sw_region ?_
  repeat (first | (refine swt_read ttab_ok rfl rfl (by exact True.intro) rfl ?_) | (refine swt_skip rfl rfl ?_) | (refine swt_act rfl (act_makeMap rfl rfl rfl rfl ?_)) | (refine swt_act rfl (act_box rfl rfl rfl rfl rfl rfl rfl ?_)) | (refine swt_act rfl (act_alloc ttab_ok rfl rfl rfl rfl rfl rfl ?_)) | (refine swt_act rfl (act_store ttab_ok rfl rfl rfl rfl rfl rfl rfl rfl rfl rfl ?_)) | (refine swt_act rfl (act_buildSlice ttab_ok rfl rfl rfl rfl rfl rfl rfl rfl rfl rfl rfl rfl ?_)))
  refine swt_read ttab_ok rfl rfl (by simp only [List.length_map]; split <;> omega) rfl ?_
  rw [slice_min Val.pv l 16 16 rfl]
  repeat (first | (refine swt_read ttab_ok rfl rfl (by exact True.intro) rfl ?_) | (refine swt_skip rfl rfl ?_) | (refine swt_act rfl (act_makeMap rfl rfl rfl rfl ?_)) | (refine swt_act rfl (act_box rfl rfl rfl rfl rfl rfl rfl ?_)) | (refine swt_act rfl (act_alloc ttab_ok rfl rfl rfl rfl rfl rfl ?_)) | (refine swt_act rfl (act_store ttab_ok rfl rfl rfl rfl rfl rfl rfl rfl rfl rfl ?_)) | (refine swt_act rfl (act_buildSlice ttab_ok rfl rfl rfl rfl rfl rfl rfl rfl rfl rfl rfl rfl ?_)))
  refine swt_nil ?_
  refine SW.wk (wk_only [0, 3] [(3, 3)] rfl rfl) ?_
  have hf : ∀ x ∈ l.take 16, x.Fit := fun x hx => hfl x (List.mem_of_mem_take hx)
  have hl : (l.take 16).length ≤ 16 := by simp; omega
  generalize l.take 16 = l at *
  have lm : (l.map Val.pv).length = l.length := by simp
  (repeat refine sw_seq ?_); refine sw_region ?_
  repeat (first | (refine swt_read ttab_ok rfl rfl (by exact True.intro) rfl ?_) | (refine swt_skip rfl rfl ?_) | (refine swt_act rfl (act_makeMap rfl rfl rfl rfl ?_)) | (refine swt_act rfl (act_box rfl rfl rfl rfl rfl rfl rfl ?_)) | (refine swt_act rfl (act_alloc ttab_ok rfl rfl rfl rfl rfl rfl ?_)) | (refine swt_act rfl (act_store ttab_ok rfl rfl rfl rfl rfl rfl rfl rfl rfl rfl ?_)) | (refine swt_act rfl (act_buildSlice ttab_ok rfl rfl rfl rfl rfl rfl rfl rfl rfl rfl rfl rfl ?_)))
  refine swt_nil ?_
  (repeat refine sw_seq ?_); refine sw_block ?_
  refine SW.wk (wk_only [0, 3, 18, 19, 20] [(3, 3)] rfl rfl) ?_
  refine sw_loop (fun m st => ∃ (k : Nat) (kk : Int), k ≤ l.length ∧ m = l.length - k ∧ kk = k ∧ st = ⟨129, [(0, .p (valsP l)), (3, .ptr 3 0), (18, .p (valsP l)), (19, .p (pI (l.map Val.pv).length)), (20, .p (pI kk))], [(3, .cells [.p (pI kd), .p (pI vn), .p (pS s)])]⟩) l.length ⟨0, 0, Nat.zero_le _, rfl, rfl, rfl⟩ ?_
  rintro m st ⟨k, _, hk, rfl, rfl, rfl⟩
  (repeat refine sw_seq ?_); refine sw_region ?_
  repeat (first | (refine swt_read ttab_ok rfl rfl (by exact True.intro) rfl ?_) | (refine swt_skip rfl rfl ?_) | (refine swt_act rfl (act_makeMap rfl rfl rfl rfl ?_)) | (refine swt_act rfl (act_box rfl rfl rfl rfl rfl rfl rfl ?_)) | (refine swt_act rfl (act_alloc ttab_ok rfl rfl rfl rfl rfl rfl ?_)) | (refine swt_act rfl (act_store ttab_ok rfl rfl rfl rfl rfl rfl rfl rfl rfl rfl ?_)) | (refine swt_act rfl (act_buildSlice ttab_ok rfl rfl rfl rfl rfl rfl rfl rfl rfl rfl rfl rfl ?_)))
  refine swt_nil ?_
  (repeat refine sw_seq ?_); refine sw_cond rfl (fun hlt => ?_) (fun hlt => ?_)
  · refine sw_skip ?_
    rw [lm] at hlt
    simp only [decide_eq_true_eq] at hlt
    have hlt' : k < l.length := by omega
    (repeat refine sw_seq ?_); refine sw_block ?_
    (repeat refine sw_seq ?_); refine sw_region ?_
    repeat (first | (refine swt_read ttab_ok rfl rfl (by exact True.intro) rfl ?_) | (refine swt_skip rfl rfl ?_) | (refine swt_act rfl (act_makeMap rfl rfl rfl rfl ?_)) | (refine swt_act rfl (act_box rfl rfl rfl rfl rfl rfl rfl ?_)) | (refine swt_act rfl (act_alloc ttab_ok rfl rfl rfl rfl rfl rfl ?_)) | (refine swt_act rfl (act_store ttab_ok rfl rfl rfl rfl rfl rfl rfl rfl rfl rfl ?_)) | (refine swt_act rfl (act_buildSlice ttab_ok rfl rfl rfl rfl rfl rfl rfl rfl rfl rfl rfl rfl ?_)))
    refine swt_nil ?_
    (repeat refine sw_seq ?_); refine sw_region ?_
    repeat (first | (refine swt_read ttab_ok rfl rfl (by exact True.intro) rfl ?_) | (refine swt_skip rfl rfl ?_) | (refine swt_act rfl (act_makeMap rfl rfl rfl rfl ?_)) | (refine swt_act rfl (act_box rfl rfl rfl rfl rfl rfl rfl ?_)) | (refine swt_act rfl (act_alloc ttab_ok rfl rfl rfl rfl rfl rfl ?_)) | (refine swt_act rfl (act_store ttab_ok rfl rfl rfl rfl rfl rfl rfl rfl rfl rfl ?_)) | (refine swt_act rfl (act_buildSlice ttab_ok rfl rfl rfl rfl rfl rfl rfl rfl rfl rfl rfl rfl ?_)))
    refine swt_read ttab_ok rfl rfl (by rw [lm]; omega) rfl ?_
    rw [getD_map hlt']
    repeat (first | (refine swt_read ttab_ok rfl rfl (by exact True.intro) rfl ?_) | (refine swt_skip rfl rfl ?_) | (refine swt_act rfl (act_makeMap rfl rfl rfl rfl ?_)) | (refine swt_act rfl (act_box rfl rfl rfl rfl rfl rfl rfl ?_)) | (refine swt_act rfl (act_alloc ttab_ok rfl rfl rfl rfl rfl rfl ?_)) | (refine swt_act rfl (act_store ttab_ok rfl rfl rfl rfl rfl rfl rfl rfl rfl rfl ?_)) | (refine swt_act rfl (act_buildSlice ttab_ok rfl rfl rfl rfl rfl rfl rfl rfl rfl rfl rfl rfl ?_)))
    refine swt_nil ?_
    (repeat refine sw_seq ?_); refine sw_cond rfl (fun ht => ?_) (fun ht => ?_)
    · (repeat refine sw_seq ?_); refine sw_region ?_
      repeat (first | (refine swt_read ttab_ok rfl rfl (by exact True.intro) rfl ?_) | (refine swt_skip rfl rfl ?_) | (refine swt_act rfl (act_makeMap rfl rfl rfl rfl ?_)) | (refine swt_act rfl (act_box rfl rfl rfl rfl rfl rfl rfl ?_)) | (refine swt_act rfl (act_alloc ttab_ok rfl rfl rfl rfl rfl rfl ?_)) | (refine swt_act rfl (act_store ttab_ok rfl rfl rfl rfl rfl rfl rfl rfl rfl rfl ?_)) | (refine swt_act rfl (act_buildSlice ttab_ok rfl rfl rfl rfl rfl rfl rfl rfl rfl rfl rfl rfl ?_)))
      refine swt_act rfl (act_call_flat rfl rfl rfl rfl (exprRuns_h) rfl rfl ?_)
      repeat (first | (refine swt_read ttab_ok rfl rfl (by exact True.intro) rfl ?_) | (refine swt_skip rfl rfl ?_) | (refine swt_act rfl (act_makeMap rfl rfl rfl rfl ?_)) | (refine swt_act rfl (act_box rfl rfl rfl rfl rfl rfl rfl ?_)) | (refine swt_act rfl (act_alloc ttab_ok rfl rfl rfl rfl rfl rfl ?_)) | (refine swt_act rfl (act_store ttab_ok rfl rfl rfl rfl rfl rfl rfl rfl rfl rfl ?_)) | (refine swt_act rfl (act_buildSlice ttab_ok rfl rfl rfl rfl rfl rfl rfl rfl rfl rfl rfl rfl ?_)))
      refine swt_nil ?_
      (repeat refine sw_seq ?_); refine sw_ret ?_
      exact fin_b rfl rfl
    · refine sw_skip ?_
      (repeat refine sw_seq ?_); refine sw_region ?_
      repeat (first | (refine swt_read ttab_ok rfl rfl (by exact True.intro) rfl ?_) | (refine swt_skip rfl rfl ?_) | (refine swt_act rfl (act_makeMap rfl rfl rfl rfl ?_)) | (refine swt_act rfl (act_box rfl rfl rfl rfl rfl rfl rfl ?_)) | (refine swt_act rfl (act_alloc ttab_ok rfl rfl rfl rfl rfl rfl ?_)) | (refine swt_act rfl (act_store ttab_ok rfl rfl rfl rfl rfl rfl rfl rfl rfl rfl ?_)) | (refine swt_act rfl (act_buildSlice ttab_ok rfl rfl rfl rfl rfl rfl rfl rfl rfl rfl rfl rfl ?_)))
      refine swt_nil ?_
      refine ⟨_, _, ?_, wk_only [0, 3, 18, 19, 20] [(3, 3)] rfl rfl, k + 1, _, hlt', rfl, wrap_succ hlt' (by omega), rfl⟩
      omega
  · refine sw_exit ?_
    refine SW.wk (wk_only [0, 3] [(3, 3)] rfl rfl) ?_
    (repeat refine sw_seq ?_); refine sw_region ?_
    repeat (first | (refine swt_read ttab_ok rfl rfl (by exact True.intro) rfl ?_) | (refine swt_skip rfl rfl ?_) | (refine swt_act rfl (act_makeMap rfl rfl rfl rfl ?_)) | (refine swt_act rfl (act_box rfl rfl rfl rfl rfl rfl rfl ?_)) | (refine swt_act rfl (act_alloc ttab_ok rfl rfl rfl rfl rfl rfl ?_)) | (refine swt_act rfl (act_store ttab_ok rfl rfl rfl rfl rfl rfl rfl rfl rfl rfl ?_)) | (refine swt_act rfl (act_buildSlice ttab_ok rfl rfl rfl rfl rfl rfl rfl rfl rfl rfl rfl rfl ?_)))
    refine swt_read ttab_ok rfl rfl (by simp only; split <;> omega) rfl ?_
    repeat (first | (refine swt_read ttab_ok rfl rfl (by exact True.intro) rfl ?_) | (refine swt_skip rfl rfl ?_) | (refine swt_act rfl (act_makeMap rfl rfl rfl rfl ?_)) | (refine swt_act rfl (act_box rfl rfl rfl rfl rfl rfl rfl ?_)) | (refine swt_act rfl (act_alloc ttab_ok rfl rfl rfl rfl rfl rfl ?_)) | (refine swt_act rfl (act_store ttab_ok rfl rfl rfl rfl rfl rfl rfl rfl rfl rfl ?_)) | (refine swt_act rfl (act_buildSlice ttab_ok rfl rfl rfl rfl rfl rfl rfl rfl rfl rfl rfl rfl ?_)))
    refine swt_nil ?_
    refine SW.wk (wk_only [0, 3] [(3, 3)] rfl rfl) ?_
    change SW _ _ _ ⟨129, [(0, .p (valsP l)), (3, .ptr 3 0)], [(3, .cells [.p (pI kd), .p (pI vn), .p (pS (s.extract 0 (Int.toNat (if (80 : Int) < s.size then 80 else s.size))))])]⟩
    have hs2 : (s.extract 0 (Int.toNat (if (80 : Int) < s.size then 80 else s.size))).size ≤ s.size := by simp [ByteArray.size_extract]; omega
    generalize s.extract 0 (Int.toNat (if (80 : Int) < s.size then 80 else s.size)) = t at *
    obtain ⟨v, hve⟩ : ∃ v : Val, v = ⟨kd, vn, t⟩ := ⟨_, rfl⟩
    have hvf : v.Fit := by rw [hve]; exact ⟨hv.kind, hv.n, Nat.le_trans hs2 hv.s⟩
    have e1 : [SV.p (pI kd), .p (pI vn), .p (pS t)] = v.pv.map .p := by rw [hve]; rfl
    rw [e1]
    clear e1 hve
    (repeat refine sw_seq ?_); refine sw_region ?_
    repeat (first | (refine swt_read ttab_ok rfl rfl (by exact True.intro) rfl ?_) | (refine swt_skip rfl rfl ?_) | (refine swt_act rfl (act_makeMap rfl rfl rfl rfl ?_)) | (refine swt_act rfl (act_box rfl rfl rfl rfl rfl rfl rfl ?_)) | (refine swt_act rfl (act_alloc ttab_ok rfl rfl rfl rfl rfl rfl ?_)) | (refine swt_act rfl (act_store ttab_ok rfl rfl rfl rfl rfl rfl rfl rfl rfl rfl ?_)) | (refine swt_act rfl (act_buildSlice ttab_ok rfl rfl rfl rfl rfl rfl rfl rfl rfl rfl rfl rfl ?_)))
    refine swt_act rfl (act_call_flat rfl rfl rfl rfl (bag_h l hf) rfl rfl ?_)
    repeat (first | (refine swt_read ttab_ok rfl rfl (by exact True.intro) rfl ?_) | (refine swt_skip rfl rfl ?_) | (refine swt_act rfl (act_makeMap rfl rfl rfl rfl ?_)) | (refine swt_act rfl (act_box rfl rfl rfl rfl rfl rfl rfl ?_)) | (refine swt_act rfl (act_alloc ttab_ok rfl rfl rfl rfl rfl rfl ?_)) | (refine swt_act rfl (act_store ttab_ok rfl rfl rfl rfl rfl rfl rfl rfl rfl rfl ?_)) | (refine swt_act rfl (act_buildSlice ttab_ok rfl rfl rfl rfl rfl rfl rfl rfl rfl rfl rfl rfl ?_)))
    cases hb : bagOk l with
    | false =>
      repeat (first | (refine swt_read ttab_ok rfl rfl (by exact True.intro) rfl ?_) | (refine swt_skip rfl rfl ?_) | (refine swt_act rfl (act_makeMap rfl rfl rfl rfl ?_)) | (refine swt_act rfl (act_box rfl rfl rfl rfl rfl rfl rfl ?_)) | (refine swt_act rfl (act_alloc ttab_ok rfl rfl rfl rfl rfl rfl ?_)) | (refine swt_act rfl (act_store ttab_ok rfl rfl rfl rfl rfl rfl rfl rfl rfl rfl ?_)) | (refine swt_act rfl (act_buildSlice ttab_ok rfl rfl rfl rfl rfl rfl rfl rfl rfl rfl rfl rfl ?_)))
      refine swt_nil ?_
      (repeat refine sw_seq ?_); refine sw_cond rfl (fun hc => ?_) (fun hc => ?_)
      · (repeat refine sw_seq ?_); refine sw_region ?_
        repeat (first | (refine swt_read ttab_ok rfl rfl (by exact True.intro) rfl ?_) | (refine swt_skip rfl rfl ?_) | (refine swt_act rfl (act_makeMap rfl rfl rfl rfl ?_)) | (refine swt_act rfl (act_box rfl rfl rfl rfl rfl rfl rfl ?_)) | (refine swt_act rfl (act_alloc ttab_ok rfl rfl rfl rfl rfl rfl ?_)) | (refine swt_act rfl (act_store ttab_ok rfl rfl rfl rfl rfl rfl rfl rfl rfl rfl ?_)) | (refine swt_act rfl (act_buildSlice ttab_ok rfl rfl rfl rfl rfl rfl rfl rfl rfl rfl rfl rfl ?_)))
        refine swt_act rfl (act_call_flat rfl rfl rfl rfl (exprRuns_h) rfl rfl ?_)
        repeat (first | (refine swt_read ttab_ok rfl rfl (by exact True.intro) rfl ?_) | (refine swt_skip rfl rfl ?_) | (refine swt_act rfl (act_makeMap rfl rfl rfl rfl ?_)) | (refine swt_act rfl (act_box rfl rfl rfl rfl rfl rfl rfl ?_)) | (refine swt_act rfl (act_alloc ttab_ok rfl rfl rfl rfl rfl rfl ?_)) | (refine swt_act rfl (act_store ttab_ok rfl rfl rfl rfl rfl rfl rfl rfl rfl rfl ?_)) | (refine swt_act rfl (act_buildSlice ttab_ok rfl rfl rfl rfl rfl rfl rfl rfl rfl rfl rfl rfl ?_)))
        refine swt_nil ?_
        (repeat refine sw_seq ?_); refine sw_ret ?_
        exact fin_b rfl rfl
      · cases hc
    | true =>
      repeat (first | (refine swt_read ttab_ok rfl rfl (by exact True.intro) rfl ?_) | (refine swt_skip rfl rfl ?_) | (refine swt_act rfl (act_makeMap rfl rfl rfl rfl ?_)) | (refine swt_act rfl (act_box rfl rfl rfl rfl rfl rfl rfl ?_)) | (refine swt_act rfl (act_alloc ttab_ok rfl rfl rfl rfl rfl rfl ?_)) | (refine swt_act rfl (act_store ttab_ok rfl rfl rfl rfl rfl rfl rfl rfl rfl rfl ?_)) | (refine swt_act rfl (act_buildSlice ttab_ok rfl rfl rfl rfl rfl rfl rfl rfl rfl rfl rfl rfl ?_)))
      refine swt_act rfl (act_call_flat rfl rfl rfl rfl (rightV_h v hvf.s) rfl rfl ?_)
      repeat (first | (refine swt_read ttab_ok rfl rfl (by exact True.intro) rfl ?_) | (refine swt_skip rfl rfl ?_) | (refine swt_act rfl (act_makeMap rfl rfl rfl rfl ?_)) | (refine swt_act rfl (act_box rfl rfl rfl rfl rfl rfl rfl ?_)) | (refine swt_act rfl (act_alloc ttab_ok rfl rfl rfl rfl rfl rfl ?_)) | (refine swt_act rfl (act_store ttab_ok rfl rfl rfl rfl rfl rfl rfl rfl rfl rfl ?_)) | (refine swt_act rfl (act_buildSlice ttab_ok rfl rfl rfl rfl rfl rfl rfl rfl rfl rfl rfl rfl ?_)))
      cases hr : v.right with
      | false =>
        repeat (first | (refine swt_read ttab_ok rfl rfl (by exact True.intro) rfl ?_) | (refine swt_skip rfl rfl ?_) | (refine swt_act rfl (act_makeMap rfl rfl rfl rfl ?_)) | (refine swt_act rfl (act_box rfl rfl rfl rfl rfl rfl rfl ?_)) | (refine swt_act rfl (act_alloc ttab_ok rfl rfl rfl rfl rfl rfl ?_)) | (refine swt_act rfl (act_store ttab_ok rfl rfl rfl rfl rfl rfl rfl rfl rfl rfl ?_)) | (refine swt_act rfl (act_buildSlice ttab_ok rfl rfl rfl rfl rfl rfl rfl rfl rfl rfl rfl rfl ?_)))
        refine swt_nil ?_
        (repeat refine sw_seq ?_); refine sw_cond rfl (fun hc => ?_) (fun hc => ?_)
        · (repeat refine sw_seq ?_); refine sw_region ?_
          repeat (first | (refine swt_read ttab_ok rfl rfl (by exact True.intro) rfl ?_) | (refine swt_skip rfl rfl ?_) | (refine swt_act rfl (act_makeMap rfl rfl rfl rfl ?_)) | (refine swt_act rfl (act_box rfl rfl rfl rfl rfl rfl rfl ?_)) | (refine swt_act rfl (act_alloc ttab_ok rfl rfl rfl rfl rfl rfl ?_)) | (refine swt_act rfl (act_store ttab_ok rfl rfl rfl rfl rfl rfl rfl rfl rfl rfl ?_)) | (refine swt_act rfl (act_buildSlice ttab_ok rfl rfl rfl rfl rfl rfl rfl rfl rfl rfl rfl rfl ?_)))
          refine swt_act rfl (act_call_flat rfl rfl rfl rfl (exprRuns_h) rfl rfl ?_)
          repeat (first | (refine swt_read ttab_ok rfl rfl (by exact True.intro) rfl ?_) | (refine swt_skip rfl rfl ?_) | (refine swt_act rfl (act_makeMap rfl rfl rfl rfl ?_)) | (refine swt_act rfl (act_box rfl rfl rfl rfl rfl rfl rfl ?_)) | (refine swt_act rfl (act_alloc ttab_ok rfl rfl rfl rfl rfl rfl ?_)) | (refine swt_act rfl (act_store ttab_ok rfl rfl rfl rfl rfl rfl rfl rfl rfl rfl ?_)) | (refine swt_act rfl (act_buildSlice ttab_ok rfl rfl rfl rfl rfl rfl rfl rfl rfl rfl rfl rfl ?_)))
          refine swt_nil ?_
          (repeat refine sw_seq ?_); refine sw_ret ?_
          exact fin_b rfl rfl
        · cases hc
      | true =>
        repeat (first | (refine swt_read ttab_ok rfl rfl (by exact True.intro) rfl ?_) | (refine swt_skip rfl rfl ?_) | (refine swt_act rfl (act_makeMap rfl rfl rfl rfl ?_)) | (refine swt_act rfl (act_box rfl rfl rfl rfl rfl rfl rfl ?_)) | (refine swt_act rfl (act_alloc ttab_ok rfl rfl rfl rfl rfl rfl ?_)) | (refine swt_act rfl (act_store ttab_ok rfl rfl rfl rfl rfl rfl rfl rfl rfl rfl ?_)) | (refine swt_act rfl (act_buildSlice ttab_ok rfl rfl rfl rfl rfl rfl rfl rfl rfl rfl rfl rfl ?_)))
        refine swt_nil ?_
        (repeat refine sw_seq ?_); refine sw_cond rfl (fun hc => ?_) (fun hc => ?_)
        · cases hc
        refine sw_skip ?_
        have hN : nameS ⟨#[98]⟩ = true := by kernel_rfl
        have gf : ∀ x ∈ bagG ⟨#[98]⟩ l, x.Fit := by
          intro x hx
          simp only [bagG, List.mem_cons, List.not_mem_nil, or_false] at hx
          subst hx
          exact ⟨⟨by show _ ≤ (4 : Int); omega, by show (4 : Int) ≤ _; omega⟩, (show (⟨#[98]⟩ : ByteArray).size ≤ reachBytes by decide), hf⟩
        have gl : ∀ x ∈ bagG ⟨#[98]⟩ l, x.bag.length ≤ 1000000 := by
          intro x hx
          simp only [bagG, List.mem_cons, List.not_mem_nil, or_false] at hx
          subst hx
          show l.length ≤ _
          omega
        have hat : (atN 4 ⟨#[98]⟩).Fit := atN_fit (by omega) (by decide)
        have V1 := value_h [atN 4 ⟨#[98]⟩, nOpE 4] (bagG ⟨#[98]⟩ l) (by
          intro x hx
          simp only [List.mem_cons, List.not_mem_nil, or_false] at hx
          rcases hx with rfl | rfl
          · exact hat
          · exact nOpE_fit (by omega)) gf (by simp [bagG]) gl
        have V2 := value_h [atN 4 ⟨#[98]⟩, litN v, nOpE 5] (bagG ⟨#[98]⟩ l) (by
          intro x hx
          simp only [List.mem_cons, List.not_mem_nil, or_false] at hx
          rcases hx with rfl | rfl | rfl
          · exact hat
          · exact litN_fit hvf
          · exact nOpE_fit (by omega)) gf (by simp [bagG]) gl
        have V3 := value_h [atN 4 ⟨#[98]⟩, nOpE 3] (bagG ⟨#[98]⟩ l) (by
          intro x hx
          simp only [List.mem_cons, List.not_mem_nil, or_false] at hx
          rcases hx with rfl | rfl
          · exact hat
          · exact nOpE_fit (by omega)) gf (by simp [bagG]) gl
        rw [size_value hN] at V1
        rw [has_value hN l hr] at V2
        rw [one_value hN] at V3
        (repeat refine sw_seq ?_); refine sw_region ?_
        repeat (first | (refine swt_read ttab_ok rfl rfl (by exact True.intro) rfl ?_) | (refine swt_skip rfl rfl ?_) | (refine swt_act rfl (act_makeMap rfl rfl rfl rfl ?_)) | (refine swt_act rfl (act_box rfl rfl rfl rfl rfl rfl rfl ?_)) | (refine swt_act rfl (act_alloc ttab_ok rfl rfl rfl rfl rfl rfl ?_)) | (refine swt_act rfl (act_store ttab_ok rfl rfl rfl rfl rfl rfl rfl rfl rfl rfl ?_)) | (refine swt_act rfl (act_buildSlice ttab_ok rfl rfl rfl rfl rfl rfl rfl rfl rfl rfl rfl rfl ?_)))
        refine swt_nil ?_
        (repeat refine sw_seq ?_); refine sw_region ?_
        repeat (first | (refine swt_read ttab_ok rfl rfl (by exact True.intro) rfl ?_) | (refine swt_skip rfl rfl ?_) | (refine swt_act rfl (act_makeMap rfl rfl rfl rfl ?_)) | (refine swt_act rfl (act_box rfl rfl rfl rfl rfl rfl rfl ?_)) | (refine swt_act rfl (act_alloc ttab_ok rfl rfl rfl rfl rfl rfl ?_)) | (refine swt_act rfl (act_store ttab_ok rfl rfl rfl rfl rfl rfl rfl rfl rfl rfl ?_)) | (refine swt_act rfl (act_buildSlice ttab_ok rfl rfl rfl rfl rfl rfl rfl rfl rfl rfl rfl rfl ?_)))
        refine swt_act rfl (act_call_flat rfl rfl rfl rfl (attrN_h 4 ⟨#[98]⟩) rfl rfl ?_)
        repeat (first | (refine swt_read ttab_ok rfl rfl (by exact True.intro) rfl ?_) | (refine swt_skip rfl rfl ?_) | (refine swt_act rfl (act_makeMap rfl rfl rfl rfl ?_)) | (refine swt_act rfl (act_box rfl rfl rfl rfl rfl rfl rfl ?_)) | (refine swt_act rfl (act_alloc ttab_ok rfl rfl rfl rfl rfl rfl ?_)) | (refine swt_act rfl (act_store ttab_ok rfl rfl rfl rfl rfl rfl rfl rfl rfl rfl ?_)) | (refine swt_act rfl (act_buildSlice ttab_ok rfl rfl rfl rfl rfl rfl rfl rfl rfl rfl rfl rfl ?_)))
        refine swt_act rfl (act_call_flat rfl rfl rfl rfl (op_h 4) rfl rfl ?_)
        repeat (first | (refine swt_read ttab_ok rfl rfl (by exact True.intro) rfl ?_) | (refine swt_skip rfl rfl ?_) | (refine swt_act rfl (act_makeMap rfl rfl rfl rfl ?_)) | (refine swt_act rfl (act_box rfl rfl rfl rfl rfl rfl rfl ?_)) | (refine swt_act rfl (act_alloc ttab_ok rfl rfl rfl rfl rfl rfl ?_)) | (refine swt_act rfl (act_store ttab_ok rfl rfl rfl rfl rfl rfl rfl rfl rfl rfl ?_)) | (refine swt_act rfl (act_buildSlice ttab_ok rfl rfl rfl rfl rfl rfl rfl rfl rfl rfl rfl rfl ?_)))
        refine swt_act rfl (act_call_flat rfl rfl rfl rfl (V1) rfl rfl ?_)
        repeat (first | (refine swt_read ttab_ok rfl rfl (by exact True.intro) rfl ?_) | (refine swt_skip rfl rfl ?_) | (refine swt_act rfl (act_makeMap rfl rfl rfl rfl ?_)) | (refine swt_act rfl (act_box rfl rfl rfl rfl rfl rfl rfl ?_)) | (refine swt_act rfl (act_alloc ttab_ok rfl rfl rfl rfl rfl rfl ?_)) | (refine swt_act rfl (act_store ttab_ok rfl rfl rfl rfl rfl rfl rfl rfl rfl rfl ?_)) | (refine swt_act rfl (act_buildSlice ttab_ok rfl rfl rfl rfl rfl rfl rfl rfl rfl rfl rfl rfl ?_)))
        refine swt_nil ?_
        refine SW.wk (wk_only [0, 3, 6, 7, 8] [(3, 3), (51, 51), (7, 7)] rfl rfl) ?_
        (repeat refine sw_seq ?_); refine sw_region_fork 13 rfl (by kernel_rfl) ?_
        refine swb_rd (i := 1) (K := [65, 9]) (by kernel_rfl) (by kernel_rfl) rfl rfl (rdO_opR ttab_ok rfl (by exact True.intro)) rfl ?_
        refine swb_rd (i := 5) (K := [65, 9]) (by kernel_rfl) (by kernel_rfl) rfl rfl (rdO_opR ttab_ok rfl (by exact True.intro)) rfl ?_
        refine swb_fork2 0 10 (by kernel_rfl) ?_ ?_
        refine swb_act rfl rfl rfl (act_call_flat rfl rfl rfl rfl (attrN_h 4 ⟨#[98]⟩) rfl rfl ?_)
        refine swb_fork2 2 10 (by kernel_rfl) ?_ ?_
        refine swb_act rfl rfl rfl (act_call_flat rfl rfl rfl rfl (lit_h v) rfl rfl ?_)
        refine swb_fork2 3 10 (by kernel_rfl) ?_ ?_
        refine swb_act rfl rfl rfl (act_call_flat rfl rfl rfl rfl (op_h 5) rfl rfl ?_)
        refine swb_fork2 4 10 (by kernel_rfl) ?_ ?_
        first | (refine swb_act rfl rfl rfl (act_makeMap rfl rfl rfl rfl ?_)) | (refine swb_act rfl rfl rfl (act_box rfl rfl rfl rfl rfl rfl rfl ?_)) | (refine swb_act rfl rfl rfl (act_alloc ttab_ok rfl rfl rfl rfl rfl rfl ?_)) | (refine swb_act rfl rfl rfl (act_store ttab_ok rfl rfl rfl rfl rfl rfl rfl rfl rfl rfl ?_)) | (refine swb_act rfl rfl rfl (act_buildSlice ttab_ok rfl rfl rfl rfl rfl rfl rfl rfl rfl rfl rfl rfl ?_)) | (refine swb_act rfl rfl rfl (actOk_rd (K := []) (rdO_opR ttab_ok rfl (by exact True.intro)) rfl ?_))
        refine swb_fork2 6 10 (by kernel_rfl) ?_ ?_
        refine swb_act rfl rfl rfl (act_call_flat rfl rfl rfl rfl (V2) rfl rfl ?_)
        refine swb_rd (i := 7) (K := [65, 9]) (by kernel_rfl) (by kernel_rfl) rfl rfl (rdO_opR ttab_ok rfl (by exact True.intro)) rfl ?_
        refine swb_rd (i := 8) (K := [65, 9]) (by kernel_rfl) (by kernel_rfl) rfl rfl (rdO_opR ttab_ok rfl (by exact True.intro)) rfl ?_
        refine swb_rd (i := 9) (K := [65, 9]) (by kernel_rfl) (by kernel_rfl) rfl rfl (rdO_opR ttab_ok rfl (by exact True.intro)) rfl ?_
        refine swb_fork1 10 (by kernel_rfl) ?_
        first | (refine swb_act rfl rfl rfl (act_makeMap rfl rfl rfl rfl ?_)) | (refine swb_act rfl rfl rfl (act_box rfl rfl rfl rfl rfl rfl rfl ?_)) | (refine swb_act rfl rfl rfl (act_alloc ttab_ok rfl rfl rfl rfl rfl rfl ?_)) | (refine swb_act rfl rfl rfl (act_store ttab_ok rfl rfl rfl rfl rfl rfl rfl rfl rfl rfl ?_)) | (refine swb_act rfl rfl rfl (act_buildSlice ttab_ok rfl rfl rfl rfl rfl rfl rfl rfl rfl rfl rfl rfl ?_)) | (refine swb_act rfl rfl rfl (actOk_rd (K := []) (rdO_opR ttab_ok rfl (by exact True.intro)) rfl ?_))
        refine swb_fork1 11 (by kernel_rfl) ?_
        first | (refine swb_act rfl rfl rfl (act_makeMap rfl rfl rfl rfl ?_)) | (refine swb_act rfl rfl rfl (act_box rfl rfl rfl rfl rfl rfl rfl ?_)) | (refine swb_act rfl rfl rfl (act_alloc ttab_ok rfl rfl rfl rfl rfl rfl ?_)) | (refine swb_act rfl rfl rfl (act_store ttab_ok rfl rfl rfl rfl rfl rfl rfl rfl rfl rfl ?_)) | (refine swb_act rfl rfl rfl (act_buildSlice ttab_ok rfl rfl rfl rfl rfl rfl rfl rfl rfl rfl rfl rfl ?_)) | (refine swb_act rfl rfl rfl (actOk_rd (K := []) (rdO_opR ttab_ok rfl (by exact True.intro)) rfl ?_))
        refine swb_rd (i := 12) (K := [65, 9]) (by kernel_rfl) (by kernel_rfl) rfl rfl (rdO_opR ttab_ok rfl (by exact True.intro)) rfl ?_
        refine swb_done (by kernel_rfl) ?_
        refine SW.wk (wk_only [0, 3, 6, 7, 8, 9, 10] [(3, 3), (51, 51), (7, 7), (9, 9)] rfl rfl) ?_
        refine ?fk13
        rotate_left
        first | (refine swb_act rfl rfl rfl (act_makeMap rfl rfl rfl rfl ?_)) | (refine swb_act rfl rfl rfl (act_box rfl rfl rfl rfl rfl rfl rfl ?_)) | (refine swb_act rfl rfl rfl (act_alloc ttab_ok rfl rfl rfl rfl rfl rfl ?_)) | (refine swb_act rfl rfl rfl (act_store ttab_ok rfl rfl rfl rfl rfl rfl rfl rfl rfl rfl ?_)) | (refine swb_act rfl rfl rfl (act_buildSlice ttab_ok rfl rfl rfl rfl rfl rfl rfl rfl rfl rfl rfl rfl ?_)) | (refine swb_act rfl rfl rfl (actOk_rd (K := []) (rdO_opR ttab_ok rfl (by exact True.intro)) rfl ?_))
        refine swb_fork1 6 (by kernel_rfl) ?_
        refine swb_act rfl rfl rfl (act_call_flat rfl rfl rfl rfl (V2) rfl rfl ?_)
        refine swb_rd (i := 7) (K := [65, 9]) (by kernel_rfl) (by kernel_rfl) rfl rfl (rdO_opR ttab_ok rfl (by exact True.intro)) rfl ?_
        refine swb_rd (i := 8) (K := [65, 9]) (by kernel_rfl) (by kernel_rfl) rfl rfl (rdO_opR ttab_ok rfl (by exact True.intro)) rfl ?_
        refine swb_rd (i := 9) (K := [65, 9]) (by kernel_rfl) (by kernel_rfl) rfl rfl (rdO_opR ttab_ok rfl (by exact True.intro)) rfl ?_
        refine swb_fork1 11 (by kernel_rfl) ?_
        first | (refine swb_act rfl rfl rfl (act_makeMap rfl rfl rfl rfl ?_)) | (refine swb_act rfl rfl rfl (act_box rfl rfl rfl rfl rfl rfl rfl ?_)) | (refine swb_act rfl rfl rfl (act_alloc ttab_ok rfl rfl rfl rfl rfl rfl ?_)) | (refine swb_act rfl rfl rfl (act_store ttab_ok rfl rfl rfl rfl rfl rfl rfl rfl rfl rfl ?_)) | (refine swb_act rfl rfl rfl (act_buildSlice ttab_ok rfl rfl rfl rfl rfl rfl rfl rfl rfl rfl rfl rfl ?_)) | (refine swb_act rfl rfl rfl (actOk_rd (K := []) (rdO_opR ttab_ok rfl (by exact True.intro)) rfl ?_))
        refine swb_rd (i := 12) (K := [65, 9]) (by kernel_rfl) (by kernel_rfl) rfl rfl (rdO_opR ttab_ok rfl (by exact True.intro)) rfl ?_
        refine swb_done (by kernel_rfl) ?_
        refine SW.wk (wk_only [0, 3, 6, 7, 8, 9, 10] [(3, 3), (51, 51), (7, 7), (9, 9)] rfl rfl) ?_
        exact ?fk13
        first | (refine swb_act rfl rfl rfl (act_makeMap rfl rfl rfl rfl ?_)) | (refine swb_act rfl rfl rfl (act_box rfl rfl rfl rfl rfl rfl rfl ?_)) | (refine swb_act rfl rfl rfl (act_alloc ttab_ok rfl rfl rfl rfl rfl rfl ?_)) | (refine swb_act rfl rfl rfl (act_store ttab_ok rfl rfl rfl rfl rfl rfl rfl rfl rfl rfl ?_)) | (refine swb_act rfl rfl rfl (act_buildSlice ttab_ok rfl rfl rfl rfl rfl rfl rfl rfl rfl rfl rfl rfl ?_)) | (refine swb_act rfl rfl rfl (actOk_rd (K := []) (rdO_opR ttab_ok rfl (by exact True.intro)) rfl ?_))
        refine swb_fork1 4 (by kernel_rfl) ?_
        first | (refine swb_act rfl rfl rfl (act_makeMap rfl rfl rfl rfl ?_)) | (refine swb_act rfl rfl rfl (act_box rfl rfl rfl rfl rfl rfl rfl ?_)) | (refine swb_act rfl rfl rfl (act_alloc ttab_ok rfl rfl rfl rfl rfl rfl ?_)) | (refine swb_act rfl rfl rfl (act_store ttab_ok rfl rfl rfl rfl rfl rfl rfl rfl rfl rfl ?_)) | (refine swb_act rfl rfl rfl (act_buildSlice ttab_ok rfl rfl rfl rfl rfl rfl rfl rfl rfl rfl rfl rfl ?_)) | (refine swb_act rfl rfl rfl (actOk_rd (K := []) (rdO_opR ttab_ok rfl (by exact True.intro)) rfl ?_))
        refine swb_fork1 6 (by kernel_rfl) ?_
        refine swb_act rfl rfl rfl (act_call_flat rfl rfl rfl rfl (V2) rfl rfl ?_)
        refine swb_rd (i := 7) (K := [65, 9]) (by kernel_rfl) (by kernel_rfl) rfl rfl (rdO_opR ttab_ok rfl (by exact True.intro)) rfl ?_
        refine swb_rd (i := 8) (K := [65, 9]) (by kernel_rfl) (by kernel_rfl) rfl rfl (rdO_opR ttab_ok rfl (by exact True.intro)) rfl ?_
        refine swb_rd (i := 9) (K := [65, 9]) (by kernel_rfl) (by kernel_rfl) rfl rfl (rdO_opR ttab_ok rfl (by exact True.intro)) rfl ?_
        refine swb_fork1 11 (by kernel_rfl) ?_
        first | (refine swb_act rfl rfl rfl (act_makeMap rfl rfl rfl rfl ?_)) | (refine swb_act rfl rfl rfl (act_box rfl rfl rfl rfl rfl rfl rfl ?_)) | (refine swb_act rfl rfl rfl (act_alloc ttab_ok rfl rfl rfl rfl rfl rfl ?_)) | (refine swb_act rfl rfl rfl (act_store ttab_ok rfl rfl rfl rfl rfl rfl rfl rfl rfl rfl ?_)) | (refine swb_act rfl rfl rfl (act_buildSlice ttab_ok rfl rfl rfl rfl rfl rfl rfl rfl rfl rfl rfl rfl ?_)) | (refine swb_act rfl rfl rfl (actOk_rd (K := []) (rdO_opR ttab_ok rfl (by exact True.intro)) rfl ?_))
        refine swb_rd (i := 12) (K := [65, 9]) (by kernel_rfl) (by kernel_rfl) rfl rfl (rdO_opR ttab_ok rfl (by exact True.intro)) rfl ?_
        refine swb_done (by kernel_rfl) ?_
        refine SW.wk (wk_only [0, 3, 6, 7, 8, 9, 10] [(3, 3), (51, 51), (7, 7), (9, 9)] rfl rfl) ?_
        exact ?fk13
        first | (refine swb_act rfl rfl rfl (act_makeMap rfl rfl rfl rfl ?_)) | (refine swb_act rfl rfl rfl (act_box rfl rfl rfl rfl rfl rfl rfl ?_)) | (refine swb_act rfl rfl rfl (act_alloc ttab_ok rfl rfl rfl rfl rfl rfl ?_)) | (refine swb_act rfl rfl rfl (act_store ttab_ok rfl rfl rfl rfl rfl rfl rfl rfl rfl rfl ?_)) | (refine swb_act rfl rfl rfl (act_buildSlice ttab_ok rfl rfl rfl rfl rfl rfl rfl rfl rfl rfl rfl rfl ?_)) | (refine swb_act rfl rfl rfl (actOk_rd (K := []) (rdO_opR ttab_ok rfl (by exact True.intro)) rfl ?_))
        refine swb_fork1 3 (by kernel_rfl) ?_
        refine swb_act rfl rfl rfl (act_call_flat rfl rfl rfl rfl (op_h 5) rfl rfl ?_)
        refine swb_fork1 4 (by kernel_rfl) ?_
        first | (refine swb_act rfl rfl rfl (act_makeMap rfl rfl rfl rfl ?_)) | (refine swb_act rfl rfl rfl (act_box rfl rfl rfl rfl rfl rfl rfl ?_)) | (refine swb_act rfl rfl rfl (act_alloc ttab_ok rfl rfl rfl rfl rfl rfl ?_)) | (refine swb_act rfl rfl rfl (act_store ttab_ok rfl rfl rfl rfl rfl rfl rfl rfl rfl rfl ?_)) | (refine swb_act rfl rfl rfl (act_buildSlice ttab_ok rfl rfl rfl rfl rfl rfl rfl rfl rfl rfl rfl rfl ?_)) | (refine swb_act rfl rfl rfl (actOk_rd (K := []) (rdO_opR ttab_ok rfl (by exact True.intro)) rfl ?_))
        refine swb_fork1 6 (by kernel_rfl) ?_
        refine swb_act rfl rfl rfl (act_call_flat rfl rfl rfl rfl (V2) rfl rfl ?_)
        refine swb_rd (i := 7) (K := [65, 9]) (by kernel_rfl) (by kernel_rfl) rfl rfl (rdO_opR ttab_ok rfl (by exact True.intro)) rfl ?_
        refine swb_rd (i := 8) (K := [65, 9]) (by kernel_rfl) (by kernel_rfl) rfl rfl (rdO_opR ttab_ok rfl (by exact True.intro)) rfl ?_
        refine swb_rd (i := 9) (K := [65, 9]) (by kernel_rfl) (by kernel_rfl) rfl rfl (rdO_opR ttab_ok rfl (by exact True.intro)) rfl ?_
        refine swb_fork1 11 (by kernel_rfl) ?_
        first | (refine swb_act rfl rfl rfl (act_makeMap rfl rfl rfl rfl ?_)) | (refine swb_act rfl rfl rfl (act_box rfl rfl rfl rfl rfl rfl rfl ?_)) | (refine swb_act rfl rfl rfl (act_alloc ttab_ok rfl rfl rfl rfl rfl rfl ?_)) | (refine swb_act rfl rfl rfl (act_store ttab_ok rfl rfl rfl rfl rfl rfl rfl rfl rfl rfl ?_)) | (refine swb_act rfl rfl rfl (act_buildSlice ttab_ok rfl rfl rfl rfl rfl rfl rfl rfl rfl rfl rfl rfl ?_)) | (refine swb_act rfl rfl rfl (actOk_rd (K := []) (rdO_opR ttab_ok rfl (by exact True.intro)) rfl ?_))
        refine swb_rd (i := 12) (K := [65, 9]) (by kernel_rfl) (by kernel_rfl) rfl rfl (rdO_opR ttab_ok rfl (by exact True.intro)) rfl ?_
        refine swb_done (by kernel_rfl) ?_
        refine SW.wk (wk_only [0, 3, 6, 7, 8, 9, 10] [(3, 3), (51, 51), (7, 7), (9, 9)] rfl rfl) ?_
        exact ?fk13
        first | (refine swb_act rfl rfl rfl (act_makeMap rfl rfl rfl rfl ?_)) | (refine swb_act rfl rfl rfl (act_box rfl rfl rfl rfl rfl rfl rfl ?_)) | (refine swb_act rfl rfl rfl (act_alloc ttab_ok rfl rfl rfl rfl rfl rfl ?_)) | (refine swb_act rfl rfl rfl (act_store ttab_ok rfl rfl rfl rfl rfl rfl rfl rfl rfl rfl ?_)) | (refine swb_act rfl rfl rfl (act_buildSlice ttab_ok rfl rfl rfl rfl rfl rfl rfl rfl rfl rfl rfl rfl ?_)) | (refine swb_act rfl rfl rfl (actOk_rd (K := []) (rdO_opR ttab_ok rfl (by exact True.intro)) rfl ?_))
        refine swb_fork1 2 (by kernel_rfl) ?_
        refine swb_act rfl rfl rfl (act_call_flat rfl rfl rfl rfl (lit_h v) rfl rfl ?_)
        refine swb_fork1 3 (by kernel_rfl) ?_
        refine swb_act rfl rfl rfl (act_call_flat rfl rfl rfl rfl (op_h 5) rfl rfl ?_)
        refine swb_fork1 4 (by kernel_rfl) ?_
        first | (refine swb_act rfl rfl rfl (act_makeMap rfl rfl rfl rfl ?_)) | (refine swb_act rfl rfl rfl (act_box rfl rfl rfl rfl rfl rfl rfl ?_)) | (refine swb_act rfl rfl rfl (act_alloc ttab_ok rfl rfl rfl rfl rfl rfl ?_)) | (refine swb_act rfl rfl rfl (act_store ttab_ok rfl rfl rfl rfl rfl rfl rfl rfl rfl rfl ?_)) | (refine swb_act rfl rfl rfl (act_buildSlice ttab_ok rfl rfl rfl rfl rfl rfl rfl rfl rfl rfl rfl rfl ?_)) | (refine swb_act rfl rfl rfl (actOk_rd (K := []) (rdO_opR ttab_ok rfl (by exact True.intro)) rfl ?_))
        refine swb_fork1 6 (by kernel_rfl) ?_
        refine swb_act rfl rfl rfl (act_call_flat rfl rfl rfl rfl (V2) rfl rfl ?_)
        refine swb_rd (i := 7) (K := [65, 9]) (by kernel_rfl) (by kernel_rfl) rfl rfl (rdO_opR ttab_ok rfl (by exact True.intro)) rfl ?_
        refine swb_rd (i := 8) (K := [65, 9]) (by kernel_rfl) (by kernel_rfl) rfl rfl (rdO_opR ttab_ok rfl (by exact True.intro)) rfl ?_
        refine swb_rd (i := 9) (K := [65, 9]) (by kernel_rfl) (by kernel_rfl) rfl rfl (rdO_opR ttab_ok rfl (by exact True.intro)) rfl ?_
        refine swb_fork1 11 (by kernel_rfl) ?_
        first | (refine swb_act rfl rfl rfl (act_makeMap rfl rfl rfl rfl ?_)) | (refine swb_act rfl rfl rfl (act_box rfl rfl rfl rfl rfl rfl rfl ?_)) | (refine swb_act rfl rfl rfl (act_alloc ttab_ok rfl rfl rfl rfl rfl rfl ?_)) | (refine swb_act rfl rfl rfl (act_store ttab_ok rfl rfl rfl rfl rfl rfl rfl rfl rfl rfl ?_)) | (refine swb_act rfl rfl rfl (act_buildSlice ttab_ok rfl rfl rfl rfl rfl rfl rfl rfl rfl rfl rfl rfl ?_)) | (refine swb_act rfl rfl rfl (actOk_rd (K := []) (rdO_opR ttab_ok rfl (by exact True.intro)) rfl ?_))
        refine swb_rd (i := 12) (K := [65, 9]) (by kernel_rfl) (by kernel_rfl) rfl rfl (rdO_opR ttab_ok rfl (by exact True.intro)) rfl ?_
        refine swb_done (by kernel_rfl) ?_
        refine SW.wk (wk_only [0, 3, 6, 7, 8, 9, 10] [(3, 3), (51, 51), (7, 7), (9, 9)] rfl rfl) ?_
        exact ?fk13
        first | (refine swb_act rfl rfl rfl (act_makeMap rfl rfl rfl rfl ?_)) | (refine swb_act rfl rfl rfl (act_box rfl rfl rfl rfl rfl rfl rfl ?_)) | (refine swb_act rfl rfl rfl (act_alloc ttab_ok rfl rfl rfl rfl rfl rfl ?_)) | (refine swb_act rfl rfl rfl (act_store ttab_ok rfl rfl rfl rfl rfl rfl rfl rfl rfl rfl ?_)) | (refine swb_act rfl rfl rfl (act_buildSlice ttab_ok rfl rfl rfl rfl rfl rfl rfl rfl rfl rfl rfl rfl ?_)) | (refine swb_act rfl rfl rfl (actOk_rd (K := []) (rdO_opR ttab_ok rfl (by exact True.intro)) rfl ?_))
        refine swb_fork1 0 (by kernel_rfl) ?_
        refine swb_act rfl rfl rfl (act_call_flat rfl rfl rfl rfl (attrN_h 4 ⟨#[98]⟩) rfl rfl ?_)
        refine swb_fork1 2 (by kernel_rfl) ?_
        refine swb_act rfl rfl rfl (act_call_flat rfl rfl rfl rfl (lit_h v) rfl rfl ?_)
        refine swb_fork1 3 (by kernel_rfl) ?_
        refine swb_act rfl rfl rfl (act_call_flat rfl rfl rfl rfl (op_h 5) rfl rfl ?_)
        refine swb_fork1 4 (by kernel_rfl) ?_
        first | (refine swb_act rfl rfl rfl (act_makeMap rfl rfl rfl rfl ?_)) | (refine swb_act rfl rfl rfl (act_box rfl rfl rfl rfl rfl rfl rfl ?_)) | (refine swb_act rfl rfl rfl (act_alloc ttab_ok rfl rfl rfl rfl rfl rfl ?_)) | (refine swb_act rfl rfl rfl (act_store ttab_ok rfl rfl rfl rfl rfl rfl rfl rfl rfl rfl ?_)) | (refine swb_act rfl rfl rfl (act_buildSlice ttab_ok rfl rfl rfl rfl rfl rfl rfl rfl rfl rfl rfl rfl ?_)) | (refine swb_act rfl rfl rfl (actOk_rd (K := []) (rdO_opR ttab_ok rfl (by exact True.intro)) rfl ?_))
        refine swb_fork1 6 (by kernel_rfl) ?_
        refine swb_act rfl rfl rfl (act_call_flat rfl rfl rfl rfl (V2) rfl rfl ?_)
        refine swb_rd (i := 7) (K := [65, 9]) (by kernel_rfl) (by kernel_rfl) rfl rfl (rdO_opR ttab_ok rfl (by exact True.intro)) rfl ?_
        refine swb_rd (i := 8) (K := [65, 9]) (by kernel_rfl) (by kernel_rfl) rfl rfl (rdO_opR ttab_ok rfl (by exact True.intro)) rfl ?_
        refine swb_rd (i := 9) (K := [65, 9]) (by kernel_rfl) (by kernel_rfl) rfl rfl (rdO_opR ttab_ok rfl (by exact True.intro)) rfl ?_
        refine swb_fork1 11 (by kernel_rfl) ?_
        first | (refine swb_act rfl rfl rfl (act_makeMap rfl rfl rfl rfl ?_)) | (refine swb_act rfl rfl rfl (act_box rfl rfl rfl rfl rfl rfl rfl ?_)) | (refine swb_act rfl rfl rfl (act_alloc ttab_ok rfl rfl rfl rfl rfl rfl ?_)) | (refine swb_act rfl rfl rfl (act_store ttab_ok rfl rfl rfl rfl rfl rfl rfl rfl rfl rfl ?_)) | (refine swb_act rfl rfl rfl (act_buildSlice ttab_ok rfl rfl rfl rfl rfl rfl rfl rfl rfl rfl rfl rfl ?_)) | (refine swb_act rfl rfl rfl (actOk_rd (K := []) (rdO_opR ttab_ok rfl (by exact True.intro)) rfl ?_))
        refine swb_rd (i := 12) (K := [65, 9]) (by kernel_rfl) (by kernel_rfl) rfl rfl (rdO_opR ttab_ok rfl (by exact True.intro)) rfl ?_
        refine swb_done (by kernel_rfl) ?_
        refine SW.wk (wk_only [0, 3, 6, 7, 8, 9, 10] [(3, 3), (51, 51), (7, 7), (9, 9)] rfl rfl) ?_
        exact ?fk13
        (repeat refine sw_seq ?_); refine sw_region ?_
        repeat (first | (refine swt_read ttab_ok rfl rfl (by exact True.intro) rfl ?_) | (refine swt_skip rfl rfl ?_) | (refine swt_act rfl (act_makeMap rfl rfl rfl rfl ?_)) | (refine swt_act rfl (act_box rfl rfl rfl rfl rfl rfl rfl ?_)) | (refine swt_act rfl (act_alloc ttab_ok rfl rfl rfl rfl rfl rfl ?_)) | (refine swt_act rfl (act_store ttab_ok rfl rfl rfl rfl rfl rfl rfl rfl rfl rfl ?_)) | (refine swt_act rfl (act_buildSlice ttab_ok rfl rfl rfl rfl rfl rfl rfl rfl rfl rfl rfl rfl ?_)))
        refine swt_act rfl (act_call_flat rfl rfl rfl rfl (attrN_h 4 ⟨#[98]⟩) rfl rfl ?_)
        repeat (first | (refine swt_read ttab_ok rfl rfl (by exact True.intro) rfl ?_) | (refine swt_skip rfl rfl ?_) | (refine swt_act rfl (act_makeMap rfl rfl rfl rfl ?_)) | (refine swt_act rfl (act_box rfl rfl rfl rfl rfl rfl rfl ?_)) | (refine swt_act rfl (act_alloc ttab_ok rfl rfl rfl rfl rfl rfl ?_)) | (refine swt_act rfl (act_store ttab_ok rfl rfl rfl rfl rfl rfl rfl rfl rfl rfl ?_)) | (refine swt_act rfl (act_buildSlice ttab_ok rfl rfl rfl rfl rfl rfl rfl rfl rfl rfl rfl rfl ?_)))
        refine swt_act rfl (act_call_flat rfl rfl rfl rfl (op_h 3) rfl rfl ?_)
        repeat (first | (refine swt_read ttab_ok rfl rfl (by exact True.intro) rfl ?_) | (refine swt_skip rfl rfl ?_) | (refine swt_act rfl (act_makeMap rfl rfl rfl rfl ?_)) | (refine swt_act rfl (act_box rfl rfl rfl rfl rfl rfl rfl ?_)) | (refine swt_act rfl (act_alloc ttab_ok rfl rfl rfl rfl rfl rfl ?_)) | (refine swt_act rfl (act_store ttab_ok rfl rfl rfl rfl rfl rfl rfl rfl rfl rfl ?_)) | (refine swt_act rfl (act_buildSlice ttab_ok rfl rfl rfl rfl rfl rfl rfl rfl rfl rfl rfl rfl ?_)))
        refine swt_act rfl (act_call_flat rfl rfl rfl rfl (V3) rfl rfl ?_)
        repeat (first | (refine swt_read ttab_ok rfl rfl (by exact True.intro) rfl ?_) | (refine swt_skip rfl rfl ?_) | (refine swt_act rfl (act_makeMap rfl rfl rfl rfl ?_)) | (refine swt_act rfl (act_box rfl rfl rfl rfl rfl rfl rfl ?_)) | (refine swt_act rfl (act_alloc ttab_ok rfl rfl rfl rfl rfl rfl ?_)) | (refine swt_act rfl (act_store ttab_ok rfl rfl rfl rfl rfl rfl rfl rfl rfl rfl ?_)) | (refine swt_act rfl (act_buildSlice ttab_ok rfl rfl rfl rfl rfl rfl rfl rfl rfl rfl rfl rfl ?_)))
        refine swt_nil ?_
        refine SW.wk (wk_only [0, 3, 7, 8, 9, 10, 11, 12] [(3, 3), (7, 7), (9, 9), (11, 11)] rfl rfl) ?_
        (repeat refine sw_seq ?_); refine sw_region_draw [] [(0, true), (1, true), (2, true), (3, false), (4, true), (5, true), (6, true), (7, true), (8, true), (9, true), (10, true), (11, true), (12, true), (13, false), (14, false), (15, true), (16, true), (17, true), (18, true), (19, true), (20, true)] (by kernel_rfl) (by kernel_rfl) (by kernel_rfl) ?_
        repeat (first | (refine swm_read ttab_ok rfl rfl rfl (by exact True.intro) rfl ?_) | (refine swm_skip rfl rfl rfl ?_) | (refine swm_act rfl rfl rfl (act_makeMap rfl rfl rfl rfl ?_)) | (refine swm_act rfl rfl rfl (act_box rfl rfl rfl rfl rfl rfl rfl ?_)) | (refine swm_act rfl rfl rfl (act_alloc ttab_ok rfl rfl rfl rfl rfl rfl ?_)) | (refine swm_act rfl rfl rfl (act_store ttab_ok rfl rfl rfl rfl rfl rfl rfl rfl rfl rfl ?_)) | (refine swm_act rfl rfl rfl (act_buildSlice ttab_ok rfl rfl rfl rfl rfl rfl rfl rfl rfl rfl rfl rfl ?_)))
        rw [lm]
        repeat (first | (refine swm_read ttab_ok rfl rfl rfl (by exact True.intro) rfl ?_) | (refine swm_skip rfl rfl rfl ?_) | (refine swm_act rfl rfl rfl (act_makeMap rfl rfl rfl rfl ?_)) | (refine swm_act rfl rfl rfl (act_box rfl rfl rfl rfl rfl rfl rfl ?_)) | (refine swm_act rfl rfl rfl (act_alloc ttab_ok rfl rfl rfl rfl rfl rfl ?_)) | (refine swm_act rfl rfl rfl (act_store ttab_ok rfl rfl rfl rfl rfl rfl rfl rfl rfl rfl ?_)) | (refine swm_act rfl rfl rfl (act_buildSlice ttab_ok rfl rfl rfl rfl rfl rfl rfl rfl rfl rfl rfl rfl ?_)))
        refine swm_act rfl rfl rfl (act_call_flat rfl rfl rfl rfl (num_h l.length) rfl rfl ?_)
        repeat (first | (refine swm_read ttab_ok rfl rfl rfl (by exact True.intro) rfl ?_) | (refine swm_skip rfl rfl rfl ?_) | (refine swm_act rfl rfl rfl (act_makeMap rfl rfl rfl rfl ?_)) | (refine swm_act rfl rfl rfl (act_box rfl rfl rfl rfl rfl rfl rfl ?_)) | (refine swm_act rfl rfl rfl (act_alloc ttab_ok rfl rfl rfl rfl rfl rfl ?_)) | (refine swm_act rfl rfl rfl (act_store ttab_ok rfl rfl rfl rfl rfl rfl rfl rfl rfl rfl ?_)) | (refine swm_act rfl rfl rfl (act_buildSlice ttab_ok rfl rfl rfl rfl rfl rfl rfl rfl rfl rfl rfl rfl ?_)))
        refine swm_read ttab_ok rfl rfl (opR_neV (numV l.length) (numV l.length) rfl rfl rfl rfl) rfl rfl ?_
        rw [sameV_refl]
        repeat (first | (refine swm_read ttab_ok rfl rfl rfl (by exact True.intro) rfl ?_) | (refine swm_skip rfl rfl rfl ?_) | (refine swm_act rfl rfl rfl (act_makeMap rfl rfl rfl rfl ?_)) | (refine swm_act rfl rfl rfl (act_box rfl rfl rfl rfl rfl rfl rfl ?_)) | (refine swm_act rfl rfl rfl (act_alloc ttab_ok rfl rfl rfl rfl rfl rfl ?_)) | (refine swm_act rfl rfl rfl (act_store ttab_ok rfl rfl rfl rfl rfl rfl rfl rfl rfl rfl ?_)) | (refine swm_act rfl rfl rfl (act_buildSlice ttab_ok rfl rfl rfl rfl rfl rfl rfl rfl rfl rfl rfl rfl ?_)))
        refine swm_act rfl rfl rfl (act_call_flat rfl rfl rfl rfl (has_h l v (by omega)) rfl rfl ?_)
        repeat (first | (refine swm_read ttab_ok rfl rfl rfl (by exact True.intro) rfl ?_) | (refine swm_skip rfl rfl rfl ?_) | (refine swm_act rfl rfl rfl (act_makeMap rfl rfl rfl rfl ?_)) | (refine swm_act rfl rfl rfl (act_box rfl rfl rfl rfl rfl rfl rfl ?_)) | (refine swm_act rfl rfl rfl (act_alloc ttab_ok rfl rfl rfl rfl rfl rfl ?_)) | (refine swm_act rfl rfl rfl (act_store ttab_ok rfl rfl rfl rfl rfl rfl rfl rfl rfl rfl ?_)) | (refine swm_act rfl rfl rfl (act_buildSlice ttab_ok rfl rfl rfl rfl rfl rfl rfl rfl rfl rfl rfl rfl ?_)))
        refine swm_act rfl rfl rfl (act_call_flat rfl rfl rfl rfl (truthV_h (hasV l v)) rfl rfl ?_)
        repeat (first | (refine swm_read ttab_ok rfl rfl rfl (by exact True.intro) rfl ?_) | (refine swm_skip rfl rfl rfl ?_) | (refine swm_act rfl rfl rfl (act_makeMap rfl rfl rfl rfl ?_)) | (refine swm_act rfl rfl rfl (act_box rfl rfl rfl rfl rfl rfl rfl ?_)) | (refine swm_act rfl rfl rfl (act_alloc ttab_ok rfl rfl rfl rfl rfl rfl ?_)) | (refine swm_act rfl rfl rfl (act_store ttab_ok rfl rfl rfl rfl rfl rfl rfl rfl rfl rfl ?_)) | (refine swm_act rfl rfl rfl (act_buildSlice ttab_ok rfl rfl rfl rfl rfl rfl rfl rfl rfl rfl rfl rfl ?_)))
        refine swm_read ttab_ok rfl rfl (opR_neV (truthS (hasV l v)) (truthS (hasV l v)) rfl rfl rfl rfl) rfl rfl ?_
        rw [sameV_refl]
        repeat (first | (refine swm_read ttab_ok rfl rfl rfl (by exact True.intro) rfl ?_) | (refine swm_skip rfl rfl rfl ?_) | (refine swm_act rfl rfl rfl (act_makeMap rfl rfl rfl rfl ?_)) | (refine swm_act rfl rfl rfl (act_box rfl rfl rfl rfl rfl rfl rfl ?_)) | (refine swm_act rfl rfl rfl (act_alloc ttab_ok rfl rfl rfl rfl rfl rfl ?_)) | (refine swm_act rfl rfl rfl (act_store ttab_ok rfl rfl rfl rfl rfl rfl rfl rfl rfl rfl ?_)) | (refine swm_act rfl rfl rfl (act_buildSlice ttab_ok rfl rfl rfl rfl rfl rfl rfl rfl rfl rfl rfl rfl ?_)))
        refine swm_nil ?_
        (repeat refine sw_seq ?_); refine sw_cond rfl (fun hd => ?_) (fun hd => ?_)
        · cases hd
        refine sw_skip ?_
        refine SW.wk (wk_only [0, 11, 12] [(11, 11)] rfl rfl) ?_
        by_cases h1 : l.length = 1
        · obtain ⟨x, rfl⟩ := List.length_eq_one_iff.1 h1
          change SW _ _ _ ⟨129, [(0, .p (valsP [x])), (11, .ptr 11 0), (12, .p (pI 0))], [(11, .cells (x.pv.map .p))]⟩
          (repeat refine sw_seq ?_); refine sw_region_draw [] [(0, true), (1, true), (2, true), (3, true), (4, true), (5, true), (6, true), (7, true), (8, true), (9, true), (10, true), (11, true), (12, true), (13, true), (14, true), (15, true), (16, true), (17, true), (18, true), (19, true), (20, true), (21, true), (22, true), (23, true), (24, true), (25, true), (26, true), (27, true), (28, false), (29, true), (30, true)] (by kernel_rfl) (by kernel_rfl) (by kernel_rfl) ?_
          repeat (first | (refine swm_read ttab_ok rfl rfl rfl (by exact True.intro) rfl ?_) | (refine swm_skip rfl rfl rfl ?_) | (refine swm_act rfl rfl rfl (act_makeMap rfl rfl rfl rfl ?_)) | (refine swm_act rfl rfl rfl (act_box rfl rfl rfl rfl rfl rfl rfl ?_)) | (refine swm_act rfl rfl rfl (act_alloc ttab_ok rfl rfl rfl rfl rfl rfl ?_)) | (refine swm_act rfl rfl rfl (act_store ttab_ok rfl rfl rfl rfl rfl rfl rfl rfl rfl rfl ?_)) | (refine swm_act rfl rfl rfl (act_buildSlice ttab_ok rfl rfl rfl rfl rfl rfl rfl rfl rfl rfl rfl rfl ?_)))
          refine swm_read ttab_ok rfl rfl rfl (by simp) rfl ?_
          refine swm_read ttab_ok rfl rfl rfl (by simp) rfl ?_
          repeat (first | (refine swm_read ttab_ok rfl rfl rfl (by exact True.intro) rfl ?_) | (refine swm_skip rfl rfl rfl ?_) | (refine swm_act rfl rfl rfl (act_makeMap rfl rfl rfl rfl ?_)) | (refine swm_act rfl rfl rfl (act_box rfl rfl rfl rfl rfl rfl rfl ?_)) | (refine swm_act rfl rfl rfl (act_alloc ttab_ok rfl rfl rfl rfl rfl rfl ?_)) | (refine swm_act rfl rfl rfl (act_store ttab_ok rfl rfl rfl rfl rfl rfl rfl rfl rfl rfl ?_)) | (refine swm_act rfl rfl rfl (act_buildSlice ttab_ok rfl rfl rfl rfl rfl rfl rfl rfl rfl rfl rfl rfl ?_)))
          refine swm_read ttab_ok rfl rfl (opR_eqV x x rfl rfl rfl rfl) rfl rfl ?_
          rw [sameV_refl]
          repeat (first | (refine swm_read ttab_ok rfl rfl rfl (by exact True.intro) rfl ?_) | (refine swm_skip rfl rfl rfl ?_) | (refine swm_act rfl rfl rfl (act_makeMap rfl rfl rfl rfl ?_)) | (refine swm_act rfl rfl rfl (act_box rfl rfl rfl rfl rfl rfl rfl ?_)) | (refine swm_act rfl rfl rfl (act_alloc ttab_ok rfl rfl rfl rfl rfl rfl ?_)) | (refine swm_act rfl rfl rfl (act_store ttab_ok rfl rfl rfl rfl rfl rfl rfl rfl rfl rfl ?_)) | (refine swm_act rfl rfl rfl (act_buildSlice ttab_ok rfl rfl rfl rfl rfl rfl rfl rfl rfl rfl rfl rfl ?_)))
          refine swm_act rfl rfl rfl (act_call_flat rfl rfl rfl rfl (exprRuns_h) rfl rfl ?_)
          repeat (first | (refine swm_read ttab_ok rfl rfl rfl (by exact True.intro) rfl ?_) | (refine swm_skip rfl rfl rfl ?_) | (refine swm_act rfl rfl rfl (act_makeMap rfl rfl rfl rfl ?_)) | (refine swm_act rfl rfl rfl (act_box rfl rfl rfl rfl rfl rfl rfl ?_)) | (refine swm_act rfl rfl rfl (act_alloc ttab_ok rfl rfl rfl rfl rfl rfl ?_)) | (refine swm_act rfl rfl rfl (act_store ttab_ok rfl rfl rfl rfl rfl rfl rfl rfl rfl rfl ?_)) | (refine swm_act rfl rfl rfl (act_buildSlice ttab_ok rfl rfl rfl rfl rfl rfl rfl rfl rfl rfl rfl rfl ?_)))
          refine swm_nil ?_
          (repeat refine sw_seq ?_); refine sw_ret ?_
          exact fin_b rfl rfl
        · have e0 : oneI l = ⟨[], noVal, 4⟩ := by unfold oneI; rw [if_neg h1]
          rw [e0]
          change SW _ _ _ ⟨129, [(0, .p (valsP l)), (11, .ptr 11 0), (12, .p (pI 4))], [(11, .cells (noVal.pv.map .p))]⟩
          (repeat refine sw_seq ?_); refine sw_region_draw [] [(0, true), (1, true), (2, true), (3, true), (4, true), (5, true), (6, true), (7, true), (8, true), (9, true), (10, true), (11, true), (12, true), (13, true), (14, true), (15, true), (16, true), (17, true), (18, true), (19, true), (20, true), (21, true), (22, true), (23, true), (24, true), (25, true), (26, true), (27, true), (28, false), (29, true), (30, true)] (by kernel_rfl) (by kernel_rfl) (by kernel_rfl) ?_
          repeat (first | (refine swm_read ttab_ok rfl rfl rfl (by exact True.intro) rfl ?_) | (refine swm_skip rfl rfl rfl ?_) | (refine swm_act rfl rfl rfl (act_makeMap rfl rfl rfl rfl ?_)) | (refine swm_act rfl rfl rfl (act_box rfl rfl rfl rfl rfl rfl rfl ?_)) | (refine swm_act rfl rfl rfl (act_alloc ttab_ok rfl rfl rfl rfl rfl rfl ?_)) | (refine swm_act rfl rfl rfl (act_store ttab_ok rfl rfl rfl rfl rfl rfl rfl rfl rfl rfl ?_)) | (refine swm_act rfl rfl rfl (act_buildSlice ttab_ok rfl rfl rfl rfl rfl rfl rfl rfl rfl rfl rfl rfl ?_)))
          rw [lm, show ((l.length : Int) == 1) = false by simp; omega]
          repeat (first | (refine swm_read ttab_ok rfl rfl rfl (by exact True.intro) rfl ?_) | (refine swm_skip rfl rfl rfl ?_) | (refine swm_act rfl rfl rfl (act_makeMap rfl rfl rfl rfl ?_)) | (refine swm_act rfl rfl rfl (act_box rfl rfl rfl rfl rfl rfl rfl ?_)) | (refine swm_act rfl rfl rfl (act_alloc ttab_ok rfl rfl rfl rfl rfl rfl ?_)) | (refine swm_act rfl rfl rfl (act_store ttab_ok rfl rfl rfl rfl rfl rfl rfl rfl rfl rfl ?_)) | (refine swm_act rfl rfl rfl (act_buildSlice ttab_ok rfl rfl rfl rfl rfl rfl rfl rfl rfl rfl rfl rfl ?_)))
          rw [lm, show ((l.length : Int) != 1) = true by simp; omega]
          repeat (first | (refine swm_read ttab_ok rfl rfl rfl (by exact True.intro) rfl ?_) | (refine swm_skip rfl rfl rfl ?_) | (refine swm_act rfl rfl rfl (act_makeMap rfl rfl rfl rfl ?_)) | (refine swm_act rfl rfl rfl (act_box rfl rfl rfl rfl rfl rfl rfl ?_)) | (refine swm_act rfl rfl rfl (act_alloc ttab_ok rfl rfl rfl rfl rfl rfl ?_)) | (refine swm_act rfl rfl rfl (act_store ttab_ok rfl rfl rfl rfl rfl rfl rfl rfl rfl rfl ?_)) | (refine swm_act rfl rfl rfl (act_buildSlice ttab_ok rfl rfl rfl rfl rfl rfl rfl rfl rfl rfl rfl rfl ?_)))
          rw [lm, show ((l.length : Int) == 1) = false by simp; omega]
          repeat (first | (refine swm_read ttab_ok rfl rfl rfl (by exact True.intro) rfl ?_) | (refine swm_skip rfl rfl rfl ?_) | (refine swm_act rfl rfl rfl (act_makeMap rfl rfl rfl rfl ?_)) | (refine swm_act rfl rfl rfl (act_box rfl rfl rfl rfl rfl rfl rfl ?_)) | (refine swm_act rfl rfl rfl (act_alloc ttab_ok rfl rfl rfl rfl rfl rfl ?_)) | (refine swm_act rfl rfl rfl (act_store ttab_ok rfl rfl rfl rfl rfl rfl rfl rfl rfl rfl ?_)) | (refine swm_act rfl rfl rfl (act_buildSlice ttab_ok rfl rfl rfl rfl rfl rfl rfl rfl rfl rfl rfl rfl ?_)))
          refine swm_act rfl rfl rfl (act_call_flat rfl rfl rfl rfl (exprRuns_h) rfl rfl ?_)
          repeat (first | (refine swm_read ttab_ok rfl rfl rfl (by exact True.intro) rfl ?_) | (refine swm_skip rfl rfl rfl ?_) | (refine swm_act rfl rfl rfl (act_makeMap rfl rfl rfl rfl ?_)) | (refine swm_act rfl rfl rfl (act_box rfl rfl rfl rfl rfl rfl rfl ?_)) | (refine swm_act rfl rfl rfl (act_alloc ttab_ok rfl rfl rfl rfl rfl rfl ?_)) | (refine swm_act rfl rfl rfl (act_store ttab_ok rfl rfl rfl rfl rfl rfl rfl rfl rfl rfl ?_)) | (refine swm_act rfl rfl rfl (act_buildSlice ttab_ok rfl rfl rfl rfl rfl rfl rfl rfl rfl rfl rfl rfl ?_)))
          refine swm_nil ?_
          (repeat refine sw_seq ?_); refine sw_ret ?_
          exact fin_b rfl rfl
end Go.Proofs.Ytjpcchipejmocaa
