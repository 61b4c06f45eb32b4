/-
  Layer 12's law ExprPlain: the walk, by shades.
-/
import Derived.Test.YtjpcchipejmocaaExL
import Derived.Test.YtjpcchipejmocaaFewH
namespace Go.Proofs.Ytjpcchipejmocaa
open Go.RowKit
set_option maxHeartbeats 4000000
theorem exprPlain_h (l : List Nod) (g : List Giv) (hfl : ∀ x ∈ l, x.Fit) (hgf : ∀ x ∈ g, x.Fit) : Holds Try.prog 5 [nodsP l, givsP g] (.p (pB true)) [] := by
  refine holds_of (ts := [4]) Try.func5 (by kernel_rfl) rfl rfl rfl ?_
  (repeat refine sw_seq ?_); refine sw_region ?_
  repeat (first | (refine swt_read ttab_ok rfl rfl (by exact True.intro) rfl ?_) | (refine swt_skip rfl rfl ?_) | (refine swt_act rfl (act_makeMap rfl rfl rfl rfl ?_)) | (refine swt_act rfl (act_box rfl rfl rfl rfl rfl rfl rfl ?_)) | (refine swt_act rfl (act_alloc ttab_ok rfl rfl rfl rfl rfl rfl ?_)) | (refine swt_act rfl (act_store ttab_ok rfl rfl rfl rfl rfl rfl rfl rfl rfl rfl ?_)) | (refine swt_act rfl (act_buildSlice ttab_ok rfl rfl rfl rfl rfl rfl rfl rfl rfl rfl rfl rfl ?_)))
  refine swt_nil ?_
  (repeat refine sw_seq ?_); refine sw_region ?_
  repeat (first | (refine swt_read ttab_ok rfl rfl (by exact True.intro) rfl ?_) | (refine swt_skip rfl rfl ?_) | (refine swt_act rfl (act_makeMap rfl rfl rfl rfl ?_)) | (refine swt_act rfl (act_box rfl rfl rfl rfl rfl rfl rfl ?_)) | (refine swt_act rfl (act_alloc ttab_ok rfl rfl rfl rfl rfl rfl ?_)) | (refine swt_act rfl (act_store ttab_ok rfl rfl rfl rfl rfl rfl rfl rfl rfl rfl ?_)) | (refine swt_act rfl (act_buildSlice ttab_ok rfl rfl rfl rfl rfl rfl rfl rfl rfl rfl rfl rfl ?_)))
  refine swt_read ttab_ok rfl rfl (by simp only [List.length_map]; split <;> omega) rfl ?_
  rw [slice_min Nod.pv l 32 32 rfl]
  repeat (first | (refine swt_read ttab_ok rfl rfl (by exact True.intro) rfl ?_) | (refine swt_skip rfl rfl ?_) | (refine swt_act rfl (act_makeMap rfl rfl rfl rfl ?_)) | (refine swt_act rfl (act_box rfl rfl rfl rfl rfl rfl rfl ?_)) | (refine swt_act rfl (act_alloc ttab_ok rfl rfl rfl rfl rfl rfl ?_)) | (refine swt_act rfl (act_store ttab_ok rfl rfl rfl rfl rfl rfl rfl rfl rfl rfl ?_)) | (refine swt_act rfl (act_buildSlice ttab_ok rfl rfl rfl rfl rfl rfl rfl rfl rfl rfl rfl rfl ?_)))
  refine swt_nil ?_
  refine SW.wk (wk_only [0, 1] [] rfl rfl) ?_
  have hf : ∀ x ∈ l.take 32, x.Fit := fun x hx => hfl x (List.mem_of_mem_take hx)
  have hl : (l.take 32).length ≤ 32 := by simp; omega
  generalize l.take 32 = l at *
  have lm : (l.map Nod.pv).length = l.length := by simp
  (repeat refine sw_seq ?_); refine sw_region ?_
  repeat (first | (refine swt_read ttab_ok rfl rfl (by exact True.intro) rfl ?_) | (refine swt_skip rfl rfl ?_) | (refine swt_act rfl (act_makeMap rfl rfl rfl rfl ?_)) | (refine swt_act rfl (act_box rfl rfl rfl rfl rfl rfl rfl ?_)) | (refine swt_act rfl (act_alloc ttab_ok rfl rfl rfl rfl rfl rfl ?_)) | (refine swt_act rfl (act_store ttab_ok rfl rfl rfl rfl rfl rfl rfl rfl rfl rfl ?_)) | (refine swt_act rfl (act_buildSlice ttab_ok rfl rfl rfl rfl rfl rfl rfl rfl rfl rfl rfl rfl ?_)))
  refine swt_act rfl (act_call_E rfl rfl rfl rfl (few_h g hgf) rfl ?_)
  rintro _ ⟨b1, rfl, h1⟩
  cases b1 with
  | false =>
    repeat (first | (refine swt_read ttab_ok rfl rfl (by exact True.intro) rfl ?_) | (refine swt_skip rfl rfl ?_) | (refine swt_act rfl (act_makeMap rfl rfl rfl rfl ?_)) | (refine swt_act rfl (act_box rfl rfl rfl rfl rfl rfl rfl ?_)) | (refine swt_act rfl (act_alloc ttab_ok rfl rfl rfl rfl rfl rfl ?_)) | (refine swt_act rfl (act_store ttab_ok rfl rfl rfl rfl rfl rfl rfl rfl rfl rfl ?_)) | (refine swt_act rfl (act_buildSlice ttab_ok rfl rfl rfl rfl rfl rfl rfl rfl rfl rfl rfl rfl ?_)))
    refine swt_nil ?_
    (repeat refine sw_seq ?_); refine sw_cond rfl (fun hc => ?_) (fun hc => ?_)
    · (repeat refine sw_seq ?_); refine sw_region ?_
      repeat (first | (refine swt_read ttab_ok rfl rfl (by exact True.intro) rfl ?_) | (refine swt_skip rfl rfl ?_) | (refine swt_act rfl (act_makeMap rfl rfl rfl rfl ?_)) | (refine swt_act rfl (act_box rfl rfl rfl rfl rfl rfl rfl ?_)) | (refine swt_act rfl (act_alloc ttab_ok rfl rfl rfl rfl rfl rfl ?_)) | (refine swt_act rfl (act_store ttab_ok rfl rfl rfl rfl rfl rfl rfl rfl rfl rfl ?_)) | (refine swt_act rfl (act_buildSlice ttab_ok rfl rfl rfl rfl rfl rfl rfl rfl rfl rfl rfl rfl ?_)))
      refine swt_act rfl (act_call_flat rfl rfl rfl rfl (exprRuns_h) rfl rfl ?_)
      repeat (first | (refine swt_read ttab_ok rfl rfl (by exact True.intro) rfl ?_) | (refine swt_skip rfl rfl ?_) | (refine swt_act rfl (act_makeMap rfl rfl rfl rfl ?_)) | (refine swt_act rfl (act_box rfl rfl rfl rfl rfl rfl rfl ?_)) | (refine swt_act rfl (act_alloc ttab_ok rfl rfl rfl rfl rfl rfl ?_)) | (refine swt_act rfl (act_store ttab_ok rfl rfl rfl rfl rfl rfl rfl rfl rfl rfl ?_)) | (refine swt_act rfl (act_buildSlice ttab_ok rfl rfl rfl rfl rfl rfl rfl rfl rfl rfl rfl rfl ?_)))
      refine swt_nil ?_
      (repeat refine sw_seq ?_); refine sw_ret ?_
      exact fin_b rfl rfl
    · cases hc
  | true =>
    repeat (first | (refine swt_read ttab_ok rfl rfl (by exact True.intro) rfl ?_) | (refine swt_skip rfl rfl ?_) | (refine swt_act rfl (act_makeMap rfl rfl rfl rfl ?_)) | (refine swt_act rfl (act_box rfl rfl rfl rfl rfl rfl rfl ?_)) | (refine swt_act rfl (act_alloc ttab_ok rfl rfl rfl rfl rfl rfl ?_)) | (refine swt_act rfl (act_store ttab_ok rfl rfl rfl rfl rfl rfl rfl rfl rfl rfl ?_)) | (refine swt_act rfl (act_buildSlice ttab_ok rfl rfl rfl rfl rfl rfl rfl rfl rfl rfl rfl rfl ?_)))
    refine swt_nil ?_
    (repeat refine sw_seq ?_); refine sw_cond rfl (fun hc => ?_) (fun hc => ?_)
    · cases hc
    obtain ⟨g1, g2⟩ := few_len (h1 rfl)
    replace g2 : ∀ x ∈ g, x.bag.length ≤ 1000000 := fun x hx => Nat.le_trans (g2 x hx) (by omega)
    have H1 := value_h l g hf hgf (by omega) g2
    have HC : Holds Try.prog 22 [.v (.slice none 0 0), givsP g] (.p (pI (condS [] g))) [] := (cond_h [] g (by simp) hgf (by omega) g2).cv (.cons (.nil 7) (.refl _))
    refine sw_skip ?_
    (repeat refine sw_seq ?_); refine sw_region ?_
    repeat (first | (refine swt_read ttab_ok rfl rfl (by exact True.intro) rfl ?_) | (refine swt_skip rfl rfl ?_) | (refine swt_act rfl (act_makeMap rfl rfl rfl rfl ?_)) | (refine swt_act rfl (act_box rfl rfl rfl rfl rfl rfl rfl ?_)) | (refine swt_act rfl (act_alloc ttab_ok rfl rfl rfl rfl rfl rfl ?_)) | (refine swt_act rfl (act_store ttab_ok rfl rfl rfl rfl rfl rfl rfl rfl rfl rfl ?_)) | (refine swt_act rfl (act_buildSlice ttab_ok rfl rfl rfl rfl rfl rfl rfl rfl rfl rfl rfl rfl ?_)))
    refine swt_nil ?_
    (repeat refine sw_seq ?_); refine sw_block ?_
    refine SW.wk (wk_only [0, 1, 20, 21, 22] [] rfl rfl) ?_
    refine sw_loop (fun m s => ∃ (k : Nat) (kk : Int), k ≤ l.length ∧ m = l.length - k ∧ kk = k ∧ (∀ x ∈ l.take k, x.op ≠ 2) ∧ s = ⟨88, [(0, .p (nodsP l)), (1, .p (givsP g)), (20, .p (nodsP l)), (21, .p (pI (l.map Nod.pv).length)), (22, .p (pI kk))], []⟩) l.length ⟨0, 0, Nat.zero_le _, rfl, rfl, by simp, rfl⟩ ?_
    rintro m s ⟨k, _, hk, rfl, rfl, ha, rfl⟩
    (repeat refine sw_seq ?_); refine sw_region ?_
    repeat (first | (refine swt_read ttab_ok rfl rfl (by exact True.intro) rfl ?_) | (refine swt_skip rfl rfl ?_) | (refine swt_act rfl (act_makeMap rfl rfl rfl rfl ?_)) | (refine swt_act rfl (act_box rfl rfl rfl rfl rfl rfl rfl ?_)) | (refine swt_act rfl (act_alloc ttab_ok rfl rfl rfl rfl rfl rfl ?_)) | (refine swt_act rfl (act_store ttab_ok rfl rfl rfl rfl rfl rfl rfl rfl rfl rfl ?_)) | (refine swt_act rfl (act_buildSlice ttab_ok rfl rfl rfl rfl rfl rfl rfl rfl rfl rfl rfl rfl ?_)))
    refine swt_nil ?_
    (repeat refine sw_seq ?_); refine sw_cond rfl (fun hlt => ?_) (fun hlt => ?_)
    · refine sw_skip ?_
      rw [lm] at hlt
      simp only [decide_eq_true_eq] at hlt
      have hlt' : k < l.length := by omega
      (repeat refine sw_seq ?_); refine sw_block ?_
      (repeat refine sw_seq ?_); refine sw_region ?_
      repeat (first | (refine swt_read ttab_ok rfl rfl (by exact True.intro) rfl ?_) | (refine swt_skip rfl rfl ?_) | (refine swt_act rfl (act_makeMap rfl rfl rfl rfl ?_)) | (refine swt_act rfl (act_box rfl rfl rfl rfl rfl rfl rfl ?_)) | (refine swt_act rfl (act_alloc ttab_ok rfl rfl rfl rfl rfl rfl ?_)) | (refine swt_act rfl (act_store ttab_ok rfl rfl rfl rfl rfl rfl rfl rfl rfl rfl ?_)) | (refine swt_act rfl (act_buildSlice ttab_ok rfl rfl rfl rfl rfl rfl rfl rfl rfl rfl rfl rfl ?_)))
      refine swt_read ttab_ok rfl rfl (by rw [lm]; omega) rfl ?_
      rw [getD_map hlt']
      repeat (first | (refine swt_read ttab_ok rfl rfl (by exact True.intro) rfl ?_) | (refine swt_skip rfl rfl ?_) | (refine swt_act rfl (act_makeMap rfl rfl rfl rfl ?_)) | (refine swt_act rfl (act_box rfl rfl rfl rfl rfl rfl rfl ?_)) | (refine swt_act rfl (act_alloc ttab_ok rfl rfl rfl rfl rfl rfl ?_)) | (refine swt_act rfl (act_store ttab_ok rfl rfl rfl rfl rfl rfl rfl rfl rfl rfl ?_)) | (refine swt_act rfl (act_buildSlice ttab_ok rfl rfl rfl rfl rfl rfl rfl rfl rfl rfl rfl rfl ?_)))
      refine swt_nil ?_
      (repeat refine sw_seq ?_); refine sw_region_spec (by kernel_rfl) ?_
      repeat (refine sws_read ttab_ok rfl (by exact True.intro) rfl ?_)
      refine sws_nil ?_
      (repeat refine sw_seq ?_); refine sw_cond rfl (fun ht => ?_) (fun ht => ?_)
      · (repeat refine sw_seq ?_); refine sw_region ?_
        repeat (first | (refine swt_read ttab_ok rfl rfl (by exact True.intro) rfl ?_) | (refine swt_skip rfl rfl ?_) | (refine swt_act rfl (act_makeMap rfl rfl rfl rfl ?_)) | (refine swt_act rfl (act_box rfl rfl rfl rfl rfl rfl rfl ?_)) | (refine swt_act rfl (act_alloc ttab_ok rfl rfl rfl rfl rfl rfl ?_)) | (refine swt_act rfl (act_store ttab_ok rfl rfl rfl rfl rfl rfl rfl rfl rfl rfl ?_)) | (refine swt_act rfl (act_buildSlice ttab_ok rfl rfl rfl rfl rfl rfl rfl rfl rfl rfl rfl rfl ?_)))
        refine swt_act rfl (act_call_flat rfl rfl rfl rfl (exprRuns_h) rfl rfl ?_)
        repeat (first | (refine swt_read ttab_ok rfl rfl (by exact True.intro) rfl ?_) | (refine swt_skip rfl rfl ?_) | (refine swt_act rfl (act_makeMap rfl rfl rfl rfl ?_)) | (refine swt_act rfl (act_box rfl rfl rfl rfl rfl rfl rfl ?_)) | (refine swt_act rfl (act_alloc ttab_ok rfl rfl rfl rfl rfl rfl ?_)) | (refine swt_act rfl (act_store ttab_ok rfl rfl rfl rfl rfl rfl rfl rfl rfl rfl ?_)) | (refine swt_act rfl (act_buildSlice ttab_ok rfl rfl rfl rfl rfl rfl rfl rfl rfl rfl rfl rfl ?_)))
        refine swt_nil ?_
        (repeat refine sw_seq ?_); refine sw_ret ?_
        exact fin_b rfl rfl
      · have h2 : l[k].op ≠ 2 := by
          intro e
          have e' : (l[k].op == 2) = true := by simp [e]
          rw [e'] at ht
          cases ht
        refine sw_skip ?_
        (repeat refine sw_seq ?_); refine sw_region ?_
        repeat (first | (refine swt_read ttab_ok rfl rfl (by exact True.intro) rfl ?_) | (refine swt_skip rfl rfl ?_) | (refine swt_act rfl (act_makeMap rfl rfl rfl rfl ?_)) | (refine swt_act rfl (act_box rfl rfl rfl rfl rfl rfl rfl ?_)) | (refine swt_act rfl (act_alloc ttab_ok rfl rfl rfl rfl rfl rfl ?_)) | (refine swt_act rfl (act_store ttab_ok rfl rfl rfl rfl rfl rfl rfl rfl rfl rfl ?_)) | (refine swt_act rfl (act_buildSlice ttab_ok rfl rfl rfl rfl rfl rfl rfl rfl rfl rfl rfl rfl ?_)))
        refine swt_nil ?_
        refine ⟨_, _, ?_, wk_only [0, 1, 20, 21, 22] [] rfl rfl, k + 1, _, hlt', rfl, wrap_succ hlt' (by omega), take_ok hlt' ha h2, rfl⟩
        omega
    · refine sw_exit ?_
      rw [lm] at hlt
      simp only [decide_eq_false_iff_not] at hlt
      have hkk : k = l.length := by omega
      subst hkk
      rw [List.take_length] at ha
      have e0 := valueS_plain g ha
      have H2 := valueN_h l hf rfl
      have E := expr_h l hf
      have rb := fun h => valueS_err (l := l) (g := []) h
      have rc := fun h => valueS_right (l := l) (g := []) h
      rw [e0] at H1
      generalize valueS l [] = r at *
      (repeat refine sw_seq ?_); refine sw_region ?_
      repeat (first | (refine swt_read ttab_ok rfl rfl (by exact True.intro) rfl ?_) | (refine swt_skip rfl rfl ?_) | (refine swt_act rfl (act_makeMap rfl rfl rfl rfl ?_)) | (refine swt_act rfl (act_box rfl rfl rfl rfl rfl rfl rfl ?_)) | (refine swt_act rfl (act_alloc ttab_ok rfl rfl rfl rfl rfl rfl ?_)) | (refine swt_act rfl (act_store ttab_ok rfl rfl rfl rfl rfl rfl rfl rfl rfl rfl ?_)) | (refine swt_act rfl (act_buildSlice ttab_ok rfl rfl rfl rfl rfl rfl rfl rfl rfl rfl rfl rfl ?_)))
      refine swt_act rfl (act_call_flat rfl rfl rfl rfl (H1) rfl rfl ?_)
      repeat (first | (refine swt_read ttab_ok rfl rfl (by exact True.intro) rfl ?_) | (refine swt_skip rfl rfl ?_) | (refine swt_act rfl (act_makeMap rfl rfl rfl rfl ?_)) | (refine swt_act rfl (act_box rfl rfl rfl rfl rfl rfl rfl ?_)) | (refine swt_act rfl (act_alloc ttab_ok rfl rfl rfl rfl rfl rfl ?_)) | (refine swt_act rfl (act_store ttab_ok rfl rfl rfl rfl rfl rfl rfl rfl rfl rfl ?_)) | (refine swt_act rfl (act_buildSlice ttab_ok rfl rfl rfl rfl rfl rfl rfl rfl rfl rfl rfl rfl ?_)))
      refine swt_nil ?_
      (repeat refine sw_seq ?_); refine sw_region ?_
      repeat (first | (refine swt_read ttab_ok rfl rfl (by exact True.intro) rfl ?_) | (refine swt_skip rfl rfl ?_) | (refine swt_act rfl (act_makeMap rfl rfl rfl rfl ?_)) | (refine swt_act rfl (act_box rfl rfl rfl rfl rfl rfl rfl ?_)) | (refine swt_act rfl (act_alloc ttab_ok rfl rfl rfl rfl rfl rfl ?_)) | (refine swt_act rfl (act_store ttab_ok rfl rfl rfl rfl rfl rfl rfl rfl rfl rfl ?_)) | (refine swt_act rfl (act_buildSlice ttab_ok rfl rfl rfl rfl rfl rfl rfl rfl rfl rfl rfl rfl ?_)))
      refine swt_act rfl (act_call_flat rfl rfl rfl rfl (H2) rfl rfl ?_)
      repeat (first | (refine swt_read ttab_ok rfl rfl (by exact True.intro) rfl ?_) | (refine swt_skip rfl rfl ?_) | (refine swt_act rfl (act_makeMap rfl rfl rfl rfl ?_)) | (refine swt_act rfl (act_box rfl rfl rfl rfl rfl rfl rfl ?_)) | (refine swt_act rfl (act_alloc ttab_ok rfl rfl rfl rfl rfl rfl ?_)) | (refine swt_act rfl (act_store ttab_ok rfl rfl rfl rfl rfl rfl rfl rfl rfl rfl ?_)) | (refine swt_act rfl (act_buildSlice ttab_ok rfl rfl rfl rfl rfl rfl rfl rfl rfl rfl rfl rfl ?_)))
      refine swt_nil ?_
      refine SW.wk (wk_only [0, 1, 7, 8, 9, 10] [(7, 7), (9, 9)] rfl rfl) ?_
      (repeat refine sw_seq ?_); refine sw_region ?_
      repeat (first | (refine swt_read ttab_ok rfl rfl (by exact True.intro) rfl ?_) | (refine swt_skip rfl rfl ?_) | (refine swt_act rfl (act_makeMap rfl rfl rfl rfl ?_)) | (refine swt_act rfl (act_box rfl rfl rfl rfl rfl rfl rfl ?_)) | (refine swt_act rfl (act_alloc ttab_ok rfl rfl rfl rfl rfl rfl ?_)) | (refine swt_act rfl (act_store ttab_ok rfl rfl rfl rfl rfl rfl rfl rfl rfl rfl ?_)) | (refine swt_act rfl (act_buildSlice ttab_ok rfl rfl rfl rfl rfl rfl rfl rfl rfl rfl rfl rfl ?_)))
      refine swt_read ttab_ok rfl (opR_eqV r.1 r.1 rfl rfl rfl rfl) rfl rfl ?_
      rw [sameV_refl]
      repeat (first | (refine swt_read ttab_ok rfl rfl (by exact True.intro) rfl ?_) | (refine swt_skip rfl rfl ?_) | (refine swt_act rfl (act_makeMap rfl rfl rfl rfl ?_)) | (refine swt_act rfl (act_box rfl rfl rfl rfl rfl rfl rfl ?_)) | (refine swt_act rfl (act_alloc ttab_ok rfl rfl rfl rfl rfl rfl ?_)) | (refine swt_act rfl (act_store ttab_ok rfl rfl rfl rfl rfl rfl rfl rfl rfl rfl ?_)) | (refine swt_act rfl (act_buildSlice ttab_ok rfl rfl rfl rfl rfl rfl rfl rfl rfl rfl rfl rfl ?_)))
      rw [show (r.2 == r.2) = true by simp]
      repeat (first | (refine swt_read ttab_ok rfl rfl (by exact True.intro) rfl ?_) | (refine swt_skip rfl rfl ?_) | (refine swt_act rfl (act_makeMap rfl rfl rfl rfl ?_)) | (refine swt_act rfl (act_box rfl rfl rfl rfl rfl rfl rfl ?_)) | (refine swt_act rfl (act_alloc ttab_ok rfl rfl rfl rfl rfl rfl ?_)) | (refine swt_act rfl (act_store ttab_ok rfl rfl rfl rfl rfl rfl rfl rfl rfl rfl ?_)) | (refine swt_act rfl (act_buildSlice ttab_ok rfl rfl rfl rfl rfl rfl rfl rfl rfl rfl rfl rfl ?_)))
      by_cases r0 : r.2 = 0
      · rw [show (r.2 == 0) = true by simp [r0]]
        repeat (first | (refine swt_read ttab_ok rfl rfl (by exact True.intro) rfl ?_) | (refine swt_skip rfl rfl ?_) | (refine swt_act rfl (act_makeMap rfl rfl rfl rfl ?_)) | (refine swt_act rfl (act_box rfl rfl rfl rfl rfl rfl rfl ?_)) | (refine swt_act rfl (act_alloc ttab_ok rfl rfl rfl rfl rfl rfl ?_)) | (refine swt_act rfl (act_store ttab_ok rfl rfl rfl rfl rfl rfl rfl rfl rfl rfl ?_)) | (refine swt_act rfl (act_buildSlice ttab_ok rfl rfl rfl rfl rfl rfl rfl rfl rfl rfl rfl rfl ?_)))
        have r1 : r.2 ≠ 1 := by omega
        rw [show (r.2 == 1) = false by simp [r1]]
        repeat (first | (refine swt_read ttab_ok rfl rfl (by exact True.intro) rfl ?_) | (refine swt_skip rfl rfl ?_) | (refine swt_act rfl (act_makeMap rfl rfl rfl rfl ?_)) | (refine swt_act rfl (act_box rfl rfl rfl rfl rfl rfl rfl ?_)) | (refine swt_act rfl (act_alloc ttab_ok rfl rfl rfl rfl rfl rfl ?_)) | (refine swt_act rfl (act_store ttab_ok rfl rfl rfl rfl rfl rfl rfl rfl rfl rfl ?_)) | (refine swt_act rfl (act_buildSlice ttab_ok rfl rfl rfl rfl rfl rfl rfl rfl rfl rfl rfl rfl ?_)))
        refine swt_act rfl (act_call_flat rfl rfl rfl rfl (E) rfl rfl ?_)
        repeat (first | (refine swt_read ttab_ok rfl rfl (by exact True.intro) rfl ?_) | (refine swt_skip rfl rfl ?_) | (refine swt_act rfl (act_makeMap rfl rfl rfl rfl ?_)) | (refine swt_act rfl (act_box rfl rfl rfl rfl rfl rfl rfl ?_)) | (refine swt_act rfl (act_alloc ttab_ok rfl rfl rfl rfl rfl rfl ?_)) | (refine swt_act rfl (act_store ttab_ok rfl rfl rfl rfl rfl rfl rfl rfl rfl rfl ?_)) | (refine swt_act rfl (act_buildSlice ttab_ok rfl rfl rfl rfl rfl rfl rfl rfl rfl rfl rfl rfl ?_)))
        rw [show (exprS l == 0) = true by simp [(rc r1).1]]
        repeat (first | (refine swt_read ttab_ok rfl rfl (by exact True.intro) rfl ?_) | (refine swt_skip rfl rfl ?_) | (refine swt_act rfl (act_makeMap rfl rfl rfl rfl ?_)) | (refine swt_act rfl (act_box rfl rfl rfl rfl rfl rfl rfl ?_)) | (refine swt_act rfl (act_alloc ttab_ok rfl rfl rfl rfl rfl rfl ?_)) | (refine swt_act rfl (act_store ttab_ok rfl rfl rfl rfl rfl rfl rfl rfl rfl rfl ?_)) | (refine swt_act rfl (act_buildSlice ttab_ok rfl rfl rfl rfl rfl rfl rfl rfl rfl rfl rfl rfl ?_)))
        rw [show decide (((l.map Nod.pv).length : Int) > 0) = true by rw [lm]; simp; exact List.length_pos_iff.2 (rc r1).2]
        repeat (first | (refine swt_read ttab_ok rfl rfl (by exact True.intro) rfl ?_) | (refine swt_skip rfl rfl ?_) | (refine swt_act rfl (act_makeMap rfl rfl rfl rfl ?_)) | (refine swt_act rfl (act_box rfl rfl rfl rfl rfl rfl rfl ?_)) | (refine swt_act rfl (act_alloc ttab_ok rfl rfl rfl rfl rfl rfl ?_)) | (refine swt_act rfl (act_store ttab_ok rfl rfl rfl rfl rfl rfl rfl rfl rfl rfl ?_)) | (refine swt_act rfl (act_buildSlice ttab_ok rfl rfl rfl rfl rfl rfl rfl rfl rfl rfl rfl rfl ?_)))
        refine swt_act rfl (act_call_flat rfl rfl rfl rfl (HC) rfl rfl ?_)
        repeat (first | (refine swt_read ttab_ok rfl rfl (by exact True.intro) rfl ?_) | (refine swt_skip rfl rfl ?_) | (refine swt_act rfl (act_makeMap rfl rfl rfl rfl ?_)) | (refine swt_act rfl (act_box rfl rfl rfl rfl rfl rfl rfl ?_)) | (refine swt_act rfl (act_alloc ttab_ok rfl rfl rfl rfl rfl rfl ?_)) | (refine swt_act rfl (act_store ttab_ok rfl rfl rfl rfl rfl rfl rfl rfl rfl rfl ?_)) | (refine swt_act rfl (act_buildSlice ttab_ok rfl rfl rfl rfl rfl rfl rfl rfl rfl rfl rfl rfl ?_)))
        rw [show (condS [] g == 2) = true from rfl]
        repeat (first | (refine swt_read ttab_ok rfl rfl (by exact True.intro) rfl ?_) | (refine swt_skip rfl rfl ?_) | (refine swt_act rfl (act_makeMap rfl rfl rfl rfl ?_)) | (refine swt_act rfl (act_box rfl rfl rfl rfl rfl rfl rfl ?_)) | (refine swt_act rfl (act_alloc ttab_ok rfl rfl rfl rfl rfl rfl ?_)) | (refine swt_act rfl (act_store ttab_ok rfl rfl rfl rfl rfl rfl rfl rfl rfl rfl ?_)) | (refine swt_act rfl (act_buildSlice ttab_ok rfl rfl rfl rfl rfl rfl rfl rfl rfl rfl rfl rfl ?_)))
        refine swt_act rfl (act_call_flat rfl rfl rfl rfl (exprRuns_h) rfl rfl ?_)
        repeat (first | (refine swt_read ttab_ok rfl rfl (by exact True.intro) rfl ?_) | (refine swt_skip rfl rfl ?_) | (refine swt_act rfl (act_makeMap rfl rfl rfl rfl ?_)) | (refine swt_act rfl (act_box rfl rfl rfl rfl rfl rfl rfl ?_)) | (refine swt_act rfl (act_alloc ttab_ok rfl rfl rfl rfl rfl rfl ?_)) | (refine swt_act rfl (act_store ttab_ok rfl rfl rfl rfl rfl rfl rfl rfl rfl rfl ?_)) | (refine swt_act rfl (act_buildSlice ttab_ok rfl rfl rfl rfl rfl rfl rfl rfl rfl rfl rfl rfl ?_)))
        refine swt_nil ?_
        (repeat refine sw_seq ?_); refine sw_ret ?_
        exact fin_b rfl rfl
      · rw [show (r.2 == 0) = false by simp [r0]]
        repeat (first | (refine swt_read ttab_ok rfl rfl (by exact True.intro) rfl ?_) | (refine swt_skip rfl rfl ?_) | (refine swt_act rfl (act_makeMap rfl rfl rfl rfl ?_)) | (refine swt_act rfl (act_box rfl rfl rfl rfl rfl rfl rfl ?_)) | (refine swt_act rfl (act_alloc ttab_ok rfl rfl rfl rfl rfl rfl ?_)) | (refine swt_act rfl (act_store ttab_ok rfl rfl rfl rfl rfl rfl rfl rfl rfl rfl ?_)) | (refine swt_act rfl (act_buildSlice ttab_ok rfl rfl rfl rfl rfl rfl rfl rfl rfl rfl rfl rfl ?_)))
        refine swt_read ttab_ok rfl (opR_eqV r.1 noVal rfl rfl rfl rfl) rfl rfl ?_
        rw [show sameV r.1 noVal = true by rw [rb r0, sameV_refl]]
        repeat (first | (refine swt_read ttab_ok rfl rfl (by exact True.intro) rfl ?_) | (refine swt_skip rfl rfl ?_) | (refine swt_act rfl (act_makeMap rfl rfl rfl rfl ?_)) | (refine swt_act rfl (act_box rfl rfl rfl rfl rfl rfl rfl ?_)) | (refine swt_act rfl (act_alloc ttab_ok rfl rfl rfl rfl rfl rfl ?_)) | (refine swt_act rfl (act_store ttab_ok rfl rfl rfl rfl rfl rfl rfl rfl rfl rfl ?_)) | (refine swt_act rfl (act_buildSlice ttab_ok rfl rfl rfl rfl rfl rfl rfl rfl rfl rfl rfl rfl ?_)))
        by_cases r1 : r.2 = 1
        · rw [show (r.2 == 1) = true by simp [r1]]
          repeat (first | (refine swt_read ttab_ok rfl rfl (by exact True.intro) rfl ?_) | (refine swt_skip rfl rfl ?_) | (refine swt_act rfl (act_makeMap rfl rfl rfl rfl ?_)) | (refine swt_act rfl (act_box rfl rfl rfl rfl rfl rfl rfl ?_)) | (refine swt_act rfl (act_alloc ttab_ok rfl rfl rfl rfl rfl rfl ?_)) | (refine swt_act rfl (act_store ttab_ok rfl rfl rfl rfl rfl rfl rfl rfl rfl rfl ?_)) | (refine swt_act rfl (act_buildSlice ttab_ok rfl rfl rfl rfl rfl rfl rfl rfl rfl rfl rfl rfl ?_)))
          refine swt_act rfl (act_call_flat rfl rfl rfl rfl (HC) rfl rfl ?_)
          repeat (first | (refine swt_read ttab_ok rfl rfl (by exact True.intro) rfl ?_) | (refine swt_skip rfl rfl ?_) | (refine swt_act rfl (act_makeMap rfl rfl rfl rfl ?_)) | (refine swt_act rfl (act_box rfl rfl rfl rfl rfl rfl rfl ?_)) | (refine swt_act rfl (act_alloc ttab_ok rfl rfl rfl rfl rfl rfl ?_)) | (refine swt_act rfl (act_store ttab_ok rfl rfl rfl rfl rfl rfl rfl rfl rfl rfl ?_)) | (refine swt_act rfl (act_buildSlice ttab_ok rfl rfl rfl rfl rfl rfl rfl rfl rfl rfl rfl rfl ?_)))
          rw [show (condS [] g == 2) = true from rfl]
          repeat (first | (refine swt_read ttab_ok rfl rfl (by exact True.intro) rfl ?_) | (refine swt_skip rfl rfl ?_) | (refine swt_act rfl (act_makeMap rfl rfl rfl rfl ?_)) | (refine swt_act rfl (act_box rfl rfl rfl rfl rfl rfl rfl ?_)) | (refine swt_act rfl (act_alloc ttab_ok rfl rfl rfl rfl rfl rfl ?_)) | (refine swt_act rfl (act_store ttab_ok rfl rfl rfl rfl rfl rfl rfl rfl rfl rfl ?_)) | (refine swt_act rfl (act_buildSlice ttab_ok rfl rfl rfl rfl rfl rfl rfl rfl rfl rfl rfl rfl ?_)))
          refine swt_act rfl (act_call_flat rfl rfl rfl rfl (exprRuns_h) rfl rfl ?_)
          repeat (first | (refine swt_read ttab_ok rfl rfl (by exact True.intro) rfl ?_) | (refine swt_skip rfl rfl ?_) | (refine swt_act rfl (act_makeMap rfl rfl rfl rfl ?_)) | (refine swt_act rfl (act_box rfl rfl rfl rfl rfl rfl rfl ?_)) | (refine swt_act rfl (act_alloc ttab_ok rfl rfl rfl rfl rfl rfl ?_)) | (refine swt_act rfl (act_store ttab_ok rfl rfl rfl rfl rfl rfl rfl rfl rfl rfl ?_)) | (refine swt_act rfl (act_buildSlice ttab_ok rfl rfl rfl rfl rfl rfl rfl rfl rfl rfl rfl rfl ?_)))
          refine swt_nil ?_
          (repeat refine sw_seq ?_); refine sw_ret ?_
          exact fin_b rfl rfl
        · rw [show (r.2 == 1) = false by simp [r1]]
          repeat (first | (refine swt_read ttab_ok rfl rfl (by exact True.intro) rfl ?_) | (refine swt_skip rfl rfl ?_) | (refine swt_act rfl (act_makeMap rfl rfl rfl rfl ?_)) | (refine swt_act rfl (act_box rfl rfl rfl rfl rfl rfl rfl ?_)) | (refine swt_act rfl (act_alloc ttab_ok rfl rfl rfl rfl rfl rfl ?_)) | (refine swt_act rfl (act_store ttab_ok rfl rfl rfl rfl rfl rfl rfl rfl rfl rfl ?_)) | (refine swt_act rfl (act_buildSlice ttab_ok rfl rfl rfl rfl rfl rfl rfl rfl rfl rfl rfl rfl ?_)))
          refine swt_act rfl (act_call_flat rfl rfl rfl rfl (E) rfl rfl ?_)
          repeat (first | (refine swt_read ttab_ok rfl rfl (by exact True.intro) rfl ?_) | (refine swt_skip rfl rfl ?_) | (refine swt_act rfl (act_makeMap rfl rfl rfl rfl ?_)) | (refine swt_act rfl (act_box rfl rfl rfl rfl rfl rfl rfl ?_)) | (refine swt_act rfl (act_alloc ttab_ok rfl rfl rfl rfl rfl rfl ?_)) | (refine swt_act rfl (act_store ttab_ok rfl rfl rfl rfl rfl rfl rfl rfl rfl rfl ?_)) | (refine swt_act rfl (act_buildSlice ttab_ok rfl rfl rfl rfl rfl rfl rfl rfl rfl rfl rfl rfl ?_)))
          rw [show (exprS l == 0) = true by simp [(rc r1).1]]
          repeat (first | (refine swt_read ttab_ok rfl rfl (by exact True.intro) rfl ?_) | (refine swt_skip rfl rfl ?_) | (refine swt_act rfl (act_makeMap rfl rfl rfl rfl ?_)) | (refine swt_act rfl (act_box rfl rfl rfl rfl rfl rfl rfl ?_)) | (refine swt_act rfl (act_alloc ttab_ok rfl rfl rfl rfl rfl rfl ?_)) | (refine swt_act rfl (act_store ttab_ok rfl rfl rfl rfl rfl rfl rfl rfl rfl rfl ?_)) | (refine swt_act rfl (act_buildSlice ttab_ok rfl rfl rfl rfl rfl rfl rfl rfl rfl rfl rfl rfl ?_)))
          rw [show decide (((l.map Nod.pv).length : Int) > 0) = true by rw [lm]; simp; exact List.length_pos_iff.2 (rc r1).2]
          repeat (first | (refine swt_read ttab_ok rfl rfl (by exact True.intro) rfl ?_) | (refine swt_skip rfl rfl ?_) | (refine swt_act rfl (act_makeMap rfl rfl rfl rfl ?_)) | (refine swt_act rfl (act_box rfl rfl rfl rfl rfl rfl rfl ?_)) | (refine swt_act rfl (act_alloc ttab_ok rfl rfl rfl rfl rfl rfl ?_)) | (refine swt_act rfl (act_store ttab_ok rfl rfl rfl rfl rfl rfl rfl rfl rfl rfl ?_)) | (refine swt_act rfl (act_buildSlice ttab_ok rfl rfl rfl rfl rfl rfl rfl rfl rfl rfl rfl rfl ?_)))
          refine swt_act rfl (act_call_flat rfl rfl rfl rfl (HC) rfl rfl ?_)
          repeat (first | (refine swt_read ttab_ok rfl rfl (by exact True.intro) rfl ?_) | (refine swt_skip rfl rfl ?_) | (refine swt_act rfl (act_makeMap rfl rfl rfl rfl ?_)) | (refine swt_act rfl (act_box rfl rfl rfl rfl rfl rfl rfl ?_)) | (refine swt_act rfl (act_alloc ttab_ok rfl rfl rfl rfl rfl rfl ?_)) | (refine swt_act rfl (act_store ttab_ok rfl rfl rfl rfl rfl rfl rfl rfl rfl rfl ?_)) | (refine swt_act rfl (act_buildSlice ttab_ok rfl rfl rfl rfl rfl rfl rfl rfl rfl rfl rfl rfl ?_)))
          rw [show (condS [] g == 2) = true from rfl]
          repeat (first | (refine swt_read ttab_ok rfl rfl (by exact True.intro) rfl ?_) | (refine swt_skip rfl rfl ?_) | (refine swt_act rfl (act_makeMap rfl rfl rfl rfl ?_)) | (refine swt_act rfl (act_box rfl rfl rfl rfl rfl rfl rfl ?_)) | (refine swt_act rfl (act_alloc ttab_ok rfl rfl rfl rfl rfl rfl ?_)) | (refine swt_act rfl (act_store ttab_ok rfl rfl rfl rfl rfl rfl rfl rfl rfl rfl ?_)) | (refine swt_act rfl (act_buildSlice ttab_ok rfl rfl rfl rfl rfl rfl rfl rfl rfl rfl rfl rfl ?_)))
          refine swt_act rfl (act_call_flat rfl rfl rfl rfl (exprRuns_h) rfl rfl ?_)
          repeat (first | (refine swt_read ttab_ok rfl rfl (by exact True.intro) rfl ?_) | (refine swt_skip rfl rfl ?_) | (refine swt_act rfl (act_makeMap rfl rfl rfl rfl ?_)) | (refine swt_act rfl (act_box rfl rfl rfl rfl rfl rfl rfl ?_)) | (refine swt_act rfl (act_alloc ttab_ok rfl rfl rfl rfl rfl rfl ?_)) | (refine swt_act rfl (act_store ttab_ok rfl rfl rfl rfl rfl rfl rfl rfl rfl rfl ?_)) | (refine swt_act rfl (act_buildSlice ttab_ok rfl rfl rfl rfl rfl rfl rfl rfl rfl rfl rfl rfl ?_)))
          refine swt_nil ?_
          (repeat refine sw_seq ?_); refine sw_ret ?_
          exact fin_b rfl rfl
end Go.Proofs.Ytjpcchipejmocaa
