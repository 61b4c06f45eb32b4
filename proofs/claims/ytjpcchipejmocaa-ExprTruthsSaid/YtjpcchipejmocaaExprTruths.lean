/-
  Layer 12's law ExprTruths: the walk, by shades.
-/
import Derived.Test.YtjpcchipejmocaaExL
import Derived.Test.YtjpcchipejmocaaFewH
namespace Go.Proofs.Ytjpcchipejmocaa
open Go.RowKit
set_option maxHeartbeats 4000000
theorem exprTruths_h (a b : List Nod) (g : List Giv) (hfa : ∀ x ∈ a, x.Fit) (hfb : ∀ x ∈ b, x.Fit) (hgf : ∀ x ∈ g, x.Fit) : Holds Try.prog 4 [nodsP a, nodsP b, givsP g] (.p (pB true)) [] := by
  refine holds_of (ts := [6]) Try.func4 (by kernel_rfl) rfl rfl rfl ?_
  (repeat refine sw_seq ?_); refine sw_region ?_
  repeat (first | (refine swt_read ttab_ok rfl rfl (by exact True.intro) rfl ?_) | (refine swt_skip rfl rfl ?_) | (refine swt_act rfl (act_makeMap rfl rfl rfl rfl ?_)) | (refine swt_act rfl (act_box rfl rfl rfl rfl rfl rfl rfl ?_)) | (refine swt_act rfl (act_alloc ttab_ok rfl rfl rfl rfl rfl rfl ?_)) | (refine swt_act rfl (act_store ttab_ok rfl rfl rfl rfl rfl rfl rfl rfl rfl rfl ?_)) | (refine swt_act rfl (act_buildSlice ttab_ok rfl rfl rfl rfl rfl rfl rfl rfl rfl rfl rfl rfl ?_)))
  refine swt_nil ?_
  (repeat refine sw_seq ?_); refine sw_region_draw [] [(0, true), (1, true), (2, true), (3, true), (4, true), (5, true), (6, true), (7, true), (8, true), (9, true), (10, true), (11, true)] (by kernel_rfl) (by kernel_rfl) (by kernel_rfl) ?_
  repeat (first | (refine swm_read ttab_ok rfl rfl rfl (by exact True.intro) rfl ?_) | (refine swm_skip rfl rfl rfl ?_) | (refine swm_act rfl rfl rfl (act_makeMap rfl rfl rfl rfl ?_)) | (refine swm_act rfl rfl rfl (act_box rfl rfl rfl rfl rfl rfl rfl ?_)) | (refine swm_act rfl rfl rfl (act_alloc ttab_ok rfl rfl rfl rfl rfl rfl ?_)) | (refine swm_act rfl rfl rfl (act_store ttab_ok rfl rfl rfl rfl rfl rfl rfl rfl rfl rfl ?_)) | (refine swm_act rfl rfl rfl (act_buildSlice ttab_ok rfl rfl rfl rfl rfl rfl rfl rfl rfl rfl rfl rfl ?_)))
  refine swm_read ttab_ok rfl rfl rfl (by simp only [List.length_map]; split <;> omega) rfl ?_
  rw [slice_min Nod.pv a 15 15 rfl]
  repeat (first | (refine swm_read ttab_ok rfl rfl rfl (by exact True.intro) rfl ?_) | (refine swm_skip rfl rfl rfl ?_) | (refine swm_act rfl rfl rfl (act_makeMap rfl rfl rfl rfl ?_)) | (refine swm_act rfl rfl rfl (act_box rfl rfl rfl rfl rfl rfl rfl ?_)) | (refine swm_act rfl rfl rfl (act_alloc ttab_ok rfl rfl rfl rfl rfl rfl ?_)) | (refine swm_act rfl rfl rfl (act_store ttab_ok rfl rfl rfl rfl rfl rfl rfl rfl rfl rfl ?_)) | (refine swm_act rfl rfl rfl (act_buildSlice ttab_ok rfl rfl rfl rfl rfl rfl rfl rfl rfl rfl rfl rfl ?_)))
  refine swm_read ttab_ok rfl rfl rfl (by simp only [List.length_map]; split <;> omega) rfl ?_
  rw [slice_min Nod.pv b 15 15 rfl]
  repeat (first | (refine swm_read ttab_ok rfl rfl rfl (by exact True.intro) rfl ?_) | (refine swm_skip rfl rfl rfl ?_) | (refine swm_act rfl rfl rfl (act_makeMap rfl rfl rfl rfl ?_)) | (refine swm_act rfl rfl rfl (act_box rfl rfl rfl rfl rfl rfl rfl ?_)) | (refine swm_act rfl rfl rfl (act_alloc ttab_ok rfl rfl rfl rfl rfl rfl ?_)) | (refine swm_act rfl rfl rfl (act_store ttab_ok rfl rfl rfl rfl rfl rfl rfl rfl rfl rfl ?_)) | (refine swm_act rfl rfl rfl (act_buildSlice ttab_ok rfl rfl rfl rfl rfl rfl rfl rfl rfl rfl rfl rfl ?_)))
  refine swm_nil ?_
  refine SW.wk (wk_only [0, 1, 2] [] rfl rfl) ?_
  have ha : ∀ x ∈ a.take 15, x.Fit := fun x hx => hfa x (List.mem_of_mem_take hx)
  have hb : ∀ x ∈ b.take 15, x.Fit := fun x hx => hfb x (List.mem_of_mem_take hx)
  have la : (a.take 15).length ≤ 15 := by simp; omega
  have lb : (b.take 15).length ≤ 15 := by simp; omega
  generalize a.take 15 = a at *
  generalize b.take 15 = b at *
  have lma : (a.map Nod.pv).length = a.length := by simp
  have lmb : (b.map Nod.pv).length = b.length := by simp
  (repeat refine sw_seq ?_); refine sw_region ?_
  repeat (first | (refine swt_read ttab_ok rfl rfl (by exact True.intro) rfl ?_) | (refine swt_skip rfl rfl ?_) | (refine swt_act rfl (act_makeMap rfl rfl rfl rfl ?_)) | (refine swt_act rfl (act_box rfl rfl rfl rfl rfl rfl rfl ?_)) | (refine swt_act rfl (act_alloc ttab_ok rfl rfl rfl rfl rfl rfl ?_)) | (refine swt_act rfl (act_store ttab_ok rfl rfl rfl rfl rfl rfl rfl rfl rfl rfl ?_)) | (refine swt_act rfl (act_buildSlice ttab_ok rfl rfl rfl rfl rfl rfl rfl rfl rfl rfl rfl rfl ?_)))
  by_cases na : a = []
  · rw [show (((a.map Nod.pv).length : Int) == 0) = true by rw [lma, na]; rfl]
    repeat (first | (refine swt_read ttab_ok rfl rfl (by exact True.intro) rfl ?_) | (refine swt_skip rfl rfl ?_) | (refine swt_act rfl (act_makeMap rfl rfl rfl rfl ?_)) | (refine swt_act rfl (act_box rfl rfl rfl rfl rfl rfl rfl ?_)) | (refine swt_act rfl (act_alloc ttab_ok rfl rfl rfl rfl rfl rfl ?_)) | (refine swt_act rfl (act_store ttab_ok rfl rfl rfl rfl rfl rfl rfl rfl rfl rfl ?_)) | (refine swt_act rfl (act_buildSlice ttab_ok rfl rfl rfl rfl rfl rfl rfl rfl rfl rfl rfl rfl ?_)))
    refine swt_nil ?_
    (repeat refine sw_seq ?_); refine sw_cond rfl (fun hc => ?_) (fun hc => ?_)
    · (repeat refine sw_seq ?_); refine sw_region ?_
      repeat (first | (refine swt_read ttab_ok rfl rfl (by exact True.intro) rfl ?_) | (refine swt_skip rfl rfl ?_) | (refine swt_act rfl (act_makeMap rfl rfl rfl rfl ?_)) | (refine swt_act rfl (act_box rfl rfl rfl rfl rfl rfl rfl ?_)) | (refine swt_act rfl (act_alloc ttab_ok rfl rfl rfl rfl rfl rfl ?_)) | (refine swt_act rfl (act_store ttab_ok rfl rfl rfl rfl rfl rfl rfl rfl rfl rfl ?_)) | (refine swt_act rfl (act_buildSlice ttab_ok rfl rfl rfl rfl rfl rfl rfl rfl rfl rfl rfl rfl ?_)))
      refine swt_act rfl (act_call_flat rfl rfl rfl rfl (exprRuns_h) rfl rfl ?_)
      repeat (first | (refine swt_read ttab_ok rfl rfl (by exact True.intro) rfl ?_) | (refine swt_skip rfl rfl ?_) | (refine swt_act rfl (act_makeMap rfl rfl rfl rfl ?_)) | (refine swt_act rfl (act_box rfl rfl rfl rfl rfl rfl rfl ?_)) | (refine swt_act rfl (act_alloc ttab_ok rfl rfl rfl rfl rfl rfl ?_)) | (refine swt_act rfl (act_store ttab_ok rfl rfl rfl rfl rfl rfl rfl rfl rfl rfl ?_)) | (refine swt_act rfl (act_buildSlice ttab_ok rfl rfl rfl rfl rfl rfl rfl rfl rfl rfl rfl rfl ?_)))
      refine swt_nil ?_
      (repeat refine sw_seq ?_); refine sw_ret ?_
      exact fin_b rfl rfl
    · cases hc
  rw [show (((a.map Nod.pv).length : Int) == 0) = false by rw [lma]; simp [na]]
  repeat (first | (refine swt_read ttab_ok rfl rfl (by exact True.intro) rfl ?_) | (refine swt_skip rfl rfl ?_) | (refine swt_act rfl (act_makeMap rfl rfl rfl rfl ?_)) | (refine swt_act rfl (act_box rfl rfl rfl rfl rfl rfl rfl ?_)) | (refine swt_act rfl (act_alloc ttab_ok rfl rfl rfl rfl rfl rfl ?_)) | (refine swt_act rfl (act_store ttab_ok rfl rfl rfl rfl rfl rfl rfl rfl rfl rfl ?_)) | (refine swt_act rfl (act_buildSlice ttab_ok rfl rfl rfl rfl rfl rfl rfl rfl rfl rfl rfl rfl ?_)))
  by_cases nb : b = []
  · rw [show (((b.map Nod.pv).length : Int) == 0) = true by rw [lmb, nb]; rfl]
    repeat (first | (refine swt_read ttab_ok rfl rfl (by exact True.intro) rfl ?_) | (refine swt_skip rfl rfl ?_) | (refine swt_act rfl (act_makeMap rfl rfl rfl rfl ?_)) | (refine swt_act rfl (act_box rfl rfl rfl rfl rfl rfl rfl ?_)) | (refine swt_act rfl (act_alloc ttab_ok rfl rfl rfl rfl rfl rfl ?_)) | (refine swt_act rfl (act_store ttab_ok rfl rfl rfl rfl rfl rfl rfl rfl rfl rfl ?_)) | (refine swt_act rfl (act_buildSlice ttab_ok rfl rfl rfl rfl rfl rfl rfl rfl rfl rfl rfl rfl ?_)))
    refine swt_nil ?_
    (repeat refine sw_seq ?_); refine sw_cond rfl (fun hc => ?_) (fun hc => ?_)
    · (repeat refine sw_seq ?_); refine sw_region ?_
      repeat (first | (refine swt_read ttab_ok rfl rfl (by exact True.intro) rfl ?_) | (refine swt_skip rfl rfl ?_) | (refine swt_act rfl (act_makeMap rfl rfl rfl rfl ?_)) | (refine swt_act rfl (act_box rfl rfl rfl rfl rfl rfl rfl ?_)) | (refine swt_act rfl (act_alloc ttab_ok rfl rfl rfl rfl rfl rfl ?_)) | (refine swt_act rfl (act_store ttab_ok rfl rfl rfl rfl rfl rfl rfl rfl rfl rfl ?_)) | (refine swt_act rfl (act_buildSlice ttab_ok rfl rfl rfl rfl rfl rfl rfl rfl rfl rfl rfl rfl ?_)))
      refine swt_act rfl (act_call_flat rfl rfl rfl rfl (exprRuns_h) rfl rfl ?_)
      repeat (first | (refine swt_read ttab_ok rfl rfl (by exact True.intro) rfl ?_) | (refine swt_skip rfl rfl ?_) | (refine swt_act rfl (act_makeMap rfl rfl rfl rfl ?_)) | (refine swt_act rfl (act_box rfl rfl rfl rfl rfl rfl rfl ?_)) | (refine swt_act rfl (act_alloc ttab_ok rfl rfl rfl rfl rfl rfl ?_)) | (refine swt_act rfl (act_store ttab_ok rfl rfl rfl rfl rfl rfl rfl rfl rfl rfl ?_)) | (refine swt_act rfl (act_buildSlice ttab_ok rfl rfl rfl rfl rfl rfl rfl rfl rfl rfl rfl rfl ?_)))
      refine swt_nil ?_
      (repeat refine sw_seq ?_); refine sw_ret ?_
      exact fin_b rfl rfl
    · cases hc
  rw [show (((b.map Nod.pv).length : Int) == 0) = false by rw [lmb]; simp [nb]]
  repeat (first | (refine swt_read ttab_ok rfl rfl (by exact True.intro) rfl ?_) | (refine swt_skip rfl rfl ?_) | (refine swt_act rfl (act_makeMap rfl rfl rfl rfl ?_)) | (refine swt_act rfl (act_box rfl rfl rfl rfl rfl rfl rfl ?_)) | (refine swt_act rfl (act_alloc ttab_ok rfl rfl rfl rfl rfl rfl ?_)) | (refine swt_act rfl (act_store ttab_ok rfl rfl rfl rfl rfl rfl rfl rfl rfl rfl ?_)) | (refine swt_act rfl (act_buildSlice ttab_ok rfl rfl rfl rfl rfl rfl rfl rfl rfl rfl rfl rfl ?_)))
  refine swt_act rfl (act_call_flat rfl rfl rfl rfl (expr_h a ha) rfl rfl ?_)
  repeat (first | (refine swt_read ttab_ok rfl rfl (by exact True.intro) rfl ?_) | (refine swt_skip rfl rfl ?_) | (refine swt_act rfl (act_makeMap rfl rfl rfl rfl ?_)) | (refine swt_act rfl (act_box rfl rfl rfl rfl rfl rfl rfl ?_)) | (refine swt_act rfl (act_alloc ttab_ok rfl rfl rfl rfl rfl rfl ?_)) | (refine swt_act rfl (act_store ttab_ok rfl rfl rfl rfl rfl rfl rfl rfl rfl rfl ?_)) | (refine swt_act rfl (act_buildSlice ttab_ok rfl rfl rfl rfl rfl rfl rfl rfl rfl rfl rfl rfl ?_)))
  by_cases ea : exprS a = 0
  rotate_left
  · rw [show (exprS a != 0) = true by simpa using ea]
    repeat (first | (refine swt_read ttab_ok rfl rfl (by exact True.intro) rfl ?_) | (refine swt_skip rfl rfl ?_) | (refine swt_act rfl (act_makeMap rfl rfl rfl rfl ?_)) | (refine swt_act rfl (act_box rfl rfl rfl rfl rfl rfl rfl ?_)) | (refine swt_act rfl (act_alloc ttab_ok rfl rfl rfl rfl rfl rfl ?_)) | (refine swt_act rfl (act_store ttab_ok rfl rfl rfl rfl rfl rfl rfl rfl rfl rfl ?_)) | (refine swt_act rfl (act_buildSlice ttab_ok rfl rfl rfl rfl rfl rfl rfl rfl rfl rfl rfl rfl ?_)))
    refine swt_nil ?_
    (repeat refine sw_seq ?_); refine sw_cond rfl (fun hc => ?_) (fun hc => ?_)
    · (repeat refine sw_seq ?_); refine sw_region ?_
      repeat (first | (refine swt_read ttab_ok rfl rfl (by exact True.intro) rfl ?_) | (refine swt_skip rfl rfl ?_) | (refine swt_act rfl (act_makeMap rfl rfl rfl rfl ?_)) | (refine swt_act rfl (act_box rfl rfl rfl rfl rfl rfl rfl ?_)) | (refine swt_act rfl (act_alloc ttab_ok rfl rfl rfl rfl rfl rfl ?_)) | (refine swt_act rfl (act_store ttab_ok rfl rfl rfl rfl rfl rfl rfl rfl rfl rfl ?_)) | (refine swt_act rfl (act_buildSlice ttab_ok rfl rfl rfl rfl rfl rfl rfl rfl rfl rfl rfl rfl ?_)))
      refine swt_act rfl (act_call_flat rfl rfl rfl rfl (exprRuns_h) rfl rfl ?_)
      repeat (first | (refine swt_read ttab_ok rfl rfl (by exact True.intro) rfl ?_) | (refine swt_skip rfl rfl ?_) | (refine swt_act rfl (act_makeMap rfl rfl rfl rfl ?_)) | (refine swt_act rfl (act_box rfl rfl rfl rfl rfl rfl rfl ?_)) | (refine swt_act rfl (act_alloc ttab_ok rfl rfl rfl rfl rfl rfl ?_)) | (refine swt_act rfl (act_store ttab_ok rfl rfl rfl rfl rfl rfl rfl rfl rfl rfl ?_)) | (refine swt_act rfl (act_buildSlice ttab_ok rfl rfl rfl rfl rfl rfl rfl rfl rfl rfl rfl rfl ?_)))
      refine swt_nil ?_
      (repeat refine sw_seq ?_); refine sw_ret ?_
      exact fin_b rfl rfl
    · cases hc
  rw [show (exprS a != 0) = false by simpa using ea]
  repeat (first | (refine swt_read ttab_ok rfl rfl (by exact True.intro) rfl ?_) | (refine swt_skip rfl rfl ?_) | (refine swt_act rfl (act_makeMap rfl rfl rfl rfl ?_)) | (refine swt_act rfl (act_box rfl rfl rfl rfl rfl rfl rfl ?_)) | (refine swt_act rfl (act_alloc ttab_ok rfl rfl rfl rfl rfl rfl ?_)) | (refine swt_act rfl (act_store ttab_ok rfl rfl rfl rfl rfl rfl rfl rfl rfl rfl ?_)) | (refine swt_act rfl (act_buildSlice ttab_ok rfl rfl rfl rfl rfl rfl rfl rfl rfl rfl rfl rfl ?_)))
  refine swt_act rfl (act_call_flat rfl rfl rfl rfl (expr_h b hb) rfl rfl ?_)
  repeat (first | (refine swt_read ttab_ok rfl rfl (by exact True.intro) rfl ?_) | (refine swt_skip rfl rfl ?_) | (refine swt_act rfl (act_makeMap rfl rfl rfl rfl ?_)) | (refine swt_act rfl (act_box rfl rfl rfl rfl rfl rfl rfl ?_)) | (refine swt_act rfl (act_alloc ttab_ok rfl rfl rfl rfl rfl rfl ?_)) | (refine swt_act rfl (act_store ttab_ok rfl rfl rfl rfl rfl rfl rfl rfl rfl rfl ?_)) | (refine swt_act rfl (act_buildSlice ttab_ok rfl rfl rfl rfl rfl rfl rfl rfl rfl rfl rfl rfl ?_)))
  by_cases eb : exprS b = 0
  rotate_left
  · rw [show (exprS b != 0) = true by simpa using eb]
    repeat (first | (refine swt_read ttab_ok rfl rfl (by exact True.intro) rfl ?_) | (refine swt_skip rfl rfl ?_) | (refine swt_act rfl (act_makeMap rfl rfl rfl rfl ?_)) | (refine swt_act rfl (act_box rfl rfl rfl rfl rfl rfl rfl ?_)) | (refine swt_act rfl (act_alloc ttab_ok rfl rfl rfl rfl rfl rfl ?_)) | (refine swt_act rfl (act_store ttab_ok rfl rfl rfl rfl rfl rfl rfl rfl rfl rfl ?_)) | (refine swt_act rfl (act_buildSlice ttab_ok rfl rfl rfl rfl rfl rfl rfl rfl rfl rfl rfl rfl ?_)))
    refine swt_nil ?_
    (repeat refine sw_seq ?_); refine sw_cond rfl (fun hc => ?_) (fun hc => ?_)
    · (repeat refine sw_seq ?_); refine sw_region ?_
      repeat (first | (refine swt_read ttab_ok rfl rfl (by exact True.intro) rfl ?_) | (refine swt_skip rfl rfl ?_) | (refine swt_act rfl (act_makeMap rfl rfl rfl rfl ?_)) | (refine swt_act rfl (act_box rfl rfl rfl rfl rfl rfl rfl ?_)) | (refine swt_act rfl (act_alloc ttab_ok rfl rfl rfl rfl rfl rfl ?_)) | (refine swt_act rfl (act_store ttab_ok rfl rfl rfl rfl rfl rfl rfl rfl rfl rfl ?_)) | (refine swt_act rfl (act_buildSlice ttab_ok rfl rfl rfl rfl rfl rfl rfl rfl rfl rfl rfl rfl ?_)))
      refine swt_act rfl (act_call_flat rfl rfl rfl rfl (exprRuns_h) rfl rfl ?_)
      repeat (first | (refine swt_read ttab_ok rfl rfl (by exact True.intro) rfl ?_) | (refine swt_skip rfl rfl ?_) | (refine swt_act rfl (act_makeMap rfl rfl rfl rfl ?_)) | (refine swt_act rfl (act_box rfl rfl rfl rfl rfl rfl rfl ?_)) | (refine swt_act rfl (act_alloc ttab_ok rfl rfl rfl rfl rfl rfl ?_)) | (refine swt_act rfl (act_store ttab_ok rfl rfl rfl rfl rfl rfl rfl rfl rfl rfl ?_)) | (refine swt_act rfl (act_buildSlice ttab_ok rfl rfl rfl rfl rfl rfl rfl rfl rfl rfl rfl rfl ?_)))
      refine swt_nil ?_
      (repeat refine sw_seq ?_); refine sw_ret ?_
      exact fin_b rfl rfl
    · cases hc
  rw [show (exprS b != 0) = false by simpa using eb]
  repeat (first | (refine swt_read ttab_ok rfl rfl (by exact True.intro) rfl ?_) | (refine swt_skip rfl rfl ?_) | (refine swt_act rfl (act_makeMap rfl rfl rfl rfl ?_)) | (refine swt_act rfl (act_box rfl rfl rfl rfl rfl rfl rfl ?_)) | (refine swt_act rfl (act_alloc ttab_ok rfl rfl rfl rfl rfl rfl ?_)) | (refine swt_act rfl (act_store ttab_ok rfl rfl rfl rfl rfl rfl rfl rfl rfl rfl ?_)) | (refine swt_act rfl (act_buildSlice ttab_ok rfl rfl rfl rfl rfl rfl rfl rfl rfl rfl rfl rfl ?_)))
  refine swt_act rfl (act_call_E rfl rfl rfl rfl (few_h g hgf) rfl ?_)
  rintro _ ⟨b1, rfl, h1⟩
  cases b1 with
  | false =>
    repeat (first | (refine swt_read ttab_ok rfl rfl (by exact True.intro) rfl ?_) | (refine swt_skip rfl rfl ?_) | (refine swt_act rfl (act_makeMap rfl rfl rfl rfl ?_)) | (refine swt_act rfl (act_box rfl rfl rfl rfl rfl rfl rfl ?_)) | (refine swt_act rfl (act_alloc ttab_ok rfl rfl rfl rfl rfl rfl ?_)) | (refine swt_act rfl (act_store ttab_ok rfl rfl rfl rfl rfl rfl rfl rfl rfl rfl ?_)) | (refine swt_act rfl (act_buildSlice ttab_ok rfl rfl rfl rfl rfl rfl rfl rfl rfl rfl rfl rfl ?_)))
    refine swt_nil ?_
    (repeat refine sw_seq ?_); refine sw_cond rfl (fun hc => ?_) (fun hc => ?_)
    · (repeat refine sw_seq ?_); refine sw_region ?_
      repeat (first | (refine swt_read ttab_ok rfl rfl (by exact True.intro) rfl ?_) | (refine swt_skip rfl rfl ?_) | (refine swt_act rfl (act_makeMap rfl rfl rfl rfl ?_)) | (refine swt_act rfl (act_box rfl rfl rfl rfl rfl rfl rfl ?_)) | (refine swt_act rfl (act_alloc ttab_ok rfl rfl rfl rfl rfl rfl ?_)) | (refine swt_act rfl (act_store ttab_ok rfl rfl rfl rfl rfl rfl rfl rfl rfl rfl ?_)) | (refine swt_act rfl (act_buildSlice ttab_ok rfl rfl rfl rfl rfl rfl rfl rfl rfl rfl rfl rfl ?_)))
      refine swt_act rfl (act_call_flat rfl rfl rfl rfl (exprRuns_h) rfl rfl ?_)
      repeat (first | (refine swt_read ttab_ok rfl rfl (by exact True.intro) rfl ?_) | (refine swt_skip rfl rfl ?_) | (refine swt_act rfl (act_makeMap rfl rfl rfl rfl ?_)) | (refine swt_act rfl (act_box rfl rfl rfl rfl rfl rfl rfl ?_)) | (refine swt_act rfl (act_alloc ttab_ok rfl rfl rfl rfl rfl rfl ?_)) | (refine swt_act rfl (act_store ttab_ok rfl rfl rfl rfl rfl rfl rfl rfl rfl rfl ?_)) | (refine swt_act rfl (act_buildSlice ttab_ok rfl rfl rfl rfl rfl rfl rfl rfl rfl rfl rfl rfl ?_)))
      refine swt_nil ?_
      (repeat refine sw_seq ?_); refine sw_ret ?_
      exact fin_b rfl rfl
    · cases hc
  | true =>
    repeat (first | (refine swt_read ttab_ok rfl rfl (by exact True.intro) rfl ?_) | (refine swt_skip rfl rfl ?_) | (refine swt_act rfl (act_makeMap rfl rfl rfl rfl ?_)) | (refine swt_act rfl (act_box rfl rfl rfl rfl rfl rfl rfl ?_)) | (refine swt_act rfl (act_alloc ttab_ok rfl rfl rfl rfl rfl rfl ?_)) | (refine swt_act rfl (act_store ttab_ok rfl rfl rfl rfl rfl rfl rfl rfl rfl rfl ?_)) | (refine swt_act rfl (act_buildSlice ttab_ok rfl rfl rfl rfl rfl rfl rfl rfl rfl rfl rfl rfl ?_)))
    refine swt_nil ?_
    (repeat refine sw_seq ?_); refine sw_cond rfl (fun hc => ?_) (fun hc => ?_)
    · cases hc
    obtain ⟨g1, g2⟩ := few_len (h1 rfl)
    replace g2 : ∀ x ∈ g, x.bag.length ≤ 1000000 := fun x hx => Nat.le_trans (g2 x hx) (by omega)
    refine sw_skip ?_
    refine SW.wk (wk_only [0, 1, 2] [] rfl rfl) ?_
    have K := fun (l : List Nod) (hl : ∀ x ∈ l, x.Fit) => cond_h l g hl hgf (by omega) g2
    have fop : ∀ n : Int, 0 ≤ n ∧ n ≤ 100 → ∀ l : List Nod, (∀ x ∈ l, x.Fit) → ∀ x ∈ l ++ [nOpE n], x.Fit := fun n hn l hl x hx => by
      rcases List.mem_append.1 hx with hx | hx
      · exact hl x hx
      · rw [List.mem_singleton] at hx; subst hx; exact nOpE_fit hn
    have hab : ∀ x ∈ a ++ b, x.Fit := fun x hx => by
      rcases List.mem_append.1 hx with hx | hx
      · exact ha x hx
      · exact hb x hx
    have K1 := K _ (fop 12 (by omega) _ hab)
    have K2 := K _ (fop 13 (by omega) _ hab)
    have K3 := K _ (fop 11 (by omega) _ ha)
    rw [condS_two (.inl rfl) ea na eb nb (by omega), if_pos rfl] at K1
    rw [condS_two (.inr rfl) ea na eb nb (by omega), if_neg (by omega)] at K2
    rw [condS_not ea na (by omega)] at K3
    have ra := condS_range a g
    have rb := condS_range b g
    obtain ⟨v1, e1, w1⟩ : ∃ v1, (v1 == (if condS b g < condS a g then condS b g else condS a g)) = true ∧ min (condS a g) (condS b g) = v1 := ⟨_, by rw [Int.min_def, beq_iff_eq]; split <;> split <;> omega, rfl⟩
    obtain ⟨v2, e2, w2⟩ : ∃ v2, (v2 == (if condS a g < condS b g then condS b g else condS a g)) = true ∧ max (condS a g) (condS b g) = v2 := ⟨_, by rw [Int.max_def, beq_iff_eq]; split <;> split <;> omega, rfl⟩
    obtain ⟨v3, e3, w3⟩ : ∃ v3, (v3 == IntKind.i64.wrap (2 - condS a g)) = true ∧ 2 - condS a g = v3 := ⟨_, by rw [IntWalk.i64_in _ (by omega), beq_iff_eq], rfl⟩
    rw [w1] at K1
    rw [w2] at K2
    rw [w3] at K3
    clear w1 w2 w3
    (repeat refine sw_seq ?_); refine sw_region ?_
    repeat (first | (refine swt_read ttab_ok rfl rfl (by exact True.intro) rfl ?_) | (refine swt_skip rfl rfl ?_) | (refine swt_act rfl (act_makeMap rfl rfl rfl rfl ?_)) | (refine swt_act rfl (act_box rfl rfl rfl rfl rfl rfl rfl ?_)) | (refine swt_act rfl (act_alloc ttab_ok rfl rfl rfl rfl rfl rfl ?_)) | (refine swt_act rfl (act_store ttab_ok rfl rfl rfl rfl rfl rfl rfl rfl rfl rfl ?_)) | (refine swt_act rfl (act_buildSlice ttab_ok rfl rfl rfl rfl rfl rfl rfl rfl rfl rfl rfl rfl ?_)))
    refine swt_act rfl (act_call_flat rfl rfl rfl rfl (K a ha) rfl rfl ?_)
    repeat (first | (refine swt_read ttab_ok rfl rfl (by exact True.intro) rfl ?_) | (refine swt_skip rfl rfl ?_) | (refine swt_act rfl (act_makeMap rfl rfl rfl rfl ?_)) | (refine swt_act rfl (act_box rfl rfl rfl rfl rfl rfl rfl ?_)) | (refine swt_act rfl (act_alloc ttab_ok rfl rfl rfl rfl rfl rfl ?_)) | (refine swt_act rfl (act_store ttab_ok rfl rfl rfl rfl rfl rfl rfl rfl rfl rfl ?_)) | (refine swt_act rfl (act_buildSlice ttab_ok rfl rfl rfl rfl rfl rfl rfl rfl rfl rfl rfl rfl ?_)))
    refine swt_act rfl (act_call_flat rfl rfl rfl rfl (K b hb) rfl rfl ?_)
    repeat (first | (refine swt_read ttab_ok rfl rfl (by exact True.intro) rfl ?_) | (refine swt_skip rfl rfl ?_) | (refine swt_act rfl (act_makeMap rfl rfl rfl rfl ?_)) | (refine swt_act rfl (act_box rfl rfl rfl rfl rfl rfl rfl ?_)) | (refine swt_act rfl (act_alloc ttab_ok rfl rfl rfl rfl rfl rfl ?_)) | (refine swt_act rfl (act_store ttab_ok rfl rfl rfl rfl rfl rfl rfl rfl rfl rfl ?_)) | (refine swt_act rfl (act_buildSlice ttab_ok rfl rfl rfl rfl rfl rfl rfl rfl rfl rfl rfl rfl ?_)))
    refine swt_nil ?_
    generalize condS a g = x at *
    generalize condS b g = y at *
    refine SW.wk (wk_only [0, 1, 2, 7, 8] [] rfl rfl) ?_
    (repeat refine sw_seq ?_); refine sw_region ?_
    repeat (first | (refine swt_read ttab_ok rfl rfl (by exact True.intro) rfl ?_) | (refine swt_skip rfl rfl ?_) | (refine swt_act rfl (act_makeMap rfl rfl rfl rfl ?_)) | (refine swt_act rfl (act_box rfl rfl rfl rfl rfl rfl rfl ?_)) | (refine swt_act rfl (act_alloc ttab_ok rfl rfl rfl rfl rfl rfl ?_)) | (refine swt_act rfl (act_store ttab_ok rfl rfl rfl rfl rfl rfl rfl rfl rfl rfl ?_)) | (refine swt_act rfl (act_buildSlice ttab_ok rfl rfl rfl rfl rfl rfl rfl rfl rfl rfl rfl rfl ?_)))
    refine swt_act rfl (act_append_row ttab_ok rfl rfl rfl rfl rfl rfl rfl rfl rfl rfl rfl rfl rfl rfl rfl rfl (by simp [reachBytes]; try omega) (by simp; try omega) ?_)
    repeat (first | (refine swt_read ttab_ok rfl rfl (by exact True.intro) rfl ?_) | (refine swt_skip rfl rfl ?_) | (refine swt_act rfl (act_makeMap rfl rfl rfl rfl ?_)) | (refine swt_act rfl (act_box rfl rfl rfl rfl rfl rfl rfl ?_)) | (refine swt_act rfl (act_alloc ttab_ok rfl rfl rfl rfl rfl rfl ?_)) | (refine swt_act rfl (act_store ttab_ok rfl rfl rfl rfl rfl rfl rfl rfl rfl rfl ?_)) | (refine swt_act rfl (act_buildSlice ttab_ok rfl rfl rfl rfl rfl rfl rfl rfl rfl rfl rfl rfl ?_)))
    refine swt_act rfl (act_append_row ttab_ok rfl rfl rfl rfl rfl rfl rfl rfl rfl rfl rfl rfl rfl rfl rfl rfl (by simp [reachBytes]; try omega) (by simp; try omega) ?_)
    repeat (first | (refine swt_read ttab_ok rfl rfl (by exact True.intro) rfl ?_) | (refine swt_skip rfl rfl ?_) | (refine swt_act rfl (act_makeMap rfl rfl rfl rfl ?_)) | (refine swt_act rfl (act_box rfl rfl rfl rfl rfl rfl rfl ?_)) | (refine swt_act rfl (act_alloc ttab_ok rfl rfl rfl rfl rfl rfl ?_)) | (refine swt_act rfl (act_store ttab_ok rfl rfl rfl rfl rfl rfl rfl rfl rfl rfl ?_)) | (refine swt_act rfl (act_buildSlice ttab_ok rfl rfl rfl rfl rfl rfl rfl rfl rfl rfl rfl rfl ?_)))
    refine swt_nil ?_
    refine SW.wk (wk_only [0, 1, 2, 7, 8, 9] [(57, 57)] rfl rfl) ?_
    have q1 : PV.sl 7 ([] ++ ([] ++ a.map Nod.pv ++ b.map Nod.pv) ++ [(nOpE 12).pv]) = nodsP (a ++ b ++ [nOpE 12]) := by simp [nodsP]
    have q2 : PV.sl 7 ([] ++ ([] ++ a.map Nod.pv ++ b.map Nod.pv) ++ [(nOpE 13).pv]) = nodsP (a ++ b ++ [nOpE 13]) := by simp [nodsP]
    have q3 : PV.sl 7 ([] ++ a.map Nod.pv ++ [(nOpE 11).pv]) = nodsP (a ++ [nOpE 11]) := by simp [nodsP]
    rw [← q1] at K1
    rw [← q2] at K2
    rw [← q3] at K3
    (repeat refine sw_seq ?_); refine sw_region ?_
    repeat (first | (refine swt_read ttab_ok rfl rfl (by exact True.intro) rfl ?_) | (refine swt_skip rfl rfl ?_) | (refine swt_act rfl (act_makeMap rfl rfl rfl rfl ?_)) | (refine swt_act rfl (act_box rfl rfl rfl rfl rfl rfl rfl ?_)) | (refine swt_act rfl (act_alloc ttab_ok rfl rfl rfl rfl rfl rfl ?_)) | (refine swt_act rfl (act_store ttab_ok rfl rfl rfl rfl rfl rfl rfl rfl rfl rfl ?_)) | (refine swt_act rfl (act_buildSlice ttab_ok rfl rfl rfl rfl rfl rfl rfl rfl rfl rfl rfl rfl ?_)))
    refine swt_act rfl (act_append_row ttab_ok rfl rfl rfl rfl rfl rfl rfl rfl rfl rfl rfl rfl rfl rfl rfl rfl (by simp [reachBytes]; try omega) (by simp; try omega) ?_)
    repeat (first | (refine swt_read ttab_ok rfl rfl (by exact True.intro) rfl ?_) | (refine swt_skip rfl rfl ?_) | (refine swt_act rfl (act_makeMap rfl rfl rfl rfl ?_)) | (refine swt_act rfl (act_box rfl rfl rfl rfl rfl rfl rfl ?_)) | (refine swt_act rfl (act_alloc ttab_ok rfl rfl rfl rfl rfl rfl ?_)) | (refine swt_act rfl (act_store ttab_ok rfl rfl rfl rfl rfl rfl rfl rfl rfl rfl ?_)) | (refine swt_act rfl (act_buildSlice ttab_ok rfl rfl rfl rfl rfl rfl rfl rfl rfl rfl rfl rfl ?_)))
    refine swt_act rfl (act_call_flat rfl rfl rfl rfl (op_h 12) rfl rfl ?_)
    repeat (first | (refine swt_read ttab_ok rfl rfl (by exact True.intro) rfl ?_) | (refine swt_skip rfl rfl ?_) | (refine swt_act rfl (act_makeMap rfl rfl rfl rfl ?_)) | (refine swt_act rfl (act_box rfl rfl rfl rfl rfl rfl rfl ?_)) | (refine swt_act rfl (act_alloc ttab_ok rfl rfl rfl rfl rfl rfl ?_)) | (refine swt_act rfl (act_store ttab_ok rfl rfl rfl rfl rfl rfl rfl rfl rfl rfl ?_)) | (refine swt_act rfl (act_buildSlice ttab_ok rfl rfl rfl rfl rfl rfl rfl rfl rfl rfl rfl rfl ?_)))
    refine swt_act rfl (act_append_row ttab_ok rfl rfl rfl rfl rfl rfl rfl rfl rfl rfl rfl rfl rfl rfl rfl rfl (by simp [reachBytes]; try omega) (by simp; try omega) ?_)
    repeat (first | (refine swt_read ttab_ok rfl rfl (by exact True.intro) rfl ?_) | (refine swt_skip rfl rfl ?_) | (refine swt_act rfl (act_makeMap rfl rfl rfl rfl ?_)) | (refine swt_act rfl (act_box rfl rfl rfl rfl rfl rfl rfl ?_)) | (refine swt_act rfl (act_alloc ttab_ok rfl rfl rfl rfl rfl rfl ?_)) | (refine swt_act rfl (act_store ttab_ok rfl rfl rfl rfl rfl rfl rfl rfl rfl rfl ?_)) | (refine swt_act rfl (act_buildSlice ttab_ok rfl rfl rfl rfl rfl rfl rfl rfl rfl rfl rfl rfl ?_)))
    refine swt_act rfl (act_call_flat rfl rfl rfl rfl (K1) rfl rfl ?_)
    repeat (first | (refine swt_read ttab_ok rfl rfl (by exact True.intro) rfl ?_) | (refine swt_skip rfl rfl ?_) | (refine swt_act rfl (act_makeMap rfl rfl rfl rfl ?_)) | (refine swt_act rfl (act_box rfl rfl rfl rfl rfl rfl rfl ?_)) | (refine swt_act rfl (act_alloc ttab_ok rfl rfl rfl rfl rfl rfl ?_)) | (refine swt_act rfl (act_store ttab_ok rfl rfl rfl rfl rfl rfl rfl rfl rfl rfl ?_)) | (refine swt_act rfl (act_buildSlice ttab_ok rfl rfl rfl rfl rfl rfl rfl rfl rfl rfl rfl rfl ?_)))
    refine swt_nil ?_
    refine SW.wk (wk_only [0, 1, 2, 7, 8, 9, 10] [(57, 57)] rfl rfl) ?_
    (repeat refine sw_seq ?_); refine sw_region ?_
    repeat (first | (refine swt_read ttab_ok rfl rfl (by exact True.intro) rfl ?_) | (refine swt_skip rfl rfl ?_) | (refine swt_act rfl (act_makeMap rfl rfl rfl rfl ?_)) | (refine swt_act rfl (act_box rfl rfl rfl rfl rfl rfl rfl ?_)) | (refine swt_act rfl (act_alloc ttab_ok rfl rfl rfl rfl rfl rfl ?_)) | (refine swt_act rfl (act_store ttab_ok rfl rfl rfl rfl rfl rfl rfl rfl rfl rfl ?_)) | (refine swt_act rfl (act_buildSlice ttab_ok rfl rfl rfl rfl rfl rfl rfl rfl rfl rfl rfl rfl ?_)))
    refine swt_act rfl (act_append_row ttab_ok rfl rfl rfl rfl rfl rfl rfl rfl rfl rfl rfl rfl rfl rfl rfl rfl (by simp [reachBytes]; try omega) (by simp; try omega) ?_)
    repeat (first | (refine swt_read ttab_ok rfl rfl (by exact True.intro) rfl ?_) | (refine swt_skip rfl rfl ?_) | (refine swt_act rfl (act_makeMap rfl rfl rfl rfl ?_)) | (refine swt_act rfl (act_box rfl rfl rfl rfl rfl rfl rfl ?_)) | (refine swt_act rfl (act_alloc ttab_ok rfl rfl rfl rfl rfl rfl ?_)) | (refine swt_act rfl (act_store ttab_ok rfl rfl rfl rfl rfl rfl rfl rfl rfl rfl ?_)) | (refine swt_act rfl (act_buildSlice ttab_ok rfl rfl rfl rfl rfl rfl rfl rfl rfl rfl rfl rfl ?_)))
    refine swt_act rfl (act_call_flat rfl rfl rfl rfl (op_h 13) rfl rfl ?_)
    repeat (first | (refine swt_read ttab_ok rfl rfl (by exact True.intro) rfl ?_) | (refine swt_skip rfl rfl ?_) | (refine swt_act rfl (act_makeMap rfl rfl rfl rfl ?_)) | (refine swt_act rfl (act_box rfl rfl rfl rfl rfl rfl rfl ?_)) | (refine swt_act rfl (act_alloc ttab_ok rfl rfl rfl rfl rfl rfl ?_)) | (refine swt_act rfl (act_store ttab_ok rfl rfl rfl rfl rfl rfl rfl rfl rfl rfl ?_)) | (refine swt_act rfl (act_buildSlice ttab_ok rfl rfl rfl rfl rfl rfl rfl rfl rfl rfl rfl rfl ?_)))
    refine swt_act rfl (act_append_row ttab_ok rfl rfl rfl rfl rfl rfl rfl rfl rfl rfl rfl rfl rfl rfl rfl rfl (by simp [reachBytes]; try omega) (by simp; try omega) ?_)
    repeat (first | (refine swt_read ttab_ok rfl rfl (by exact True.intro) rfl ?_) | (refine swt_skip rfl rfl ?_) | (refine swt_act rfl (act_makeMap rfl rfl rfl rfl ?_)) | (refine swt_act rfl (act_box rfl rfl rfl rfl rfl rfl rfl ?_)) | (refine swt_act rfl (act_alloc ttab_ok rfl rfl rfl rfl rfl rfl ?_)) | (refine swt_act rfl (act_store ttab_ok rfl rfl rfl rfl rfl rfl rfl rfl rfl rfl ?_)) | (refine swt_act rfl (act_buildSlice ttab_ok rfl rfl rfl rfl rfl rfl rfl rfl rfl rfl rfl rfl ?_)))
    refine swt_act rfl (act_call_flat rfl rfl rfl rfl (K2) rfl rfl ?_)
    repeat (first | (refine swt_read ttab_ok rfl rfl (by exact True.intro) rfl ?_) | (refine swt_skip rfl rfl ?_) | (refine swt_act rfl (act_makeMap rfl rfl rfl rfl ?_)) | (refine swt_act rfl (act_box rfl rfl rfl rfl rfl rfl rfl ?_)) | (refine swt_act rfl (act_alloc ttab_ok rfl rfl rfl rfl rfl rfl ?_)) | (refine swt_act rfl (act_store ttab_ok rfl rfl rfl rfl rfl rfl rfl rfl rfl rfl ?_)) | (refine swt_act rfl (act_buildSlice ttab_ok rfl rfl rfl rfl rfl rfl rfl rfl rfl rfl rfl rfl ?_)))
    refine swt_nil ?_
    refine SW.wk (wk_only [0, 1, 2, 7, 8, 10, 11] [] rfl rfl) ?_
    (repeat refine sw_seq ?_); refine sw_region ?_
    repeat (first | (refine swt_read ttab_ok rfl rfl (by exact True.intro) rfl ?_) | (refine swt_skip rfl rfl ?_) | (refine swt_act rfl (act_makeMap rfl rfl rfl rfl ?_)) | (refine swt_act rfl (act_box rfl rfl rfl rfl rfl rfl rfl ?_)) | (refine swt_act rfl (act_alloc ttab_ok rfl rfl rfl rfl rfl rfl ?_)) | (refine swt_act rfl (act_store ttab_ok rfl rfl rfl rfl rfl rfl rfl rfl rfl rfl ?_)) | (refine swt_act rfl (act_buildSlice ttab_ok rfl rfl rfl rfl rfl rfl rfl rfl rfl rfl rfl rfl ?_)))
    refine swt_act rfl (act_append_row ttab_ok rfl rfl rfl rfl rfl rfl rfl rfl rfl rfl rfl rfl rfl rfl rfl rfl (by simp [reachBytes]; try omega) (by simp; try omega) ?_)
    repeat (first | (refine swt_read ttab_ok rfl rfl (by exact True.intro) rfl ?_) | (refine swt_skip rfl rfl ?_) | (refine swt_act rfl (act_makeMap rfl rfl rfl rfl ?_)) | (refine swt_act rfl (act_box rfl rfl rfl rfl rfl rfl rfl ?_)) | (refine swt_act rfl (act_alloc ttab_ok rfl rfl rfl rfl rfl rfl ?_)) | (refine swt_act rfl (act_store ttab_ok rfl rfl rfl rfl rfl rfl rfl rfl rfl rfl ?_)) | (refine swt_act rfl (act_buildSlice ttab_ok rfl rfl rfl rfl rfl rfl rfl rfl rfl rfl rfl rfl ?_)))
    refine swt_act rfl (act_call_flat rfl rfl rfl rfl (op_h 11) rfl rfl ?_)
    repeat (first | (refine swt_read ttab_ok rfl rfl (by exact True.intro) rfl ?_) | (refine swt_skip rfl rfl ?_) | (refine swt_act rfl (act_makeMap rfl rfl rfl rfl ?_)) | (refine swt_act rfl (act_box rfl rfl rfl rfl rfl rfl rfl ?_)) | (refine swt_act rfl (act_alloc ttab_ok rfl rfl rfl rfl rfl rfl ?_)) | (refine swt_act rfl (act_store ttab_ok rfl rfl rfl rfl rfl rfl rfl rfl rfl rfl ?_)) | (refine swt_act rfl (act_buildSlice ttab_ok rfl rfl rfl rfl rfl rfl rfl rfl rfl rfl rfl rfl ?_)))
    refine swt_act rfl (act_append_row ttab_ok rfl rfl rfl rfl rfl rfl rfl rfl rfl rfl rfl rfl rfl rfl rfl rfl (by simp [reachBytes]; try omega) (by simp; try omega) ?_)
    repeat (first | (refine swt_read ttab_ok rfl rfl (by exact True.intro) rfl ?_) | (refine swt_skip rfl rfl ?_) | (refine swt_act rfl (act_makeMap rfl rfl rfl rfl ?_)) | (refine swt_act rfl (act_box rfl rfl rfl rfl rfl rfl rfl ?_)) | (refine swt_act rfl (act_alloc ttab_ok rfl rfl rfl rfl rfl rfl ?_)) | (refine swt_act rfl (act_store ttab_ok rfl rfl rfl rfl rfl rfl rfl rfl rfl rfl ?_)) | (refine swt_act rfl (act_buildSlice ttab_ok rfl rfl rfl rfl rfl rfl rfl rfl rfl rfl rfl rfl ?_)))
    refine swt_act rfl (act_call_flat rfl rfl rfl rfl (K3) rfl rfl ?_)
    repeat (first | (refine swt_read ttab_ok rfl rfl (by exact True.intro) rfl ?_) | (refine swt_skip rfl rfl ?_) | (refine swt_act rfl (act_makeMap rfl rfl rfl rfl ?_)) | (refine swt_act rfl (act_box rfl rfl rfl rfl rfl rfl rfl ?_)) | (refine swt_act rfl (act_alloc ttab_ok rfl rfl rfl rfl rfl rfl ?_)) | (refine swt_act rfl (act_store ttab_ok rfl rfl rfl rfl rfl rfl rfl rfl rfl rfl ?_)) | (refine swt_act rfl (act_buildSlice ttab_ok rfl rfl rfl rfl rfl rfl rfl rfl rfl rfl rfl rfl ?_)))
    refine swt_nil ?_
    refine SW.wk (wk_only [7, 8, 10, 11, 12] [] rfl rfl) ?_
    (repeat refine sw_seq ?_); refine sw_region ?_
    repeat (first | (refine swt_read ttab_ok rfl rfl (by exact True.intro) rfl ?_) | (refine swt_skip rfl rfl ?_) | (refine swt_act rfl (act_makeMap rfl rfl rfl rfl ?_)) | (refine swt_act rfl (act_box rfl rfl rfl rfl rfl rfl rfl ?_)) | (refine swt_act rfl (act_alloc ttab_ok rfl rfl rfl rfl rfl rfl ?_)) | (refine swt_act rfl (act_store ttab_ok rfl rfl rfl rfl rfl rfl rfl rfl rfl rfl ?_)) | (refine swt_act rfl (act_buildSlice ttab_ok rfl rfl rfl rfl rfl rfl rfl rfl rfl rfl rfl rfl ?_)))
    simp only [e1]
    repeat (first | (refine swt_read ttab_ok rfl rfl (by exact True.intro) rfl ?_) | (refine swt_skip rfl rfl ?_) | (refine swt_act rfl (act_makeMap rfl rfl rfl rfl ?_)) | (refine swt_act rfl (act_box rfl rfl rfl rfl rfl rfl rfl ?_)) | (refine swt_act rfl (act_alloc ttab_ok rfl rfl rfl rfl rfl rfl ?_)) | (refine swt_act rfl (act_store ttab_ok rfl rfl rfl rfl rfl rfl rfl rfl rfl rfl ?_)) | (refine swt_act rfl (act_buildSlice ttab_ok rfl rfl rfl rfl rfl rfl rfl rfl rfl rfl rfl rfl ?_)))
    simp only [e2]
    repeat (first | (refine swt_read ttab_ok rfl rfl (by exact True.intro) rfl ?_) | (refine swt_skip rfl rfl ?_) | (refine swt_act rfl (act_makeMap rfl rfl rfl rfl ?_)) | (refine swt_act rfl (act_box rfl rfl rfl rfl rfl rfl rfl ?_)) | (refine swt_act rfl (act_alloc ttab_ok rfl rfl rfl rfl rfl rfl ?_)) | (refine swt_act rfl (act_store ttab_ok rfl rfl rfl rfl rfl rfl rfl rfl rfl rfl ?_)) | (refine swt_act rfl (act_buildSlice ttab_ok rfl rfl rfl rfl rfl rfl rfl rfl rfl rfl rfl rfl ?_)))
    simp only [e3]
    repeat (first | (refine swt_read ttab_ok rfl rfl (by exact True.intro) rfl ?_) | (refine swt_skip rfl rfl ?_) | (refine swt_act rfl (act_makeMap rfl rfl rfl rfl ?_)) | (refine swt_act rfl (act_box rfl rfl rfl rfl rfl rfl rfl ?_)) | (refine swt_act rfl (act_alloc ttab_ok rfl rfl rfl rfl rfl rfl ?_)) | (refine swt_act rfl (act_store ttab_ok rfl rfl rfl rfl rfl rfl rfl rfl rfl rfl ?_)) | (refine swt_act rfl (act_buildSlice ttab_ok rfl rfl rfl rfl rfl rfl rfl rfl rfl rfl rfl rfl ?_)))
    refine swt_act rfl (act_call_flat rfl rfl rfl rfl (exprRuns_h) rfl rfl ?_)
    repeat (first | (refine swt_read ttab_ok rfl rfl (by exact True.intro) rfl ?_) | (refine swt_skip rfl rfl ?_) | (refine swt_act rfl (act_makeMap rfl rfl rfl rfl ?_)) | (refine swt_act rfl (act_box rfl rfl rfl rfl rfl rfl rfl ?_)) | (refine swt_act rfl (act_alloc ttab_ok rfl rfl rfl rfl rfl rfl ?_)) | (refine swt_act rfl (act_store ttab_ok rfl rfl rfl rfl rfl rfl rfl rfl rfl rfl ?_)) | (refine swt_act rfl (act_buildSlice ttab_ok rfl rfl rfl rfl rfl rfl rfl rfl rfl rfl rfl rfl ?_)))
    refine swt_nil ?_
    (repeat refine sw_seq ?_); refine sw_ret ?_
    exact fin_b rfl rfl
end Go.Proofs.Ytjpcchipejmocaa
