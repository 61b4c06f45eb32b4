/-
  Layer 8's law PolicyTells: the walk, by shades.
-/
import Derived.Test.YtjpcchipejmocaaSh
import Derived.Test.YtjpcchipejmocaaKeepH
import Derived.Test.YtjpcchipejmocaaPolRuns
import Derived.Test.YtjpcchipejmocaaWithin
namespace Go.Proofs.Ytjpcchipejmocaa
set_option linter.unusedVariables false
set_option linter.unusedSimpArgs false
open Go.RowKit
set_option maxHeartbeats 4000000
theorem polTells_h {n : Nat} (p : Pol) (hf : PolF n p) (a : Atr) (ha : a.Fit) (l : List Nod) (hlf : ∀ x ∈ l, x.Fit) (o : List Obli) (hof : ∀ x ∈ o, x.Fit) : Holds Try.prog 10 [.agg (polP p), .agg a.pv, nodsP l, oblsP o] (.p (pB true)) [] := by
  have hS := small_h p hf
  have hf4 := polF_fit 4 hf
  have hR := right_h p hf4
  have hC0 := fun h => copy_h n p hf h
  have hRR0 := fun h => refPolicy_h p hf4 h
  have hP0 := fun h => samePol_all n p hf h
  have hTS := target_h p.target hf4.1.tgt
  rw [polP_eq] at hS hR hC0 hRR0 hP0 ⊢
  refine holds_of (ts := [8]) Try.func10 (by kernel_rfl) rfl rfl rfl ?_
  (repeat refine sw_seq ?_); refine sw_region ?_
  repeat (first | refine sR (h := ?_) | refine sK (h := ?_) | refine sT (h := aM (h := ?_)) | refine sT (h := aB (h := ?_)) | refine sT (h := aA (h := ?_)) | refine sT (h := aS (h := ?_)) | refine sT (h := aL (h := ?_)))
  refine swt_nil ?_
  (repeat refine sw_seq ?_); refine sw_region ?_
  repeat (first | refine sR (h := ?_) | refine sK (h := ?_) | refine sT (h := aM (h := ?_)) | refine sT (h := aB (h := ?_)) | refine sT (h := aA (h := ?_)) | refine sT (h := aS (h := ?_)) | refine sT (h := aL (h := ?_)))
  refine swt_act rfl (act_call_E rfl rfl rfl rfl (hS) rfl ?_)
  rintro _ ⟨b1, rfl, hsz⟩
  cases b1 with
  | false =>
    repeat (first | refine sR (h := ?_) | refine sK (h := ?_) | refine sT (h := aM (h := ?_)) | refine sT (h := aB (h := ?_)) | refine sT (h := aA (h := ?_)) | refine sT (h := aS (h := ?_)) | refine sT (h := aL (h := ?_)))
    refine swt_nil ?_
    (repeat refine sw_seq ?_); refine sw_cond rfl (fun hc => ?_) (fun hc => ?_)
    · (repeat refine sw_seq ?_); refine sw_region ?_
      repeat (first | refine sR (h := ?_) | refine sK (h := ?_) | refine sT (h := aM (h := ?_)) | refine sT (h := aB (h := ?_)) | refine sT (h := aA (h := ?_)) | refine sT (h := aS (h := ?_)) | refine sT (h := aL (h := ?_)))
      refine swt_act rfl (act_call_flat rfl rfl rfl rfl (polRuns_h) rfl rfl ?_)
      repeat (first | refine sR (h := ?_) | refine sK (h := ?_) | refine sT (h := aM (h := ?_)) | refine sT (h := aB (h := ?_)) | refine sT (h := aA (h := ?_)) | refine sT (h := aS (h := ?_)) | refine sT (h := aL (h := ?_)))
      refine swt_nil ?_
      (repeat refine sw_seq ?_); refine sw_ret ?_
      exact fin_b rfl rfl
    · cases hc
  | true =>
    repeat (first | refine sR (h := ?_) | refine sK (h := ?_) | refine sT (h := aM (h := ?_)) | refine sT (h := aB (h := ?_)) | refine sT (h := aA (h := ?_)) | refine sT (h := aS (h := ?_)) | refine sT (h := aL (h := ?_)))
    by_cases hn : a.name.size ≤ 100
    rotate_left
    · rw [show decide ((a.name.size : Int) > 100) = true by simp; omega]
      repeat (first | refine sR (h := ?_) | refine sK (h := ?_) | refine sT (h := aM (h := ?_)) | refine sT (h := aB (h := ?_)) | refine sT (h := aA (h := ?_)) | refine sT (h := aS (h := ?_)) | refine sT (h := aL (h := ?_)))
      refine swt_nil ?_
      (repeat refine sw_seq ?_); refine sw_cond rfl (fun hc => ?_) (fun hc => ?_)
      · (repeat refine sw_seq ?_); refine sw_region ?_
        repeat (first | refine sR (h := ?_) | refine sK (h := ?_) | refine sT (h := aM (h := ?_)) | refine sT (h := aB (h := ?_)) | refine sT (h := aA (h := ?_)) | refine sT (h := aS (h := ?_)) | refine sT (h := aL (h := ?_)))
        refine swt_act rfl (act_call_flat rfl rfl rfl rfl (polRuns_h) rfl rfl ?_)
        repeat (first | refine sR (h := ?_) | refine sK (h := ?_) | refine sT (h := aM (h := ?_)) | refine sT (h := aB (h := ?_)) | refine sT (h := aA (h := ?_)) | refine sT (h := aS (h := ?_)) | refine sT (h := aL (h := ?_)))
        refine swt_nil ?_
        (repeat refine sw_seq ?_); refine sw_ret ?_
        exact fin_b rfl rfl
      · cases hc
    rw [show decide ((a.name.size : Int) > 100) = false by simp; omega]
    repeat (first | refine sR (h := ?_) | refine sK (h := ?_) | refine sT (h := aM (h := ?_)) | refine sT (h := aB (h := ?_)) | refine sT (h := aA (h := ?_)) | refine sT (h := aS (h := ?_)) | refine sT (h := aL (h := ?_)))
    refine swt_nil ?_
    (repeat refine sw_seq ?_); refine sw_cond rfl (fun hc => ?_) (fun hc => ?_)
    · cases hc
    refine sw_skip ?_
    (repeat refine sw_seq ?_); refine sw_region_draw [] [(0, true), (1, true), (2, true), (3, true), (4, true), (5, true), (6, true), (7, true), (8, true), (9, true), (10, true), (11, true)] (by kernel_rfl) (by kernel_rfl) (by kernel_rfl) ?_
    repeat (first | refine mR (h := ?_) | refine mK (h := ?_) | refine mT (h := aM (h := ?_)) | refine mT (h := aB (h := ?_)) | refine mT (h := aA (h := ?_)) | refine mT (h := aS (h := ?_)) | refine mT (h := aL (h := ?_)))
    refine swm_read ttab_ok rfl rfl rfl (by simp only [List.length_map]; split <;> omega) rfl ?_
    rw [slice_min Nod.pv l 60 60 rfl]
    repeat (first | refine mR (h := ?_) | refine mK (h := ?_) | refine mT (h := aM (h := ?_)) | refine mT (h := aB (h := ?_)) | refine mT (h := aA (h := ?_)) | refine mT (h := aS (h := ?_)) | refine mT (h := aL (h := ?_)))
    refine swm_read ttab_ok rfl rfl rfl (by simp only [List.length_map]; split <;> omega) rfl ?_
    rw [slice_min Obli.pv o 30 30 rfl]
    repeat (first | refine mR (h := ?_) | refine mK (h := ?_) | refine mT (h := aM (h := ?_)) | refine mT (h := aB (h := ?_)) | refine mT (h := aA (h := ?_)) | refine mT (h := aS (h := ?_)) | refine mT (h := aL (h := ?_)))
    refine swm_nil ?_
    refine SW.wk (wk_only [2, 3, 4, 5] [(4, 4), (5, 5)] rfl rfl) ?_
    replace hlf : ∀ x ∈ l.take 60, x.Fit := fun x hx => hlf x (List.mem_of_mem_take hx)
    replace hof : ∀ x ∈ o.take 30, x.Fit := fun x hx => hof x (List.mem_of_mem_take hx)
    have hl60 : (l.take 60).length ≤ 60 := by simp; omega
    generalize l.take 60 = l at *
    generalize o.take 30 = o at *
    have hsz := hsz rfl
    have hC := hC0 hsz
    have hRR := hRR0 hsz
    have hP := hP0 hsz
    obtain ⟨ht, _⟩ := sz_facts hsz (Nat.le_refl _)
    have hRT := refTarget_h p.target hf4.1.tgt (tarL_reach ht)
    clear hC0 hRR0 hP0
    (repeat refine sw_seq ?_); refine sw_region ?_
    repeat (first | refine sR (h := ?_) | refine sK (h := ?_) | refine sT (h := aM (h := ?_)) | refine sT (h := aB (h := ?_)) | refine sT (h := aA (h := ?_)) | refine sT (h := aS (h := ?_)) | refine sT (h := aL (h := ?_)))
    refine swt_act rfl (act_call rfl rfl rfl rfl (hC) rfl rfl rfl ?_)
    repeat (first | refine sR (h := ?_) | refine sK (h := ?_) | refine sT (h := aM (h := ?_)) | refine sT (h := aB (h := ?_)) | refine sT (h := aA (h := ?_)) | refine sT (h := aS (h := ?_)) | refine sT (h := aL (h := ?_)))
    refine swt_nil ?_
    refine SW.wk ((wk_frz (k := 33000) rfl).trans (wk_frz (k := 33001) rfl)) ?_
    refine SW.wk (wk_only [2, 3, 4, 5, 9] [(4, 4), (5, 5), (9, 9)] rfl rfl) ?_
    (repeat refine sw_seq ?_); refine sw_region_draw [] [(0, true), (2, true), (1, false), (3, false), (4, true), (5, true), (6, true), (8, true), (7, false), (9, false), (10, true), (11, true), (12, true), (13, true), (15, true), (14, false), (16, false), (17, true), (18, true), (19, true), (20, true), (22, true), (21, false), (23, false), (24, true), (25, true), (26, true), (27, true), (28, true), (30, true), (31, true), (29, false), (32, false), (33, true), (34, true), (35, true)] (by kernel_rfl) (by kernel_rfl) (by kernel_rfl) ?_
    repeat (first | refine mR (h := ?_) | refine mK (h := ?_) | refine mT (h := aM (h := ?_)) | refine mT (h := aB (h := ?_)) | refine mT (h := aA (h := ?_)) | refine mT (h := aS (h := ?_)) | refine mT (h := aL (h := ?_)))
    refine swm_act rfl rfl rfl (act_call_flat rfl rfl rfl rfl (hR) rfl rfl ?_)
    repeat (first | refine mR (h := ?_) | refine mK (h := ?_) | refine mT (h := aM (h := ?_)) | refine mT (h := aB (h := ?_)) | refine mT (h := aA (h := ?_)) | refine mT (h := aS (h := ?_)) | refine mT (h := aL (h := ?_)))
    refine swm_act rfl rfl rfl (act_call_flat rfl rfl rfl rfl (hRR) rfl rfl ?_)
    repeat (first | refine mR (h := ?_) | refine mK (h := ?_) | refine mT (h := aM (h := ?_)) | refine mT (h := aB (h := ?_)) | refine mT (h := aA (h := ?_)) | refine mT (h := aS (h := ?_)) | refine mT (h := aL (h := ?_)))
    rw [show (rightS p == rightS p) = true by simp]
    repeat (first | refine mR (h := ?_) | refine mK (h := ?_) | refine mT (h := aM (h := ?_)) | refine mT (h := aB (h := ?_)) | refine mT (h := aA (h := ?_)) | refine mT (h := aS (h := ?_)) | refine mT (h := aL (h := ?_)))
    refine swm_act rfl rfl rfl (act_call_flat rfl rfl rfl rfl (attr_h a ha.name) rfl rfl ?_)
    repeat (first | refine mR (h := ?_) | refine mK (h := ?_) | refine mT (h := aM (h := ?_)) | refine mT (h := aB (h := ?_)) | refine mT (h := aA (h := ?_)) | refine mT (h := aS (h := ?_)) | refine mT (h := aL (h := ?_)))
    refine swm_act rfl rfl rfl (act_call_flat rfl rfl rfl rfl (refAttr_h a ha.name) rfl rfl ?_)
    repeat (first | refine mR (h := ?_) | refine mK (h := ?_) | refine mT (h := aM (h := ?_)) | refine mT (h := aB (h := ?_)) | refine mT (h := aA (h := ?_)) | refine mT (h := aS (h := ?_)) | refine mT (h := aL (h := ?_)))
    rw [show (attrS a == attrS a) = true by simp]
    repeat (first | refine mR (h := ?_) | refine mK (h := ?_) | refine mT (h := aM (h := ?_)) | refine mT (h := aB (h := ?_)) | refine mT (h := aA (h := ?_)) | refine mT (h := aS (h := ?_)) | refine mT (h := aL (h := ?_)))
    refine swm_act rfl rfl rfl (act_call_flat rfl rfl rfl rfl (expr_h l hlf) rfl rfl ?_)
    repeat (first | refine mR (h := ?_) | refine mK (h := ?_) | refine mT (h := aM (h := ?_)) | refine mT (h := aB (h := ?_)) | refine mT (h := aA (h := ?_)) | refine mT (h := aS (h := ?_)) | refine mT (h := aL (h := ?_)))
    refine swm_act rfl rfl rfl (act_call_flat rfl rfl rfl rfl (refExpr_h l hlf (by omega)) rfl rfl ?_)
    repeat (first | refine mR (h := ?_) | refine mK (h := ?_) | refine mT (h := aM (h := ?_)) | refine mT (h := aB (h := ?_)) | refine mT (h := aA (h := ?_)) | refine mT (h := aS (h := ?_)) | refine mT (h := aL (h := ?_)))
    rw [show (exprS l == exprS l) = true by simp]
    repeat (first | refine mR (h := ?_) | refine mK (h := ?_) | refine mT (h := aM (h := ?_)) | refine mT (h := aB (h := ?_)) | refine mT (h := aA (h := ?_)) | refine mT (h := aS (h := ?_)) | refine mT (h := aL (h := ?_)))
    refine swm_act rfl rfl rfl (act_call_flat rfl rfl rfl rfl (obls_h o hof) rfl rfl ?_)
    repeat (first | refine mR (h := ?_) | refine mK (h := ?_) | refine mT (h := aM (h := ?_)) | refine mT (h := aB (h := ?_)) | refine mT (h := aA (h := ?_)) | refine mT (h := aS (h := ?_)) | refine mT (h := aL (h := ?_)))
    refine swm_act rfl rfl rfl (act_call_flat rfl rfl rfl rfl (refObls_h o hof) rfl rfl ?_)
    repeat (first | refine mR (h := ?_) | refine mK (h := ?_) | refine mT (h := aM (h := ?_)) | refine mT (h := aB (h := ?_)) | refine mT (h := aA (h := ?_)) | refine mT (h := aS (h := ?_)) | refine mT (h := aL (h := ?_)))
    rw [show (oblsS o == oblsS o) = true by simp]
    repeat (first | refine mR (h := ?_) | refine mK (h := ?_) | refine mT (h := aM (h := ?_)) | refine mT (h := aB (h := ?_)) | refine mT (h := aA (h := ?_)) | refine mT (h := aS (h := ?_)) | refine mT (h := aL (h := ?_)))
    refine swm_act rfl rfl rfl (act_call_flat rfl rfl rfl rfl (hTS) rfl rfl ?_)
    repeat (first | refine mR (h := ?_) | refine mK (h := ?_) | refine mT (h := aM (h := ?_)) | refine mT (h := aB (h := ?_)) | refine mT (h := aA (h := ?_)) | refine mT (h := aS (h := ?_)) | refine mT (h := aL (h := ?_)))
    refine swm_act rfl rfl rfl (act_call_flat rfl rfl rfl rfl (hRT) rfl rfl ?_)
    repeat (first | refine mR (h := ?_) | refine mK (h := ?_) | refine mT (h := aM (h := ?_)) | refine mT (h := aB (h := ?_)) | refine mT (h := aA (h := ?_)) | refine mT (h := aS (h := ?_)) | refine mT (h := aL (h := ?_)))
    rw [show (targetS p.target == targetS p.target) = true by simp]
    repeat (first | refine mR (h := ?_) | refine mK (h := ?_) | refine mT (h := aM (h := ?_)) | refine mT (h := aB (h := ?_)) | refine mT (h := aA (h := ?_)) | refine mT (h := aS (h := ?_)) | refine mT (h := aL (h := ?_)))
    refine swm_nil ?_
    (repeat refine sw_seq ?_); refine sw_region ?_
    repeat (first | refine sR (h := ?_) | refine sK (h := ?_) | refine sT (h := aM (h := ?_)) | refine sT (h := aB (h := ?_)) | refine sT (h := aA (h := ?_)) | refine sT (h := aS (h := ?_)) | refine sT (h := aL (h := ?_)))
    refine swt_act rfl (act_call_flat rfl rfl rfl rfl (hP) rfl rfl ?_)
    repeat (first | refine sR (h := ?_) | refine sK (h := ?_) | refine sT (h := aM (h := ?_)) | refine sT (h := aB (h := ?_)) | refine sT (h := aA (h := ?_)) | refine sT (h := aS (h := ?_)) | refine sT (h := aL (h := ?_)))
    refine swt_act rfl (act_call_flat rfl rfl rfl rfl (polRuns_h) rfl rfl ?_)
    repeat (first | refine sR (h := ?_) | refine sK (h := ?_) | refine sT (h := aM (h := ?_)) | refine sT (h := aB (h := ?_)) | refine sT (h := aA (h := ?_)) | refine sT (h := aS (h := ?_)) | refine sT (h := aL (h := ?_)))
    refine swt_nil ?_
    (repeat refine sw_seq ?_); refine sw_ret ?_
    exact fin_b rfl rfl
end Go.Proofs.Ytjpcchipejmocaa
