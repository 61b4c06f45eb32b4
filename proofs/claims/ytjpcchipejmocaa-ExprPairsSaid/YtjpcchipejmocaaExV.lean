/-
  Layer 12 (expr): the value of an expression; conditions; by shades.
-/
import Derived.Test.YtjpcchipejmocaaSh
import Derived.Test.YtjpcchipejmocaaExN
import Derived.Test.YtjpcchipejmocaaPolE
namespace Go.Proofs.Ytjpcchipejmocaa
open Go.RowKit
set_option maxHeartbeats 4000000
theorem node_h (n : Nod) (S : List Itm) (lo : Nat) (g : List Giv) (hlo : lo + operandsS n.op = S.length) (hl : S.length ≤ 1000000) (hS : ∀ x ∈ S, x.Fit) (hgn : g.length ≤ 1000000) (hb : ∀ x ∈ g, x.bag.length ≤ 1000000) (hop : 1 ≤ n.op ∧ n.op ≤ 13) :
    HoldsW Try.prog 46 [.p (.agg n.pv), .view 1000000 5 lo S.length, .p (givsP g)] (itmRow S) (.p (.agg (nodeS n (S.drop lo) g).pv)) (itmRow S) := by
  obtain ⟨op, val, attr⟩ := n
  simp only at hop hlo
  rcases (show op = 1 ∨ op = 2 ∨ op = 3 ∨ op = 4 ∨ op = 5 ∨ op = 6 ∨ op = 7 ∨ op = 8 ∨ op = 9 ∨ op = 10 ∨ op = 11 ∨ op = 12 ∨ op = 13 by omega) with rfl | rfl | rfl | rfl | rfl | rfl | rfl | rfl | rfl | rfl | rfl | rfl | rfl
  · exact node_lit val attr S lo g
  · exact node_attr val attr S lo g hgn hb
  · exact node_one_h val attr S lo g hlo hl
  · exact node_size_h val attr S lo g hlo hl
  · exact node_has_h val attr S lo g hlo hl hS
  · exact node_6_h val attr S lo g hl (by omega) hS
  · exact node_7_h val attr S lo g hl (by omega) hS
  · exact node_8_h val attr S lo g hl (by omega) hS
  · exact node_9_h val attr S lo g hl (by omega) hS
  · exact node_10_h val attr S lo g hl (by omega) hS
  · exact node_11_h val attr S lo g hl (by omega) hS
  · exact node_12_h val attr S lo g hl hlo hS
  · exact node_13_h val attr S lo g hl hlo hS
theorem stepS_op {l l' : List Bool} {n : Nod} (h : stepS l n = some l') : (1 ≤ n.op ∧ n.op ≤ 13) ∧ operandsS n.op ≤ l.length := by
  unfold stepS at h
  split at h
  · cases h
  · rename_i w hw
    split at h
    · rename_i hc
      have := operandsS_wants hw
      refine ⟨?_, by omega⟩
      unfold wantsS at hw
      repeat' split at hw
      all_goals first | omega | cases hw
    · cases h
theorem value_h (l : List Nod) (g : List Giv) (hf : ∀ x ∈ l, x.Fit) (hgf : ∀ x ∈ g, x.Fit) (hgn : g.length ≤ 1000000) (hb : ∀ x ∈ g, x.bag.length ≤ 1000000) : Holds Try.prog 17 [nodsP l, givsP g] (.tup [.p (.agg (valueS l g).1.pv), .p (pI (valueS l g).2)]) [] := by
  refine .ofW ?_
  by_cases hl0 : l = []
  · subst hl0
    have e : valueS [] g = (noVal, 1) := rfl
    rw [e]
    refine holdsC_of (T := TTab) ttab_ok Try.func17 (by kernel_rfl) rfl rfl rfl ?_
    (repeat refine sw_seq ?_); refine sw_region ?_
    repeat (first | refine sR (h := ?_) | refine sK (h := ?_) | refine sT (h := aM (h := ?_)) | refine sT (h := aB (h := ?_)) | refine sT (h := aA (h := ?_)) | refine sT (h := aS (h := ?_)) | refine sT (h := aL (h := ?_)))
    refine swt_nil ?_
    (repeat refine sw_seq ?_); refine sw_region ?_
    repeat (first | refine sR (h := ?_) | refine sK (h := ?_) | refine sT (h := aM (h := ?_)) | refine sT (h := aB (h := ?_)) | refine sT (h := aA (h := ?_)) | refine sT (h := aS (h := ?_)) | refine sT (h := aL (h := ?_)))
    refine swt_nil ?_
    (repeat refine sw_seq ?_); refine sw_cond rfl (fun h => ?_) (fun h => ?_)
    · (repeat refine sw_seq ?_); refine sw_region ?_
      repeat (first | refine sR (h := ?_) | refine sK (h := ?_) | refine sT (h := aM (h := ?_)) | refine sT (h := aB (h := ?_)) | refine sT (h := aA (h := ?_)) | refine sT (h := aS (h := ?_)) | refine sT (h := aL (h := ?_)))
      refine swt_nil ?_
      (repeat refine sw_seq ?_); refine sw_ret ?_
      exact ⟨Or.inr rfl, _, _, [], _, Wk.refl _, rfl, rfl, .refl _, rfl, rfl⟩
    · cases h
  · have lm : (l.map Nod.pv).length = l.length := by simp
    have hpos : 0 < l.length := List.length_pos_iff.2 hl0
    refine holdsC_of (T := TTab) ttab_ok Try.func17 (by kernel_rfl) rfl rfl rfl ?_
    (repeat refine sw_seq ?_); refine sw_region ?_
    repeat (first | refine sR (h := ?_) | refine sK (h := ?_) | refine sT (h := aM (h := ?_)) | refine sT (h := aB (h := ?_)) | refine sT (h := aA (h := ?_)) | refine sT (h := aS (h := ?_)) | refine sT (h := aL (h := ?_)))
    refine swt_nil ?_
    (repeat refine sw_seq ?_); refine sw_region ?_
    repeat (first | refine sR (h := ?_) | refine sK (h := ?_) | refine sT (h := aM (h := ?_)) | refine sT (h := aB (h := ?_)) | refine sT (h := aA (h := ?_)) | refine sT (h := aS (h := ?_)) | refine sT (h := aL (h := ?_)))
    rw [show (((l.map Nod.pv).length : Int) == 0) = false by rw [lm]; simp; exact hl0]
    repeat (first | refine sR (h := ?_) | refine sK (h := ?_) | refine sT (h := aM (h := ?_)) | refine sT (h := aB (h := ?_)) | refine sT (h := aA (h := ?_)) | refine sT (h := aS (h := ?_)) | refine sT (h := aL (h := ?_)))
    refine swt_act rfl (act_call_flat rfl rfl rfl rfl (expr_h l hf) rfl rfl ?_)
    repeat (first | refine sR (h := ?_) | refine sK (h := ?_) | refine sT (h := aM (h := ?_)) | refine sT (h := aB (h := ?_)) | refine sT (h := aA (h := ?_)) | refine sT (h := aS (h := ?_)) | refine sT (h := aL (h := ?_)))
    refine swt_nil ?_
    (repeat refine sw_seq ?_); refine sw_cond rfl (fun h => ?_) (fun h => ?_)
    · have h0 : exprS l ≠ 0 := by simpa using h
      have e : valueS l g = (noVal, 1) := by unfold valueS; rw [if_pos (.inr h0)]
      rw [e]
      (repeat refine sw_seq ?_); refine sw_region ?_
      repeat (first | refine sR (h := ?_) | refine sK (h := ?_) | refine sT (h := aM (h := ?_)) | refine sT (h := aB (h := ?_)) | refine sT (h := aA (h := ?_)) | refine sT (h := aS (h := ?_)) | refine sT (h := aL (h := ?_)))
      refine swt_nil ?_
      (repeat refine sw_seq ?_); refine sw_ret ?_
      exact ⟨Or.inr rfl, _, _, [], _, Wk.refl _, rfl, rfl, .refl _, rfl, rfl⟩
    · have h0 : exprS l = 0 := by simpa using h
      obtain ⟨hst, hl32⟩ := eExpr_made h0 hl0
      refine sw_skip ?_
      (repeat refine sw_seq ?_); refine sw_region ?_
      repeat (first | refine sR (h := ?_) | refine sK (h := ?_) | refine sT (h := aM (h := ?_)) | refine sT (h := aB (h := ?_)) | refine sT (h := aA (h := ?_)) | refine sT (h := aS (h := ?_)) | refine sT (h := aL (h := ?_)))
      refine swt_nil ?_
      (repeat refine sw_seq ?_); refine sw_region ?_
      repeat (first | refine sR (h := ?_) | refine sK (h := ?_) | refine sT (h := aM (h := ?_)) | refine sT (h := aB (h := ?_)) | refine sT (h := aA (h := ?_)) | refine sT (h := aS (h := ?_)) | refine sT (h := aL (h := ?_)))
      refine swt_nil ?_
      (repeat refine sw_seq ?_); refine sw_block ?_
      refine SW.wk (wk_nil 6 900 87 5 rfl rfl) ?_
      refine SW.wk (wk_only [1, 4, 5, 6, 19, 20, 21] [(4, 4), (900, 0)] rfl rfl) ?_
      refine sw_loop (fun m s => ∃ (k : Nat) (kk : Int) (S : List Itm) (made : List Bool), k ≤ l.length ∧ m = l.length - k ∧ kk = k ∧ S = evalI g (l.take k) ∧ stepsS [] (l.take k) = some made ∧ S.length = made.length ∧ made.length ≤ k ∧ (∀ x ∈ S, x.Fit) ∧ s = ⟨51, [(1, .p (givsP g)), (4, .ptr 4 0), (5, .p (pI 0)), (6, .row 0), (19, .p (nodsP l)), (20, .p (pI (l.map Nod.pv).length)), (21, .p (pI kk))], [(4, .cells (noVal.pv.map .p)), (0, .row 87 5 (S.map Itm.pv))]⟩) l.length ⟨0, 0, [], [], Nat.zero_le _, rfl, rfl, rfl, by simp [stepsS], rfl, Nat.le_refl _, by simp, rfl⟩ ?_
      rintro m s ⟨k, _, S, made, hk, rfl, rfl, hSe, ha, hSl, hml, hS, rfl⟩
      (repeat refine sw_seq ?_); refine sw_region ?_
      repeat (first | refine sR (h := ?_) | refine sK (h := ?_) | refine sT (h := aM (h := ?_)) | refine sT (h := aB (h := ?_)) | refine sT (h := aA (h := ?_)) | refine sT (h := aS (h := ?_)) | refine sT (h := aL (h := ?_)))
      refine swt_nil ?_
      (repeat refine sw_seq ?_); refine sw_cond rfl (fun hlt => ?_) (fun hlt => ?_)
      · refine sw_skip ?_
        rw [lm] at hlt
        simp only [decide_eq_true_eq] at hlt
        have hlt' : k < l.length := by omega
        have hst2 := stepsS_some hlt' ha
        cases hs : stepS made l[k] with
        | none =>
          rw [hs] at hst2
          rw [stepsS_none (k + 1) hst2] at hst
          cases hst
        | some made' =>
          rw [hs] at hst2
          obtain ⟨hop, hopl⟩ := stepS_op hs
          obtain ⟨hSl', _⟩ := stepI_len (g := g) hSl hs
          have lmS : (S.map Itm.pv).length = S.length := by simp
          obtain ⟨left, hleft⟩ : ∃ left : Nat, left + operandsS l[k].op = S.length := ⟨S.length - operandsS l[k].op, by omega⟩
          have hml' := stepS_len hs
          (repeat refine sw_seq ?_); refine sw_block ?_
          (repeat refine sw_seq ?_); refine sw_region ?_
          repeat (first | refine sR (h := ?_) | refine sK (h := ?_) | refine sT (h := aM (h := ?_)) | refine sT (h := aB (h := ?_)) | refine sT (h := aA (h := ?_)) | refine sT (h := aS (h := ?_)) | refine sT (h := aL (h := ?_)))
          refine swt_read ttab_ok rfl rfl (by rw [lm]; omega) rfl ?_
          rw [getD_map hlt']
          repeat (first | refine sR (h := ?_) | refine sK (h := ?_) | refine sT (h := aM (h := ?_)) | refine sT (h := aB (h := ?_)) | refine sT (h := aA (h := ?_)) | refine sT (h := aS (h := ?_)) | refine sT (h := aL (h := ?_)))
          refine swt_nil ?_
          (repeat refine sw_seq ?_); refine sw_region ?_
          repeat (first | refine sR (h := ?_) | refine sK (h := ?_) | refine sT (h := aM (h := ?_)) | refine sT (h := aB (h := ?_)) | refine sT (h := aA (h := ?_)) | refine sT (h := aS (h := ?_)) | refine sT (h := aL (h := ?_)))
          refine swt_act rfl (act_call_flat rfl rfl rfl rfl (operands_h l[k].op) rfl rfl ?_)
          repeat (first | refine sR (h := ?_) | refine sK (h := ?_) | refine sT (h := aM (h := ?_)) | refine sT (h := aB (h := ?_)) | refine sT (h := aA (h := ?_)) | refine sT (h := aS (h := ?_)) | refine sT (h := aL (h := ?_)))
          rw [show IntKind.i64.wrap (((S.map Itm.pv).length : Int) - (operandsS l[k].op : Int)) = (left : Int) by rw [lmS, IntWalk.i64_in _ (by omega)]; omega]
          refine swt_nil ?_
          (repeat refine sw_seq ?_); refine sw_region_draw [0] [(0, true), (1, true), (2, true), (3, true), (4, true), (5, true), (6, true), (7, true), (8, false), (9, false), (10, false), (11, true)] (by kernel_rfl) (by kernel_rfl) (by kernel_rfl) ?_
          repeat (first | refine mR (h := ?_) | refine mK (h := ?_) | refine mT (h := aM (h := ?_)) | refine mT (h := aB (h := ?_)) | refine mT (h := aA (h := ?_)) | refine mT (h := aS (h := ?_)) | refine mT (h := aL (h := ?_)))
          refine swm_read ttab_ok rfl rfl rfl (by rw [lmS]; omega) rfl ?_
          repeat (first | refine mR (h := ?_) | refine mK (h := ?_) | refine mT (h := aM (h := ?_)) | refine mT (h := aB (h := ?_)) | refine mT (h := aA (h := ?_)) | refine mT (h := aS (h := ?_)) | refine mT (h := aL (h := ?_)))
          refine swm_read ttab_ok rfl rfl rfl (by rw [lmS]; omega) rfl ?_
          rw [lmS]
          repeat (first | refine mR (h := ?_) | refine mK (h := ?_) | refine mT (h := aM (h := ?_)) | refine mT (h := aB (h := ?_)) | refine mT (h := aA (h := ?_)) | refine mT (h := aS (h := ?_)) | refine mT (h := aL (h := ?_)))
          refine swm_act rfl rfl rfl (act_call_W [(0, 1000000)] rfl rfl rfl rfl rfl rfl (node_h l[k] S left g hleft (by omega) hS hgn hb hop) rfl rfl rfl ?_)
          repeat (first | refine mR (h := ?_) | refine mK (h := ?_) | refine mT (h := aM (h := ?_)) | refine mT (h := aB (h := ?_)) | refine mT (h := aA (h := ?_)) | refine mT (h := aS (h := ?_)) | refine mT (h := aL (h := ?_)))
          refine swm_act rfl rfl rfl (ActOk.shrink 33 999 rfl rfl rfl rfl (act_append_row ttab_ok rfl rfl rfl rfl rfl rfl rfl rfl rfl rfl rfl rfl rfl rfl rfl rfl (by simp only [List.length_append, List.length_take, List.length_map]; unfold reachBytes; simp; omega) (by simp only [List.length_append, List.length_take, List.length_map]; simp; omega) ?_))
          repeat (first | refine mR (h := ?_) | refine mK (h := ?_) | refine mT (h := aM (h := ?_)) | refine mT (h := aB (h := ?_)) | refine mT (h := aA (h := ?_)) | refine mT (h := aS (h := ?_)) | refine mT (h := aL (h := ?_)))
          refine swm_nil ?_
          (repeat refine sw_seq ?_); refine sw_region ?_
          repeat (first | refine sR (h := ?_) | refine sK (h := ?_) | refine sT (h := aM (h := ?_)) | refine sT (h := aB (h := ?_)) | refine sT (h := aA (h := ?_)) | refine sT (h := aS (h := ?_)) | refine sT (h := aL (h := ?_)))
          refine swt_nil ?_
          have hdrop : S.length - operandsS l[k].op = left := by omega
          refine ⟨_, _, ?_, wk_only [1, 4, 5, 6, 19, 20, 21] [(4, 4), (41, 0)] rfl rfl, k + 1, _, stepI g S l[k], made', hlt', rfl, wrap_succ hlt' (by omega), ?_, hst2, hSl', by omega, ?_, ?_⟩
          · omega
          · rw [hSe]; exact (foldl_take_succ (stepI g) [] l k hlt').symm
          · intro x hx
            unfold stepI at hx
            rcases List.mem_append.1 hx with hx | hx
            · exact hS x (List.mem_of_mem_take hx)
            · rw [List.mem_singleton] at hx
              subst hx
              exact nodeS_fit (hf _ (List.getElem_mem hlt')) (fun x hx => hS x (List.mem_of_mem_drop hx)) hgf hb
          · have e3 : (stepI g S l[k]).map Itm.pv = (S.map Itm.pv).take left ++ [(nodeS l[k] (S.drop left) g).pv] := by
              unfold stepI
              rw [hdrop, List.map_append, List.map_take]; rfl
            rw [e3]; rfl
      · refine sw_exit ?_
        rw [lm] at hlt
        simp only [decide_eq_false_iff_not] at hlt
        have hkk : k = l.length := by omega
        subst hkk
        rw [List.take_length] at hSe
        obtain ⟨x, hx⟩ := evalI_one (g := g) h0 hl0
        rw [hx] at hSe
        subst hSe
        rw [valueS_one h0 hl0 hx]
        (repeat refine sw_seq ?_); refine sw_region_draw [4] [(0, true), (1, true), (2, true), (3, true), (4, true), (5, true), (6, true), (7, true), (8, false), (9, true)] (by kernel_rfl) (by kernel_rfl) (by kernel_rfl) ?_
        repeat (first | refine mR (h := ?_) | refine mK (h := ?_) | refine mT (h := aM (h := ?_)) | refine mT (h := aB (h := ?_)) | refine mT (h := aA (h := ?_)) | refine mT (h := aS (h := ?_)) | refine mT (h := aL (h := ?_)))
        refine swm_read ttab_ok rfl rfl rfl (by simp) rfl ?_
        repeat (first | refine mR (h := ?_) | refine mK (h := ?_) | refine mT (h := aM (h := ?_)) | refine mT (h := aB (h := ?_)) | refine mT (h := aA (h := ?_)) | refine mT (h := aS (h := ?_)) | refine mT (h := aL (h := ?_)))
        refine swm_read ttab_ok rfl rfl (opR_elem rfl rfl rfl rfl rfl (show ([x].map Itm.pv).getD (Int.toNat 0) [] = x.pv from rfl) rfl) (by simp) rfl ?_
        repeat (first | refine mR (h := ?_) | refine mK (h := ?_) | refine mT (h := aM (h := ?_)) | refine mT (h := aB (h := ?_)) | refine mT (h := aA (h := ?_)) | refine mT (h := aS (h := ?_)) | refine mT (h := aL (h := ?_)))
        refine swm_read ttab_ok rfl rfl rfl (by simp) rfl ?_
        repeat (first | refine mR (h := ?_) | refine mK (h := ?_) | refine mT (h := aM (h := ?_)) | refine mT (h := aB (h := ?_)) | refine mT (h := aA (h := ?_)) | refine mT (h := aS (h := ?_)) | refine mT (h := aL (h := ?_)))
        refine swm_read ttab_ok rfl rfl (opR_elem rfl rfl rfl rfl rfl (show ([x].map Itm.pv).getD (Int.toNat 0) [] = x.pv from rfl) rfl) (by simp) rfl ?_
        repeat (first | refine mR (h := ?_) | refine mK (h := ?_) | refine mT (h := aM (h := ?_)) | refine mT (h := aB (h := ?_)) | refine mT (h := aA (h := ?_)) | refine mT (h := aS (h := ?_)) | refine mT (h := aL (h := ?_)))
        refine swm_nil ?_
        (repeat refine sw_seq ?_); refine sw_ret ?_
        exact ⟨Or.inr rfl, _, _, [], _, Wk.refl _, rfl, rfl, .refl _, rfl, rfl⟩
theorem cond_h (l : List Nod) (g : List Giv) (hf : ∀ x ∈ l, x.Fit) (hgf : ∀ x ∈ g, x.Fit) (hgn : g.length ≤ 1000000) (hb : ∀ x ∈ g, x.bag.length ≤ 1000000) : Holds Try.prog 22 [nodsP l, givsP g] (.p (pI (condS l g))) [] := by
  by_cases hl0 : l = []
  · subst hl0
    refine holds_of (ts := [4]) Try.func22 (by kernel_rfl) rfl rfl rfl ?_
    (repeat refine sw_seq ?_); refine sw_region ?_
    repeat (first | refine sR (h := ?_) | refine sK (h := ?_) | refine sT (h := aM (h := ?_)) | refine sT (h := aB (h := ?_)) | refine sT (h := aA (h := ?_)) | refine sT (h := aS (h := ?_)) | refine sT (h := aL (h := ?_)))
    refine swt_nil ?_
    (repeat refine sw_seq ?_); refine sw_region ?_
    repeat (first | refine sR (h := ?_) | refine sK (h := ?_) | refine sT (h := aM (h := ?_)) | refine sT (h := aB (h := ?_)) | refine sT (h := aA (h := ?_)) | refine sT (h := aS (h := ?_)) | refine sT (h := aL (h := ?_)))
    refine swt_nil ?_
    (repeat refine sw_seq ?_); refine sw_cond rfl (fun h => ?_) (fun h => ?_)
    · (repeat refine sw_seq ?_); refine sw_region ?_
      repeat (first | refine sR (h := ?_) | refine sK (h := ?_) | refine sT (h := aM (h := ?_)) | refine sT (h := aB (h := ?_)) | refine sT (h := aA (h := ?_)) | refine sT (h := aS (h := ?_)) | refine sT (h := aL (h := ?_)))
      refine swt_nil ?_
      (repeat refine sw_seq ?_); refine sw_ret ?_
      exact fin_i rfl rfl
    · cases h
  · have lm : (l.map Nod.pv).length = l.length := by simp
    have e : condS l g = condV (valueS l g) := by unfold condS; rw [if_neg hl0]
    have H := value_h l g hf hgf hgn hb
    rw [e]
    generalize valueS l g = r at *
    refine holds_of (ts := [4]) Try.func22 (by kernel_rfl) rfl rfl rfl ?_
    (repeat refine sw_seq ?_); refine sw_region ?_
    repeat (first | refine sR (h := ?_) | refine sK (h := ?_) | refine sT (h := aM (h := ?_)) | refine sT (h := aB (h := ?_)) | refine sT (h := aA (h := ?_)) | refine sT (h := aS (h := ?_)) | refine sT (h := aL (h := ?_)))
    refine swt_nil ?_
    (repeat refine sw_seq ?_); refine sw_region ?_
    repeat (first | refine sR (h := ?_) | refine sK (h := ?_) | refine sT (h := aM (h := ?_)) | refine sT (h := aB (h := ?_)) | refine sT (h := aA (h := ?_)) | refine sT (h := aS (h := ?_)) | refine sT (h := aL (h := ?_)))
    rw [show (((l.map Nod.pv).length : Int) == 0) = false by rw [lm]; simp; exact hl0]
    repeat (first | refine sR (h := ?_) | refine sK (h := ?_) | refine sT (h := aM (h := ?_)) | refine sT (h := aB (h := ?_)) | refine sT (h := aA (h := ?_)) | refine sT (h := aS (h := ?_)) | refine sT (h := aL (h := ?_)))
    refine swt_nil ?_
    (repeat refine sw_seq ?_); refine sw_cond rfl (fun h => ?_) (fun h => ?_)
    · cases h
    · refine sw_skip ?_
      (repeat refine sw_seq ?_); refine sw_region ?_
      repeat (first | refine sR (h := ?_) | refine sK (h := ?_) | refine sT (h := aM (h := ?_)) | refine sT (h := aB (h := ?_)) | refine sT (h := aA (h := ?_)) | refine sT (h := aS (h := ?_)) | refine sT (h := aL (h := ?_)))
      refine swt_act rfl (act_call_flat rfl rfl rfl rfl (H) rfl rfl ?_)
      repeat (first | refine sR (h := ?_) | refine sK (h := ?_) | refine sT (h := aM (h := ?_)) | refine sT (h := aB (h := ?_)) | refine sT (h := aA (h := ?_)) | refine sT (h := aS (h := ?_)) | refine sT (h := aL (h := ?_)))
      refine swt_nil ?_
      (repeat refine sw_seq ?_); refine sw_region ?_
      repeat (first | refine sR (h := ?_) | refine sK (h := ?_) | refine sT (h := aM (h := ?_)) | refine sT (h := aB (h := ?_)) | refine sT (h := aA (h := ?_)) | refine sT (h := aS (h := ?_)) | refine sT (h := aL (h := ?_)))
      refine swt_nil ?_
      (repeat refine sw_seq ?_); refine sw_block ?_
      (repeat refine sw_seq ?_); refine sw_region ?_
      repeat (first | refine sR (h := ?_) | refine sK (h := ?_) | refine sT (h := aM (h := ?_)) | refine sT (h := aB (h := ?_)) | refine sT (h := aA (h := ?_)) | refine sT (h := aS (h := ?_)) | refine sT (h := aL (h := ?_)))
      refine swt_act rfl (act_call_flat rfl rfl rfl rfl ((is_h ⟨[], r.1, r.2⟩ 1).cv (.cons (CvL.agg (.cons (.nil 3) (.refl _))) (.refl _))) rfl rfl ?_)
      repeat (first | refine sR (h := ?_) | refine sK (h := ?_) | refine sT (h := aM (h := ?_)) | refine sT (h := aB (h := ?_)) | refine sT (h := aA (h := ?_)) | refine sT (h := aS (h := ?_)) | refine sT (h := aL (h := ?_)))
      refine swt_nil ?_
      (repeat refine sw_seq ?_); refine sw_cond rfl (fun h1 => ?_) (fun h1 => ?_)
      · (repeat refine sw_seq ?_); refine sw_region ?_
        repeat (first | refine sR (h := ?_) | refine sK (h := ?_) | refine sT (h := aM (h := ?_)) | refine sT (h := aB (h := ?_)) | refine sT (h := aA (h := ?_)) | refine sT (h := aS (h := ?_)) | refine sT (h := aL (h := ?_)))
        refine swt_nil ?_
        (repeat refine sw_seq ?_); refine sw_ret ?_
        exact fin_i rfl (by unfold condV; rw [h1]; rfl)
      · (repeat refine sw_seq ?_); refine sw_region ?_
        repeat (first | refine sR (h := ?_) | refine sK (h := ?_) | refine sT (h := aM (h := ?_)) | refine sT (h := aB (h := ?_)) | refine sT (h := aA (h := ?_)) | refine sT (h := aS (h := ?_)) | refine sT (h := aL (h := ?_)))
        refine swt_act rfl (act_call_flat rfl rfl rfl rfl ((is_h ⟨[], r.1, r.2⟩ 0).cv (.cons (CvL.agg (.cons (.nil 3) (.refl _))) (.refl _))) rfl rfl ?_)
        repeat (first | refine sR (h := ?_) | refine sK (h := ?_) | refine sT (h := aM (h := ?_)) | refine sT (h := aB (h := ?_)) | refine sT (h := aA (h := ?_)) | refine sT (h := aS (h := ?_)) | refine sT (h := aL (h := ?_)))
        refine swt_nil ?_
        (repeat refine sw_seq ?_); refine sw_cond rfl (fun h2 => ?_) (fun h2 => ?_)
        · (repeat refine sw_seq ?_); refine sw_region ?_
          repeat (first | refine sR (h := ?_) | refine sK (h := ?_) | refine sT (h := aM (h := ?_)) | refine sT (h := aB (h := ?_)) | refine sT (h := aA (h := ?_)) | refine sT (h := aS (h := ?_)) | refine sT (h := aL (h := ?_)))
          refine swt_nil ?_
          (repeat refine sw_seq ?_); refine sw_ret ?_
          exact fin_i rfl (by unfold condV; rw [h1, h2]; rfl)
        · refine sw_skip ?_
          (repeat refine sw_seq ?_); refine sw_region ?_
          repeat (first | refine sR (h := ?_) | refine sK (h := ?_) | refine sT (h := aM (h := ?_)) | refine sT (h := aB (h := ?_)) | refine sT (h := aA (h := ?_)) | refine sT (h := aS (h := ?_)) | refine sT (h := aL (h := ?_)))
          refine swt_nil ?_
          (repeat refine sw_seq ?_); refine sw_ret ?_
          exact fin_i rfl (by unfold condV; rw [h1, h2]; rfl)
end Go.Proofs.Ytjpcchipejmocaa
