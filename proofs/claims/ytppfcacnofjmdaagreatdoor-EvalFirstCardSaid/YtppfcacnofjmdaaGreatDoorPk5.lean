/-
  What the statement leans on, part 5: ExV, PolM, PolP, EvP, PolW, Data, Data2, Data3, Data4, PolF, SzS, Fork, EvH, Nilc, EvJ, EvD, EvM, CopyH, FewH, SmallH, GivO, EvL, EvQ, FnsEv.
-/
import Derived.Test.YtppfcacnofjmdaaGreatDoorRows
import Derived.Test.YtppfcacnofjmdaaGreatDoorPk1
import Derived.Test.YtppfcacnofjmdaaGreatDoorPk2
import Derived.Test.YtppfcacnofjmdaaGreatDoorPk3
import Derived.Test.YtppfcacnofjmdaaGreatDoorPk4
namespace Go.Proofs.YtppfcacnofjmdaaGreatDoor
set_option linter.unusedVariables false
set_option linter.unusedSimpArgs false
open Go.RowKit
set_option maxHeartbeats 4000000
theorem node_h (n : Nod) (S : List Itm) (lo : Nat) (g : List Giv) (hlo : lo + qL n.op = S.length) (hl : S.length ≤ 1000000) (hS : ∀ x ∈ S, x.Fit) (hgn : g.length ≤ 1000000) (hb : ∀ x ∈ g, x.bag.length ≤ 1000000) (hop : 1 ≤ n.op ∧ n.op ≤ 13) :
    zZ Tryz.prog 75 [.p (.agg n.pv), .view 1000000 5 lo S.length, .p (zP g)] (jz S) (.p (.agg (zc n (S.drop lo) g).pv)) (jz S) := by
  obtain ⟨op, val, attr⟩ := n
  simp only at hop hlo
  rcases (show op = 1 ∨ op = 2 ∨ op = 3 ∨ op = 4 ∨ op = 5 ∨ op = 6 ∨ op = 7 ∨ op = 8 ∨ op = 9 ∨ op = 10 ∨ op = 11 ∨ op = 12 ∨ op = 13 by omega) with rfl | rfl | rfl | rfl | rfl | rfl | rfl | rfl | rfl | rfl | rfl | rfl | rfl
  · exact node_lit val attr S lo g
  · exact node_attr val attr S lo g hgn hb
  · exact node_one_h val attr S lo g hlo hl
  · exact node_size_h val attr S lo g hlo hl
  · exact node_has_h val attr S lo g hlo hl hS
  · exact jE 6 (by omega) val attr S lo g hl (by omega) hS
  · exact jE 7 (by omega) val attr S lo g hl (by omega) hS
  · exact jE 8 (by omega) val attr S lo g hl (by omega) hS
  · exact jE 9 (by omega) val attr S lo g hl (by omega) hS
  · exact jE 10 (by omega) val attr S lo g hl (by omega) hS
  · exact jE 11 (by omega) val attr S lo g hl (by omega) hS
  · exact node_12_h val attr S lo g hl hlo hS
  · exact node_13_h val attr S lo g hl hlo hS
theorem stepS_op {l l' : List Bool} {n : Nod} (h : zy l n = some l') : (1 ≤ n.op ∧ n.op ≤ 13) ∧ qL n.op ≤ l.length := by
  unfold zy at h
  split at h
  · cases h
  · rename_i w hw
    split at h
    · rename_i hc
      have := operandsS_wants hw
      refine ⟨?_, by omega⟩
      unfold zu at hw
      repeat' split at hw
      all_goals first | omega | cases hw
    · cases h
theorem value_h (l : List Nod) (g : List Giv) (hf : ∀ x ∈ l, x.Fit) (hgf : ∀ x ∈ g, x.Fit) (hgn : g.length ≤ 1000000) (hb : ∀ x ∈ g, x.bag.length ≤ 1000000) : Holds Tryz.prog 59 [qar l, zP g] (.tup [.p (.agg (zk l g).1.pv), .p (pI (zk l g).2)]) [] := by
  refine .ofW ?_
  by_cases hl0 : l = []
  · subst hl0
    have e : zk [] g = (noVal, 1) := rfl
    rw [e]
    refine qR (T := TTab) qe Tryz.func59 (by kernel_rfl) rfl rfl rfl ?_
    (repeat refine qb ?_); refine qa ?_
    repeat (first | refine zR ?_ | refine zK ?_ | refine zM ?_ | refine zB ?_ | refine zA ?_ | refine zS ?_ | refine zL ?_)
    refine qc ?_
    (repeat refine qb ?_); refine qa ?_
    repeat (first | refine zR ?_ | refine zK ?_ | refine zM ?_ | refine zB ?_ | refine zA ?_ | refine zS ?_ | refine zL ?_)
    refine qc ?_
    (repeat refine qb ?_); refine qf rfl (fun h => ?_) (fun h => ?_)
    · (repeat refine qb ?_); refine qa ?_
      repeat (first | refine zR ?_ | refine zK ?_ | refine zM ?_ | refine zB ?_ | refine zA ?_ | refine zS ?_ | refine zL ?_)
      refine qc ?_
      (repeat refine qb ?_); refine qk ?_
      exact ⟨Or.inr rfl, _, _, [], _, Wk.refl _, rfl, rfl, .refl _, rfl, rfl⟩
    · cases h
  · have lm : (l.map Nod.pv).length = l.length := by simp
    have hpos : 0 < l.length := List.length_pos_iff.2 hl0
    refine qR (T := TTab) qe Tryz.func59 (by kernel_rfl) rfl rfl rfl ?_
    (repeat refine qb ?_); refine qa ?_
    repeat (first | refine zR ?_ | refine zK ?_ | refine zM ?_ | refine zB ?_ | refine zA ?_ | refine zS ?_ | refine zL ?_)
    refine qc ?_
    (repeat refine qb ?_); refine qa ?_
    repeat (first | refine zR ?_ | refine zK ?_ | refine zM ?_ | refine zB ?_ | refine zA ?_ | refine zS ?_ | refine zL ?_)
    rw [show (((l.map Nod.pv).length : Int) == 0) = false by rw [lm]; simp; exact hl0]
    repeat (first | refine zR ?_ | refine zK ?_ | refine zM ?_ | refine zB ?_ | refine zA ?_ | refine zS ?_ | refine zL ?_)
    refine qn rfl (qg rfl rfl rfl rfl (expr_h l hf) rfl rfl ?_)
    repeat (first | refine zR ?_ | refine zK ?_ | refine zM ?_ | refine zB ?_ | refine zA ?_ | refine zS ?_ | refine zL ?_)
    refine qc ?_
    (repeat refine qb ?_); refine qf rfl (fun h => ?_) (fun h => ?_)
    · have h0 : zo l ≠ 0 := by simpa using h
      have e : zk l g = (noVal, 1) := by unfold zk; rw [if_pos (.inr h0)]
      rw [e]
      (repeat refine qb ?_); refine qa ?_
      repeat (first | refine zR ?_ | refine zK ?_ | refine zM ?_ | refine zB ?_ | refine zA ?_ | refine zS ?_ | refine zL ?_)
      refine qc ?_
      (repeat refine qb ?_); refine qk ?_
      exact ⟨Or.inr rfl, _, _, [], _, Wk.refl _, rfl, rfl, .refl _, rfl, rfl⟩
    · have h0 : zo l = 0 := by simpa using h
      obtain ⟨hst, hl32⟩ := wd h0 hl0
      refine qm ?_
      (repeat refine qb ?_); refine qa ?_
      repeat (first | refine zR ?_ | refine zK ?_ | refine zM ?_ | refine zB ?_ | refine zA ?_ | refine zS ?_ | refine zL ?_)
      refine qc ?_
      (repeat refine qb ?_); refine qa ?_
      repeat (first | refine zR ?_ | refine zK ?_ | refine zM ?_ | refine zB ?_ | refine zA ?_ | refine zS ?_ | refine zL ?_)
      refine qc ?_
      (repeat refine qb ?_); refine ql ?_
      refine SW.wk (jP 6 900 115 5 rfl rfl) ?_
      refine SW.wk (qq [1, 4, 5, 6, 19, 20, 21] [(4, 4), (900, 0)] rfl rfl) ?_
      refine qO (fun m s => ∃ (k : Nat) (kk : Int) (S : List Itm) (made : List Bool), k ≤ l.length ∧ m = l.length - k ∧ kk = k ∧ S = jV g (l.take k) ∧ qW [] (l.take k) = some made ∧ S.length = made.length ∧ made.length ≤ k ∧ (∀ x ∈ S, x.Fit) ∧ s = ⟨51, [(1, .p (zP g)), (4, .ptr 4 0), (5, .p (pI 0)), (6, .row 0), (19, .p (qar l)), (20, .p (pI (l.map Nod.pv).length)), (21, .p (pI kk))], [(4, .cells (noVal.pv.map .p)), (0, .row 115 5 (S.map Itm.pv))]⟩) l.length ⟨0, 0, [], [], Nat.zero_le _, rfl, rfl, rfl, by simp [qW], rfl, Nat.le_refl _, by simp, rfl⟩ ?_
      rintro m s ⟨k, _, S, made, hk, rfl, rfl, hSe, ha, hSl, hml, hS, rfl⟩
      (repeat refine qb ?_); refine qa ?_
      repeat (first | refine zR ?_ | refine zK ?_ | refine zM ?_ | refine zB ?_ | refine zA ?_ | refine zS ?_ | refine zL ?_)
      refine qc ?_
      (repeat refine qb ?_); refine qf rfl (fun hlt => ?_) (fun hlt => ?_)
      · refine qm ?_
        rw [lm] at hlt
        simp only [decide_eq_true_eq] at hlt
        have hlt' : k < l.length := by omega
        have hst2 := stepsS_some hlt' ha
        cases hs : zy made l[k] with
        | none =>
          rw [hs] at hst2
          rw [stepsS_none (k + 1) hst2] at hst
          cases hst
        | some made' =>
          rw [hs] at hst2
          obtain ⟨hop, hopl⟩ := stepS_op hs
          obtain ⟨hSl', _⟩ := stepI_len (g := g) hSl hs
          have lmS : (S.map Itm.pv).length = S.length := by simp
          obtain ⟨left, hleft⟩ : ∃ left : Nat, left + qL l[k].op = S.length := ⟨S.length - qL l[k].op, by omega⟩
          have hml' := stepS_len hs
          (repeat refine qb ?_); refine ql ?_
          (repeat refine qb ?_); refine qa ?_
          repeat (first | refine zR ?_ | refine zK ?_ | refine zM ?_ | refine zB ?_ | refine zA ?_ | refine zS ?_ | refine zL ?_)
          refine qw qe rfl rfl (by rw [lm]; omega) rfl ?_
          rw [qJ hlt']
          repeat (first | refine zR ?_ | refine zK ?_ | refine zM ?_ | refine zB ?_ | refine zA ?_ | refine zS ?_ | refine zL ?_)
          refine qc ?_
          (repeat refine qb ?_); refine qa ?_
          repeat (first | refine zR ?_ | refine zK ?_ | refine zM ?_ | refine zB ?_ | refine zA ?_ | refine zS ?_ | refine zL ?_)
          refine qn rfl (qg rfl rfl rfl rfl (operands_h l[k].op) rfl rfl ?_)
          repeat (first | refine zR ?_ | refine zK ?_ | refine zM ?_ | refine zB ?_ | refine zA ?_ | refine zS ?_ | refine zL ?_)
          rw [show IntKind.i64.wrap (((S.map Itm.pv).length : Int) - (qL l[k].op : Int)) = (left : Int) by rw [lmS, IntWalk.i64_in _ (by omega)]; omega]
          refine qc ?_
          (repeat refine qb ?_); refine zl [0] [(0, true), (1, true), (2, true), (3, true), (4, true), (5, true), (6, true), (7, true), (8, false), (9, false), (10, false), (11, true)] (by kernel_rfl) (by kernel_rfl) (by kernel_rfl) ?_
          repeat (first | refine yR ?_ | refine yK ?_ | refine yM ?_ | refine yB ?_ | refine yA ?_ | refine yS ?_ | refine yL ?_)
          refine zi qe rfl rfl rfl (by rw [lmS]; omega) rfl ?_
          repeat (first | refine yR ?_ | refine yK ?_ | refine yM ?_ | refine yB ?_ | refine yA ?_ | refine yS ?_ | refine yL ?_)
          refine zi qe rfl rfl rfl (by rw [lmS]; omega) rfl ?_
          rw [lmS]
          repeat (first | refine yR ?_ | refine yK ?_ | refine yM ?_ | refine yB ?_ | refine yA ?_ | refine yS ?_ | refine yL ?_)
          refine qak rfl rfl rfl (zr [(0, 1000000)] rfl rfl rfl rfl rfl rfl (node_h l[k] S left g hleft (by omega) hS hgn hb hop) rfl rfl rfl ?_)
          repeat (first | refine yR ?_ | refine yK ?_ | refine yM ?_ | refine yB ?_ | refine yA ?_ | refine yS ?_ | refine yL ?_)
          refine qak rfl rfl rfl (ActOk.shrink 33 999 rfl rfl rfl rfl (qp qe rfl rfl rfl rfl rfl rfl rfl rfl rfl rfl rfl rfl rfl rfl rfl rfl (by simp only [List.length_append, List.length_take, List.length_map]; unfold reachBytes; simp; omega) (by simp only [List.length_append, List.length_take, List.length_map]; simp; omega) ?_))
          repeat (first | refine yR ?_ | refine yK ?_ | refine yM ?_ | refine yB ?_ | refine yA ?_ | refine yS ?_ | refine yL ?_)
          refine swm_nil ?_
          (repeat refine qb ?_); refine qa ?_
          repeat (first | refine zR ?_ | refine zK ?_ | refine zM ?_ | refine zB ?_ | refine zA ?_ | refine zS ?_ | refine zL ?_)
          refine qc ?_
          have hdrop : S.length - qL l[k].op = left := by omega
          refine ⟨_, _, ?_, qq [1, 4, 5, 6, 19, 20, 21] [(4, 4), (41, 0)] rfl rfl, k + 1, _, zJ g S l[k], made', hlt', rfl, qz hlt' (by omega), ?_, hst2, hSl', by omega, ?_, ?_⟩
          · omega
          · rw [hSe]; exact (foldl_take_succ (zJ g) [] l k hlt').symm
          · intro x hx
            unfold zJ at hx
            rcases List.mem_append.1 hx with hx | hx
            · exact hS x (List.mem_of_mem_take hx)
            · rw [List.mem_singleton] at hx
              subst hx
              exact nodeS_fit (hf _ (List.getElem_mem hlt')) (fun x hx => hS x (List.mem_of_mem_drop hx)) hgf hb
          · have e3 : (zJ g S l[k]).map Itm.pv = (S.map Itm.pv).take left ++ [(zc l[k] (S.drop left) g).pv] := by
              unfold zJ
              rw [hdrop, List.map_append, List.map_take]; rfl
            rw [e3]; rfl
      · refine qK ?_
        rw [lm] at hlt
        simp only [decide_eq_false_iff_not] at hlt
        have hkk : k = l.length := by omega
        subst hkk
        rw [List.take_length] at hSe
        obtain ⟨x, hx⟩ := evalI_one (g := g) h0 hl0
        rw [hx] at hSe
        subst hSe
        rw [zp h0 hl0 hx]
        (repeat refine qb ?_); refine zl [4] [(0, true), (1, true), (2, true), (3, true), (4, true), (5, true), (6, true), (7, true), (8, false), (9, true)] (by kernel_rfl) (by kernel_rfl) (by kernel_rfl) ?_
        repeat (first | refine yR ?_ | refine yK ?_ | refine yM ?_ | refine yB ?_ | refine yA ?_ | refine yS ?_ | refine yL ?_)
        refine zi qe rfl rfl rfl (by simp) rfl ?_
        repeat (first | refine yR ?_ | refine yK ?_ | refine yM ?_ | refine yB ?_ | refine yA ?_ | refine yS ?_ | refine yL ?_)
        refine zi qe rfl rfl (za rfl rfl rfl rfl rfl (show ([x].map Itm.pv).getD (Int.toNat 0) [] = x.pv from rfl) rfl) (by simp) rfl ?_
        repeat (first | refine yR ?_ | refine yK ?_ | refine yM ?_ | refine yB ?_ | refine yA ?_ | refine yS ?_ | refine yL ?_)
        refine zi qe rfl rfl rfl (by simp) rfl ?_
        repeat (first | refine yR ?_ | refine yK ?_ | refine yM ?_ | refine yB ?_ | refine yA ?_ | refine yS ?_ | refine yL ?_)
        refine zi qe rfl rfl (za rfl rfl rfl rfl rfl (show ([x].map Itm.pv).getD (Int.toNat 0) [] = x.pv from rfl) rfl) (by simp) rfl ?_
        repeat (first | refine yR ?_ | refine yK ?_ | refine yM ?_ | refine yB ?_ | refine yA ?_ | refine yS ?_ | refine yL ?_)
        refine swm_nil ?_
        (repeat refine qb ?_); refine qk ?_
        exact ⟨Or.inr rfl, _, _, [], _, Wk.refl _, rfl, rfl, .refl _, rfl, rfl⟩
theorem cond_h (l : List Nod) (g : List Giv) (hf : ∀ x ∈ l, x.Fit) (hgf : ∀ x ∈ g, x.Fit) (hgn : g.length ≤ 1000000) (hb : ∀ x ∈ g, x.bag.length ≤ 1000000) : Holds Tryz.prog 34 [qar l, zP g] (.p (pI (qam l g))) [] := by
  by_cases hl0 : l = []
  · subst hl0
    refine qA (ts := [4]) Tryz.func34 (by kernel_rfl) rfl rfl rfl ?_
    (repeat refine qb ?_); refine qa ?_
    repeat (first | refine zR ?_ | refine zK ?_ | refine zM ?_ | refine zB ?_ | refine zA ?_ | refine zS ?_ | refine zL ?_)
    refine qc ?_
    (repeat refine qb ?_); refine qa ?_
    repeat (first | refine zR ?_ | refine zK ?_ | refine zM ?_ | refine zB ?_ | refine zA ?_ | refine zS ?_ | refine zL ?_)
    refine qc ?_
    (repeat refine qb ?_); refine qf rfl (fun h => ?_) (fun h => ?_)
    · (repeat refine qb ?_); refine qa ?_
      repeat (first | refine zR ?_ | refine zK ?_ | refine zM ?_ | refine zB ?_ | refine zA ?_ | refine zS ?_ | refine zL ?_)
      refine qc ?_
      (repeat refine qb ?_); refine qk ?_
      exact zg rfl rfl
    · cases h
  · have lm : (l.map Nod.pv).length = l.length := by simp
    have e : qam l g = ww (zk l g) := by unfold qam; rw [if_neg hl0]
    have H := value_h l g hf hgf hgn hb
    rw [e]
    generalize zk l g = r at *
    refine qA (ts := [4]) Tryz.func34 (by kernel_rfl) rfl rfl rfl ?_
    (repeat refine qb ?_); refine qa ?_
    repeat (first | refine zR ?_ | refine zK ?_ | refine zM ?_ | refine zB ?_ | refine zA ?_ | refine zS ?_ | refine zL ?_)
    refine qc ?_
    (repeat refine qb ?_); refine qa ?_
    repeat (first | refine zR ?_ | refine zK ?_ | refine zM ?_ | refine zB ?_ | refine zA ?_ | refine zS ?_ | refine zL ?_)
    rw [show (((l.map Nod.pv).length : Int) == 0) = false by rw [lm]; simp; exact hl0]
    repeat (first | refine zR ?_ | refine zK ?_ | refine zM ?_ | refine zB ?_ | refine zA ?_ | refine zS ?_ | refine zL ?_)
    refine qc ?_
    (repeat refine qb ?_); refine qf rfl (fun h => ?_) (fun h => ?_)
    · cases h
    · refine qm ?_
      (repeat refine qb ?_); refine qa ?_
      repeat (first | refine zR ?_ | refine zK ?_ | refine zM ?_ | refine zB ?_ | refine zA ?_ | refine zS ?_ | refine zL ?_)
      refine qn rfl (qg rfl rfl rfl rfl (H) rfl rfl ?_)
      repeat (first | refine zR ?_ | refine zK ?_ | refine zM ?_ | refine zB ?_ | refine zA ?_ | refine zS ?_ | refine zL ?_)
      refine qc ?_
      (repeat refine qb ?_); refine qa ?_
      repeat (first | refine zR ?_ | refine zK ?_ | refine zM ?_ | refine zB ?_ | refine zA ?_ | refine zS ?_ | refine zL ?_)
      refine qc ?_
      (repeat refine qb ?_); refine ql ?_
      (repeat refine qb ?_); refine qa ?_
      repeat (first | refine zR ?_ | refine zK ?_ | refine zM ?_ | refine zB ?_ | refine zA ?_ | refine zS ?_ | refine zL ?_)
      refine qn rfl (qg rfl rfl rfl rfl ((is_h ⟨[], r.1, r.2⟩ 1).cv (.cons (CvL.agg (.cons (.nil 3) (.refl _))) (.refl _))) rfl rfl ?_)
      repeat (first | refine zR ?_ | refine zK ?_ | refine zM ?_ | refine zB ?_ | refine zA ?_ | refine zS ?_ | refine zL ?_)
      refine qc ?_
      (repeat refine qb ?_); refine qf rfl (fun h1 => ?_) (fun h1 => ?_)
      · (repeat refine qb ?_); refine qa ?_
        repeat (first | refine zR ?_ | refine zK ?_ | refine zM ?_ | refine zB ?_ | refine zA ?_ | refine zS ?_ | refine zL ?_)
        refine qc ?_
        (repeat refine qb ?_); refine qk ?_
        exact zg rfl (by unfold ww; rw [h1]; rfl)
      · (repeat refine qb ?_); refine qa ?_
        repeat (first | refine zR ?_ | refine zK ?_ | refine zM ?_ | refine zB ?_ | refine zA ?_ | refine zS ?_ | refine zL ?_)
        refine qn rfl (qg rfl rfl rfl rfl ((is_h ⟨[], r.1, r.2⟩ 0).cv (.cons (CvL.agg (.cons (.nil 3) (.refl _))) (.refl _))) rfl rfl ?_)
        repeat (first | refine zR ?_ | refine zK ?_ | refine zM ?_ | refine zB ?_ | refine zA ?_ | refine zS ?_ | refine zL ?_)
        refine qc ?_
        (repeat refine qb ?_); refine qf rfl (fun h2 => ?_) (fun h2 => ?_)
        · (repeat refine qb ?_); refine qa ?_
          repeat (first | refine zR ?_ | refine zK ?_ | refine zM ?_ | refine zB ?_ | refine zA ?_ | refine zS ?_ | refine zL ?_)
          refine qc ?_
          (repeat refine qb ?_); refine qk ?_
          exact zg rfl (by unfold ww; rw [h1, h2]; rfl)
        · refine qm ?_
          (repeat refine qb ?_); refine qa ?_
          repeat (first | refine zR ?_ | refine zK ?_ | refine zM ?_ | refine zB ?_ | refine zA ?_ | refine zS ?_ | refine zL ?_)
          refine qc ?_
          (repeat refine qb ?_); refine qk ?_
          exact zg rfl (by unfold ww; rw [h1, h2]; rfl)
end Go.Proofs.YtppfcacnofjmdaaGreatDoor
namespace Go.Proofs.YtppfcacnofjmdaaGreatDoor
set_option linter.unusedVariables false
set_option linter.unusedSimpArgs false
def Wlk.le (w v : Wlk) : Prop := (∀ s, hasS w.met s = true → hasS v.met s = true) ∧ w.rules ≤ v.rules
theorem Wlk.le_refl (w : Wlk) : w.le w := ⟨fun _ h => h, Int.le_refl _⟩
theorem hasS_snoc (m : List ByteArray) (s t : ByteArray) : hasS (m ++ [s]) t = (hasS m t || decide (t = s)) := by simp [hasS]
theorem seqS_each {α : Type} {f : Wlk → α → Int × Wlk} {Q : α → Prop} (hf : ∀ w x, (f w x).1 = 0 → Q x) : ∀ {l : List α} {w : Wlk}, (seqS f w l).1 = 0 → ∀ x ∈ l, Q x
  | [], w, _, x, hx => by simp at hx
  | y :: r, w, h0, x, hx => by
    rw [seqS] at h0
    by_cases hy : (f w y).1 = 0
    · rw [if_pos hy] at h0
      rcases List.mem_cons.1 hx with rfl | hx
      · exact hf w _ hy
      · exact seqS_each hf h0 x hx
    · rw [if_neg hy] at h0; exact absurd h0 hy
theorem ruleS_lim {w : Wlk} {r : Rul} (hw : 0 ≤ w.rules ∧ w.rules ≤ 64) (h : (zq w r).1 = 0) : 0 ≤ (zq w r).2.rules ∧ (zq w r).2.rules ≤ 64 := by
  unfold zq at h ⊢
  split at h
  · rename_i hn
    rw [if_pos hn]
    simp only at h ⊢
    split at h
    · cases h
    · omega
  · cases h
theorem jI {α : Type} {f : Wlk → α → Int × Wlk} {P : Wlk → Prop} (hf : ∀ w x, P w → (f w x).1 = 0 → P (f w x).2) : ∀ {l : List α} {w : Wlk}, P w → (seqS f w l).1 = 0 → P (seqS f w l).2
  | [], w, hw, _ => hw
  | x :: r, w, hw, h => by
    rw [seqS] at h ⊢
    by_cases h0 : (f w x).1 = 0
    · rw [if_pos h0] at h ⊢
      exact jI hf (hf w x hw h0) h
    · rw [if_neg h0] at h; exact absurd h h0
abbrev lim (w : Wlk) : Prop := 0 ≤ w.rules ∧ w.rules ≤ 64
theorem polS_lim : ∀ (n : Nat) (w : Wlk) (p : Pol), lim w → (polS n w p).1 = 0 → lim (polS n w p).2
  | 0, w, p, _, h => by cases h
  | n + 1, w, p, hw, h => by
    have h1 : lim (zF w p).2 := hw
    rw [polS] at h ⊢
    split at h
    · rename_i h2
      rw [if_pos h2]
      split at h
      · rename_i h3
        rw [if_pos h3]
        exact jI (P := lim) (fun w x hw h => polS_lim n w x hw h) (jI (P := lim) (fun w x hw h => ruleS_lim hw h) h1 h3) h
      · rename_i h3; exact absurd h h3
    · rename_i h2; exact absurd h h2
end Go.Proofs.YtppfcacnofjmdaaGreatDoor
namespace Go.Proofs.YtppfcacnofjmdaaGreatDoor
set_option linter.unusedVariables false
set_option linter.unusedSimpArgs false
open Go.RowKit
mutual
def Pol.nr : Pol → Nat
  | .mk _ _ _ _ rs ks _ => rs.length + Pol.nrs ks
def Pol.nrs : List Pol → Nat
  | [] => 0
  | k :: ks => k.nr + Pol.nrs ks
end
theorem sumBy_take {α : Type} (f : α → Nat) (l : List α) (k : Nat) : qT f (l.take k) ≤ qT f l := by
  have h : qT f (l.take k ++ l.drop k) = qT f (l.take k) + qT f (l.drop k) := by simp only [qT, List.map_append, List.sum_append]
  rw [List.take_append_drop] at h
  omega
def Dp : Nat → Pol → Prop
  | 0, _ => False
  | n + 1, p => ∀ k ∈ p.kids, Dp n k
theorem wj {n : Nat} {w : Wlk} {p : Pol} (h : (polS (n + 1) w p).1 = 0) : (zF w p).1 = 0 ∧ (seqS zq (zF w p).2 p.rules).1 = 0 ∧ (seqS (polS n) (seqS zq (zF w p).2 p.rules).2 p.kids).1 = 0 := by
  rw [polS] at h
  split at h
  · rename_i h2
    split at h
    · rename_i h3; exact ⟨h2, h3, h⟩
    · rename_i h3; exact absurd h h3
  · rename_i h2; exact absurd h h2
theorem polS_dp : ∀ (n : Nat) {w : Wlk} {p : Pol}, (polS n w p).1 = 0 → Dp n p
  | 0, w, p, h => by cases h
  | n + 1, w, p, h => seqS_each (fun w x h => polS_dp n h) (wj h).2.2
theorem jG {p : Pol} (h : zb p = 0) : zO [] p.id = true ∧ (zF ⟨[], 0⟩ p).1 = headE p ∧ headE p = 0 ∧ 1 ≤ p.alg ∧ p.alg ≤ 6 := by
  have h1 := (wj h).1
  unfold zF at h1 ⊢
  simp only at h1 ⊢
  split at h1
  · rename_i hc
    rw [if_pos hc]
    simp only [Bool.and_eq_true, decide_eq_true_eq] at hc
    exact ⟨hc.1.1, rfl, h1, hc.1.2, hc.2⟩
  · cases h1
theorem wJ {p : Pol} (h1 : zO [] p.id = true) (h2 : 1 ≤ p.alg) (h3 : p.alg ≤ 6) : zF ⟨[], 0⟩ p = (headE p, ⟨[p.id], 0⟩) := by
  unfold zF
  simp [h1, h2, h3, nameM]
theorem right_shape {p : Pol} (h : zb p = 0) : (p.set = true → p.rules = []) ∧ (p.set = false → p.kids = []) := by
  obtain ⟨h1, h2, h3, h4, h5⟩ := jG h
  unfold headE at h3
  split at h3
  · cases h3
  · rename_i hc
    simp only [Bool.or_eq_true, Bool.and_eq_true, decide_eq_true_eq, Bool.not_eq_true'] at hc
    refine ⟨fun hs => ?_, fun hs => ?_⟩
    · refine List.length_eq_zero_iff.1 ?_
      have : ¬ 0 < p.rules.length := fun hl => hc (.inl ⟨hs, hl⟩)
      omega
    · refine List.length_eq_zero_iff.1 ?_
      have : ¬ 0 < p.kids.length := fun hl => hc (.inr ⟨hs, .inl hl⟩)
      omega
end Go.Proofs.YtppfcacnofjmdaaGreatDoor
namespace Go.Proofs.YtppfcacnofjmdaaGreatDoor
set_option linter.unusedVariables false
set_option linter.unusedSimpArgs false
open Go.RowKit
theorem decideS_dp (g : List Giv) : ∀ {n : Nat} {p : Pol}, Dp n p → ∀ {m : Nat}, n ≤ m → qF g m p = qF g n p
  | n + 1, p, h, m + 1, hm => by
    have e : p.kids.map (qF g m) = p.kids.map (qF g n) := List.map_congr_left fun k hk => decideS_dp g (h k hk) (by omega)
    rw [qF, qF, e]
theorem right_dp {p : Pol} (h : zb p = 0) : Dp 4 p := polS_dp 4 h
theorem right_kid_dp {p : Pol} (h : zb p = 0) : ∀ k ∈ p.kids, Dp 3 k := polS_dp 4 h
theorem decideS_kids (g : List Giv) {p : Pol} (h : zb p = 0) : p.kids.map (qF g 3) = p.kids.map (qF g 4) :=
  List.map_congr_left fun k hk => (decideS_dp g (right_kid_dp h k hk) (by omega)).symm
theorem decide_right (g : List Giv) {p : Pol} (h : zb p = 0) : qF g 4 p = if metT p.target g = 0 then noRs else wM p (metT p.target g) (p.rules.map (qaw g) ++ p.kids.map (qF g 4)) := by
  rw [← decideS_kids g h]; rfl
end Go.Proofs.YtppfcacnofjmdaaGreatDoor
namespace Go.Proofs.YtppfcacnofjmdaaGreatDoor
set_option linter.unusedVariables false
set_option linter.unusedSimpArgs false
open Go.RowKit
set_option maxHeartbeats 2000000
def ents (m : List ByteArray) : List (Value × PV) := m.map fun s => (.string s, .agg [])
def wlkO (w : Wlk) : List (Nat × Box) := [(1000000, .cells [.row 1000001, .p (pI w.rules)]), (1000001, .mp (ents w.met))]
abbrev wlkR : List (Nat × Nat) := [(1000000, 1000000), (1000001, 1000001)]
theorem ents_ok : ∀ m : List ByteArray, (ents m).all (fun x => kdOk .str x.1) = true
  | [] => rfl
  | s :: m => by
    have := ents_ok m
    simp only [ents, List.map_cons, List.all_cons, Bool.and_eq_true] at this ⊢
    exact ⟨rfl, this⟩
theorem mfind_ents (s : ByteArray) : ∀ m : List ByteArray, mfind (.string s) (ents m) = if hasS m s then some (.agg []) else none
  | [] => rfl
  | t :: m => by
    have ih := mfind_ents s m
    show (bif keyEq (.string s) (.string t) then some (PV.agg []) else mfind (.string s) (ents m)) = _
    rw [ih]
    by_cases e : s = t
    · subst e; simp [keyEq, hasS]
    · have e' : ∀ i : Decidable (s = t), @decide (s = t) i = false := fun i => by
        cases i with
        | isTrue h => exact absurd h e
        | isFalse h => rfl
      rw [show keyEq (.string s) (.string t) = false from e' _]
      unfold hasS
      rw [List.any_cons, e', cond_false, Bool.false_or]
theorem ents_snoc (m : List ByteArray) (s : ByteArray) : ents m ++ [(.string s, .agg [])] = ents (m ++ [s]) := by simp [ents]
theorem wname_h (m : List ByteArray) (n : Int) (s : ByteArray) (hs : s.size ≤ reachBytes) : zZ Tryz.prog 84 [.ptr 1000000 0, .p (pS s)] (wlkO ⟨m, n⟩) (.p (pB (zO m s))) (wlkO ⟨nameM m s, n⟩) := by
  by_cases hm : hasS m s = true
  · have e1 : zO m s = false := by simp [zO, hm]
    have e2 : nameM m s = m := by simp [nameM, e1]
    rw [e1, e2]
    refine ja (ts := [4]) Tryz.func84 (by kernel_rfl) rfl rfl rfl ?_
    (repeat refine qb ?_); refine qa ?_
    repeat (first | refine zR ?_ | refine zK ?_ | refine zM ?_ | refine zB ?_ | refine zA ?_ | refine zS ?_ | refine zL ?_)
    refine qc ?_
    (repeat refine qb ?_); refine qa ?_
    repeat (first | refine zR ?_ | refine zK ?_ | refine zM ?_ | refine zB ?_ | refine zA ?_ | refine zS ?_ | refine zL ?_)
    refine qw qe rfl rfl (ents_ok m) rfl ?_
    rw [mfind_ents, if_pos hm]
    repeat (first | refine zR ?_ | refine zK ?_ | refine zM ?_ | refine zB ?_ | refine zA ?_ | refine zS ?_ | refine zL ?_)
    refine qc ?_
    (repeat refine qb ?_); refine qs (by kernel_rfl) ?_
    repeat (refine qr qe rfl (by exact True.intro) rfl ?_)
    refine zj rfl rfl rfl rfl (name_h s hs) rfl rfl ?_
    repeat (refine qr qe rfl (by exact True.intro) rfl ?_)
    refine qQ ?_
    (repeat refine qb ?_); refine qf rfl (fun h => ?_) (fun h => ?_)
    · (repeat refine qb ?_); refine qa ?_
      repeat (first | refine zR ?_ | refine zK ?_ | refine zM ?_ | refine zB ?_ | refine zA ?_ | refine zS ?_ | refine zL ?_)
      refine qc ?_
      (repeat refine qb ?_); refine qk ?_
      exact ⟨Or.inr rfl, _, _, wlkR, Wk.refl _, rfl, rfl, rfl, rfl⟩
    · cases h
  · refine ja (ts := [4]) Tryz.func84 (by kernel_rfl) rfl rfl rfl ?_
    (repeat refine qb ?_); refine qa ?_
    repeat (first | refine zR ?_ | refine zK ?_ | refine zM ?_ | refine zB ?_ | refine zA ?_ | refine zS ?_ | refine zL ?_)
    refine qc ?_
    (repeat refine qb ?_); refine qa ?_
    repeat (first | refine zR ?_ | refine zK ?_ | refine zM ?_ | refine zB ?_ | refine zA ?_ | refine zS ?_ | refine zL ?_)
    refine qw qe rfl rfl (ents_ok m) rfl ?_
    rw [mfind_ents, if_neg hm]
    repeat (first | refine zR ?_ | refine zK ?_ | refine zM ?_ | refine zB ?_ | refine zA ?_ | refine zS ?_ | refine zL ?_)
    refine qc ?_
    (repeat refine qb ?_); refine qs (by kernel_rfl) ?_
    repeat (refine qr qe rfl (by exact True.intro) rfl ?_)
    refine zj rfl rfl rfl rfl (name_h s hs) rfl rfl ?_
    repeat (refine qr qe rfl (by exact True.intro) rfl ?_)
    refine qQ ?_
    (repeat refine qb ?_); refine qf rfl (fun h => ?_) (fun h => ?_)
    · have e0 : wO s = false := by simpa using h
      have e1 : zO m s = false := by simp [zO, e0]
      have e2 : nameM m s = m := by simp [nameM, e1]
      rw [e1, e2]
      (repeat refine qb ?_); refine qa ?_
      repeat (first | refine zR ?_ | refine zK ?_ | refine zM ?_ | refine zB ?_ | refine zA ?_ | refine zS ?_ | refine zL ?_)
      refine qc ?_
      (repeat refine qb ?_); refine qk ?_
      exact ⟨Or.inr rfl, _, _, wlkR, Wk.refl _, rfl, rfl, rfl, rfl⟩
    · have e0 : wO s = true := by simpa using h
      have e1 : zO m s = true := by simp [zO, e0, hm]
      have e2 : nameM m s = m ++ [s] := by simp [nameM, e1]
      rw [e1, e2]
      refine qm ?_
      (repeat refine qb ?_); refine qa ?_
      repeat (first | refine zR ?_ | refine zK ?_ | refine zM ?_ | refine zB ?_ | refine zA ?_ | refine zS ?_ | refine zL ?_)
      refine qn rfl (act_mapUpdate qe rfl rfl rfl rfl rfl rfl rfl rfl rfl (ents_ok m) (by rw [mfind_ents, if_neg hm]) rfl ?_)
      rw [ents_snoc]
      repeat (first | refine zR ?_ | refine zK ?_ | refine zM ?_ | refine zB ?_ | refine zA ?_ | refine zS ?_ | refine zL ?_)
      refine qc ?_
      (repeat refine qb ?_); refine qa ?_
      repeat (first | refine zR ?_ | refine zK ?_ | refine zM ?_ | refine zB ?_ | refine zA ?_ | refine zS ?_ | refine zL ?_)
      refine qc ?_
      (repeat refine qb ?_); refine qk ?_
      exact ⟨Or.inr rfl, _, _, wlkR, Wk.refl _, rfl, rfl, rfl, rfl⟩
def TarFit (t : Tar) : Prop := ∀ x ∈ t, ∀ y ∈ x, ∀ m ∈ y, m.Fit
structure RulFit (r : Rul) : Prop where
  id : r.id.size ≤ reachBytes
  tgt : TarFit r.target
  cond : ∀ n ∈ r.cond, n.Fit
  obls : ∀ o ∈ r.obls, o.Fit
theorem wrule_h (w : Wlk) (hw : 0 ≤ w.rules ∧ w.rules ≤ 64) (r : Rul) (hr : RulFit r) : zZ Tryz.prog 68 [.ptr 1000000 0, .p (.agg (zt r))] (wlkO w) (.p (pI (zq w r).1)) (wlkO (zq w r).2) := by
  have H := wname_h w.met w.rules r.id hr.id
  cases hn : zO w.met r.id with
  | false =>
    have e : zq w r = (1, w) := by simp [zq, hn]
    have e2 : nameM w.met r.id = w.met := by simp [nameM, hn]
    rw [hn, e2] at H
    rw [e]
    refine ja (ts := [4]) Tryz.func68 (by kernel_rfl) rfl rfl rfl ?_
    (repeat refine qb ?_); refine qa ?_
    repeat (first | refine zR ?_ | refine zK ?_ | refine zM ?_ | refine zB ?_ | refine zA ?_ | refine zS ?_ | refine zL ?_)
    refine qc ?_
    (repeat refine qb ?_); refine qa ?_
    repeat (first | refine zR ?_ | refine zK ?_ | refine zM ?_ | refine zB ?_ | refine zA ?_ | refine zS ?_ | refine zL ?_)
    refine qn rfl (zr wlkR rfl rfl rfl rfl rfl rfl (H) rfl rfl rfl ?_)
    repeat (first | refine zR ?_ | refine zK ?_ | refine zM ?_ | refine zB ?_ | refine zA ?_ | refine zS ?_ | refine zL ?_)
    refine qc ?_
    (repeat refine qb ?_); refine qf rfl (fun h => ?_) (fun h => ?_)
    · (repeat refine qb ?_); refine qa ?_
      repeat (first | refine zR ?_ | refine zK ?_ | refine zM ?_ | refine zB ?_ | refine zA ?_ | refine zS ?_ | refine zL ?_)
      refine qc ?_
      (repeat refine qb ?_); refine qk ?_
      exact ⟨Or.inr rfl, _, _, wlkR, Wk.refl _, rfl, rfl, rfl, rfl⟩
    · cases h
  | true =>
    have e2 : nameM w.met r.id = w.met ++ [r.id] := by simp [nameM, hn]
    rw [hn, e2] at H
    have e : zq w r = (if 64 < w.rules + 1 then 6 else ruleE r, ⟨w.met ++ [r.id], w.rules + 1⟩) := by simp [zq, hn]
    rw [e]
    refine ja (ts := [4]) Tryz.func68 (by kernel_rfl) rfl rfl rfl ?_
    (repeat refine qb ?_); refine qa ?_
    repeat (first | refine zR ?_ | refine zK ?_ | refine zM ?_ | refine zB ?_ | refine zA ?_ | refine zS ?_ | refine zL ?_)
    refine qc ?_
    (repeat refine qb ?_); refine qa ?_
    repeat (first | refine zR ?_ | refine zK ?_ | refine zM ?_ | refine zB ?_ | refine zA ?_ | refine zS ?_ | refine zL ?_)
    refine qn rfl (zr wlkR rfl rfl rfl rfl rfl rfl (H) rfl rfl rfl ?_)
    repeat (first | refine zR ?_ | refine zK ?_ | refine zM ?_ | refine zB ?_ | refine zA ?_ | refine zS ?_ | refine zL ?_)
    refine qc ?_
    (repeat refine qb ?_); refine qf rfl (fun h => ?_) (fun h => ?_)
    · cases h
    · refine qm ?_
      (repeat refine qb ?_); refine qa ?_
      repeat (first | refine zR ?_ | refine zK ?_ | refine zM ?_ | refine zB ?_ | refine zA ?_ | refine zS ?_ | refine zL ?_)
      refine qc ?_
      rw [show IntKind.i64.wrap (w.rules + 1) = w.rules + 1 from IntWalk.i64_in _ (by omega)]
      (repeat refine qb ?_); refine qa ?_
      repeat (first | refine zR ?_ | refine zK ?_ | refine zM ?_ | refine zB ?_ | refine zA ?_ | refine zS ?_ | refine zL ?_)
      refine qc ?_
      (repeat refine qb ?_); refine qf rfl (fun h => ?_) (fun h => ?_)
      · have h1 : 64 < w.rules + 1 := by simp at h; omega
        rw [if_pos h1]
        (repeat refine qb ?_); refine qa ?_
        repeat (first | refine zR ?_ | refine zK ?_ | refine zM ?_ | refine zB ?_ | refine zA ?_ | refine zS ?_ | refine zL ?_)
        refine qc ?_
        (repeat refine qb ?_); refine qk ?_
        exact ⟨Or.inr rfl, _, _, wlkR, Wk.refl _, rfl, rfl, rfl, rfl⟩
      · have h1 : ¬ 64 < w.rules + 1 := by simp at h; omega
        rw [if_neg h1]
        unfold ruleE
        refine qm ?_
        (repeat refine qb ?_); refine qa ?_
        repeat (first | refine zR ?_ | refine zK ?_ | refine zM ?_ | refine zB ?_ | refine zA ?_ | refine zS ?_ | refine zL ?_)
        refine qn rfl (qg rfl rfl rfl rfl (target_h r.target hr.tgt) rfl rfl ?_)
        repeat (first | refine zR ?_ | refine zK ?_ | refine zM ?_ | refine zB ?_ | refine zA ?_ | refine zS ?_ | refine zL ?_)
        refine qc ?_
        (repeat refine qb ?_); refine qa ?_
        repeat (first | refine zR ?_ | refine zK ?_ | refine zM ?_ | refine zB ?_ | refine zA ?_ | refine zS ?_ | refine zL ?_)
        refine qc ?_
        (repeat refine qb ?_); refine qf rfl (fun h => ?_) (fun h => ?_)
        · have h2 : ¬ zI r.target = 0 := by simpa using h
          rw [if_neg h2]
          (repeat refine qb ?_); refine qa ?_
          repeat (first | refine zR ?_ | refine zK ?_ | refine zM ?_ | refine zB ?_ | refine zA ?_ | refine zS ?_ | refine zL ?_)
          refine qc ?_
          (repeat refine qb ?_); refine qk ?_
          exact ⟨Or.inr rfl, _, _, wlkR, Wk.refl _, rfl, rfl, rfl, rfl⟩
        · have h2 : zI r.target = 0 := by simpa using h
          rw [if_pos h2]
          refine qm ?_
          (repeat refine qb ?_); refine qa ?_
          repeat (first | refine zR ?_ | refine zK ?_ | refine zM ?_ | refine zB ?_ | refine zA ?_ | refine zS ?_ | refine zL ?_)
          refine qn rfl (qg rfl rfl rfl rfl (expr_h r.cond hr.cond) rfl rfl ?_)
          repeat (first | refine zR ?_ | refine zK ?_ | refine zM ?_ | refine zB ?_ | refine zA ?_ | refine zS ?_ | refine zL ?_)
          refine qc ?_
          (repeat refine qb ?_); refine qa ?_
          repeat (first | refine zR ?_ | refine zK ?_ | refine zM ?_ | refine zB ?_ | refine zA ?_ | refine zS ?_ | refine zL ?_)
          refine qc ?_
          (repeat refine qb ?_); refine qf rfl (fun h => ?_) (fun h => ?_)
          · have h3 : ¬ zo r.cond = 0 := by simpa using h
            rw [if_neg h3]
            (repeat refine qb ?_); refine qa ?_
            repeat (first | refine zR ?_ | refine zK ?_ | refine zM ?_ | refine zB ?_ | refine zA ?_ | refine zS ?_ | refine zL ?_)
            refine qc ?_
            (repeat refine qb ?_); refine qk ?_
            exact ⟨Or.inr rfl, _, _, wlkR, Wk.refl _, rfl, rfl, rfl, rfl⟩
          · have h3 : zo r.cond = 0 := by simpa using h
            rw [if_pos h3]
            refine qm ?_
            (repeat refine qb ?_); refine qa ?_
            repeat (first | refine zR ?_ | refine zK ?_ | refine zM ?_ | refine zB ?_ | refine zA ?_ | refine zS ?_ | refine zL ?_)
            refine qn rfl (qg rfl rfl rfl rfl (obls_h r.obls hr.obls) rfl rfl ?_)
            repeat (first | refine zR ?_ | refine zK ?_ | refine zM ?_ | refine zB ?_ | refine zA ?_ | refine zS ?_ | refine zL ?_)
            refine qc ?_
            (repeat refine qb ?_); refine qk ?_
            exact ⟨Or.inr rfl, _, _, wlkR, Wk.refl _, rfl, rfl, rfl, rfl⟩
mutual
def polP : Pol → List PV
  | .mk id set alg target rules kids obls => [pS id, pB set, pI alg, tgtP target, .sl 5 (rules.map zt), .sl 7 (polPs kids), zQ obls]
def polPs : List Pol → List (List PV)
  | [] => []
  | k :: r => polP k :: polPs r
end
theorem polPs_eq : ∀ l : List Pol, polPs l = l.map polP
  | [] => rfl
  | k :: r => by rw [polPs, polPs_eq r]; rfl
theorem zf (p : Pol) : polP p = [pS p.id, pB p.set, pI p.alg, tgtP p.target, .sl 5 (p.rules.map zt), .sl 7 (p.kids.map polP), zQ p.obls] := by
  cases p
  rw [polP, polPs_eq]; rfl
structure HeadFit (p : Pol) : Prop where
  id : p.id.size ≤ reachBytes
  tgt : TarFit p.target
  rules : ∀ r ∈ p.rules, RulFit r
  obls : ∀ o ∈ p.obls, o.Fit
  nr : p.rules.length ≤ reachBytes
  nk : p.kids.length ≤ reachBytes
theorem whead_h (w : Wlk) (p : Pol) (hp : HeadFit p) : zZ Tryz.prog 67 [.ptr 1000000 0, .p (.agg (polP p))] (wlkO w) (.p (pI (zF w p).1)) (wlkO (zF w p).2) := by
  have H := wname_h w.met w.rules p.id hp.id
  have l1 : ((p.rules.map zt).length) = p.rules.length := by simp
  have l2 : ((p.kids.map polP).length) = p.kids.length := by simp
  rw [zf]
  unfold zF
  cases hn : zO w.met p.id with
  | false =>
    rw [hn] at H
    simp only [Bool.false_and, Bool.false_eq_true, if_false]
    refine ja (ts := [4]) Tryz.func67 (by kernel_rfl) rfl rfl rfl ?_
    (repeat refine qb ?_); refine qa ?_
    repeat (first | refine zR ?_ | refine zK ?_ | refine zM ?_ | refine zB ?_ | refine zA ?_ | refine zS ?_ | refine zL ?_)
    refine qc ?_
    (repeat refine qb ?_); refine qa ?_
    repeat (first | refine zR ?_ | refine zK ?_ | refine zM ?_ | refine zB ?_ | refine zA ?_ | refine zS ?_ | refine zL ?_)
    refine qn rfl (zr wlkR rfl rfl rfl rfl rfl rfl (H) rfl rfl rfl ?_)
    repeat (first | refine zR ?_ | refine zK ?_ | refine zM ?_ | refine zB ?_ | refine zA ?_ | refine zS ?_ | refine zL ?_)
    refine qc ?_
    (repeat refine qb ?_); refine qf rfl (fun h => ?_) (fun h => ?_)
    · (repeat refine qb ?_); refine qa ?_
      repeat (first | refine zR ?_ | refine zK ?_ | refine zM ?_ | refine zB ?_ | refine zA ?_ | refine zS ?_ | refine zL ?_)
      refine qc ?_
      (repeat refine qb ?_); refine qk ?_
      exact ⟨Or.inr rfl, _, _, wlkR, Wk.refl _, rfl, rfl, rfl, rfl⟩
    · cases h
  | true =>
    rw [hn] at H
    refine ja (ts := [4]) Tryz.func67 (by kernel_rfl) rfl rfl rfl ?_
    (repeat refine qb ?_); refine qa ?_
    repeat (first | refine zR ?_ | refine zK ?_ | refine zM ?_ | refine zB ?_ | refine zA ?_ | refine zS ?_ | refine zL ?_)
    refine qc ?_
    (repeat refine qb ?_); refine qa ?_
    repeat (first | refine zR ?_ | refine zK ?_ | refine zM ?_ | refine zB ?_ | refine zA ?_ | refine zS ?_ | refine zL ?_)
    refine qn rfl (zr wlkR rfl rfl rfl rfl rfl rfl (H) rfl rfl rfl ?_)
    repeat (first | refine zR ?_ | refine zK ?_ | refine zM ?_ | refine zB ?_ | refine zA ?_ | refine zS ?_ | refine zL ?_)
    by_cases h1 : p.alg < 1
    · rw [show decide (p.alg < 1) = true from decide_eq_true h1]
      repeat (first | refine zR ?_ | refine zK ?_ | refine zM ?_ | refine zB ?_ | refine zA ?_ | refine zS ?_ | refine zL ?_)
      refine qc ?_
      (repeat refine qb ?_); refine qf rfl (fun h => ?_) (fun h => ?_)
      · rw [if_neg (by simp; omega)]
        (repeat refine qb ?_); refine qa ?_
        repeat (first | refine zR ?_ | refine zK ?_ | refine zM ?_ | refine zB ?_ | refine zA ?_ | refine zS ?_ | refine zL ?_)
        refine qc ?_
        (repeat refine qb ?_); refine qk ?_
        exact ⟨Or.inr rfl, _, _, wlkR, Wk.refl _, rfl, rfl, rfl, rfl⟩
      · cases h
    · rw [show decide (p.alg < 1) = false from decide_eq_false h1]
      repeat (first | refine zR ?_ | refine zK ?_ | refine zM ?_ | refine zB ?_ | refine zA ?_ | refine zS ?_ | refine zL ?_)
      refine qc ?_
      (repeat refine qb ?_); refine qf rfl (fun h => ?_) (fun h => ?_)
      · have h2 : 6 < p.alg := by simpa using h
        rw [if_neg (by simp; omega)]
        (repeat refine qb ?_); refine qa ?_
        repeat (first | refine zR ?_ | refine zK ?_ | refine zM ?_ | refine zB ?_ | refine zA ?_ | refine zS ?_ | refine zL ?_)
        refine qc ?_
        (repeat refine qb ?_); refine qk ?_
        exact ⟨Or.inr rfl, _, _, wlkR, Wk.refl _, rfl, rfl, rfl, rfl⟩
      · have h2 : ¬ 6 < p.alg := by simpa using h
        rw [if_pos (by simp; omega)]
        unfold headE
        refine qm ?_
        (repeat refine qb ?_); refine qs (by kernel_rfl) ?_
        repeat (refine qr qe rfl (by exact True.intro) rfl ?_)
        refine qQ ?_
        rw [l1, l2]
        (repeat refine qb ?_); refine qf rfl (fun h => ?_) (fun h => ?_)
        · rw [if_pos (by revert h; cases p.set <;> simp)]
          (repeat refine qb ?_); refine qa ?_
          repeat (first | refine zR ?_ | refine zK ?_ | refine zM ?_ | refine zB ?_ | refine zA ?_ | refine zS ?_ | refine zL ?_)
          refine qc ?_
          (repeat refine qb ?_); refine qk ?_
          exact ⟨Or.inr rfl, _, _, wlkR, Wk.refl _, rfl, rfl, rfl, rfl⟩
        · rw [if_neg (by revert h; cases p.set <;> simp)]
          refine qm ?_
          (repeat refine qb ?_); refine qa ?_
          repeat (first | refine zR ?_ | refine zK ?_ | refine zM ?_ | refine zB ?_ | refine zA ?_ | refine zS ?_ | refine zL ?_)
          refine qn rfl (qg rfl rfl rfl rfl (target_h p.target hp.tgt) rfl rfl ?_)
          repeat (first | refine zR ?_ | refine zK ?_ | refine zM ?_ | refine zB ?_ | refine zA ?_ | refine zS ?_ | refine zL ?_)
          refine qc ?_
          (repeat refine qb ?_); refine qa ?_
          repeat (first | refine zR ?_ | refine zK ?_ | refine zM ?_ | refine zB ?_ | refine zA ?_ | refine zS ?_ | refine zL ?_)
          refine qc ?_
          (repeat refine qb ?_); refine qf rfl (fun h => ?_) (fun h => ?_)
          · have h3 : ¬ zI p.target = 0 := by simpa using h
            rw [if_neg h3]
            (repeat refine qb ?_); refine qa ?_
            repeat (first | refine zR ?_ | refine zK ?_ | refine zM ?_ | refine zB ?_ | refine zA ?_ | refine zS ?_ | refine zL ?_)
            refine qc ?_
            (repeat refine qb ?_); refine qk ?_
            exact ⟨Or.inr rfl, _, _, wlkR, Wk.refl _, rfl, rfl, rfl, rfl⟩
          · have h3 : zI p.target = 0 := by simpa using h
            rw [if_pos h3]
            refine qm ?_
            (repeat refine qb ?_); refine qa ?_
            repeat (first | refine zR ?_ | refine zK ?_ | refine zM ?_ | refine zB ?_ | refine zA ?_ | refine zS ?_ | refine zL ?_)
            refine qn rfl (qg rfl rfl rfl rfl (obls_h p.obls hp.obls) rfl rfl ?_)
            repeat (first | refine zR ?_ | refine zK ?_ | refine zM ?_ | refine zB ?_ | refine zA ?_ | refine zS ?_ | refine zL ?_)
            refine qc ?_
            (repeat refine qb ?_); refine qa ?_
            repeat (first | refine zR ?_ | refine zK ?_ | refine zM ?_ | refine zB ?_ | refine zA ?_ | refine zS ?_ | refine zL ?_)
            refine qc ?_
            (repeat refine qb ?_); refine qf rfl (fun h => ?_) (fun h => ?_)
            · have h4 : ¬ oblsS p.obls = 0 := by simpa using h
              rw [if_neg h4]
              (repeat refine qb ?_); refine qa ?_
              repeat (first | refine zR ?_ | refine zK ?_ | refine zM ?_ | refine zB ?_ | refine zA ?_ | refine zS ?_ | refine zL ?_)
              refine qc ?_
              (repeat refine qb ?_); refine qk ?_
              exact ⟨Or.inr rfl, _, _, wlkR, Wk.refl _, rfl, rfl, rfl, rfl⟩
            · have h4 : oblsS p.obls = 0 := by simpa using h
              rw [if_pos h4]
              refine qm ?_
              (repeat refine qb ?_); refine qs (by kernel_rfl) ?_
              repeat (refine qr qe rfl (by exact True.intro) rfl ?_)
              refine qQ ?_
              rw [l1, l2]
              (repeat refine qb ?_); refine qf rfl (fun h => ?_) (fun h => ?_)
              · rw [if_pos (by simp at h; omega)]
                (repeat refine qb ?_); refine qa ?_
                repeat (first | refine zR ?_ | refine zK ?_ | refine zM ?_ | refine zB ?_ | refine zA ?_ | refine zS ?_ | refine zL ?_)
                refine qc ?_
                (repeat refine qb ?_); refine qk ?_
                exact ⟨Or.inr rfl, _, _, wlkR, Wk.refl _, rfl, rfl, rfl, rfl⟩
              · rw [if_neg (by simp at h; omega)]
                refine qm ?_
                (repeat refine qb ?_); refine qa ?_
                repeat (first | refine zR ?_ | refine zK ?_ | refine zM ?_ | refine zB ?_ | refine zA ?_ | refine zS ?_ | refine zL ?_)
                refine qc ?_
                (repeat refine qb ?_); refine qk ?_
                exact ⟨Or.inr rfl, _, _, wlkR, Wk.refl _, rfl, rfl, rfl, rfl⟩
def PolFit : Nat → Pol → Prop
  | 0, _ => True
  | n + 1, p => HeadFit p ∧ ∀ k ∈ p.kids, PolFit n k
theorem wpol_h : ∀ (n : Nat) (hn : n ≤ 4) (w : Wlk) (p : Pol), lim w → PolFit n p → zZ Tryz.prog 44 [.ptr 1000000 0, .p (.agg (polP p)), .p (pI (5 - n))] (wlkO w) (.p (pI (polS n w p).1)) (wlkO (polS n w p).2)
  | 0, _, w, p, _, _ => by
    rw [zf]
    refine ja (ts := [6]) Tryz.func44 (by kernel_rfl) rfl rfl rfl ?_
    (repeat refine qb ?_); refine qa ?_
    repeat (first | refine zR ?_ | refine zK ?_ | refine zM ?_ | refine zB ?_ | refine zA ?_ | refine zS ?_ | refine zL ?_)
    refine qc ?_
    (repeat refine qb ?_); refine qa ?_
    repeat (first | refine zR ?_ | refine zK ?_ | refine zM ?_ | refine zB ?_ | refine zA ?_ | refine zS ?_ | refine zL ?_)
    refine qc ?_
    (repeat refine qb ?_); refine qf rfl (fun h => ?_) (fun h => ?_)
    · (repeat refine qb ?_); refine qa ?_
      repeat (first | refine zR ?_ | refine zK ?_ | refine zM ?_ | refine zB ?_ | refine zA ?_ | refine zS ?_ | refine zL ?_)
      refine qc ?_
      (repeat refine qb ?_); refine qk ?_
      exact ⟨Or.inr rfl, _, _, wlkR, Wk.refl _, rfl, rfl, rfl, rfl⟩
    · cases h
  | n + 1, hn, w, p, hw, hf => by
    have H := whead_h w p hf.1
    have IH := fun w k hw hk => wpol_h n (by omega) w k hw hk
    have l1 : ((p.rules.map zt).length) = p.rules.length := by simp
    have l2 : ((p.kids.map polP).length) = p.kids.length := by simp
    rw [zf] at H ⊢
    rw [polS]
    have hlen := hf.1.nr
    have hlen2 := hf.1.nk
    unfold reachBytes at hlen hlen2
    refine ja (ts := [6]) Tryz.func44 (by kernel_rfl) rfl rfl rfl ?_
    (repeat refine qb ?_); refine qa ?_
    repeat (first | refine zR ?_ | refine zK ?_ | refine zM ?_ | refine zB ?_ | refine zA ?_ | refine zS ?_ | refine zL ?_)
    refine qc ?_
    (repeat refine qb ?_); refine qa ?_
    repeat (first | refine zR ?_ | refine zK ?_ | refine zM ?_ | refine zB ?_ | refine zA ?_ | refine zS ?_ | refine zL ?_)
    refine qc ?_
    (repeat refine qb ?_); refine qf rfl (fun h => ?_) (fun h => ?_)
    · exfalso
      simp at h
      omega
    · refine qm ?_
      (repeat refine qb ?_); refine qa ?_
      repeat (first | refine zR ?_ | refine zK ?_ | refine zM ?_ | refine zB ?_ | refine zA ?_ | refine zS ?_ | refine zL ?_)
      refine qn rfl (zr wlkR rfl rfl rfl rfl rfl rfl (H) rfl rfl rfl ?_)
      repeat (first | refine zR ?_ | refine zK ?_ | refine zM ?_ | refine zB ?_ | refine zA ?_ | refine zS ?_ | refine zL ?_)
      refine qc ?_
      (repeat refine qb ?_); refine qa ?_
      repeat (first | refine zR ?_ | refine zK ?_ | refine zM ?_ | refine zB ?_ | refine zA ?_ | refine zS ?_ | refine zL ?_)
      refine qc ?_
      (repeat refine qb ?_); refine qf rfl (fun h => ?_) (fun h => ?_)
      · have h1 : ¬ (zF w p).1 = 0 := by simpa using h
        rw [if_neg h1]
        (repeat refine qb ?_); refine qa ?_
        repeat (first | refine zR ?_ | refine zK ?_ | refine zM ?_ | refine zB ?_ | refine zA ?_ | refine zS ?_ | refine zL ?_)
        refine qc ?_
        (repeat refine qb ?_); refine qk ?_
        exact ⟨Or.inr rfl, _, _, wlkR, Wk.refl _, rfl, rfl, rfl, rfl⟩
      · have h1 : (zF w p).1 = 0 := by simpa using h
        rw [if_pos h1]
        have hw1 : lim (zF w p).2 := hw
        generalize (zF w p).2 = w1 at *
        refine qm ?_
        (repeat refine qb ?_); refine qa ?_
        repeat (first | refine zR ?_ | refine zK ?_ | refine zM ?_ | refine zB ?_ | refine zA ?_ | refine zS ?_ | refine zL ?_)
        refine qc ?_
        (repeat refine qb ?_); refine ql ?_
        refine SW.wk (qq [0, 2, 4, 23, 24, 25] [(1000000, 1000000), (1000001, 1000001), (4, 4)] rfl rfl) ?_
        refine qO (fun m s => ∃ (k : Nat) (kk : Int) (wk : Wlk), k ≤ p.rules.length ∧ m = p.rules.length - k ∧ kk = k ∧ (seqS zq w1 (p.rules.take k)).1 = 0 ∧ wk = (seqS zq w1 (p.rules.take k)).2 ∧
          s = ⟨52, [(0, .ptr 1000000 0), (2, .p (pI (5 - (n + 1 : Nat)))), (4, .ptr 4 0), (23, .p (.sl 5 (p.rules.map zt))), (24, .p (pI p.rules.length)), (25, .p (pI kk))], wlkO wk ++ [(4, .cells ([pS p.id, pB p.set, pI p.alg, tgtP p.target, .sl 5 (p.rules.map zt), .sl 7 (p.kids.map polP), zQ p.obls].map .p))]⟩) p.rules.length ⟨0, 0, w1, Nat.zero_le _, rfl, rfl, rfl, rfl, by rw [← l1]; rfl⟩ ?_
        rintro m s ⟨k, _, wk, hk, rfl, rfl, ha, hwk, rfl⟩
        have hlk : lim wk := by rw [hwk]; exact jI (P := lim) (fun w x hw h => ruleS_lim hw h) hw1 ha
        (repeat refine qb ?_); refine qa ?_
        repeat (first | refine zR ?_ | refine zK ?_ | refine zM ?_ | refine zB ?_ | refine zA ?_ | refine zS ?_ | refine zL ?_)
        refine qc ?_
        (repeat refine qb ?_); refine qf rfl (fun hlt => ?_) (fun hlt => ?_)
        · refine qm ?_
          simp only [decide_eq_true_eq] at hlt
          have hlt' : k < p.rules.length := by omega
          have hst := seqS_some hlt' ha
          rw [← hwk] at hst
          (repeat refine qb ?_); refine ql ?_
          (repeat refine qb ?_); refine qa ?_
          repeat (first | refine zR ?_ | refine zK ?_ | refine zM ?_ | refine zB ?_ | refine zA ?_ | refine zS ?_ | refine zL ?_)
          refine qw qe rfl rfl (by rw [l1]; omega) rfl ?_
          rw [qJ hlt']
          repeat (first | refine zR ?_ | refine zK ?_ | refine zM ?_ | refine zB ?_ | refine zA ?_ | refine zS ?_ | refine zL ?_)
          refine qc ?_
          have H2 := wrule_h wk hlk p.rules[k] (hf.1.rules _ (List.getElem_mem hlt'))
          (repeat refine qb ?_); refine qa ?_
          repeat (first | refine zR ?_ | refine zK ?_ | refine zM ?_ | refine zB ?_ | refine zA ?_ | refine zS ?_ | refine zL ?_)
          refine qn rfl (zr wlkR rfl rfl rfl rfl rfl rfl (H2) rfl rfl rfl ?_)
          repeat (first | refine zR ?_ | refine zK ?_ | refine zM ?_ | refine zB ?_ | refine zA ?_ | refine zS ?_ | refine zL ?_)
          refine qc ?_
          (repeat refine qb ?_); refine qa ?_
          repeat (first | refine zR ?_ | refine zK ?_ | refine zM ?_ | refine zB ?_ | refine zA ?_ | refine zS ?_ | refine zL ?_)
          refine qc ?_
          (repeat refine qb ?_); refine qf rfl (fun h => ?_) (fun h => ?_)
          · have h2 : ¬ (zq wk p.rules[k]).1 = 0 := by simpa using h
            have e : seqS zq w1 p.rules = zq wk p.rules[k] := by rw [seqS_stop (k + 1) (by rw [hst]; exact h2), hst]
            rw [e, if_neg h2]
            (repeat refine qb ?_); refine qa ?_
            repeat (first | refine zR ?_ | refine zK ?_ | refine zM ?_ | refine zB ?_ | refine zA ?_ | refine zS ?_ | refine zL ?_)
            refine qc ?_
            (repeat refine qb ?_); refine qk ?_
            exact ⟨Or.inr rfl, _, _, wlkR, Wk.refl _, rfl, rfl, rfl, rfl⟩
          · have h2 : (zq wk p.rules[k]).1 = 0 := by simpa using h
            refine qm ?_
            (repeat refine qb ?_); refine qa ?_
            repeat (first | refine zR ?_ | refine zK ?_ | refine zM ?_ | refine zB ?_ | refine zA ?_ | refine zS ?_ | refine zL ?_)
            refine qc ?_
            refine ⟨_, _, ?_, qq [0, 2, 4, 23, 24, 25] [(1000000, 1000000), (1000001, 1000001), (4, 4)] rfl rfl, k + 1, _, _, hlt', rfl, qz hlt' (by omega), by rw [hst]; exact h2, by rw [hst], rfl⟩
            omega
        · refine qK ?_
          simp only [decide_eq_false_iff_not] at hlt
          have hkk : k = p.rules.length := by omega
          subst hkk
          rw [List.take_length] at ha hwk
          rw [if_pos ha, ← hwk]
          clear hwk
          (repeat refine qb ?_); refine qa ?_
          repeat (first | refine zR ?_ | refine zK ?_ | refine zM ?_ | refine zB ?_ | refine zA ?_ | refine zS ?_ | refine zL ?_)
          refine qc ?_
          (repeat refine qb ?_); refine ql ?_
          refine SW.wk (qq [0, 2, 37, 38, 39] [(1000000, 1000000), (1000001, 1000001)] rfl rfl) ?_
          refine qO (fun m s => ∃ (k : Nat) (kk : Int) (w2 : Wlk), k ≤ p.kids.length ∧ m = p.kids.length - k ∧ kk = k ∧ (seqS (polS n) wk (p.kids.take k)).1 = 0 ∧ w2 = (seqS (polS n) wk (p.kids.take k)).2 ∧
            s = ⟨52, [(0, .ptr 1000000 0), (2, .p (pI (5 - (n + 1 : Nat)))), (37, .p (.sl 7 (p.kids.map polP))), (38, .p (pI p.kids.length)), (39, .p (pI kk))], wlkO w2⟩) p.kids.length ⟨0, 0, wk, Nat.zero_le _, rfl, rfl, rfl, rfl, by rw [← l2]; rfl⟩ ?_
          rintro m s ⟨k, _, w2, hk, rfl, rfl, ha, hwk, rfl⟩
          have hl2 : lim w2 := by rw [hwk]; exact jI (P := lim) (fun w x hw h => polS_lim n w x hw h) hlk ha
          (repeat refine qb ?_); refine qa ?_
          repeat (first | refine zR ?_ | refine zK ?_ | refine zM ?_ | refine zB ?_ | refine zA ?_ | refine zS ?_ | refine zL ?_)
          refine qc ?_
          (repeat refine qb ?_); refine qf rfl (fun hlt => ?_) (fun hlt => ?_)
          · refine qm ?_
            simp only [decide_eq_true_eq] at hlt
            have hlt' : k < p.kids.length := by omega
            have hst := seqS_some hlt' ha
            rw [← hwk] at hst
            (repeat refine qb ?_); refine ql ?_
            (repeat refine qb ?_); refine qa ?_
            repeat (first | refine zR ?_ | refine zK ?_ | refine zM ?_ | refine zB ?_ | refine zA ?_ | refine zS ?_ | refine zL ?_)
            refine qw qe rfl rfl (by rw [l2]; omega) rfl ?_
            rw [qJ hlt', zf]
            repeat (first | refine zR ?_ | refine zK ?_ | refine zM ?_ | refine zB ?_ | refine zA ?_ | refine zS ?_ | refine zL ?_)
            refine qc ?_
            have H2 := IH w2 p.kids[k] hl2 (hf.2 _ (List.getElem_mem hlt'))
            rw [zf] at H2
            (repeat refine qb ?_); refine qa ?_
            repeat (first | refine zR ?_ | refine zK ?_ | refine zM ?_ | refine zB ?_ | refine zA ?_ | refine zS ?_ | refine zL ?_)
            rw [show IntKind.i64.wrap ((5 : Int) - (n + 1 : Nat) + 1) = 5 - (n : Int) by rw [IntWalk.i64_in _ (by omega)]; omega]
            refine qn rfl (zr wlkR rfl rfl rfl rfl rfl rfl (H2) rfl rfl rfl ?_)
            repeat (first | refine zR ?_ | refine zK ?_ | refine zM ?_ | refine zB ?_ | refine zA ?_ | refine zS ?_ | refine zL ?_)
            refine qc ?_
            (repeat refine qb ?_); refine qa ?_
            repeat (first | refine zR ?_ | refine zK ?_ | refine zM ?_ | refine zB ?_ | refine zA ?_ | refine zS ?_ | refine zL ?_)
            refine qc ?_
            (repeat refine qb ?_); refine qf rfl (fun h => ?_) (fun h => ?_)
            · have h2 : ¬ (polS n w2 p.kids[k]).1 = 0 := by simpa using h
              have e : seqS (polS n) wk p.kids = polS n w2 p.kids[k] := by rw [seqS_stop (k + 1) (by rw [hst]; exact h2), hst]
              rw [e]
              (repeat refine qb ?_); refine qa ?_
              repeat (first | refine zR ?_ | refine zK ?_ | refine zM ?_ | refine zB ?_ | refine zA ?_ | refine zS ?_ | refine zL ?_)
              refine qc ?_
              (repeat refine qb ?_); refine qk ?_
              exact ⟨Or.inr rfl, _, _, wlkR, Wk.refl _, rfl, rfl, rfl, rfl⟩
            · have h2 : (polS n w2 p.kids[k]).1 = 0 := by simpa using h
              refine qm ?_
              (repeat refine qb ?_); refine qa ?_
              repeat (first | refine zR ?_ | refine zK ?_ | refine zM ?_ | refine zB ?_ | refine zA ?_ | refine zS ?_ | refine zL ?_)
              refine qc ?_
              refine ⟨_, _, ?_, qq [0, 2, 37, 38, 39] [(1000000, 1000000), (1000001, 1000001)] rfl rfl, k + 1, _, _, hlt', rfl, qz hlt' (by omega), by rw [hst]; exact h2, by rw [hst], rfl⟩
              omega
          · refine qK ?_
            simp only [decide_eq_false_iff_not] at hlt
            have hkk : k = p.kids.length := by omega
            subst hkk
            rw [List.take_length] at ha hwk
            rw [ha, ← hwk]
            (repeat refine qb ?_); refine qa ?_
            repeat (first | refine zR ?_ | refine zK ?_ | refine zM ?_ | refine zB ?_ | refine zA ?_ | refine zS ?_ | refine zL ?_)
            refine qc ?_
            (repeat refine qb ?_); refine qk ?_
            exact ⟨Or.inr rfl, _, _, wlkR, Wk.refl _, rfl, rfl, rfl, rfl⟩
theorem right_h (p : Pol) (hf : PolFit 4 p) : Holds Tryz.prog 17 [.agg (polP p)] (.p (pI (zb p))) [] := by
  have H := wpol_h 4 (Nat.le_refl _) ⟨[], 0⟩ p ⟨Int.le_refl _, by decide⟩ hf
  rw [zf] at H ⊢
  refine qA (ts := [2]) Tryz.func17 (by kernel_rfl) rfl rfl rfl ?_
  (repeat refine qb ?_); refine qa ?_
  repeat (first | refine zR ?_ | refine zK ?_ | refine zM ?_ | refine zB ?_ | refine zA ?_ | refine zS ?_ | refine zL ?_)
  refine qc ?_
  (repeat refine qb ?_); refine qa ?_
  repeat (first | refine zR ?_ | refine zK ?_ | refine zM ?_ | refine zB ?_ | refine zA ?_ | refine zS ?_ | refine zL ?_)
  refine qc ?_
  (repeat refine qb ?_); refine qa ?_
  repeat (first | refine zR ?_ | refine zK ?_ | refine zM ?_ | refine zB ?_ | refine zA ?_ | refine zS ?_ | refine zL ?_)
  refine qn rfl (zr [(6, 1000000), (4, 1000001)] rfl rfl rfl rfl rfl rfl (H) rfl rfl rfl ?_)
  repeat (first | refine zR ?_ | refine zK ?_ | refine zM ?_ | refine zB ?_ | refine zA ?_ | refine zS ?_ | refine zL ?_)
  refine qc ?_
  (repeat refine qb ?_); refine qk ?_
  exact ⟨Or.inr rfl, _, _, [], Wk.refl _, rfl, rfl, rfl, rfl⟩
end Go.Proofs.YtppfcacnofjmdaaGreatDoor
namespace Go.Proofs.YtppfcacnofjmdaaGreatDoor
set_option linter.unusedVariables false
set_option linter.unusedSimpArgs false
open Go.RowKit
theorem opens_tint : Opens Tryz.prog 3 1 rInt := opens_int Tryz.underlying3 (by kernel_rfl)
theorem opens_tstr : Opens Tryz.prog 9 1 rStr := opens_str Tryz.underlying9 (by kernel_rfl)
theorem opens_tbool : Opens Tryz.prog 4 1 rBool := opens_bool Tryz.underlying4 (by kernel_rfl)
set_option maxRecDepth 100000 in
theorem opens_val : Opens Tryz.prog 52 3 rVal := by
  refine ⟨by kernel_rfl, fun H enc w fuel cs x h hw => ?_⟩
  obtain ⟨hlen, m, _, hf⟩ := jl Tryz.underlying52 h hw
  have hc : Tryz.prog.cellsOf 52 = 3 := by kernel_rfl
  rw [hc] at hlen
  match cs, hlen with
  | [c0, c1, c2], _ =>
    obtain ⟨k, hk⟩ := opens_tint.field (off := 0) (hf 0 _ rfl)
    obtain ⟨n, hn⟩ := opens_tint.field (off := 1) (hf 1 _ rfl)
    obtain ⟨s, hs⟩ := opens_tstr.field (off := 2) (hf 2 _ rfl)
    simp only [rInt, rStr, List.drop_succ_cons, List.drop_zero, List.take_succ_cons, List.take_zero, List.cons.injEq, and_true] at hk hn hs
    obtain ⟨rfl, hk⟩ := hk
    obtain ⟨rfl, hn⟩ := hn
    obtain ⟨rfl, hs⟩ := hs
    exact ⟨⟨k, n, s⟩, rfl, hk, hn, hs⟩
theorem opens_vals : Opens Tryz.prog 86 1 (rSl rVal 3) := wK Tryz.underlying86 (by kernel_rfl) (by decide +kernel) (by omega) opens_val
end Go.Proofs.YtppfcacnofjmdaaGreatDoor
namespace Go.Proofs.YtppfcacnofjmdaaGreatDoor
set_option linter.unusedVariables false
set_option linter.unusedSimpArgs false
open Go.RowKit
set_option maxRecDepth 100000 in
theorem opens_atr : Opens Tryz.prog 54 3 rAtr := by
  refine ⟨by kernel_rfl, fun H enc w fuel cs x h hw => ?_⟩
  obtain ⟨hlen, m, _, hf⟩ := jl Tryz.underlying54 h hw
  have hc : Tryz.prog.cellsOf 54 = 3 := by kernel_rfl
  rw [hc] at hlen
  match cs, hlen with
  | [c0, c1, c2], _ =>
    obtain ⟨k, hk⟩ := opens_tint.field (off := 0) (hf 0 _ rfl)
    obtain ⟨n, hn⟩ := opens_tstr.field (off := 1) (hf 1 _ rfl)
    obtain ⟨s, hs⟩ := opens_tbool.field (off := 2) (hf 2 _ rfl)
    simp only [rInt, rStr, rBool, List.drop_succ_cons, List.drop_zero, List.take_succ_cons, List.take_zero, List.cons.injEq, and_true] at hk hn hs
    obtain ⟨rfl, hk⟩ := hk
    obtain ⟨rfl, hn⟩ := hn
    obtain rfl := hs
    exact ⟨⟨k, n, s⟩, rfl, hk, hn⟩
set_option maxRecDepth 100000 in
theorem opens_mat : Opens Tryz.prog 62 7 rMat := by
  refine ⟨by kernel_rfl, fun H enc w fuel cs x h hw => ?_⟩
  obtain ⟨hlen, m, _, hf⟩ := jl Tryz.underlying62 h hw
  have hc : Tryz.prog.cellsOf 62 = 7 := by kernel_rfl
  rw [hc] at hlen
  match cs, hlen with
  | [c0, c1, c2, c3, c4, c5, c6], _ =>
    obtain ⟨a, ha⟩ := opens_atr.field (off := 0) (hf 0 _ rfl)
    obtain ⟨o, ho⟩ := opens_tint.field (off := 3) (hf 1 _ rfl)
    obtain ⟨v, hv⟩ := opens_val.field (off := 4) (hf 2 _ rfl)
    simp only [rInt, rAtr, rVal, Atr.cells, Val.cells, List.drop_succ_cons, List.drop_zero, List.take_succ_cons, List.take_zero, List.cons.injEq, and_true] at ha ho hv
    obtain ⟨⟨rfl, rfl, rfl⟩, ha⟩ := ha
    obtain ⟨rfl, ho⟩ := ho
    obtain ⟨⟨rfl, rfl, rfl⟩, hv⟩ := hv
    exact ⟨⟨a, o, v⟩, rfl, ha, ho, hv⟩
set_option maxRecDepth 100000 in
theorem opens_giv : Opens Tryz.prog 88 3 rGiv := by
  refine ⟨by kernel_rfl, fun H enc w fuel cs x h hw => ?_⟩
  obtain ⟨hlen, m, _, hf⟩ := jl Tryz.underlying88 h hw
  have hc : Tryz.prog.cellsOf 88 = 3 := by kernel_rfl
  rw [hc] at hlen
  match cs, hlen with
  | [c0, c1, c2], _ =>
    obtain ⟨k, hk⟩ := opens_tint.field (off := 0) (hf 0 _ rfl)
    obtain ⟨n, hn⟩ := opens_tstr.field (off := 1) (hf 1 _ rfl)
    obtain ⟨s, hs⟩ := opens_vals.field (off := 2) (hf 2 _ rfl)
    simp only [rInt, rStr, rSl, List.drop_succ_cons, List.drop_zero, List.take_succ_cons, List.take_zero, List.cons.injEq, and_true] at hk hn hs
    obtain ⟨rfl, hk⟩ := hk
    obtain ⟨rfl, hn⟩ := hn
    obtain ⟨A, c, rfl, h1, h2, h3⟩ := hs
    exact ⟨⟨k, n, s⟩, A, c, rfl, hk, hn, h1, h2, h3⟩
theorem opens_givs : Opens Tryz.prog 29 1 (rSl rGiv 3) := wK Tryz.underlying29 (by kernel_rfl) (by decide +kernel) (by omega) opens_giv
theorem opens_mats : Opens Tryz.prog 63 1 (rSl rMat 7) := wK Tryz.underlying63 (by kernel_rfl) (by decide +kernel) (by omega) opens_mat
theorem opens_matss : Opens Tryz.prog 64 1 (rSl (rSl rMat 7) 1) := wK Tryz.underlying64 (by kernel_rfl) (by decide +kernel) (by omega) opens_mats
theorem opens_tar : Opens Tryz.prog 23 1 (rSl (rSl (rSl rMat 7) 1) 1) := wK Tryz.underlying23 (by kernel_rfl) (by decide +kernel) (by omega) opens_matss
end Go.Proofs.YtppfcacnofjmdaaGreatDoor
namespace Go.Proofs.YtppfcacnofjmdaaGreatDoor
set_option linter.unusedVariables false
set_option linter.unusedSimpArgs false
open Go.RowKit
set_option maxRecDepth 100000 in
theorem opens_obl : Opens Tryz.prog 43 3 rObl := by
  refine ⟨by kernel_rfl, fun H enc w fuel cs x h hw => ?_⟩
  obtain ⟨hlen, m, _, hf⟩ := jl Tryz.underlying43 h hw
  have hc : Tryz.prog.cellsOf 43 = 3 := by kernel_rfl
  rw [hc] at hlen
  match cs, hlen with
  | [c0, c1, c2], _ =>
    obtain ⟨k, hk⟩ := opens_tint.field (off := 0) (hf 0 _ rfl)
    obtain ⟨n, hn⟩ := opens_tint.field (off := 1) (hf 1 _ rfl)
    obtain ⟨s, hs⟩ := opens_tstr.field (off := 2) (hf 2 _ rfl)
    simp only [rInt, rStr, List.drop_succ_cons, List.drop_zero, List.take_succ_cons, List.take_zero, List.cons.injEq, and_true] at hk hn hs
    obtain ⟨rfl, hk⟩ := hk
    obtain ⟨rfl, hn⟩ := hn
    obtain ⟨rfl, hs⟩ := hs
    exact ⟨⟨k, n, s⟩, rfl, hk, hn, hs⟩
set_option maxRecDepth 100000 in
theorem opens_nod : Opens Tryz.prog 56 7 rNod := by
  refine ⟨by kernel_rfl, fun H enc w fuel cs x h hw => ?_⟩
  obtain ⟨hlen, m, _, hf⟩ := jl Tryz.underlying56 h hw
  have hc : Tryz.prog.cellsOf 56 = 7 := by kernel_rfl
  rw [hc] at hlen
  match cs, hlen with
  | [c0, c1, c2, c3, c4, c5, c6], _ =>
    obtain ⟨o, ho⟩ := opens_tint.field (off := 0) (hf 0 _ rfl)
    obtain ⟨v, hv⟩ := opens_val.field (off := 1) (hf 1 _ rfl)
    obtain ⟨a, ha⟩ := opens_atr.field (off := 4) (hf 2 _ rfl)
    simp only [rInt, rAtr, rVal, Atr.cells, Val.cells, List.drop_succ_cons, List.drop_zero, List.take_succ_cons, List.take_zero, List.cons.injEq, and_true] at ha ho hv
    obtain ⟨⟨rfl, rfl, rfl⟩, ha⟩ := ha
    obtain ⟨rfl, ho⟩ := ho
    obtain ⟨⟨rfl, rfl, rfl⟩, hv⟩ := hv
    exact ⟨⟨o, v, a⟩, rfl, ho, hv, ha⟩
theorem opens_obls : Opens Tryz.prog 26 1 (rSl rObl 3) := wK Tryz.underlying26 (by kernel_rfl) (by decide +kernel) (by omega) opens_obl
theorem opens_nods : Opens Tryz.prog 50 1 (rSl rNod 7) := wK Tryz.underlying50 (by kernel_rfl) (by decide +kernel) (by omega) opens_nod
theorem obl_pv {w : World} {cs : List Value} {x : Obli} (h : rObl w cs x) : rPV (fun _ => True) w cs x.pv := by
  rw [h.1]; exact plain_rPV (xs := [.int .i64 x.on, .int .i64 x.kind, .string x.arg]) (by simp [plain])
theorem nod_pv {w : World} {cs : List Value} {x : Nod} (h : rNod w cs x) : rPV (fun _ => True) w cs x.pv := by
  rw [h.1]; exact plain_rPV (xs := [.int .i64 x.op, .int .i64 x.val.kind, .int .i64 x.val.n, .string x.val.s, .int .i64 x.attr.cat, .string x.attr.name, .bool x.attr.must]) (by simp [plain])
end Go.Proofs.YtppfcacnofjmdaaGreatDoor
namespace Go.Proofs.YtppfcacnofjmdaaGreatDoor
set_option linter.unusedVariables false
set_option linter.unusedSimpArgs false
open Go.RowKit
theorem SlV.rel {α : Type} {R : Rp α} {f : α → List PV} {z : Nat} {w : World} {v : Value} {l : List α} (h : SlV R z w v l) (hz : ∀ x, (f x).length = z ∧ (f x).all oneP = true) (hf : ∀ x ∈ l, ∀ cs, R w cs x → rPV (fun _ => True) w cs (f x)) : RelP (fun _ => True) w (.sl z (l.map f)) v := by
  obtain ⟨A, c, rfl, h1, h2, h3⟩ := h
  exact rel_sl h3 h1 h2 hz hf
theorem SlV.fit {α : Type} {R : Rp α} {size : Nat} {w : World} {v : Value} {l : List α} {F : α → Prop} (h : SlV R size w v l) (hR : ∀ cs x, R w cs x → F x) : (∀ x ∈ l, F x) ∧ l.length ≤ reachBytes := by
  obtain ⟨A, c, rfl, h1, h2, h3⟩ := h
  exact ⟨h3.fit hR, h2.1⟩
theorem jf {ok : Nat → Prop} {w : World} {c : Value} {cs : List Value} {p : PV} {ps : List PV} (h : RelP ok w p c) (t : rPV ok w cs ps) : rPV ok w (c :: cs) (p :: ps) := by
  refine ⟨by simp [t.1], fun j s u hs hu => ?_⟩
  cases j with
  | zero => simp at hs hu; subst hs; subst hu; exact h
  | succ j => exact t.2 j s u (by simpa using hs) (by simpa using hu)
theorem rPV_nil {ok : Nat → Prop} {w : World} : rPV ok w [] [] := ⟨rfl, fun j s u hs _ => by simp at hs⟩
set_option maxRecDepth 100000 in
theorem opens_rul : Opens Tryz.prog 59 5 rRul := by
  refine ⟨by kernel_rfl, fun H enc w fuel cs x h hw => ?_⟩
  obtain ⟨hlen, m, _, hf⟩ := jl Tryz.underlying59 h hw
  have hc : Tryz.prog.cellsOf 59 = 5 := by kernel_rfl
  rw [hc] at hlen
  match cs, hlen with
  | [c0, c1, c2, c3, c4], _ =>
    obtain ⟨o, ho⟩ := opens_tstr.field (off := 0) (hf 0 _ rfl)
    obtain ⟨b, hb⟩ := opens_tbool.field (off := 1) (hf 1 _ rfl)
    obtain ⟨t, h2⟩ := opens_tar.field (off := 2) (hf 2 _ rfl)
    obtain ⟨n, h3⟩ := opens_nods.field (off := 3) (hf 3 _ rfl)
    obtain ⟨l, h4⟩ := opens_obls.field (off := 4) (hf 4 _ rfl)
    simp only [rStr, rBool, List.drop_succ_cons, List.drop_zero, List.take_succ_cons, List.take_zero, List.cons.injEq, and_true] at ho hb h2 h3 h4
    obtain ⟨rfl, ho⟩ := ho
    subst hb
    exact ⟨⟨o, b, t, n, l⟩, c2, c3, c4, rfl, ho, .of h2, .of h3, .of h4⟩
theorem opens_ruls : Opens Tryz.prog 24 1 (rSl rRul 5) := wK Tryz.underlying24 (by kernel_rfl) (by decide +kernel) (by omega) opens_rul
theorem tar_pv {w : World} {v : Value} {t : Tar} (h : SlV rTar' 1 w v t) : RelP (fun _ => True) w (tgtP t) v := by
  obtain ⟨A, c, rfl, h1, h2, h3⟩ := h
  exact tgt_rel h3 h1 h2
theorem rul_pv {w : World} {cs : List Value} {x : Rul} (h : rRul w cs x) : rPV (fun _ => True) w cs (zt x) := by
  obtain ⟨c2, c3, c4, rfl, _, h2, h3, h4⟩ := h
  exact jf (.v rfl) (jf (.v rfl) (jf (tar_pv h2) (jf (h3.rel (fun x => ⟨rfl, rfl⟩) fun x _ cs h => nod_pv h) (jf (h4.rel (fun x => ⟨rfl, rfl⟩) fun x _ cs h => obl_pv h) rPV_nil))))
theorem rul_fit {w : World} {cs : List Value} {x : Rul} (h : rRul w cs x) : RulFit x := by
  obtain ⟨c2, c3, c4, rfl, h1, ⟨A, c, rfl, _, _, h2⟩, h3, h4⟩ := h
  exact ⟨h1, tgt_fit h2, (h3.fit fun _ _ h => h.2).1, (h4.fit fun _ _ h => h.2).1⟩
def rPolX : Rp Pol := fun w cs p => ∃ n, rPolN n w cs p
def OpensS {α : Type} (P : Program) (t : TypeId) (size : Nat) (R : Rp α) (s : Nat) : Prop :=
  P.cellsOf t = size ∧ ∀ (H : Type) (enc : TypeId × Value → H) (w : World) (fuel : Nat) (cs : List Value) (x : DataW H × List MemPlace), SizeOf.sizeOf x.1 < s →
    DataW.trod enc P w 0 (fun _ => true) true fuel t cs = some x → (∀ n ∈ x.1.weights P t, n ≤ reachBytes) → ∃ y, R w cs y
theorem sl_openS {α : Type} {P : Program} {t e : TypeId} {size s : Nat} {R : Rp α} (ht : P.underlying t = some (.slice e)) (hb : 1 ≤ P.bytesOf e) (hs : 1 ≤ size) (he : OpensS P e size R s)
    {H : Type} {enc : TypeId × Value → H} {w : World} {fuel : Nat} {cs : List Value} {x : DataW H × List MemPlace} (hx : SizeOf.sizeOf x.1 ≤ s) (h : DataW.trod enc P w 0 (fun _ => true) true fuel t cs = some x) (hw : ∀ n ∈ x.1.weights P t, n ≤ reachBytes) : ∃ y, rSl R size w cs y := by
  rcases Go.Deep.open_slice ht h with ⟨rfl, _⟩ | ⟨a, len, cap, m, n, D, Pl, rfl, _, hlc, hcm, hm, rfl, hel⟩
  · exact ⟨[], none, 0, rfl, Nat.le_refl _, ⟨Nat.zero_le _, Nat.zero_le _⟩, SlAt.nil⟩
  · simp only [if_true] at hm
    subst hm
    have hcap : m ≤ reachBytes := by
      have h1 := hw ((((List.range len).map D).length + ((List.range (m - len)).map fun j => D (len + j)).length) * P.bytesOf e) (by simp [DataW.weights, ht])
      simp only [List.length_map, List.length_range] at h1
      have h2 : len + (m - len) = m := by omega
      rw [h2] at h1
      exact Nat.le_trans (Nat.le_mul_of_pos_right m hb) h1
    have hcap' : m ≤ maxLen := by unfold maxLen; unfold reachBytes at hcap; omega
    have hsz : ∀ i, i < m → SizeOf.sizeOf (D i) < s := fun i hi => by
      simp only [DataW.slice.sizeOf_spec] at hx
      rcases Nat.lt_or_ge i len with hil | hil
      · have : D i ∈ (List.range len).map D := List.mem_map.2 ⟨i, List.mem_range.2 hil, rfl⟩
        have := List.sizeOf_lt_of_mem this
        omega
      · have : D i ∈ (List.range (m - len)).map fun j => D (len + j) := List.mem_map.2 ⟨i - len, List.mem_range.2 (by omega), by rw [show len + (i - len) = i by omega]⟩
        have := List.sizeOf_lt_of_mem this
        omega
    have hcell : ∀ i, i < m → ∃ cs', cs'.length = size ∧ (∀ j u, cs'[j]? = some u → w.cell? ((a.add (i * size)).add j) = some u) ∧ ∃ y, R w cs' y := fun i hi => by
      obtain ⟨cs', h1, h2⟩ := hel i hi
      rw [he.1] at h1
      obtain ⟨_, h3, h4⟩ := World.cells?_some h1
      refine ⟨cs', h3, fun j u hj => ?_, ?_⟩
      · have : j < size := by rw [← h3]; exact (List.getElem?_eq_some_iff.1 hj).1
        rw [h4 j this, hj]
      · refine he.2 H enc w n cs' _ (hsz i hi) h2 fun k hk => hw k ?_
        simp only [DataW.weights, ht, List.mem_cons, List.mem_append]
        rcases Nat.lt_or_ge i len with hil | hil
        · exact Or.inr (Or.inl (jc (List.mem_map.2 ⟨i, List.mem_range.2 hil, rfl⟩) k hk))
        · refine Or.inr (Or.inr (jc (d := D i) (List.mem_map.2 ⟨i - len, List.mem_range.2 (by omega), ?_⟩) k hk))
          rw [show len + (i - len) = i by omega]
    rcases Nat.eq_zero_or_pos len with h0 | hpos
    · subst h0
      exact ⟨[], some a, m, rfl, Nat.zero_le _, ⟨Nat.zero_le _, hcap'⟩, SlAt.nil⟩
    · have hsp : a.spot = none ∧ a.block < w.heap.size := by
        obtain ⟨cs', h1, h2, _⟩ := hcell 0 (by omega)
        obtain ⟨u, hu⟩ : ∃ u, cs'[0]? = some u := ⟨cs'[0]'(by omega), List.getElem?_eq_getElem _⟩
        have h3 := h2 0 u hu
        simp only [Nat.zero_mul, Addr.add, if_true] at h3
        exact ⟨(lt_of_cell h3).2, (lt_of_cell h3).1⟩
      obtain ⟨b, o, sp⟩ := a
      obtain ⟨rfl, hlt⟩ := hsp
      have hadd : ∀ o k : Nat, (⟨b, o, none⟩ : Addr).add k = ⟨b, o + k, none⟩ := fun o k => by
        unfold Addr.add; split
        · simp [*]
        · rfl
      have hex : ∀ i : Nat, ∃ y : α, i < m → ∃ cs', cs'.length = size ∧ CellsAt w b (o + i * size) cs' ∧ R w cs' y := fun i => by
        by_cases hi : i < m
        · obtain ⟨cs', h1, h2, y, hy⟩ := hcell i hi
          refine ⟨y, fun _ => ⟨cs', h1, fun j u hj => ?_, hy⟩⟩
          have := h2 j u hj
          rw [hadd, hadd] at this
          exact this
        · obtain ⟨_, _, _, y, _⟩ := hcell 0 (by omega)
          exact ⟨y, fun h => absurd h hi⟩
      obtain ⟨f, hf⟩ := Classical.axiomOfChoice hex
      refine ⟨(List.range len).map f, some ⟨b, o, none⟩, m, by simp, by simpa using hlc, ⟨by simp; omega, hcap'⟩, fun _ => ⟨b, o, rfl, hlt, fun i hi => ?_⟩⟩
      have hi' : i < len := by simpa using hi
      obtain ⟨cs', h1, h2, h3⟩ := hf i (by omega)
      exact ⟨cs', h1, h2, by simpa using h3⟩
theorem struct_openS {H : Type} {enc : TypeId × Value → H} {P : Program} {w : World} {fuel : Nat} {t : TypeId} {fs : Array Field} {cs : List Value} {x : DataW H × List MemPlace} (ht : P.underlying t = some (.struct fs))
    (h : DataW.trod enc P w 0 (fun _ => true) true fuel t cs = some x) (hw : ∀ n ∈ x.1.weights P t, n ≤ reachBytes) :
    cs.length = P.cellsOf t ∧ ∃ m, ∀ (i : Nat) (f : Field), fs[i]? = some f → ∃ y, DataW.trod enc P w 0 (fun _ => true) true m f.type ((cs.drop f.offset).take (P.cellsOf f.type)) = some y ∧ (∀ n ∈ y.1.weights P f.type, n ≤ reachBytes) ∧ SizeOf.sizeOf y.1 < SizeOf.sizeOf x.1 := by
  obtain ⟨xs, n, hn, hx, hlen, hxl, hf⟩ := DataW.trod_struct ht h
  refine ⟨hlen, n, fun i f hi => ?_⟩
  have hil : i < fs.size := (Array.getElem?_eq_some_iff.1 hi).1
  have hy : xs[i]? = some (xs[i]'(by omega)) := List.getElem?_eq_getElem (by omega)
  refine ⟨_, (hf i f hi).trans hy, fun k hk => hw k ?_, ?_⟩
  · subst hx
    simp only [DataW.weights, ht]
    refine DataW.weights_mem_each (j := i) (t := f.type) (d := (xs[i]'(by omega)).1) ?_ ?_ k hk
    · rw [List.getElem?_map, Array.getElem?_toList, hi]; rfl
    · rw [List.getElem?_map, hy]; rfl
  · subst hx
    have h1 : (xs[i]'(by omega)).1 ∈ xs.map (·.1) := List.mem_map.2 ⟨_, List.getElem_mem _, rfl⟩
    have h2 := List.sizeOf_lt_of_mem h1
    simp only [DataW.agg.sizeOf_spec]
    omega
theorem hd3 {α : Type} {P : α → Prop} {Q R : α → Prop} (h : ∃ y, P y ∧ Q y ∧ R y) : ∃ y, P y ∧ Q y := by
  obtain ⟨y, a, b, _⟩ := h; exact ⟨y, a, b⟩
set_option maxRecDepth 100000 in
theorem opens_polS : ∀ s, OpensS Tryz.prog 28 7 (rPolN s) s := by
  intro s
  induction s with
  | zero => exact ⟨by kernel_rfl, fun H enc w fuel cs x hx => absurd hx (Nat.not_lt_zero _)⟩
  | succ s ih =>
    refine ⟨by kernel_rfl, fun H enc w fuel cs x hx h hw => ?_⟩
    obtain ⟨hlen, m, hf⟩ := struct_openS Tryz.underlying28 h hw
    have hc : Tryz.prog.cellsOf 28 = 7 := by kernel_rfl
    rw [hc] at hlen
    match cs, hlen with
    | [c0, c1, c2, c3, c4, c5, c6], _ =>
      obtain ⟨o, ho⟩ := opens_tstr.field (off := 0) (hd3 (hf 0 _ rfl))
      obtain ⟨b, hb⟩ := opens_tbool.field (off := 1) (hd3 (hf 1 _ rfl))
      obtain ⟨n, hn⟩ := opens_tint.field (off := 2) (hd3 (hf 2 _ rfl))
      obtain ⟨t, h3⟩ := opens_tar.field (off := 3) (hd3 (hf 3 _ rfl))
      obtain ⟨r, h4⟩ := opens_ruls.field (off := 4) (hd3 (hf 4 _ rfl))
      obtain ⟨l, h6⟩ := opens_obls.field (off := 6) (hd3 (hf 6 _ rfl))
      obtain ⟨y, h5, hy1, hy2⟩ := hf 5 _ rfl
      obtain ⟨k, h5⟩ := sl_openS Tryz.underlying25 (by decide +kernel) (by omega) ih (by omega) h5 hy1
      have hc1 : Tryz.prog.cellsOf 25 = 1 := by kernel_rfl
      simp only [rStr, rBool, rInt, hc1, List.drop_succ_cons, List.drop_zero, List.take_succ_cons, List.take_zero, List.cons.injEq, and_true] at ho hb hn h3 h4 h5 h6
      obtain ⟨rfl, ho⟩ := ho
      subst hb
      obtain ⟨rfl, hn⟩ := hn
      exact ⟨.mk o b n t r k l, c3, c4, c5, c6, rfl, ho, hn, .of h3, .of h4, .of h5, .of h6⟩
theorem opens_pol : Opens Tryz.prog 28 7 rPolX := ⟨(opens_polS 0).1, fun H enc w fuel cs x h hw => by
  obtain ⟨p, hp⟩ := (opens_polS (SizeOf.sizeOf x.1 + 1)).2 H enc w fuel cs x (Nat.lt_succ_self _) h hw
  exact ⟨p, _, hp⟩⟩
theorem polP_shape (x : Pol) : (polP x).length = 7 ∧ (polP x).all oneP = true := by rw [zf]; exact ⟨rfl, rfl⟩
theorem pol_pv : ∀ (n : Nat) {w : World} {cs : List Value} {p : Pol}, rPolN n w cs p → rPV (fun _ => True) w cs (polP p)
  | n + 1, w, cs, p, ⟨c3, c4, c5, c6, he, _, _, h3, h4, h5, h6⟩ => by
    subst he
    rw [zf]
    exact jf (.v rfl) (jf (.v rfl) (jf (.v rfl) (jf (tar_pv h3) (jf (h4.rel (fun x => ⟨rfl, rfl⟩) fun x _ cs h => rul_pv h)
      (jf (h5.rel polP_shape fun x _ cs h => pol_pv n h) (jf (h6.rel (fun x => ⟨rfl, rfl⟩) fun x _ cs h => obl_pv h) rPV_nil))))))
theorem pol_fit : ∀ (m : Nat) {n : Nat} {w : World} {cs : List Value} {p : Pol}, rPolN n w cs p → PolFit m p
  | 0, _, _, _, _, _ => trivial
  | m + 1, n + 1, w, cs, p, ⟨c3, c4, c5, c6, he, hid, _, ⟨A, c, ha, _, _, h3⟩, h4, h5, h6⟩ => by
    have k4 := h4.fit (F := RulFit) fun _ _ h => rul_fit h
    have k5 := h5.fit (F := PolFit m) fun _ _ h => pol_fit m h
    have k6 := h6.fit (F := Obli.Fit) fun _ _ h => h.2
    exact ⟨⟨hid, tgt_fit h3, k4.1, k6.1, k4.2, k5.2⟩, k5.1⟩
end Go.Proofs.YtppfcacnofjmdaaGreatDoor
namespace Go.Proofs.YtppfcacnofjmdaaGreatDoor
set_option linter.unusedVariables false
set_option linter.unusedSimpArgs false
open Go.RowKit
def PolF : Nat → Pol → Prop
  | 0, _ => False
  | n + 1, p => HeadFit p ∧ R64 p.alg ∧ ∀ k ∈ p.kids, PolF n k
theorem polF_fit : ∀ (m : Nat) {n : Nat} {p : Pol}, PolF n p → PolFit m p
  | 0, _, _, _ => True.intro
  | m + 1, n + 1, p, h => ⟨h.1, fun k hk => polF_fit m (h.2.2 k hk)⟩
theorem polF_of : ∀ {n : Nat} {w : World} {cs : List Value} {p : Pol}, rPolN n w cs p → PolF n p
  | n + 1, w, cs, p, h => by
    have h1 := pol_fit 1 h
    obtain ⟨c3, c4, c5, c6, he, hid, ha, _, _, h5, _⟩ := h
    exact ⟨h1.1, ha, (h5.fit (F := PolF n) fun _ _ h => polF_of h).1⟩
end Go.Proofs.YtppfcacnofjmdaaGreatDoor
namespace Go.Proofs.YtppfcacnofjmdaaGreatDoor
set_option linter.unusedVariables false
set_option linter.unusedSimpArgs false
open Go.RowKit
theorem SWT.wk {P : Program} {ops l : List Oper} {Q : St → Prop} {st st' : St} (h : Wk st st') (h' : SWT P ops l Q st') : SWT P ops l Q st := fun w0 Sx γ a w QQ hI hQ => by
  obtain ⟨γ', hI'⟩ := h w0 Sx γ a w hI
  exact h' w0 Sx γ' a w QQ hI' hQ
def TarL (t : Tar) : Prop := t.length ≤ 3000 ∧ ∀ x ∈ t, x.length ≤ 3000 ∧ ∀ y ∈ x, y.length ≤ 3000
theorem xsz_le {t : Tar} {x : List (List Mat)} (h : x ∈ t) : xsz x ≤ tsz t := by
  have := wb (f := xsz) h
  unfold tsz; omega
theorem len_sumBy {α : Type} (f : α → Nat) (h : ∀ x, 1 ≤ f x) : ∀ l : List α, l.length ≤ qT f l
  | [] => Nat.zero_le _
  | x :: r => by
    have h1 := len_sumBy f h r
    have h2 := h x
    simp only [qT, List.map_cons, List.sum_cons, List.length_cons] at h1 ⊢
    omega
theorem tarL_of {t : Tar} {n : Nat} (h : tsz t ≤ n) (hn : n ≤ 3000) : TarL t := by
  refine ⟨by unfold tsz at h; omega, fun x hx => ?_⟩
  have h1 := xsz_le hx
  refine ⟨by unfold xsz at h1; omega, fun y hy => ?_⟩
  have h4 : asz y ≤ xsz x := by have := wb (f := asz) hy; unfold xsz; omega
  unfold asz at h4
  omega
theorem sz_facts {p : Pol} {n : Nat} (h : p.sz ≤ n) (hn : n ≤ 3000) : TarL p.target ∧ p.rules.length ≤ 3000 ∧ p.kids.length ≤ 3000 ∧ p.obls.length ≤ 3000 ∧ (∀ r ∈ p.rules, TarL r.target ∧ r.cond.length ≤ 3000 ∧ r.obls.length ≤ 3000) ∧ ∀ k ∈ p.kids, k.sz ≤ n := by
  have h1 := Pol.sz_eq p
  have h2 := len_sumBy Pol.sz (fun p => by rw [Pol.sz_eq]; omega) p.kids
  have h3 : p.obls.length ≤ osz p.obls := by unfold osz; omega
  refine ⟨tarL_of (n := n) (by omega) hn, by omega, by omega, by omega, fun r hr => ?_, fun k hk => ?_⟩
  · have h4 := wb (f := rusz) hr
    have h5 : r.obls.length ≤ osz r.obls := by unfold osz; omega
    have h6 : rusz r = txt r.id + tsz r.target + r.cond.length + osz r.obls + qT nsz r.cond := rfl
    exact ⟨tarL_of (n := n) (by omega) hn, by omega, by omega⟩
  · have := wb (f := Pol.sz) hk
    omega
end Go.Proofs.YtppfcacnofjmdaaGreatDoor
namespace Go.Proofs.YtppfcacnofjmdaaGreatDoor
set_option linter.unusedVariables false
set_option linter.unusedSimpArgs false
open Go.RowKit
def SWB (P : Program) (ops : List Oper) (κ : Kap) (ls : Array Bool) (fuel : Nat) (Q : St → Prop) (st : St) : Prop := ∀ (w0 : Base) (Sx : Nat → Prop) (γ : Nat → Value) (a : Act) (w : World) (QQ : Exit → Act → World → Prop), Sim w0 Sx γ st a w →
  (∀ st' γ' a' w', Sim w0 Sx γ' st' a' w' → Q st' → QQ .normal a' w') → wpAnyP P ops.toArray (NoPanic QQ) fuel (pendOf γ st.own w κ) ls a w
def SWBo (P : Program) (ops : List Oper) (κ : Kap) (ls : Array Bool) (fuel : Nat) (Q : St → Prop) (st : St) (i : Nat) : Prop := ∀ (w0 : Base) (Sx : Nat → Prop) (γ : Nat → Value) (a : Act) (w : World) (QQ : Exit → Act → World → Prop), Sim w0 Sx γ st a w →
  (∀ st' γ' a' w', Sim w0 Sx γ' st' a' w' → Q st' → QQ .normal a' w') → wpOp P ops.toArray (NoPanic QQ) i (fun a' w' => (∀ p ∈ alive ops.toArray i (pendOf γ st.own w κ), p.2 w') ∧ wpAnyP P ops.toArray (NoPanic QQ) fuel (alive ops.toArray i (pendOf γ st.own w κ)) (ls.setIfInBounds i true) a' w') a w
section
variable {P : Program} {ops : List Oper} {κ : Kap} {ls : Array Bool} {fuel : Nat} {st : St} {Q : St → Prop} {i j : Nat} {o : Oper}
theorem zd (hr : Region.ready .any ops.toArray ls = []) (h : Q st) : SWB P ops κ ls fuel Q st := fun _ _ γ a w _ hI hQ => by
  cases fuel with
  | zero => exact ⟨hr, hQ st γ a w hI h⟩
  | succ f => exact ⟨fun _ => hQ st γ a w hI h, fun i hi => by rw [hr] at hi; cases hi⟩
theorem qo (i : Nat) (hr : Region.ready .any ops.toArray ls = [i]) (h : SWBo P ops κ ls fuel Q st i) : SWB P ops κ ls (fuel + 1) Q st := fun w0 Sx γ a w QQ hI hQ =>
  ⟨fun h0 => (by rw [hr] at h0; cases h0), fun k hk => by
    rw [hr] at hk
    obtain rfl : k = i := by simpa using hk
    exact h w0 Sx γ a w QQ hI hQ⟩
theorem zE (i j : Nat) (hr : Region.ready .any ops.toArray ls = [i, j]) (h : SWBo P ops κ ls fuel Q st i) (h2 : SWBo P ops κ ls fuel Q st j) : SWB P ops κ ls (fuel + 1) Q st := fun w0 Sx γ a w QQ hI hQ =>
  ⟨fun h0 => (by rw [hr] at h0; cases h0), fun k hk => by
    rw [hr] at hk
    have hk : k = i ∨ k = j := by simpa using hk
    rcases hk with rfl | rfl
    · exact h w0 Sx γ a w QQ hI hQ
    · exact h2 w0 Sx γ a w QQ hI hQ⟩
theorem swb_fork3 (i j k : Nat) (hr : Region.ready .any ops.toArray ls = [i, j, k]) (h : SWBo P ops κ ls fuel Q st i) (h2 : SWBo P ops κ ls fuel Q st j) (h3 : SWBo P ops κ ls fuel Q st k) : SWB P ops κ ls (fuel + 1) Q st := fun w0 Sx γ a w QQ hI hQ =>
  ⟨fun h0 => (by rw [hr] at h0; cases h0), fun m hk => by
    rw [hr] at hk
    have hk : m = i ∨ m = j ∨ m = k := by simpa using hk
    rcases hk with rfl | rfl | rfl
    · exact h w0 Sx γ a w QQ hI hQ
    · exact h2 w0 Sx γ a w QQ hI hQ
    · exact h3 w0 Sx γ a w QQ hI hQ⟩
theorem qy {K : List Nat} {s : SV} (hB : (Region.free .any ops.toArray ls i && (Region.ready .any ops.toArray ls).contains i) = true) (hs : Region.noSelect ops.toArray = true) (hi : nthO ops i = some o) (hw : zw ops st o = some true) (hr : RdO P K st o s) (hd : zn st o.dst = true)
    (h : SWB P ops ((i, K) :: κ) (ls.setIfInBounds i true) fuel Q (st.put o.dst s)) : SWB P ops κ ls (fuel + 1) Q st := fun w0 Sx γ a w QQ hI hQ => by
  obtain ⟨v, h1, h2⟩ := hr w0 Sx γ a w hI
  have hrest := h w0 Sx γ _ w QQ (hI.put (dst := o.dst) hd h1) hQ
  simp only [wP] at hrest
  rw [Bool.and_eq_true] at hB
  have hio := (qZ ops i).trans hi
  exact wpAnyP_first hio (Region.noSelect_spec hs) (fun _ _ _ h => h) fuel _ ls a w (Region.free_spec hio hB.1) (by simpa using hB.2) (Or.inl ⟨zD hI hw, h2⟩) (SameOn.refl _ _) wC hrest
theorem qd {Ws : List Nat} (hi : nthO ops i = some o) (hw : zw ops st o = some true) (hK : (kapB o κ).all (fun p => Ws.all fun j => p.2.contains j) = true) (h : ActOk P Ws o st (SWB P ops (kapB o κ) (ls.setIfInBounds i true) fuel Q)) : SWBo P ops κ ls fuel Q st i := fun w0 Sx γ a w QQ hI hQ => by
  have hsub : ∀ p ∈ kapB o κ, ∀ j ∈ Ws, j ∈ p.2 := fun p hp j hj => by simpa using List.all_eq_true.1 (List.all_eq_true.1 hK p hp) j hj
  have hio := (qZ ops i).trans hi
  unfold wpOp
  rw [hio]
  simp only [zD hI hw, if_true]
  refine Or.inl ?_
  have := h w0 Sx γ a w (NoPanic QQ) hI
  have mono : ∀ {a' w'}, (∃ γ' st', SWB P ops (kapB o κ) (ls.setIfInBounds i true) fuel Q st' ∧ Sim w0 Sx γ' st' a' w' ∧ SameOn (vis Ws γ st.own) w w' ∧ ∀ K : List Nat, (∀ i ∈ Ws, i ∈ K) → ∀ b, b < w.heap.size → vis K γ st.own b → vis K γ' st'.own b) →
      (∀ p ∈ alive ops.toArray i (pendOf γ st.own w κ), p.2 w') ∧ wpAnyP P ops.toArray (NoPanic QQ) fuel (alive ops.toArray i (pendOf γ st.own w κ)) (ls.setIfInBounds i true) a' w' := fun {a' w'} ⟨γ', st', h1, h2, h3, h4⟩ => by
    have hc : Covers (alive ops.toArray i (pendOf γ st.own w κ)) (pendOf γ' st'.own w' (kapB o κ)) := fun p hp => by
      obtain ⟨hp1, hp2⟩ := mem_alive.1 hp
      obtain ⟨q, hq, rfl⟩ := List.mem_map.1 hp1
      have hq' : q ∈ kapB o κ := List.mem_filter.2 ⟨hq, by rw [hp2 o hio]; rfl⟩
      have hs := hsub q hq'
      refine .inr ⟨_, List.mem_map.2 ⟨q, hq', rfl⟩, rfl, fun x hx => ⟨Nat.le_trans h3.size hx.size, fun b hb hv => ?_⟩⟩
      have e1 := h3.block b hb (fun j bx hj hjW hjb => hv j bx hj (by simpa using hs j (by simpa using hjW)) hjb)
      have e2 := hx.block b (Nat.lt_of_lt_of_le hb h3.size) (h4 q.2 hs b hb hv)
      exact e2.trans e1
    exact ⟨hc.at wC, jC _ hc _ _ _ (h1 w0 Sx γ' a' w' QQ h2 hQ)⟩
  unfold Oper.wp at this ⊢
  generalize (execOp a.eval o).run P w = res at *
  cases res with
  | ok n w' =>
    cases n <;> simp only [Oper.upon] at this ⊢ <;> first
      | exact mono this
      | exact this
      | exact Calls.mono this (fun e w'' he => by cases e <;> first | exact mono he | exact he)
      | exact Rows.mono this (fun _ _ he => mono he)
  | halt x w' => cases x <;> simp only [Oper.upon] at this ⊢ <;> exact this
theorem zH {id : Nat} {l : List Oper} {QS : SEx → St → Prop} (n : Nat) (hn : l.length = n) (hm : P.follows .mixedOrders = true) (h : SWB P l [] (Array.replicate n false) n (QS .normal) st) : SW P (.region id l.toArray true) QS st := fun w0 Sx γ a w QQ hI hQ => by
  refine wp_region_noPanic (wp_region_any hm (wZ _ [] _ _ _ ?_))
  have h1 := h w0 Sx γ a w.drew QQ hI.drew fun s' γ' a' w' hI' hq => hQ .normal s' γ' a' w' hI' hq
  have e : l.toArray.size = n := by simpa using hn
  rw [e]
  exact h1
end
end Go.Proofs.YtppfcacnofjmdaaGreatDoor
namespace Go.Proofs.YtppfcacnofjmdaaGreatDoor
set_option linter.unusedVariables false
set_option linter.unusedSimpArgs false
open Go.RowKit
set_option maxHeartbeats 4000000
def rsP (x : Rs) : List PV := [mkP x.m, zQ x.obls]
def rssP (l : List Rs) : PV := .sl 2 (l.map rsP)
theorem dutiesS_take {l : List Obli} {m : Mk} {k : Nat} (h : k < l.length) : jm (l.take (k + 1)) m = if dutyS m l[k] then jm (l.take k) m ++ [l[k]] else jm (l.take k) m := by
  unfold jm
  rw [List.take_succ_eq_append_getElem h, List.filter_append]
  cases hd : dutyS m l[k] <;> simp [hd]
theorem wq (l : List Obli) (m : Mk) : (jm l m).length ≤ l.length := List.length_filter_le _ _
theorem duties_h (l : List Obli) (hn : l.length ≤ 1000000) (m : Mk) (hm : m ∈ mks) : Holds Tryz.prog 70 [zQ l, mkP m] (.p (zQ (jm l m))) [] := by
  have lm : (l.map Obli.pv).length = l.length := by simp
  refine .ofW ?_
  refine qR (T := TTab) qe Tryz.func70 (by kernel_rfl) rfl rfl rfl ?_
  (repeat refine qb ?_); refine qa ?_
  repeat (first | refine zR ?_ | refine zK ?_ | refine zM ?_ | refine zB ?_ | refine zA ?_ | refine zS ?_ | refine zL ?_)
  refine qc ?_
  (repeat refine qb ?_); refine qa ?_
  repeat (first | refine zR ?_ | refine zK ?_ | refine zM ?_ | refine zB ?_ | refine zA ?_ | refine zS ?_ | refine zL ?_)
  refine qc ?_
  (repeat refine qb ?_); refine qa ?_
  repeat (first | refine zR ?_ | refine zK ?_ | refine zM ?_ | refine zB ?_ | refine zA ?_ | refine zS ?_ | refine zL ?_)
  refine qc ?_
  (repeat refine qb ?_); refine ql ?_
  refine SW.wk (jP 5 900 43 3 rfl rfl) ?_
  refine SW.wk (qq [1, 5, 8, 9, 10] [(900, 0)] rfl rfl) ?_
  refine qO (fun n s => ∃ (k : Nat) (kk : Int) (L : List Obli), k ≤ l.length ∧ n = l.length - k ∧ kk = k ∧ L = jm (l.take k) m ∧ s = ⟨36, [(1, .p (mkP m)), (5, .row 0), (8, .p (zQ l)), (9, .p (pI (l.map Obli.pv).length)), (10, .p (pI kk))], [(0, .row 43 3 (L.map Obli.pv))]⟩) l.length ⟨0, 0, [], Nat.zero_le _, rfl, rfl, rfl, rfl⟩ ?_
  rintro n s ⟨k, _, L, hk, rfl, rfl, hL, rfl⟩
  (repeat refine qb ?_); refine qa ?_
  repeat (first | refine zR ?_ | refine zK ?_ | refine zM ?_ | refine zB ?_ | refine zA ?_ | refine zS ?_ | refine zL ?_)
  refine qc ?_
  (repeat refine qb ?_); refine qf rfl (fun hlt => ?_) (fun hlt => ?_)
  · refine qm ?_
    rw [lm] at hlt
    simp only [decide_eq_true_eq] at hlt
    have hlt' : k < l.length := by omega
    have hs := dutiesS_take (m := m) hlt'
    have hLl : L.length ≤ k := by rw [hL]; have := wq (l.take k) m; simp at this; omega
    (repeat refine qb ?_); refine ql ?_
    (repeat refine qb ?_); refine qa ?_
    repeat (first | refine zR ?_ | refine zK ?_ | refine zM ?_ | refine zB ?_ | refine zA ?_ | refine zS ?_ | refine zL ?_)
    refine qw qe rfl rfl (by rw [lm]; omega) rfl ?_
    rw [qJ hlt']
    repeat (first | refine zR ?_ | refine zK ?_ | refine zM ?_ | refine zB ?_ | refine zA ?_ | refine zS ?_ | refine zL ?_)
    refine qc ?_
    have hd : dutyS m l[k] = bif (l[k].on == 1) && mkE m (2, 0) then true else (l[k].on == 2) && mkE m (0, 2) := by
      rw [mkE_eq hm (by simp [mks]), mkE_eq hm (by simp [mks])]
      unfold dutyS
      rw [Bool.eq_iff_iff]
      simp
    (repeat refine qb ?_); refine qs (by kernel_rfl) ?_
    repeat (refine qr qe rfl (by exact True.intro) rfl ?_)
    refine qQ ?_
    (repeat refine qb ?_); refine qf rfl (fun hc => ?_) (fun hc => ?_)
    · have hd' : dutyS m l[k] = true := by
        rw [hd]
        revert hc
        unfold mkE
        cases (l[k].on == 1) <;> cases (l[k].on == 2) <;> simp [hb]
      rw [hd', if_pos rfl] at hs
      (repeat refine qb ?_); refine qa ?_
      repeat (first | refine zR ?_ | refine zK ?_ | refine zM ?_ | refine zB ?_ | refine zA ?_ | refine zS ?_ | refine zL ?_)
      refine qn rfl (qp qe rfl rfl rfl rfl rfl rfl rfl rfl rfl rfl rfl rfl rfl rfl rfl rfl (by simp only [List.length_append, List.length_map, List.length_take, List.length_cons, List.length_nil]; unfold reachBytes; omega) (by simp only [List.length_append, List.length_map, List.length_take, List.length_cons, List.length_nil]; omega) ?_)
      repeat (first | refine zR ?_ | refine zK ?_ | refine zM ?_ | refine zB ?_ | refine zA ?_ | refine zS ?_ | refine zL ?_)
      refine qc ?_
      (repeat refine qb ?_); refine qa ?_
      repeat (first | refine zR ?_ | refine zK ?_ | refine zM ?_ | refine zB ?_ | refine zA ?_ | refine zS ?_ | refine zL ?_)
      refine qc ?_
      refine ⟨_, _, ?_, qq [1, 5, 8, 9, 10] [(33, 0)] rfl rfl, k + 1, _, jm (l.take (k + 1)) m, hlt', rfl, qz hlt' (by omega), rfl, ?_⟩
      · omega
      · rw [hs, ← hL, List.map_append]; rfl
    · have hd' : dutyS m l[k] = false := by
        rw [hd]
        revert hc
        unfold mkE
        cases (l[k].on == 1) <;> cases (l[k].on == 2) <;> simp [hb]
      rw [hd', if_neg (by simp)] at hs
      refine qm ?_
      (repeat refine qb ?_); refine qa ?_
      repeat (first | refine zR ?_ | refine zK ?_ | refine zM ?_ | refine zB ?_ | refine zA ?_ | refine zS ?_ | refine zL ?_)
      refine qc ?_
      refine ⟨_, _, ?_, qq [1, 5, 8, 9, 10] [(0, 0)] rfl rfl, k + 1, _, L, hlt', rfl, qz hlt' (by omega), by rw [hs]; exact hL, rfl⟩
      omega
  · refine qK ?_
    rw [lm] at hlt
    simp only [decide_eq_false_iff_not] at hlt
    have hkk : k = l.length := by omega
    subst hkk
    rw [List.take_length] at hL
    subst hL
    (repeat refine qb ?_); refine qa ?_
    repeat (first | refine zR ?_ | refine zK ?_ | refine zM ?_ | refine zB ?_ | refine zA ?_ | refine zS ?_ | refine zL ?_)
    refine qc ?_
    (repeat refine qb ?_); refine qk ?_
    exact ⟨Or.inr rfl, _, _, [], _, zN (k := 0) rfl, rfl, rfl, .refl _, rfl, rfl⟩
theorem effect_h (r : Rul) (t c : Int) (ho : r.obls.length ≤ 1000000) : Holds Tryz.prog 51 [.agg (zt r), pI t, pI c] (.p (.agg (rsP (jW r t c)))) [] := by
  obtain ⟨id, deny, tg, cond, obls⟩ := r
  unfold jW effM
  simp only at ho ⊢
  refine .ofW ?_
  cases deny with
  | true =>
    rw [if_pos rfl]
    refine qR (T := TTab) qe Tryz.func51 (by kernel_rfl) rfl rfl rfl ?_
    (repeat refine qb ?_); refine qa ?_
    repeat (first | refine zR ?_ | refine zK ?_ | refine zM ?_ | refine zB ?_ | refine zA ?_ | refine zS ?_ | refine zL ?_)
    refine qc ?_
    (repeat refine qb ?_); refine qa ?_
    repeat (first | refine zR ?_ | refine zK ?_ | refine zM ?_ | refine zB ?_ | refine zA ?_ | refine zS ?_ | refine zL ?_)
    refine qc ?_
    (repeat refine qb ?_); refine qa ?_
    repeat (first | refine zR ?_ | refine zK ?_ | refine zM ?_ | refine zB ?_ | refine zA ?_ | refine zS ?_ | refine zL ?_)
    refine qc ?_
    (repeat refine qb ?_); refine qf rfl (fun hd => ?_) (fun hd => ?_)
    · (repeat refine qb ?_); refine qa ?_
      repeat (first | refine zR ?_ | refine zK ?_ | refine zM ?_ | refine zB ?_ | refine zA ?_ | refine zS ?_ | refine zL ?_)
      refine qc ?_
      (repeat refine qb ?_); refine ql ?_
      (repeat refine qb ?_); refine qs (by kernel_rfl) ?_
      repeat (refine qr qe rfl (by exact True.intro) rfl ?_)
      refine qQ ?_
      (repeat refine qb ?_); refine qf rfl (fun h0 => ?_) (fun h0 => ?_)
      · have h0' : t = 0 ∨ (t = 2 ∧ c = 0) := by
          revert h0
          by_cases a : t = 0 <;> by_cases b : t = 2 <;> by_cases d : c = 0 <;> simp [a, b, d]
        rw [if_pos h0']
        (repeat refine qb ?_); refine qa ?_
        repeat (first | refine zR ?_ | refine zK ?_ | refine zM ?_ | refine zB ?_ | refine zA ?_ | refine zS ?_ | refine zL ?_)
        refine qc ?_
        (repeat refine qb ?_); refine qk ?_
        exact ⟨Or.inr rfl, _, _, [], _, Wk.refl _, rfl, rfl, .p (CvL.agg (.cons (.refl _) (.cons (.nil 3) .nil))), rfl, rfl⟩
      · have h0' : ¬ (t = 0 ∨ (t = 2 ∧ c = 0)) := by
          revert h0
          by_cases a : t = 0 <;> by_cases b : t = 2 <;> by_cases d : c = 0 <;> simp [a, b, d]
        rw [if_neg h0']
        (repeat refine qb ?_); refine qs (by kernel_rfl) ?_
        repeat (refine qr qe rfl (by exact True.intro) rfl ?_)
        refine qQ ?_
        (repeat refine qb ?_); refine qf rfl (fun h1 => ?_) (fun h1 => ?_)
        · have h1' : t = 1 ∨ c = 1 := by
            revert h1
            by_cases a : t = 1 <;> by_cases d : c = 1 <;> simp [a, d]
          rw [if_pos h1']
          (repeat refine qb ?_); refine qa ?_
          repeat (first | refine zR ?_ | refine zK ?_ | refine zM ?_ | refine zB ?_ | refine zA ?_ | refine zS ?_ | refine zL ?_)
          refine qn rfl (qg rfl rfl rfl rfl (qas (0, 2) (by simp [mks])) rfl rfl ?_)
          repeat (first | refine zR ?_ | refine zK ?_ | refine zM ?_ | refine zB ?_ | refine zA ?_ | refine zS ?_ | refine zL ?_)
          refine qc ?_
          (repeat refine qb ?_); refine qk ?_
          exact ⟨Or.inr rfl, _, _, [], _, Wk.refl _, rfl, rfl, .p (CvL.agg (.cons (.refl _) (.cons (.nil 3) .nil))), rfl, rfl⟩
        · have h1' : ¬ (t = 1 ∨ c = 1) := by
            revert h1
            by_cases a : t = 1 <;> by_cases d : c = 1 <;> simp [a, d]
          rw [if_neg h1']
          refine qm ?_
          (repeat refine qb ?_); refine qa ?_
          repeat (first | refine zR ?_ | refine zK ?_ | refine zM ?_ | refine zB ?_ | refine zA ?_ | refine zS ?_ | refine zL ?_)
          refine qn rfl (qD rfl rfl rfl rfl (duties_h obls ho (0, 2) (by simp [mks])) rfl rfl rfl ?_)
          repeat (first | refine zR ?_ | refine zK ?_ | refine zM ?_ | refine zB ?_ | refine zA ?_ | refine zS ?_ | refine zL ?_)
          refine qc ?_
          (repeat refine qb ?_); refine qk ?_
          exact ⟨Or.inr rfl, _, _, [], _, Wk.refl _, rfl, rfl, .refl _, rfl, rfl⟩
    · cases hd
  | false =>
    simp only [Bool.false_eq_true, if_false]
    refine qR (T := TTab) qe Tryz.func51 (by kernel_rfl) rfl rfl rfl ?_
    (repeat refine qb ?_); refine qa ?_
    repeat (first | refine zR ?_ | refine zK ?_ | refine zM ?_ | refine zB ?_ | refine zA ?_ | refine zS ?_ | refine zL ?_)
    refine qc ?_
    (repeat refine qb ?_); refine qa ?_
    repeat (first | refine zR ?_ | refine zK ?_ | refine zM ?_ | refine zB ?_ | refine zA ?_ | refine zS ?_ | refine zL ?_)
    refine qc ?_
    (repeat refine qb ?_); refine qa ?_
    repeat (first | refine zR ?_ | refine zK ?_ | refine zM ?_ | refine zB ?_ | refine zA ?_ | refine zS ?_ | refine zL ?_)
    refine qc ?_
    (repeat refine qb ?_); refine qf rfl (fun hd => ?_) (fun hd => ?_)
    · cases hd
    · refine qm ?_
      (repeat refine qb ?_); refine ql ?_
      (repeat refine qb ?_); refine qs (by kernel_rfl) ?_
      repeat (refine qr qe rfl (by exact True.intro) rfl ?_)
      refine qQ ?_
      (repeat refine qb ?_); refine qf rfl (fun h0 => ?_) (fun h0 => ?_)
      · have h0' : t = 0 ∨ (t = 2 ∧ c = 0) := by
          revert h0
          by_cases a : t = 0 <;> by_cases b : t = 2 <;> by_cases d : c = 0 <;> simp [a, b, d]
        rw [if_pos h0']
        (repeat refine qb ?_); refine qa ?_
        repeat (first | refine zR ?_ | refine zK ?_ | refine zM ?_ | refine zB ?_ | refine zA ?_ | refine zS ?_ | refine zL ?_)
        refine qc ?_
        (repeat refine qb ?_); refine qk ?_
        exact ⟨Or.inr rfl, _, _, [], _, Wk.refl _, rfl, rfl, .p (CvL.agg (.cons (.refl _) (.cons (.nil 3) .nil))), rfl, rfl⟩
      · have h0' : ¬ (t = 0 ∨ (t = 2 ∧ c = 0)) := by
          revert h0
          by_cases a : t = 0 <;> by_cases b : t = 2 <;> by_cases d : c = 0 <;> simp [a, b, d]
        rw [if_neg h0']
        (repeat refine qb ?_); refine qs (by kernel_rfl) ?_
        repeat (refine qr qe rfl (by exact True.intro) rfl ?_)
        refine qQ ?_
        (repeat refine qb ?_); refine qf rfl (fun h1 => ?_) (fun h1 => ?_)
        · have h1' : t = 1 ∨ c = 1 := by
            revert h1
            by_cases a : t = 1 <;> by_cases d : c = 1 <;> simp [a, d]
          rw [if_pos h1']
          (repeat refine qb ?_); refine qa ?_
          repeat (first | refine zR ?_ | refine zK ?_ | refine zM ?_ | refine zB ?_ | refine zA ?_ | refine zS ?_ | refine zL ?_)
          refine qn rfl (qg rfl rfl rfl rfl (qas (2, 0) (by simp [mks])) rfl rfl ?_)
          repeat (first | refine zR ?_ | refine zK ?_ | refine zM ?_ | refine zB ?_ | refine zA ?_ | refine zS ?_ | refine zL ?_)
          refine qc ?_
          (repeat refine qb ?_); refine qk ?_
          exact ⟨Or.inr rfl, _, _, [], _, Wk.refl _, rfl, rfl, .p (CvL.agg (.cons (.refl _) (.cons (.nil 3) .nil))), rfl, rfl⟩
        · have h1' : ¬ (t = 1 ∨ c = 1) := by
            revert h1
            by_cases a : t = 1 <;> by_cases d : c = 1 <;> simp [a, d]
          rw [if_neg h1']
          refine qm ?_
          (repeat refine qb ?_); refine qa ?_
          repeat (first | refine zR ?_ | refine zK ?_ | refine zM ?_ | refine zB ?_ | refine zA ?_ | refine zS ?_ | refine zL ?_)
          refine qn rfl (qD rfl rfl rfl rfl (duties_h obls ho (2, 0) (by simp [mks])) rfl rfl rfl ?_)
          repeat (first | refine zR ?_ | refine zK ?_ | refine zM ?_ | refine zB ?_ | refine zA ?_ | refine zS ?_ | refine zL ?_)
          refine qc ?_
          (repeat refine qb ?_); refine qk ?_
          exact ⟨Or.inr rfl, _, _, [], _, Wk.refl _, rfl, rfl, .refl _, rfl, rfl⟩
theorem ruleR_h (r : Rul) (g : List Giv) (hr : RulFit r) (ht : TarSm r.target) (ho : r.obls.length ≤ 1000000) (hf : ∀ x ∈ g, x.Fit) (hn : g.length ≤ 1000000) (hb : ∀ x ∈ g, x.bag.length ≤ 1000000) : Holds Tryz.prog 27 [.agg (zt r), zP g] (.p (.agg (rsP (qaw g r)))) [] := by
  have H1 := metT_h r.target g hr.tgt ht hf hn hb
  have H2 := cond_h r.cond g hr.cond hf hn hb
  have H3 := effect_h r (metT r.target g) (qam r.cond g) ho
  obtain ⟨id, deny, tg, cond, obls⟩ := r
  unfold qaw
  simp only at H1 H2 H3 ⊢
  generalize metT tg g = t at *
  generalize qam cond g = c at *
  refine .ofW ?_
  refine qR (T := TTab) qe Tryz.func27 (by kernel_rfl) rfl rfl rfl ?_
  (repeat refine qb ?_); refine qa ?_
  repeat (first | refine zR ?_ | refine zK ?_ | refine zM ?_ | refine zB ?_ | refine zA ?_ | refine zS ?_ | refine zL ?_)
  refine qc ?_
  (repeat refine qb ?_); refine zl [4] [(0, true), (1, true), (2, true), (3, true), (5, true), (6, true), (7, true), (4, false), (8, false), (9, false), (10, false)] (by kernel_rfl) (by kernel_rfl) (by kernel_rfl) ?_
  repeat (first | refine yR ?_ | refine yK ?_ | refine yM ?_ | refine yB ?_ | refine yA ?_ | refine yS ?_ | refine yL ?_)
  refine qak rfl rfl rfl (qg rfl rfl rfl rfl (H1) rfl rfl ?_)
  repeat (first | refine yR ?_ | refine yK ?_ | refine yM ?_ | refine yB ?_ | refine yA ?_ | refine yS ?_ | refine yL ?_)
  refine qak rfl rfl rfl (qg rfl rfl rfl rfl (H2) rfl rfl ?_)
  repeat (first | refine yR ?_ | refine yK ?_ | refine yM ?_ | refine yB ?_ | refine yA ?_ | refine yS ?_ | refine yL ?_)
  refine qak rfl rfl rfl (qD rfl rfl rfl rfl (H3) rfl rfl rfl ?_)
  repeat (first | refine yR ?_ | refine yK ?_ | refine yM ?_ | refine yB ?_ | refine yA ?_ | refine yS ?_ | refine yL ?_)
  refine swm_nil ?_
  (repeat refine qb ?_); refine qk ?_
  exact ⟨Or.inr rfl, _, _, [], _, Wk.refl _, rfl, rfl, .refl _, rfl, rfl⟩
end Go.Proofs.YtppfcacnofjmdaaGreatDoor
namespace Go.Proofs.YtppfcacnofjmdaaGreatDoor
set_option linter.unusedVariables false
set_option linter.unusedSimpArgs false
open Go.RowKit
theorem wk_nilc {st : St} (j i d : Nat) (e : TypeId) (z : Nat) {cs : List SV} (hj : lk j st.own = some (.cells cs)) (hi : cs[i]? = some (.p (.v (.slice none 0 0)))) (hd : lk d st.own = none) (hdl : Nat.blt d 1000000 = true := by rfl) :
    Wk st ⟨st.n, st.fr, setB j (.cells (cs.set i (.row d))) ((d, .row e z []) :: st.own)⟩ := fun w0 Sx γ a w hI => by
  have hbx : BoxOk w0 Sx (upd γ d (.slice none 0 0)) ((d, .row e z []) :: st.own) w d (.row e z []) := by
    refine .row ?_ (by simp) (Nat.zero_le _) (fun b hb => by simp [upd, qV] at hb)
    rw [show upd γ d (.slice none 0 0) d = .slice none 0 0 from if_pos rfl]
    exact rowO_nil
  obtain ⟨h1, h2, h3, _⟩ := hI.heap.add (Below.refl _ w) hd (by simpa [Nat.blt, Nat.lt_iff_add_one_le] using hdl) (g := .slice none 0 0) (fun b hb => by cases hb) hbx
  have hdj : j ≠ d := fun h => by subst h; rw [hj] at hd; cases hd
  have hI1 : Sim w0 Sx (upd γ d (.slice none 0 0)) ⟨st.n, st.fr, (d, .row e z []) :: st.own⟩ a w := by
    refine ⟨hI.below, hI.size, hI.defers, fun k s hk => ?_, h1⟩
    have hr := hI.fr k s hk
    refine hr.keep2 (Nat.le_refl _) (fun b hb hok => ⟨rfl, h2 b hb hok⟩) fun i hi => h3 i fun e => ?_
    subst e
    rw [hr.live (jU hd)] at hi; cases hi
  have hj1 : lk j ((d, Box.row e z []) :: st.own) = some (.cells cs) := by rw [qE, if_neg hdj]; exact hj
  cases hI1.heap.box j _ hj1 with
  | @cells _ us ty b hg hB hh hl h hone =>
    have := hI1.setBox (bx' := .cells (cs.set i (.row d))) hj1 (b := b) (by rw [hg]; rfl) (Below.refl 0 w) (fun _ _ => rfl) (fun own' e1 e2 e3 => .cells (us := us) hg hB hh (by simpa using hl) (fun k s u hs hu => by
      by_cases hk : k = i
      · subst hk
        have hkl : k < cs.length := (List.getElem?_eq_some_iff.1 hi).1
        rw [List.getElem?_set_self hkl] at hs
        cases hs
        have h0 := (h k _ u hi hu).v_inv
        rw [h0]
        exact e3 (.row (by unfold hp; rw [qE, if_pos rfl]; simp [upd]))
      · rw [List.getElem?_set_ne (Ne.symm hk)] at hs
        exact e3 (h k s u hs hu)) hone)
    exact ⟨_, this.1⟩
end Go.Proofs.YtppfcacnofjmdaaGreatDoor
namespace Go.Proofs.YtppfcacnofjmdaaGreatDoor
set_option linter.unusedVariables false
set_option linter.unusedSimpArgs false
open Go.RowKit
set_option maxHeartbeats 4000000
def oblN (l : List Rs) : Nat := qT (fun x => x.obls.length) l
theorem oblN_take {l : List Rs} {k : Nat} (h : k < l.length) : oblN (l.take (k + 1)) = oblN (l.take k) + l[k].obls.length := zG h
theorem oblN_le (l : List Rs) (k : Nat) : oblN (l.take k) ≤ oblN l := sumBy_take _ l k
theorem rs_app (M : Mk) (a b : List Obli) : rsP ⟨M, a ++ b⟩ = [mkP M, .sl 3 (a.map Obli.pv ++ b.map Obli.pv)] := by
  unfold rsP
  simp only
  rw [show zQ (a ++ b) = .sl 3 ((a ++ b).map Obli.pv) from rfl, List.map_append]
def joinX (alg : Int) (obls : List Obli) (M : Mk) (t : Int) (parts : List Rs) : Rs :=
  if t = 0 then ⟨(0, 0), []⟩ else if t = 1 then ⟨qat M, []⟩
  else if M ≠ (2, 0) ∧ M ≠ (0, 2) then ⟨M, []⟩ else ⟨M, wF alg M parts ++ jm obls M⟩
theorem join_h (p : Pol) (t : Int) (parts : List Rs) (hn : parts.length ≤ 1000000) (hm : ∀ x ∈ parts, x.m ∈ mks) (ho : oblN parts ≤ 500000) (hp : p.obls.length ≤ 500000) : Holds Tryz.prog 69 [.agg (polP p), pI t, rssP parts] (.p (.agg (rsP (wM p t parts)))) [] := by
  obtain ⟨id, set, alg, tg, rules, kids, obls⟩ := p
  have lp : (parts.map rsP).length = parts.length := by simp
  replace hp : obls.length ≤ 500000 := hp
  have hM : allM alg (parts.map Rs.m) ∈ mks := allM_mem fun m h => by
    obtain ⟨x, hx, rfl⟩ := List.mem_map.1 h
    exact hm x hx
  have HC := combAll_h alg (parts.map Rs.m) (by simpa using hn) (fun m h => by
    obtain ⟨x, hx, rfl⟩ := List.mem_map.1 h
    exact hm x hx)
  rw [show wM (.mk id set alg tg rules kids obls) t parts = joinX alg obls (allM alg (parts.map Rs.m)) t parts from rfl, zf]
  simp only [Pol.id, Pol.set, Pol.alg, Pol.target, Pol.rules, Pol.kids, Pol.obls]
  obtain ⟨M, hMe⟩ : ∃ M, M = allM alg (parts.map Rs.m) := ⟨_, rfl⟩
  rw [← hMe] at hM HC ⊢
  clear hMe
  unfold joinX
  refine .ofW ?_
  refine qR (T := TTab) qe Tryz.func69 (by kernel_rfl) rfl rfl rfl ?_
  (repeat refine qb ?_); refine qa ?_
  repeat (first | refine zR ?_ | refine zK ?_ | refine zM ?_ | refine zB ?_ | refine zA ?_ | refine zS ?_ | refine zL ?_)
  refine qc ?_
  (repeat refine qb ?_); refine qa ?_
  repeat (first | refine zR ?_ | refine zK ?_ | refine zM ?_ | refine zB ?_ | refine zA ?_ | refine zS ?_ | refine zL ?_)
  refine qc ?_
  (repeat refine qb ?_); refine qa ?_
  repeat (first | refine zR ?_ | refine zK ?_ | refine zM ?_ | refine zB ?_ | refine zA ?_ | refine zS ?_ | refine zL ?_)
  refine qc ?_
  (repeat refine qb ?_); refine ql ?_
  refine SW.wk (jP 7 900 36 1 rfl rfl) ?_
  refine SW.wk (qq [1, 2, 3, 6, 7, 15, 16, 17] [(3, 3), (6, 6), (900, 0)] rfl rfl) ?_
  refine qO (fun n s => ∃ (k : Nat) (kk : Int), k ≤ parts.length ∧ n = parts.length - k ∧ kk = k ∧ s = ⟨84, [(1, .p (pI t)), (2, .p (rssP parts)), (3, .ptr 3 0), (6, .ptr 6 0), (7, .row 0), (15, .p (rssP parts)), (16, .p (pI (parts.map rsP).length)), (17, .p (pI kk))], [(3, .cells [.p (pS id), .p (pB set), .p (pI alg), .p (tgtP tg), .p (.sl 5 (rules.map zt)), .p (.sl 7 (kids.map polP)), .p (zQ obls)]), (6, .cells [.p (.v (.complex .f64 0 0)), .p nilV]), (0, .row 36 1 (((parts.take k).map Rs.m).map fun m => [mkP m]))]⟩) parts.length ⟨0, 0, Nat.zero_le _, rfl, rfl, rfl⟩ ?_
  rintro n s ⟨k, _, hk, rfl, rfl, rfl⟩
  (repeat refine qb ?_); refine qa ?_
  repeat (first | refine zR ?_ | refine zK ?_ | refine zM ?_ | refine zB ?_ | refine zA ?_ | refine zS ?_ | refine zL ?_)
  refine qc ?_
  (repeat refine qb ?_); refine qf rfl (fun hlt => ?_) (fun hlt => ?_)
  · refine qm ?_
    rw [lp] at hlt
    simp only [decide_eq_true_eq] at hlt
    have hlt' : k < parts.length := by omega
    obtain ⟨x, hx⟩ : ∃ x, x = parts[k] := ⟨_, rfl⟩
    (repeat refine qb ?_); refine ql ?_
    (repeat refine qb ?_); refine qa ?_
    repeat (first | refine zR ?_ | refine zK ?_ | refine zM ?_ | refine zB ?_ | refine zA ?_ | refine zS ?_ | refine zL ?_)
    refine qw qe rfl rfl (by rw [lp]; omega) rfl ?_
    rw [qJ hlt', ← hx]
    repeat (first | refine zR ?_ | refine zK ?_ | refine zM ?_ | refine zB ?_ | refine zA ?_ | refine zS ?_ | refine zL ?_)
    refine qc ?_
    (repeat refine qb ?_); refine qa ?_
    repeat (first | refine zR ?_ | refine zK ?_ | refine zM ?_ | refine zB ?_ | refine zA ?_ | refine zS ?_ | refine zL ?_)
    refine qn rfl (qp qe rfl rfl rfl rfl rfl rfl rfl rfl rfl rfl rfl rfl rfl rfl rfl rfl (by simp only [List.length_append, List.length_map, List.length_take, List.length_cons, List.length_nil]; unfold reachBytes; omega) (by simp only [List.length_append, List.length_map, List.length_take, List.length_cons, List.length_nil]; omega) ?_)
    repeat (first | refine zR ?_ | refine zK ?_ | refine zM ?_ | refine zB ?_ | refine zA ?_ | refine zS ?_ | refine zL ?_)
    refine qc ?_
    (repeat refine qb ?_); refine qa ?_
    repeat (first | refine zR ?_ | refine zK ?_ | refine zM ?_ | refine zB ?_ | refine zA ?_ | refine zS ?_ | refine zL ?_)
    refine qc ?_
    refine ⟨_, _, ?_, qq [1, 2, 3, 6, 7, 15, 16, 17] [(3, 3), (6, 6), (25, 0)] rfl rfl, k + 1, _, hlt', rfl, qz hlt' (by omega), ?_⟩
    · omega
    · rw [List.take_succ_eq_append_getElem hlt', ← hx, List.map_append, List.map_append]; rfl
  · refine qK ?_
    rw [lp] at hlt
    simp only [decide_eq_false_iff_not] at hlt
    have hkk : k = parts.length := by omega
    subst hkk
    rw [List.take_length]
    (repeat refine qb ?_); refine qa ?_
    repeat (first | refine zR ?_ | refine zK ?_ | refine zM ?_ | refine zB ?_ | refine zA ?_ | refine zS ?_ | refine zL ?_)
    refine qn rfl (qg rfl rfl rfl rfl (HC) rfl rfl ?_)
    repeat (first | refine zR ?_ | refine zK ?_ | refine zM ?_ | refine zB ?_ | refine zA ?_ | refine zS ?_ | refine zL ?_)
    refine qc ?_
    (repeat refine qb ?_); refine ql ?_
    (repeat refine qb ?_); refine qa ?_
    repeat (first | refine zR ?_ | refine zK ?_ | refine zM ?_ | refine zB ?_ | refine zA ?_ | refine zS ?_ | refine zL ?_)
    refine qc ?_
    (repeat refine qb ?_); refine qf rfl (fun c0 => ?_) (fun c0 => ?_)
    · have e : t = 0 := by simpa using c0
      rw [if_pos e]
      (repeat refine qb ?_); refine qa ?_
      repeat (first | refine zR ?_ | refine zK ?_ | refine zM ?_ | refine zB ?_ | refine zA ?_ | refine zS ?_ | refine zL ?_)
      refine qc ?_
      (repeat refine qb ?_); refine qk ?_
      exact ⟨Or.inr rfl, _, _, [], _, Wk.refl _, rfl, rfl, .p (CvL.agg (.cons (.refl _) (.cons (.nil 3) .nil))), rfl, rfl⟩
    have n0 : ¬ t = 0 := by simpa using c0
    rw [if_neg n0]
    (repeat refine qb ?_); refine qa ?_
    repeat (first | refine zR ?_ | refine zK ?_ | refine zM ?_ | refine zB ?_ | refine zA ?_ | refine zS ?_ | refine zL ?_)
    refine qc ?_
    (repeat refine qb ?_); refine qf rfl (fun c1 => ?_) (fun c1 => ?_)
    · have e : t = 1 := by simpa using c1
      rw [if_pos e]
      (repeat refine qb ?_); refine qa ?_
      repeat (first | refine zR ?_ | refine zK ?_ | refine zM ?_ | refine zB ?_ | refine zA ?_ | refine zS ?_ | refine zL ?_)
      refine qn rfl (qg rfl rfl rfl rfl (qas M hM) rfl rfl ?_)
      repeat (first | refine zR ?_ | refine zK ?_ | refine zM ?_ | refine zB ?_ | refine zA ?_ | refine zS ?_ | refine zL ?_)
      refine qc ?_
      (repeat refine qb ?_); refine qk ?_
      exact ⟨Or.inr rfl, _, _, [], _, Wk.refl _, rfl, rfl, .p (CvL.agg (.cons (.refl _) (.cons (.nil 3) .nil))), rfl, rfl⟩
    have n1 : ¬ t = 1 := by simpa using c1
    rw [if_neg n1]
    have hP : mkE M (2, 0) = decide (M = (2, 0)) := mkE_eq hM (by simp [mks])
    have hD : mkE M (0, 2) = decide (M = (0, 2)) := mkE_eq hM (by simp [mks])
    (repeat refine qb ?_); refine qs (by kernel_rfl) ?_
    repeat (refine qr qe rfl (by exact True.intro) rfl ?_)
    refine qQ ?_
    (repeat refine qb ?_); refine qf rfl (fun c2 => ?_) (fun c2 => ?_)
    · have e : M ≠ (2, 0) ∧ M ≠ (0, 2) := by
        change (bif !mkE M (2, 0) then !mkE M (0, 2) else false) = true at c2
        rw [hP, hD] at c2
        revert c2
        by_cases a : M = (2, 0) <;> by_cases b : M = (0, 2) <;> simp [a, b]
      rw [if_pos e]
      (repeat refine qb ?_); refine qa ?_
      repeat (first | refine zR ?_ | refine zK ?_ | refine zM ?_ | refine zB ?_ | refine zA ?_ | refine zS ?_ | refine zL ?_)
      refine qc ?_
      (repeat refine qb ?_); refine qk ?_
      exact ⟨Or.inr rfl, _, _, [], _, Wk.refl _, rfl, rfl, .p (CvL.agg (.cons (.refl _) (.cons (.nil 3) .nil))), rfl, rfl⟩
    have e : ¬ (M ≠ (2, 0) ∧ M ≠ (0, 2)) := by
      change (bif !mkE M (2, 0) then !mkE M (0, 2) else false) = false at c2
      rw [hP, hD] at c2
      revert c2
      by_cases a : M = (2, 0) <;> by_cases b : M = (0, 2) <;> simp [a, b]
    rw [if_neg e]
    refine qm ?_
    (repeat refine qb ?_); refine qa ?_
    repeat (first | refine zR ?_ | refine zK ?_ | refine zM ?_ | refine zB ?_ | refine zA ?_ | refine zS ?_ | refine zL ?_)
    refine qc ?_
    (repeat refine qb ?_); refine qa ?_
    repeat (first | refine zR ?_ | refine zK ?_ | refine zM ?_ | refine zB ?_ | refine zA ?_ | refine zS ?_ | refine zL ?_)
    refine qc ?_
    (repeat refine qb ?_); refine ql ?_
    refine SW.wk (wk_nilc 12 1 900 43 3 rfl rfl rfl) ?_
    refine SW.wk (qq [3, 6, 10, 12, 55, 56, 57] [(3, 3), (6, 6), (12, 12), (900, 0)] rfl rfl) ?_
    refine qO (fun n s => ∃ (k : Nat) (kk : Int) (acc : List Obli), k ≤ parts.length ∧ n = parts.length - k ∧ kk = k ∧ acc.length ≤ oblN (parts.take k) ∧ wF alg M parts = acc ++ wF alg M (parts.drop k) ∧ s = ⟨84, [(3, .ptr 3 0), (6, .ptr 6 0), (10, .p (mkP M)), (12, .ptr 12 0), (55, .p (rssP parts)), (56, .p (pI (parts.map rsP).length)), (57, .p (pI kk))], [(3, .cells [.p (pS id), .p (pB set), .p (pI alg), .p (tgtP tg), .p (.sl 5 (rules.map zt)), .p (.sl 7 (kids.map polP)), .p (zQ obls)]), (6, .cells [.p (.v (.complex .f64 0 0)), .p nilV]), (12, .cells [.p (mkP M), .row 0]), (0, .row 43 3 (acc.map Obli.pv))]⟩) parts.length ⟨0, 0, [], Nat.zero_le _, rfl, rfl, Nat.zero_le _, rfl, rfl⟩ ?_
    rintro n s ⟨k, _, acc, hk, rfl, rfl, hacc, hfin, rfl⟩
    have htk := oblN_le parts k
    (repeat refine qb ?_); refine qa ?_
    repeat (first | refine zR ?_ | refine zK ?_ | refine zM ?_ | refine zB ?_ | refine zA ?_ | refine zS ?_ | refine zL ?_)
    refine qc ?_
    (repeat refine qb ?_); refine qf rfl (fun hlt => ?_) (fun hlt => ?_)
    · refine qm ?_
      rw [lp] at hlt
      simp only [decide_eq_true_eq] at hlt
      have hlt' : k < parts.length := by omega
      have hs := oblN_take hlt'
      have htk2 := oblN_le parts (k + 1)
      have hxm := hm _ (List.getElem_mem hlt')
      rw [List.drop_eq_getElem_cons hlt', wF] at hfin
      (repeat refine qb ?_); refine ql ?_
      (repeat refine qb ?_); refine qa ?_
      repeat (first | refine zR ?_ | refine zK ?_ | refine zM ?_ | refine zB ?_ | refine zA ?_ | refine zS ?_ | refine zL ?_)
      refine qw qe rfl rfl (by rw [lp]; omega) rfl ?_
      rw [qJ hlt']
      repeat (first | refine zR ?_ | refine zK ?_ | refine zM ?_ | refine zB ?_ | refine zA ?_ | refine zS ?_ | refine zL ?_)
      refine qc ?_
      generalize parts[k] = x at *
      have hE : mkE x.m M = decide (x.m = M) := mkE_eq hxm hM
      (repeat refine qb ?_); refine qa ?_
      repeat (first | refine zR ?_ | refine zK ?_ | refine zM ?_ | refine zB ?_ | refine zA ?_ | refine zS ?_ | refine zL ?_)
      refine qc ?_
      (repeat refine qb ?_); refine qf rfl (fun cx => ?_) (fun cx => ?_)
      · have e : ¬ x.m = M := by
          change (!mkE x.m M) = true at cx
          rw [hE] at cx
          simpa using cx
        rw [if_neg e] at hfin
        refine qK ?_
        (repeat refine qb ?_); refine qa ?_
        repeat (first | refine zR ?_ | refine zK ?_ | refine zM ?_ | refine zB ?_ | refine zA ?_ | refine zS ?_ | refine zL ?_)
        refine qc ?_
        refine ⟨_, _, ?_, qq [3, 6, 10, 12, 55, 56, 57] [(3, 3), (6, 6), (12, 12), (0, 0)] rfl rfl, k + 1, _, acc, hlt', rfl, qz hlt' (by omega), by omega, hfin, rfl⟩
        omega
      · have e : x.m = M := by
          change (!mkE x.m M) = false at cx
          rw [hE] at cx
          simpa using cx
        rw [if_pos e] at hfin
        refine qm ?_
        (repeat refine qb ?_); refine qa ?_
        repeat (first | refine zR ?_ | refine zK ?_ | refine zM ?_ | refine zB ?_ | refine zA ?_ | refine zS ?_ | refine zL ?_)
        refine qn rfl (qp qe rfl rfl rfl rfl rfl rfl rfl rfl rfl rfl rfl rfl rfl rfl rfl rfl (by simp only [List.length_append, List.length_map, List.length_take, List.length_cons, List.length_nil]; unfold reachBytes; omega) (by simp only [List.length_append, List.length_map, List.length_take, List.length_cons, List.length_nil]; omega) ?_)
        repeat (first | refine zR ?_ | refine zK ?_ | refine zM ?_ | refine zB ?_ | refine zA ?_ | refine zS ?_ | refine zL ?_)
        refine qc ?_
        (repeat refine qb ?_); refine qa ?_
        repeat (first | refine zR ?_ | refine zK ?_ | refine zM ?_ | refine zB ?_ | refine zA ?_ | refine zS ?_ | refine zL ?_)
        refine qc ?_
        (repeat refine qb ?_); refine qf rfl (fun c3 => ?_) (fun c3 => ?_)
        · have e3 : alg = 3 := by simpa using c3
          rw [if_pos e3] at hfin
          refine qK ?_
          obtain ⟨acc2, ha2⟩ : ∃ acc2, acc2 = acc ++ x.obls := ⟨_, rfl⟩
          have hl2 : acc2.length = acc.length + x.obls.length := by rw [ha2, List.length_append]
          rw [← ha2] at hfin
          refine SW.wk (qq [3, 6, 10, 12] [(3, 3), (6, 6), (12, 12), (69, 69)] rfl rfl) ?_
          have eL : acc.map Obli.pv ++ x.obls.map Obli.pv = acc2.map Obli.pv := by rw [ha2, List.map_append]
          change SW _ _ _ ⟨84, [(3, .ptr 3 0), (6, .ptr 6 0), (10, .p (mkP M)), (12, .ptr 12 0)], [(3, .cells [.p (pS id), .p (pB set), .p (pI alg), .p (tgtP tg), .p (.sl 5 (rules.map zt)), .p (.sl 7 (kids.map polP)), .p (zQ obls)]), (6, .cells [.p (.v (.complex .f64 0 0)), .p nilV]), (12, .cells [.p (mkP M), .row 69]), (69, .row 43 3 (acc.map Obli.pv ++ x.obls.map Obli.pv))]⟩
          rw [eL]
          have hacc2 : acc2.length ≤ 1000000 := by omega
          have hdl := wq obls M
          (repeat refine qb ?_); refine zH 9 rfl (by kernel_rfl) ?_
          refine qy (i := 0) (K := [12, 69]) (by kernel_rfl) (by kernel_rfl) rfl rfl (qi qe rfl (by exact True.intro)) rfl ?_
          refine qy (i := 1) (K := []) (by kernel_rfl) (by kernel_rfl) rfl rfl (qi qe rfl (by exact True.intro)) rfl ?_
          refine qy (i := 2) (K := [12, 69]) (by kernel_rfl) (by kernel_rfl) rfl rfl (qi qe rfl (by exact True.intro)) rfl ?_
          refine qy (i := 3) (K := [12, 69]) (by kernel_rfl) (by kernel_rfl) rfl rfl (qi qe rfl (by exact True.intro)) rfl ?_
          refine qy (i := 4) (K := [12, 69]) (by kernel_rfl) (by kernel_rfl) rfl rfl (qi qe rfl (by exact True.intro)) rfl ?_
          refine qo 5 (by kernel_rfl) ?_
          refine qd rfl rfl rfl (qD rfl rfl rfl rfl ((duties_h obls (by omega) M hM)) rfl rfl rfl ?_)
          refine qo 6 (by kernel_rfl) ?_
          refine qd rfl rfl rfl (qp qe rfl rfl rfl rfl rfl rfl rfl rfl rfl rfl rfl rfl rfl rfl rfl rfl (by simp only [List.length_append, List.length_map, List.length_take, List.length_cons, List.length_nil]; unfold reachBytes; omega) (by simp only [List.length_append, List.length_map, List.length_take, List.length_cons, List.length_nil]; omega) ?_)
          refine qy (i := 7) (K := [12, 69]) (by kernel_rfl) (by kernel_rfl) rfl rfl (qi qe rfl (by exact True.intro)) rfl ?_
          refine qo 8 (by kernel_rfl) ?_
          first | refine qd rfl rfl rfl (aM (h := ?_)) | refine qd rfl rfl rfl (aB (h := ?_)) | refine qd rfl rfl rfl (aA (h := ?_)) | refine qd rfl rfl rfl (aS (h := ?_)) | refine qd rfl rfl rfl (aL (h := ?_)) | refine qd rfl rfl rfl (qv (K := []) (qi qe rfl (by exact True.intro)) rfl ?_)
          refine zd (by kernel_rfl) ?_
          refine SW.wk (qq [3, 6, 12] [(3, 3), (6, 6), (12, 12), (81, 81)] rfl rfl) ?_
          refine ?fk22_223
          rotate_left
          (repeat refine qb ?_); refine qa ?_
          repeat (first | refine zR ?_ | refine zK ?_ | refine zM ?_ | refine zB ?_ | refine zA ?_ | refine zS ?_ | refine zL ?_)
          refine qc ?_
          (repeat refine qb ?_); refine qk ?_
          rw [hfin, rs_app]
          exact ⟨Or.inr rfl, _, _, [], _, zN (k := 81) rfl, rfl, rfl, .refl _, rfl, rfl⟩
        · have e3 : ¬ alg = 3 := by simpa using c3
          rw [if_neg e3] at hfin
          refine qm ?_
          (repeat refine qb ?_); refine qa ?_
          repeat (first | refine zR ?_ | refine zK ?_ | refine zM ?_ | refine zB ?_ | refine zA ?_ | refine zS ?_ | refine zL ?_)
          refine qc ?_
          refine ⟨_, _, ?_, qq [3, 6, 10, 12, 55, 56, 57] [(3, 3), (6, 6), (12, 12), (69, 0)] rfl rfl, k + 1, _, acc ++ x.obls, hlt', rfl, qz hlt' (by omega), by rw [List.length_append]; omega, by rw [List.append_assoc]; exact hfin, ?_⟩
          · omega
          · rw [List.map_append]; rfl
    · refine qK ?_
      rw [lp] at hlt
      simp only [decide_eq_false_iff_not] at hlt
      have hkk : k = parts.length := by omega
      subst hkk
      rw [List.drop_length, wF, List.append_nil] at hfin
      obtain ⟨acc2, ha2⟩ : ∃ acc2, acc2 = acc := ⟨_, rfl⟩
      rw [← ha2] at hfin hacc ⊢
      have hacc2 : acc2.length ≤ 1000000 := by omega
      have hdl := wq obls M
      (repeat refine qb ?_); refine zH 9 rfl (by kernel_rfl) ?_
      refine qy (i := 0) (K := [12, 0]) (by kernel_rfl) (by kernel_rfl) rfl rfl (qi qe rfl (by exact True.intro)) rfl ?_
      refine qy (i := 1) (K := []) (by kernel_rfl) (by kernel_rfl) rfl rfl (qi qe rfl (by exact True.intro)) rfl ?_
      refine qy (i := 2) (K := [12, 0]) (by kernel_rfl) (by kernel_rfl) rfl rfl (qi qe rfl (by exact True.intro)) rfl ?_
      refine qy (i := 3) (K := [12, 0]) (by kernel_rfl) (by kernel_rfl) rfl rfl (qi qe rfl (by exact True.intro)) rfl ?_
      refine qy (i := 4) (K := [12, 0]) (by kernel_rfl) (by kernel_rfl) rfl rfl (qi qe rfl (by exact True.intro)) rfl ?_
      refine qo 5 (by kernel_rfl) ?_
      refine qd rfl rfl rfl (qD rfl rfl rfl rfl ((duties_h obls (by omega) M hM)) rfl rfl rfl ?_)
      refine qo 6 (by kernel_rfl) ?_
      refine qd rfl rfl rfl (qp qe rfl rfl rfl rfl rfl rfl rfl rfl rfl rfl rfl rfl rfl rfl rfl rfl (by simp only [List.length_append, List.length_map, List.length_take, List.length_cons, List.length_nil]; unfold reachBytes; omega) (by simp only [List.length_append, List.length_map, List.length_take, List.length_cons, List.length_nil]; omega) ?_)
      refine qy (i := 7) (K := [12, 0]) (by kernel_rfl) (by kernel_rfl) rfl rfl (qi qe rfl (by exact True.intro)) rfl ?_
      refine qo 8 (by kernel_rfl) ?_
      first | refine qd rfl rfl rfl (aM (h := ?_)) | refine qd rfl rfl rfl (aB (h := ?_)) | refine qd rfl rfl rfl (aA (h := ?_)) | refine qd rfl rfl rfl (aS (h := ?_)) | refine qd rfl rfl rfl (aL (h := ?_)) | refine qd rfl rfl rfl (qv (K := []) (qi qe rfl (by exact True.intro)) rfl ?_)
      refine zd (by kernel_rfl) ?_
      refine SW.wk (qq [3, 6, 12] [(3, 3), (6, 6), (12, 12), (81, 81)] rfl rfl) ?_
      refine ?fk22_265
      rotate_left
      (repeat refine qb ?_); refine qa ?_
      repeat (first | refine zR ?_ | refine zK ?_ | refine zM ?_ | refine zB ?_ | refine zA ?_ | refine zS ?_ | refine zL ?_)
      refine qc ?_
      (repeat refine qb ?_); refine qk ?_
      rw [hfin, rs_app]
      exact ⟨Or.inr rfl, _, _, [], _, zN (k := 81) rfl, rfl, rfl, .refl _, rfl, rfl⟩
end Go.Proofs.YtppfcacnofjmdaaGreatDoor
namespace Go.Proofs.YtppfcacnofjmdaaGreatDoor
set_option linter.unusedVariables false
set_option linter.unusedSimpArgs false
open Go.RowKit
set_option maxHeartbeats 4000000
theorem partsO_len (alg : Int) (m : Mk) : ∀ l : List Rs, (wF alg m l).length ≤ oblN l
  | [] => Nat.le_refl _
  | x :: l => by
    have ih := partsO_len alg m l
    have e : oblN (x :: l) = x.obls.length + oblN l := by unfold oblN qT; rw [List.map_cons, List.sum_cons]
    rw [wF, e]
    split
    · split
      · omega
      · rw [List.length_append]; omega
    · omega
theorem oblN_append (a b : List Rs) : oblN (a ++ b) = oblN a + oblN b := by unfold oblN qT; rw [List.map_append, List.sum_append]
theorem oblN_map {α : Type} {f : α → Rs} {c : α → Nat} (h : ∀ x, (f x).obls.length ≤ c x) : ∀ l : List α, oblN (l.map f) ≤ qT c l
  | [] => Nat.le_refl _
  | x :: l => by
    have ih := oblN_map h l
    have h1 := h x
    unfold oblN qT at ih ⊢
    rw [List.map_cons, List.map_cons, List.sum_cons, List.map_cons, List.sum_cons]
    omega
theorem effectS_len (r : Rul) (t c : Int) : (jW r t c).obls.length ≤ r.obls.length := by
  unfold jW
  repeat' split
  · exact Nat.zero_le _
  · exact Nat.zero_le _
  · exact wq _ _
theorem ruleR_len (g : List Giv) (r : Rul) : (qaw g r).obls.length ≤ rusz r := by
  have h1 := effectS_len r (metT r.target g) (qam r.cond g)
  have h2 : r.obls.length ≤ osz r.obls := by unfold osz; omega
  have h3 : rusz r = txt r.id + tsz r.target + r.cond.length + osz r.obls + qT nsz r.cond := rfl
  unfold qaw
  omega
theorem parts_len (g : List Giv) (n : Nat) (h : ∀ p, (qF g n p).obls.length ≤ p.sz) (p : Pol) : oblN (p.rules.map (qaw g) ++ p.kids.map (qF g n)) + p.obls.length ≤ p.sz := by
  have h1 := Pol.sz_eq p
  have h2 := oblN_map (ruleR_len g) p.rules
  have h3 := oblN_map h p.kids
  have h4 : p.obls.length ≤ osz p.obls := by unfold osz; omega
  rw [oblN_append]
  omega
theorem decideS_len (g : List Giv) : ∀ (n : Nat) (p : Pol), (qF g n p).obls.length ≤ p.sz
  | 0, p => Nat.zero_le _
  | n + 1, p => by
    have h1 := parts_len g n (decideS_len g n) p
    rw [qF]
    split
    · exact Nat.zero_le _
    · unfold wM
      repeat' split
      · exact Nat.zero_le _
      · exact Nat.zero_le _
      · exact Nat.zero_le _
      · have h2 := partsO_len p.alg (allM p.alg ((p.rules.map (qaw g) ++ p.kids.map (qF g n)).map Rs.m)) (p.rules.map (qaw g) ++ p.kids.map (qF g n))
        have h3 := wq p.obls (allM p.alg ((p.rules.map (qaw g) ++ p.kids.map (qF g n)).map Rs.m))
        simp only [List.length_append]
        omega
theorem tarSm_sz {t : Tar} {n : Nat} (h : tsz t ≤ n) (hn : n ≤ 100000) : TarSm t := by
  refine ⟨by unfold tsz at h; omega, fun x hx => ?_⟩
  have h1 := xsz_le hx
  refine ⟨by unfold xsz at h1; omega, fun y hy => ?_⟩
  have h4 : asz y ≤ xsz x := by have := wb (f := asz) hy; unfold xsz; omega
  unfold asz at h4
  omega
theorem sz_big {p : Pol} {n : Nat} (h : p.sz ≤ n) (hn : n ≤ 100000) : TarSm p.target ∧ p.rules.length ≤ 100000 ∧ p.kids.length ≤ 100000 ∧ p.obls.length ≤ 100000 ∧ (∀ r ∈ p.rules, TarSm r.target ∧ r.cond.length ≤ 100000 ∧ r.obls.length ≤ 100000) ∧ ∀ k ∈ p.kids, k.sz ≤ n := by
  have h1 := Pol.sz_eq p
  have h2 := len_sumBy Pol.sz (fun p => by rw [Pol.sz_eq]; omega) p.kids
  have h3 : p.obls.length ≤ osz p.obls := by unfold osz; omega
  refine ⟨tarSm_sz (n := n) (by omega) hn, by omega, by omega, by omega, fun r hr => ?_, fun k hk => ?_⟩
  · have h4 := wb (f := rusz) hr
    have h5 : r.obls.length ≤ osz r.obls := by unfold osz; omega
    have h6 : rusz r = txt r.id + tsz r.target + r.cond.length + osz r.obls + qT nsz r.cond := rfl
    exact ⟨tarSm_sz (n := n) (by omega) hn, by omega, by omega⟩
  · have := wb (f := Pol.sz) hk
    omega
def DecOk (g : List Giv) (n : Nat) : Prop := ∀ (p : Pol), PolF n p → p.sz ≤ 100000 → Holds Tryz.prog 47 [.agg (polP p), zP g] (.p (.agg (rsP (qF g n p)))) []
theorem tarSm_of {t : Tar} (h : TarL t) : TarSm t := ⟨by have := h.1; omega, fun x hx => ⟨by have := (h.2 x hx).1; omega, fun y hy => by have := (h.2 x hx).2 y hy; omega⟩⟩
theorem dec_step {g : List Giv} (hg : GivOk g) (n : Nat) (IH : DecOk g n) : DecOk g (n + 1) := by
  intro p hf hsz
  obtain ⟨ht, hr, hk, ho, hru, hks⟩ := sz_big hsz (Nat.le_refl _)
  have hpl := parts_len g n (decideS_len g n) p
  have HK := fun k (hk : k ∈ p.kids) => IH k (hf.2.2 k hk) (hks k hk)
  have HM := metT_h p.target g hf.1.tgt ht hg.fit hg.len hg.bags
  have HR := fun r (hr : r ∈ p.rules) => ruleR_h r g (hf.1.rules r hr) (hru r hr).1 (by have := (hru r hr).2.2; omega) hg.fit hg.len hg.bags
  have HJ := join_h p (metT p.target g) (p.rules.map (qaw g) ++ p.kids.map (qF g n)) (by simp; omega) (fun x hx => by
    rcases List.mem_append.1 hx with hx | hx
    · obtain ⟨r, _, rfl⟩ := List.mem_map.1 hx; exact qan _ _ _
    · obtain ⟨k, _, rfl⟩ := List.mem_map.1 hx; exact qaa g n k) (by omega) (by omega)
  have eD : qF g (n + 1) p = if metT p.target g = 0 then noRs else wM p (metT p.target g) (p.rules.map (qaw g) ++ p.kids.map (qF g n)) := rfl
  rw [eD]
  clear eD
  rw [zf] at HJ ⊢
  generalize metT p.target g = t at *
  obtain ⟨id, set, alg, tg, rules, kids, obls⟩ := p
  simp only [Pol.id, Pol.set, Pol.alg, Pol.target, Pol.rules, Pol.kids, Pol.obls] at *
  have l1 : ((rules.map zt).length) = rules.length := by simp
  have l2 : ((kids.map polP).length) = kids.length := by simp
  refine .ofW ?_
  refine qR (T := TTab) qe Tryz.func47 (by kernel_rfl) rfl rfl rfl ?_
  (repeat refine qb ?_); refine qa ?_
  repeat (first | refine zR ?_ | refine zK ?_ | refine zM ?_ | refine zB ?_ | refine zA ?_ | refine zS ?_ | refine zL ?_)
  refine qc ?_
  (repeat refine qb ?_); refine qa ?_
  repeat (first | refine zR ?_ | refine zK ?_ | refine zM ?_ | refine zB ?_ | refine zA ?_ | refine zS ?_ | refine zL ?_)
  refine qn rfl (qg rfl rfl rfl rfl (HM) rfl rfl ?_)
  repeat (first | refine zR ?_ | refine zK ?_ | refine zM ?_ | refine zB ?_ | refine zA ?_ | refine zS ?_ | refine zL ?_)
  refine qc ?_
  (repeat refine qb ?_); refine qa ?_
  repeat (first | refine zR ?_ | refine zK ?_ | refine zM ?_ | refine zB ?_ | refine zA ?_ | refine zS ?_ | refine zL ?_)
  refine qc ?_
  (repeat refine qb ?_); refine qf rfl (fun h0 => ?_) (fun h0 => ?_)
  · have e : t = 0 := by simpa using h0
    rw [if_pos e]
    (repeat refine qb ?_); refine qa ?_
    repeat (first | refine zR ?_ | refine zK ?_ | refine zM ?_ | refine zB ?_ | refine zA ?_ | refine zS ?_ | refine zL ?_)
    refine qc ?_
    (repeat refine qb ?_); refine qk ?_
    exact ⟨Or.inr rfl, _, _, [], _, Wk.refl _, rfl, rfl, .p (CvL.agg (.cons (.refl _) (.cons (.nil 3) .nil))), rfl, rfl⟩
  have n0 : ¬ t = 0 := by simpa using h0
  rw [if_neg n0]
  refine qm ?_
  (repeat refine qb ?_); refine qa ?_
  repeat (first | refine zR ?_ | refine zK ?_ | refine zM ?_ | refine zB ?_ | refine zA ?_ | refine zS ?_ | refine zL ?_)
  refine qc ?_
  (repeat refine qb ?_); refine qa ?_
  repeat (first | refine zR ?_ | refine zK ?_ | refine zM ?_ | refine zB ?_ | refine zA ?_ | refine zS ?_ | refine zL ?_)
  refine qc ?_
  (repeat refine qb ?_); refine ql ?_
  refine SW.wk (jP 6 900 38 2 rfl rfl) ?_
  refine SW.wk (qq [1, 2, 4, 5, 6, 19, 20, 21] [(2, 2), (4, 4), (900, 0)] rfl rfl) ?_
  refine qO (fun m s => ∃ (k : Nat) (kk : Int), k ≤ rules.length ∧ m = rules.length - k ∧ kk = k ∧ s = ⟨50, [(1, .p (zP g)), (2, .ptr 2 0), (4, .ptr 4 0), (5, .p (pI t)), (6, .row 0), (19, .p (.sl 5 (rules.map zt))), (20, .p (pI (rules.map zt).length)), (21, .p (pI kk))], [(2, .cells [.p (pS id), .p (pB set), .p (pI alg), .p (tgtP tg), .p (.sl 5 (rules.map zt)), .p (.sl 7 (kids.map polP)), .p (zQ obls)]), (4, .cells [.p (.v (.complex .f64 0 0)), .p nilV]), (0, .row 38 2 (((rules.take k).map (qaw g)).map rsP))]⟩) rules.length ⟨0, 0, Nat.zero_le _, rfl, rfl, rfl⟩ ?_
  rintro m s ⟨k, _, hk', rfl, rfl, rfl⟩
  (repeat refine qb ?_); refine qa ?_
  repeat (first | refine zR ?_ | refine zK ?_ | refine zM ?_ | refine zB ?_ | refine zA ?_ | refine zS ?_ | refine zL ?_)
  refine qc ?_
  (repeat refine qb ?_); refine qf rfl (fun hlt => ?_) (fun hlt => ?_)
  · refine qm ?_
    rw [l1] at hlt
    simp only [decide_eq_true_eq] at hlt
    have hlt' : k < rules.length := by omega
    have H := HR _ (List.getElem_mem hlt')
    obtain ⟨x, hx⟩ : ∃ x, x = rules[k] := ⟨_, rfl⟩
    rw [← hx] at H
    (repeat refine qb ?_); refine ql ?_
    (repeat refine qb ?_); refine qa ?_
    repeat (first | refine zR ?_ | refine zK ?_ | refine zM ?_ | refine zB ?_ | refine zA ?_ | refine zS ?_ | refine zL ?_)
    refine qw qe rfl rfl (by rw [l1]; omega) rfl ?_
    rw [qJ hlt', ← hx]
    repeat (first | refine zR ?_ | refine zK ?_ | refine zM ?_ | refine zB ?_ | refine zA ?_ | refine zS ?_ | refine zL ?_)
    refine qc ?_
    (repeat refine qb ?_); refine qa ?_
    repeat (first | refine zR ?_ | refine zK ?_ | refine zM ?_ | refine zB ?_ | refine zA ?_ | refine zS ?_ | refine zL ?_)
    refine qn rfl (qD rfl rfl rfl rfl (H) rfl rfl rfl ?_)
    repeat (first | refine zR ?_ | refine zK ?_ | refine zM ?_ | refine zB ?_ | refine zA ?_ | refine zS ?_ | refine zL ?_)
    refine qn rfl (qp qe rfl rfl rfl rfl rfl rfl rfl rfl rfl rfl rfl rfl rfl rfl rfl rfl (by simp only [List.length_append, List.length_map, List.length_take, List.length_cons, List.length_nil]; unfold reachBytes; omega) (by simp only [List.length_append, List.length_map, List.length_take, List.length_cons, List.length_nil]; omega) ?_)
    repeat (first | refine zR ?_ | refine zK ?_ | refine zM ?_ | refine zB ?_ | refine zA ?_ | refine zS ?_ | refine zL ?_)
    refine qc ?_
    (repeat refine qb ?_); refine qa ?_
    repeat (first | refine zR ?_ | refine zK ?_ | refine zM ?_ | refine zB ?_ | refine zA ?_ | refine zS ?_ | refine zL ?_)
    refine qc ?_
    refine ⟨_, _, ?_, qq [1, 2, 4, 5, 6, 19, 20, 21] [(2, 2), (4, 4), (30, 0)] rfl rfl, k + 1, _, hlt', rfl, qz hlt' (by omega), ?_⟩
    · omega
    · rw [List.take_succ_eq_append_getElem hlt', ← hx, List.map_append, List.map_append]; rfl
  · refine qK ?_
    rw [l1] at hlt
    simp only [decide_eq_false_iff_not] at hlt
    have hkk : k = rules.length := by omega
    subst hkk
    rw [List.take_length]
    (repeat refine qb ?_); refine qa ?_
    repeat (first | refine zR ?_ | refine zK ?_ | refine zM ?_ | refine zB ?_ | refine zA ?_ | refine zS ?_ | refine zL ?_)
    refine qc ?_
    (repeat refine qb ?_); refine ql ?_
    refine SW.wk (qq [1, 2, 4, 5, 6, 33, 34, 35] [(2, 2), (4, 4), (0, 0)] rfl rfl) ?_
    refine qO (fun m s => ∃ (k : Nat) (kk : Int) (L : List Rs), k ≤ kids.length ∧ m = kids.length - k ∧ kk = k ∧ L = rules.map (qaw g) ++ (kids.take k).map (qF g n) ∧ s = ⟨50, [(1, .p (zP g)), (2, .ptr 2 0), (4, .ptr 4 0), (5, .p (pI t)), (6, .row 0), (33, .p (.sl 7 (kids.map polP))), (34, .p (pI (kids.map polP).length)), (35, .p (pI kk))], [(2, .cells [.p (pS id), .p (pB set), .p (pI alg), .p (tgtP tg), .p (.sl 5 (rules.map zt)), .p (.sl 7 (kids.map polP)), .p (zQ obls)]), (4, .cells [.p (.v (.complex .f64 0 0)), .p nilV]), (0, .row 38 2 (L.map rsP))]⟩) kids.length ⟨0, 0, rules.map (qaw g), Nat.zero_le _, rfl, rfl, by simp, rfl⟩ ?_
    rintro m s ⟨k, _, L, hk', rfl, rfl, hL, rfl⟩
    have hLl : L.length = rules.length + min k kids.length := by rw [hL]; simp
    (repeat refine qb ?_); refine qa ?_
    repeat (first | refine zR ?_ | refine zK ?_ | refine zM ?_ | refine zB ?_ | refine zA ?_ | refine zS ?_ | refine zL ?_)
    refine qc ?_
    (repeat refine qb ?_); refine qf rfl (fun hlt => ?_) (fun hlt => ?_)
    · refine qm ?_
      rw [l2] at hlt
      simp only [decide_eq_true_eq] at hlt
      have hlt' : k < kids.length := by omega
      have H := HK _ (List.getElem_mem hlt')
      obtain ⟨x, hx⟩ : ∃ x, x = kids[k] := ⟨_, rfl⟩
      rw [← hx, zf] at H
      (repeat refine qb ?_); refine ql ?_
      (repeat refine qb ?_); refine qa ?_
      repeat (first | refine zR ?_ | refine zK ?_ | refine zM ?_ | refine zB ?_ | refine zA ?_ | refine zS ?_ | refine zL ?_)
      refine qw qe rfl rfl (by rw [l2]; omega) rfl ?_
      rw [qJ hlt', ← hx, zf]
      repeat (first | refine zR ?_ | refine zK ?_ | refine zM ?_ | refine zB ?_ | refine zA ?_ | refine zS ?_ | refine zL ?_)
      refine qc ?_
      (repeat refine qb ?_); refine qa ?_
      repeat (first | refine zR ?_ | refine zK ?_ | refine zM ?_ | refine zB ?_ | refine zA ?_ | refine zS ?_ | refine zL ?_)
      refine qn rfl (qD rfl rfl rfl rfl (H) rfl rfl rfl ?_)
      repeat (first | refine zR ?_ | refine zK ?_ | refine zM ?_ | refine zB ?_ | refine zA ?_ | refine zS ?_ | refine zL ?_)
      refine qn rfl (qp qe rfl rfl rfl rfl rfl rfl rfl rfl rfl rfl rfl rfl rfl rfl rfl rfl (by simp only [List.length_append, List.length_map, List.length_take, List.length_cons, List.length_nil]; unfold reachBytes; omega) (by simp only [List.length_append, List.length_map, List.length_take, List.length_cons, List.length_nil]; omega) ?_)
      repeat (first | refine zR ?_ | refine zK ?_ | refine zM ?_ | refine zB ?_ | refine zA ?_ | refine zS ?_ | refine zL ?_)
      refine qc ?_
      (repeat refine qb ?_); refine qa ?_
      repeat (first | refine zR ?_ | refine zK ?_ | refine zM ?_ | refine zB ?_ | refine zA ?_ | refine zS ?_ | refine zL ?_)
      refine qc ?_
      refine ⟨_, _, ?_, qq [1, 2, 4, 5, 6, 33, 34, 35] [(2, 2), (4, 4), (44, 0)] rfl rfl, k + 1, _, L ++ [qF g n x], hlt', rfl, qz hlt' (by omega), ?_, ?_⟩
      · omega
      · rw [hL, List.append_assoc, List.take_succ_eq_append_getElem hlt', List.map_append, ← hx]; rfl
      · rw [List.map_append]; rfl
    · refine qK ?_
      rw [l2] at hlt
      simp only [decide_eq_false_iff_not] at hlt
      have hkk : k = kids.length := by omega
      subst hkk
      rw [List.take_length] at hL
      rw [← hL] at HJ ⊢
      refine SW.wk (zN (k := 0) rfl) ?_
      (repeat refine qb ?_); refine qa ?_
      repeat (first | refine zR ?_ | refine zK ?_ | refine zM ?_ | refine zB ?_ | refine zA ?_ | refine zS ?_ | refine zL ?_)
      refine qn rfl (qD rfl rfl rfl rfl (HJ) rfl rfl rfl ?_)
      repeat (first | refine zR ?_ | refine zK ?_ | refine zM ?_ | refine zB ?_ | refine zA ?_ | refine zS ?_ | refine zL ?_)
      refine qc ?_
      (repeat refine qb ?_); refine qk ?_
      exact ⟨Or.inr rfl, _, _, [], _, Wk.refl _, rfl, rfl, .refl _, rfl, rfl⟩
theorem dec_all {g : List Giv} (hg : GivOk g) : ∀ n, DecOk g n
  | 0 => fun _ h => h.elim
  | n + 1 => dec_step hg n (dec_all hg n)
theorem polF_dp : ∀ {n : Nat} {p : Pol}, PolF n p → Dp n p
  | n + 1, p, h => fun k hk => polF_dp (h.2.2 k hk)
theorem decideS_any (g : List Giv) {n m : Nat} {p : Pol} (hn : Dp n p) (hm : Dp m p) : qF g n p = qF g m p := by
  rcases Nat.le_total n m with h | h
  · exact (decideS_dp g hn h).symm
  · exact decideS_dp g hm h
theorem evPol_h {n : Nat} (p : Pol) (hf : PolF n p) (hsz : p.sz ≤ 100000) (g : List Giv) (hg : GivOk g) : Holds Tryz.prog 19 [.agg (polP p), zP g] (.tup [.p (.agg (rsP (evalS p g).1)), .p (pI (evalS p g).2)]) [] := by
  have HR := right_h p (polF_fit 4 hf)
  have HD := dec_all hg n p hf hsz
  unfold evalS
  by_cases h : zb p = 0
  · rw [if_pos h]
    rw [decideS_any g (polF_dp hf) (right_dp h)] at HD
    rw [h] at HR
    generalize qF g 4 p = x at *
    rw [zf] at HR HD ⊢
    refine .ofW ?_
    refine qR (T := TTab) qe Tryz.func19 (by kernel_rfl) rfl rfl rfl ?_
    (repeat refine qb ?_); refine qa ?_
    repeat (first | refine zR ?_ | refine zK ?_ | refine zM ?_ | refine zB ?_ | refine zA ?_ | refine zS ?_ | refine zL ?_)
    refine qc ?_
    (repeat refine qb ?_); refine qa ?_
    repeat (first | refine zR ?_ | refine zK ?_ | refine zM ?_ | refine zB ?_ | refine zA ?_ | refine zS ?_ | refine zL ?_)
    refine qn rfl (qg rfl rfl rfl rfl (HR) rfl rfl ?_)
    repeat (first | refine zR ?_ | refine zK ?_ | refine zM ?_ | refine zB ?_ | refine zA ?_ | refine zS ?_ | refine zL ?_)
    refine qc ?_
    (repeat refine qb ?_); refine qf rfl (fun hc => ?_) (fun hc => ?_)
    · cases hc
    refine qm ?_
    (repeat refine qb ?_); refine qa ?_
    repeat (first | refine zR ?_ | refine zK ?_ | refine zM ?_ | refine zB ?_ | refine zA ?_ | refine zS ?_ | refine zL ?_)
    refine qn rfl (qD rfl rfl rfl rfl (HD) rfl rfl rfl ?_)
    repeat (first | refine zR ?_ | refine zK ?_ | refine zM ?_ | refine zB ?_ | refine zA ?_ | refine zS ?_ | refine zL ?_)
    refine qc ?_
    (repeat refine qb ?_); refine qk ?_
    exact ⟨Or.inr rfl, _, _, [], _, Wk.refl _, rfl, rfl, .refl _, rfl, rfl⟩
  · rw [if_neg h]
    rw [zf] at HR ⊢
    refine .ofW ?_
    refine qR (T := TTab) qe Tryz.func19 (by kernel_rfl) rfl rfl rfl ?_
    (repeat refine qb ?_); refine qa ?_
    repeat (first | refine zR ?_ | refine zK ?_ | refine zM ?_ | refine zB ?_ | refine zA ?_ | refine zS ?_ | refine zL ?_)
    refine qc ?_
    (repeat refine qb ?_); refine qa ?_
    repeat (first | refine zR ?_ | refine zK ?_ | refine zM ?_ | refine zB ?_ | refine zA ?_ | refine zS ?_ | refine zL ?_)
    refine qn rfl (qg rfl rfl rfl rfl (HR) rfl rfl ?_)
    repeat (first | refine zR ?_ | refine zK ?_ | refine zM ?_ | refine zB ?_ | refine zA ?_ | refine zS ?_ | refine zL ?_)
    rw [show (zb p != 0) = true by simpa using h]
    refine qc ?_
    (repeat refine qb ?_); refine qf rfl (fun hc => ?_) (fun hc => ?_)
    · (repeat refine qb ?_); refine qa ?_
      repeat (first | refine zR ?_ | refine zK ?_ | refine zM ?_ | refine zB ?_ | refine zA ?_ | refine zS ?_ | refine zL ?_)
      refine qc ?_
      (repeat refine qb ?_); refine qk ?_
      exact ⟨Or.inr rfl, _, _, [], _, Wk.refl _, rfl, rfl, .two (CvL.agg (.cons (.refl _) (.cons (.nil 3) .nil))) (.refl _), rfl, rfl⟩
    · cases hc
end Go.Proofs.YtppfcacnofjmdaaGreatDoor
namespace Go.Proofs.YtppfcacnofjmdaaGreatDoor
set_option linter.unusedVariables false
set_option linter.unusedSimpArgs false
open Go.RowKit
set_option maxHeartbeats 4000000
theorem sameObls_h (l : List Obli) (hn : l.length ≤ 1000000) : Holds Tryz.prog 49 [zQ l, zQ l] (.p (pB true)) [] := by
  refine qA (ts := [4]) Tryz.func49 (by kernel_rfl) rfl rfl rfl ?_
  (repeat refine qb ?_); refine qa ?_
  repeat (first | refine zR ?_ | refine zK ?_ | refine zM ?_ | refine zB ?_ | refine zA ?_ | refine zS ?_ | refine zL ?_)
  refine qc ?_
  (repeat refine qb ?_); refine qa ?_
  repeat (first | refine zR ?_ | refine zK ?_ | refine zM ?_ | refine zB ?_ | refine zA ?_ | refine zS ?_ | refine zL ?_)
  refine qc ?_
  (repeat refine qb ?_); refine qf rfl (fun h0 => ?_) (fun h0 => ?_)
  · exfalso
    simp at h0
  refine qm ?_
  (repeat refine qb ?_); refine qa ?_
  repeat (first | refine zR ?_ | refine zK ?_ | refine zM ?_ | refine zB ?_ | refine zA ?_ | refine zS ?_ | refine zL ?_)
  refine qc ?_
  (repeat refine qb ?_); refine ql ?_
  refine SW.wk (qq [0, 1, 4, 5] [] rfl rfl) ?_
  refine qO (fun m s => ∃ (k : Nat) (kk : Int), k ≤ l.length ∧ m = l.length - k ∧ kk = k ∧ s = ⟨26, [(0, .p (zQ l)), (1, .p (zQ l)), (4, .p (pB false)), (5, .p (pI kk))], []⟩) l.length ⟨0, 0, Nat.zero_le _, rfl, rfl, rfl⟩ ?_
  rintro m s ⟨k, _, hk, rfl, rfl, rfl⟩
  (repeat refine qb ?_); refine qa ?_
  repeat (first | refine zR ?_ | refine zK ?_ | refine zM ?_ | refine zB ?_ | refine zA ?_ | refine zS ?_ | refine zL ?_)
  refine qc ?_
  (repeat refine qb ?_); refine qf rfl (fun hlt => ?_) (fun hlt => ?_)
  · refine qm ?_
    simp only [List.length_map, decide_eq_true_eq] at hlt
    have hlt' : k < l.length := by omega
    obtain ⟨x, hx⟩ : ∃ x, x = l[k] := ⟨_, rfl⟩
    (repeat refine qb ?_); refine ql ?_
    (repeat refine qb ?_); refine zl [] [(0, true), (1, true), (2, true), (3, true), (4, true), (5, true), (6, true), (7, true), (8, true)] (by kernel_rfl) (by kernel_rfl) (by kernel_rfl) ?_
    repeat (first | refine yR ?_ | refine yK ?_ | refine yM ?_ | refine yB ?_ | refine yA ?_ | refine yS ?_ | refine yL ?_)
    refine zi qe rfl rfl rfl (by simp only [List.length_map]; omega) rfl ?_
    rw [qJ hlt', ← hx]
    repeat (first | refine yR ?_ | refine yK ?_ | refine yM ?_ | refine yB ?_ | refine yA ?_ | refine yS ?_ | refine yL ?_)
    refine zi qe rfl rfl rfl (by simp only [List.length_map]; omega) rfl ?_
    rw [qJ hlt', ← hx]
    repeat (first | refine yR ?_ | refine yK ?_ | refine yM ?_ | refine yB ?_ | refine yA ?_ | refine yS ?_ | refine yL ?_)
    refine zi qe rfl rfl rfl (rfl) rfl ?_
    repeat (first | refine yR ?_ | refine yK ?_ | refine yM ?_ | refine yB ?_ | refine yA ?_ | refine yS ?_ | refine yL ?_)
    refine swm_nil ?_
    (repeat refine qb ?_); refine qf rfl (fun hp => ?_) (fun hp => ?_)
    · exfalso
      simp at hp
    refine qm ?_
    (repeat refine qb ?_); refine qa ?_
    repeat (first | refine zR ?_ | refine zK ?_ | refine zM ?_ | refine zB ?_ | refine zA ?_ | refine zS ?_ | refine zL ?_)
    refine qc ?_
    refine ⟨_, _, ?_, qq [0, 1, 4, 5] [] rfl rfl, k + 1, _, hlt', rfl, qz hlt' (by omega), rfl⟩
    omega
  · refine qK ?_
    (repeat refine qb ?_); refine qa ?_
    repeat (first | refine zR ?_ | refine zK ?_ | refine zM ?_ | refine zB ?_ | refine zA ?_ | refine zS ?_ | refine zL ?_)
    refine qc ?_
    (repeat refine qb ?_); refine qk ?_
    exact wS rfl rfl
theorem qav (x : Rs) (hm : x.m ∈ mks) (hl : x.obls.length ≤ 1000000) : Holds Tryz.prog 23 [.agg (rsP x), .agg (rsP x)] (.p (pB true)) [] := by
  have H := sameObls_h x.obls hl
  have hE : mkE x.m x.m = true := by rw [mkE_eq hm hm]; simp
  obtain ⟨m, o⟩ := x
  simp only at H hE ⊢
  refine qA (ts := [4]) Tryz.func23 (by kernel_rfl) rfl rfl rfl ?_
  (repeat refine qb ?_); refine qa ?_
  repeat (first | refine zR ?_ | refine zK ?_ | refine zM ?_ | refine zB ?_ | refine zA ?_ | refine zS ?_ | refine zL ?_)
  refine qc ?_
  (repeat refine qb ?_); refine qa ?_
  repeat (first | refine zR ?_ | refine zK ?_ | refine zM ?_ | refine zB ?_ | refine zA ?_ | refine zS ?_ | refine zL ?_)
  change SWT _ _ _ _ (St.put _ _ (.p (pB (mkE m m))))
  rw [hE]
  repeat (first | refine zR ?_ | refine zK ?_ | refine zM ?_ | refine zB ?_ | refine zA ?_ | refine zS ?_ | refine zL ?_)
  refine qn rfl (qg rfl rfl rfl rfl (H) rfl rfl ?_)
  repeat (first | refine zR ?_ | refine zK ?_ | refine zM ?_ | refine zB ?_ | refine zA ?_ | refine zS ?_ | refine zL ?_)
  refine qc ?_
  (repeat refine qb ?_); refine qk ?_
  exact wS rfl rfl
theorem evalS_right {p : Pol} {g : List Giv} (h : zb p = 0) : evalS p g = (qF g 4 p, 0) := by unfold evalS; rw [if_pos h]
end Go.Proofs.YtppfcacnofjmdaaGreatDoor
namespace Go.Proofs.YtppfcacnofjmdaaGreatDoor
set_option linter.unusedVariables false
set_option linter.unusedSimpArgs false
open Go.RowKit
set_option maxHeartbeats 4000000
theorem ktarget_h (t : Tar) (h : TarL t) : Holds Tryz.prog 50 [tgtP t] (.row 0) [(0, .row 64 1 (t.map fun x => [anyP x]))] := by
  have lm : (t.map fun x => [anyP x]).length = t.length := by simp
  have h1 := h.1
  refine qA (ts := [2]) Tryz.func50 (by kernel_rfl) rfl rfl rfl ?_
  (repeat refine qb ?_); refine qa ?_
  repeat (first | refine zR ?_ | refine zK ?_ | refine zM ?_ | refine zB ?_ | refine zA ?_ | refine zS ?_ | refine zL ?_)
  refine qc ?_
  (repeat refine qb ?_); refine qa ?_
  repeat (first | refine zR ?_ | refine zK ?_ | refine zM ?_ | refine zB ?_ | refine zA ?_ | refine zS ?_ | refine zL ?_)
  refine qc ?_
  (repeat refine qb ?_); refine qa ?_
  repeat (first | refine zR ?_ | refine zK ?_ | refine zM ?_ | refine zB ?_ | refine zA ?_ | refine zS ?_ | refine zL ?_)
  refine qc ?_
  (repeat refine qb ?_); refine ql ?_
  refine SW.wk (jP 3 900 64 1 rfl rfl) ?_
  refine SW.wk (qq [3, 9, 10, 11] [(900, 0)] rfl rfl) ?_
  refine qO (fun m s => ∃ (k : Nat) (kk : Int), k ≤ t.length ∧ m = t.length - k ∧ kk = k ∧ s = ⟨34, [(3, .row 0), (9, .p (tgtP t)), (10, .p (pI (t.map fun x => [anyP x]).length)), (11, .p (pI kk))], [(0, .row 64 1 ((t.take k).map fun x => [anyP x]))]⟩) t.length ⟨0, 0, Nat.zero_le _, rfl, rfl, rfl⟩ ?_
  rintro m s ⟨k, _, hk, rfl, rfl, rfl⟩
  (repeat refine qb ?_); refine qa ?_
  repeat (first | refine zR ?_ | refine zK ?_ | refine zM ?_ | refine zB ?_ | refine zA ?_ | refine zS ?_ | refine zL ?_)
  refine qc ?_
  (repeat refine qb ?_); refine qf rfl (fun hlt => ?_) (fun hlt => ?_)
  · refine qm ?_
    rw [lm] at hlt
    simp only [decide_eq_true_eq] at hlt
    have hlt' : k < t.length := by omega
    (repeat refine qb ?_); refine ql ?_
    (repeat refine qb ?_); refine qa ?_
    repeat (first | refine zR ?_ | refine zK ?_ | refine zM ?_ | refine zB ?_ | refine zA ?_ | refine zS ?_ | refine zL ?_)
    refine qw qe rfl rfl (by rw [lm]; omega) rfl ?_
    rw [qJ hlt']
    repeat (first | refine zR ?_ | refine zK ?_ | refine zM ?_ | refine zB ?_ | refine zA ?_ | refine zS ?_ | refine zL ?_)
    refine qc ?_
    obtain ⟨x, hx⟩ : ∃ x, x = t[k] := ⟨_, rfl⟩
    have hxl := h.2 _ (List.getElem_mem hlt')
    rw [← hx] at hxl ⊢
    have hxl1 := hxl.1
    have lx : (x.map fun y => [qaB y]).length = x.length := by simp
    (repeat refine qb ?_); refine qa ?_
    repeat (first | refine zR ?_ | refine zK ?_ | refine zM ?_ | refine zB ?_ | refine zA ?_ | refine zS ?_ | refine zL ?_)
    refine qc ?_
    (repeat refine qb ?_); refine qa ?_
    repeat (first | refine zR ?_ | refine zK ?_ | refine zM ?_ | refine zB ?_ | refine zA ?_ | refine zS ?_ | refine zL ?_)
    refine qc ?_
    (repeat refine qb ?_); refine ql ?_
    refine SW.wk (jP 6 900 63 1 rfl rfl) ?_
    refine SW.wk (qq [3, 6, 9, 10, 11, 15, 16, 17] [(0, 0), (900, 1)] rfl rfl) ?_
    refine qO (fun m s => ∃ (j : Nat) (jj : Int), j ≤ x.length ∧ m = x.length - j ∧ jj = j ∧ s = ⟨34, [(3, .row 0), (6, .row 1), (9, .p (tgtP t)), (10, .p (pI (t.map fun x => [anyP x]).length)), (11, .p (pI k)), (15, .p (anyP x)), (16, .p (pI (x.map fun y => [qaB y]).length)), (17, .p (pI jj))], [(0, .row 64 1 ((t.take k).map fun x => [anyP x])), (1, .row 63 1 ((x.take j).map fun y => [qaB y]))]⟩) x.length ⟨0, 0, Nat.zero_le _, rfl, rfl, rfl⟩ ?_
    rintro m s ⟨j, _, hj, rfl, rfl, rfl⟩
    (repeat refine qb ?_); refine qa ?_
    repeat (first | refine zR ?_ | refine zK ?_ | refine zM ?_ | refine zB ?_ | refine zA ?_ | refine zS ?_ | refine zL ?_)
    refine qc ?_
    (repeat refine qb ?_); refine qf rfl (fun hlj => ?_) (fun hlj => ?_)
    · refine qm ?_
      rw [lx] at hlj
      simp only [decide_eq_true_eq] at hlj
      have hlj' : j < x.length := by omega
      (repeat refine qb ?_); refine ql ?_
      (repeat refine qb ?_); refine qa ?_
      repeat (first | refine zR ?_ | refine zK ?_ | refine zM ?_ | refine zB ?_ | refine zA ?_ | refine zS ?_ | refine zL ?_)
      refine qw qe rfl rfl (by rw [lx]; omega) rfl ?_
      rw [qJ hlj']
      repeat (first | refine zR ?_ | refine zK ?_ | refine zM ?_ | refine zB ?_ | refine zA ?_ | refine zS ?_ | refine zL ?_)
      refine qc ?_
      have hyl := hxl.2 _ (List.getElem_mem hlj')
      (repeat refine qb ?_); refine qa ?_
      repeat (first | refine zR ?_ | refine zK ?_ | refine zM ?_ | refine zB ?_ | refine zA ?_ | refine zS ?_ | refine zL ?_)
      refine qn rfl (qp qe rfl rfl rfl rfl rfl rfl rfl rfl rfl rfl rfl rfl rfl rfl rfl rfl (by simp only [List.length_append, List.length_map, List.length_take, List.length_cons, List.length_nil]; unfold reachBytes; omega) (by simp only [List.length_append, List.length_map, List.length_take, List.length_cons, List.length_nil]; omega) ?_)
      refine SWT.wk (zN (k := 24) rfl) ?_
      repeat (first | refine zR ?_ | refine zK ?_ | refine zM ?_ | refine zB ?_ | refine zA ?_ | refine zS ?_ | refine zL ?_)
      refine qn rfl (qp qe rfl rfl rfl rfl rfl rfl rfl rfl rfl rfl rfl rfl rfl rfl rfl rfl (by simp only [List.length_append, List.length_map, List.length_take, List.length_cons, List.length_nil]; unfold reachBytes; omega) (by simp only [List.length_append, List.length_map, List.length_take, List.length_cons, List.length_nil]; omega) ?_)
      repeat (first | refine zR ?_ | refine zK ?_ | refine zM ?_ | refine zB ?_ | refine zA ?_ | refine zS ?_ | refine zL ?_)
      refine qc ?_
      (repeat refine qb ?_); refine qa ?_
      repeat (first | refine zR ?_ | refine zK ?_ | refine zM ?_ | refine zB ?_ | refine zA ?_ | refine zS ?_ | refine zL ?_)
      refine qc ?_
      refine ⟨_, _, ?_, qq [3, 6, 9, 10, 11, 15, 16, 17] [(0, 0), (26, 1)] rfl rfl, j + 1, _, hlj', rfl, qz hlj' (by omega), ?_⟩
      · omega
      · rw [List.take_succ_eq_append_getElem hlj', List.map_append]; rfl
    · refine qK ?_
      rw [lx] at hlj
      simp only [decide_eq_false_iff_not] at hlj
      have hjj : j = x.length := by omega
      subst hjj
      rw [List.take_length]
      (repeat refine qb ?_); refine qa ?_
      repeat (first | refine zR ?_ | refine zK ?_ | refine zM ?_ | refine zB ?_ | refine zA ?_ | refine zS ?_ | refine zL ?_)
      refine SWT.wk (zN (k := 1) rfl) ?_
      repeat (first | refine zR ?_ | refine zK ?_ | refine zM ?_ | refine zB ?_ | refine zA ?_ | refine zS ?_ | refine zL ?_)
      refine qn rfl (qp qe rfl rfl rfl rfl rfl rfl rfl rfl rfl rfl rfl rfl rfl rfl rfl rfl (by simp only [List.length_append, List.length_map, List.length_take, List.length_cons, List.length_nil]; unfold reachBytes; omega) (by simp only [List.length_append, List.length_map, List.length_take, List.length_cons, List.length_nil]; omega) ?_)
      repeat (first | refine zR ?_ | refine zK ?_ | refine zM ?_ | refine zB ?_ | refine zA ?_ | refine zS ?_ | refine zL ?_)
      refine qc ?_
      (repeat refine qb ?_); refine qa ?_
      repeat (first | refine zR ?_ | refine zK ?_ | refine zM ?_ | refine zB ?_ | refine zA ?_ | refine zS ?_ | refine zL ?_)
      refine qc ?_
      refine ⟨_, _, ?_, qq [3, 9, 10, 11] [(31, 0)] rfl rfl, k + 1, _, hlt', rfl, qz hlt' (by omega), ?_⟩
      · omega
      · rw [List.take_succ_eq_append_getElem hlt', List.map_append, hx]; rfl
  · refine qK ?_
    rw [lm] at hlt
    simp only [decide_eq_false_iff_not] at hlt
    have hkk : k = t.length := by omega
    subst hkk
    rw [List.take_length]
    (repeat refine qb ?_); refine qa ?_
    repeat (first | refine zR ?_ | refine zK ?_ | refine zM ?_ | refine zB ?_ | refine zA ?_ | refine zS ?_ | refine zL ?_)
    refine qc ?_
    (repeat refine qb ?_); refine qk ?_
    exact ⟨Or.inr rfl, _, _, [(0, 0)], Wk.refl _, rfl, rfl, rfl, rfl⟩
def copyR (p : Pol) : SV := .agg [.p (pS p.id), .p (pB p.set), .p (pI p.alg), .p (tgtP p.target), .row 0, .row 1, .p (zQ p.obls)]
def copyO (p : Pol) : List (Nat × Box) := [(0, .row 59 5 (p.rules.map zt)), (1, .row 28 7 (p.kids.map polP))]
def CopyOk (n : Nat) : Prop := ∀ (p : Pol), PolF n p → p.sz ≤ 3000 → Holds Tryz.prog 26 [.agg (polP p)] (copyR p) (copyO p)
theorem copy_step (n : Nat) (hn : CopyOk n) : CopyOk (n + 1) := by
    intro p hf hsz
    obtain ⟨ht, hr, hk, ho, hru, hks⟩ := sz_facts hsz (Nat.le_refl _)
    have IH := fun k (hk : k ∈ p.kids) => hn k (hf.2.2 k hk) (hks k hk)
    have HT := ktarget_h p.target ht
    have l1 : ((p.rules.map zt).length) = p.rules.length := by simp
    have l2 : ((p.kids.map polP).length) = p.kids.length := by simp
    have lo : (p.obls.map Obli.pv).length = p.obls.length := by simp
    rw [zf]
    refine .ofW ?_
    refine qR (T := TTab) qe Tryz.func26 (by kernel_rfl) rfl rfl rfl ?_
    (repeat refine qb ?_); refine qa ?_
    repeat (first | refine zR ?_ | refine zK ?_ | refine zM ?_ | refine zB ?_ | refine zA ?_ | refine zS ?_ | refine zL ?_)
    refine qc ?_
    (repeat refine qb ?_); refine zH 11 rfl (by kernel_rfl) ?_
    refine qy (i := 0) (K := [12]) (by kernel_rfl) (by kernel_rfl) rfl rfl (qi qe rfl (by exact True.intro)) rfl ?_
    refine qy (i := 1) (K := [12]) (by kernel_rfl) (by kernel_rfl) rfl rfl (qi qe rfl (by exact True.intro)) rfl ?_
    refine qy (i := 4) (K := [12]) (by kernel_rfl) (by kernel_rfl) rfl rfl (qi qe rfl (by exact True.intro)) rfl ?_
    refine qy (i := 5) (K := [12]) (by kernel_rfl) (by kernel_rfl) rfl rfl (qi qe rfl (by exact True.intro)) rfl ?_
    refine zE 2 3 (by kernel_rfl) ?_ ?_
    refine qd rfl rfl rfl (qD rfl rfl rfl rfl (HT) rfl rfl rfl ?_)
    refine qy (i := 7) (K := [12]) (by kernel_rfl) (by kernel_rfl) rfl rfl (qi qe rfl (by exact True.intro)) rfl ?_
    refine qo 3 (by kernel_rfl) ?_
    first | refine qd rfl rfl rfl (aM (h := ?_)) | refine qd rfl rfl rfl (aB (h := ?_)) | refine qd rfl rfl rfl (aA (h := ?_)) | refine qd rfl rfl rfl (aS (h := ?_)) | refine qd rfl rfl rfl (aL (h := ?_)) | refine qd rfl rfl rfl (qv (K := []) (qi qe rfl (by exact True.intro)) rfl ?_)
    refine qo 6 (by kernel_rfl) ?_
    refine qd rfl rfl rfl (qp qe rfl rfl rfl rfl rfl rfl rfl rfl rfl rfl rfl rfl rfl rfl rfl rfl (by simp only [List.length_append, List.length_map, List.length_take, List.length_cons, List.length_nil]; unfold reachBytes; omega) (by simp only [List.length_append, List.length_map, List.length_take, List.length_cons, List.length_nil]; omega) ?_)
    refine qo 8 (by kernel_rfl) ?_
    first | refine qd rfl rfl rfl (aM (h := ?_)) | refine qd rfl rfl rfl (aB (h := ?_)) | refine qd rfl rfl rfl (aA (h := ?_)) | refine qd rfl rfl rfl (aS (h := ?_)) | refine qd rfl rfl rfl (aL (h := ?_)) | refine qd rfl rfl rfl (qv (K := []) (qi qe rfl (by exact True.intro)) rfl ?_)
    refine qy (i := 9) (K := [12]) (by kernel_rfl) (by kernel_rfl) rfl rfl (qi qe rfl (by exact True.intro)) rfl ?_
    refine qo 10 (by kernel_rfl) ?_
    first | refine qd rfl rfl rfl (aM (h := ?_)) | refine qd rfl rfl rfl (aB (h := ?_)) | refine qd rfl rfl rfl (aA (h := ?_)) | refine qd rfl rfl rfl (aS (h := ?_)) | refine qd rfl rfl rfl (aL (h := ?_)) | refine qd rfl rfl rfl (qv (K := []) (qi qe rfl (by exact True.intro)) rfl ?_)
    refine zd (by kernel_rfl) ?_
    refine SW.wk (qq [1, 2] [(1, 1), (2, 2), (12000, 12000), (15, 15)] rfl rfl) ?_
    refine ?fk1_140
    rotate_left
    first | refine qd rfl rfl rfl (aM (h := ?_)) | refine qd rfl rfl rfl (aB (h := ?_)) | refine qd rfl rfl rfl (aA (h := ?_)) | refine qd rfl rfl rfl (aS (h := ?_)) | refine qd rfl rfl rfl (aL (h := ?_)) | refine qd rfl rfl rfl (qv (K := []) (qi qe rfl (by exact True.intro)) rfl ?_)
    refine qo 2 (by kernel_rfl) ?_
    refine qd rfl rfl rfl (qD rfl rfl rfl rfl (HT) rfl rfl rfl ?_)
    refine qy (i := 7) (K := [12]) (by kernel_rfl) (by kernel_rfl) rfl rfl (qi qe rfl (by exact True.intro)) rfl ?_
    refine qo 6 (by kernel_rfl) ?_
    refine qd rfl rfl rfl (qp qe rfl rfl rfl rfl rfl rfl rfl rfl rfl rfl rfl rfl rfl rfl rfl rfl (by simp only [List.length_append, List.length_map, List.length_take, List.length_cons, List.length_nil]; unfold reachBytes; omega) (by simp only [List.length_append, List.length_map, List.length_take, List.length_cons, List.length_nil]; omega) ?_)
    refine qo 8 (by kernel_rfl) ?_
    first | refine qd rfl rfl rfl (aM (h := ?_)) | refine qd rfl rfl rfl (aB (h := ?_)) | refine qd rfl rfl rfl (aA (h := ?_)) | refine qd rfl rfl rfl (aS (h := ?_)) | refine qd rfl rfl rfl (aL (h := ?_)) | refine qd rfl rfl rfl (qv (K := []) (qi qe rfl (by exact True.intro)) rfl ?_)
    refine qy (i := 9) (K := [12]) (by kernel_rfl) (by kernel_rfl) rfl rfl (qi qe rfl (by exact True.intro)) rfl ?_
    refine qo 10 (by kernel_rfl) ?_
    first | refine qd rfl rfl rfl (aM (h := ?_)) | refine qd rfl rfl rfl (aB (h := ?_)) | refine qd rfl rfl rfl (aA (h := ?_)) | refine qd rfl rfl rfl (aS (h := ?_)) | refine qd rfl rfl rfl (aL (h := ?_)) | refine qd rfl rfl rfl (qv (K := []) (qi qe rfl (by exact True.intro)) rfl ?_)
    refine zd (by kernel_rfl) ?_
    refine SW.wk (qq [1, 2] [(1, 1), (2, 2), (12000, 12000), (15, 15)] rfl rfl) ?_
    exact ?fk1_140
    refine SW.wk ((zN (k := 12000) rfl).trans (zN (k := 15) rfl)) ?_
    refine SW.wk (qq [1, 2] [(1, 1), (2, 2)] rfl rfl) ?_
    change SW _ _ _ ⟨62, [(1, .ptr 1 0), (2, .ptr 2 0)], [(1, .cells [.p (pS p.id), .p (pB p.set), .p (pI p.alg), .p (tgtP p.target), .p (.sl 5 (p.rules.map zt)), .p (.sl 7 (p.kids.map polP)), .p (zQ p.obls)]), (2, .cells [.p (pS ⟨#[]⟩), .p (pB false), .p (pI 0), .p nilV, .p nilV, .p nilV, .p nilV])]⟩
    (repeat refine qb ?_); refine qa ?_
    repeat (first | refine zR ?_ | refine zK ?_ | refine zM ?_ | refine zB ?_ | refine zA ?_ | refine zS ?_ | refine zL ?_)
    refine qc ?_
    (repeat refine qb ?_); refine qa ?_
    repeat (first | refine zR ?_ | refine zK ?_ | refine zM ?_ | refine zB ?_ | refine zA ?_ | refine zS ?_ | refine zL ?_)
    refine qc ?_
    (repeat refine qb ?_); refine ql ?_
    refine SW.wk (jP 3 900 59 5 rfl rfl) ?_
    refine SW.wk (qq [1, 2, 3, 19, 20, 21] [(1, 1), (2, 2), (900, 0)] rfl rfl) ?_
    refine qO (fun m s => ∃ (k : Nat) (kk : Int), k ≤ p.rules.length ∧ m = p.rules.length - k ∧ kk = k ∧ s = ⟨62, [(1, .ptr 1 0), (2, .ptr 2 0), (3, .row 0), (19, .p (.sl 5 (p.rules.map zt))), (20, .p (pI (p.rules.map zt).length)), (21, .p (pI kk))], [(1, .cells [.p (pS p.id), .p (pB p.set), .p (pI p.alg), .p (tgtP p.target), .p (.sl 5 (p.rules.map zt)), .p (.sl 7 (p.kids.map polP)), .p (zQ p.obls)]), (2, .cells [.p (pS ⟨#[]⟩), .p (pB false), .p (pI 0), .p nilV, .p nilV, .p nilV, .p nilV]), (0, .row 59 5 ((p.rules.take k).map zt))]⟩) p.rules.length ⟨0, 0, Nat.zero_le _, rfl, rfl, rfl⟩ ?_
    rintro m s ⟨k, _, hk', rfl, rfl, rfl⟩
    (repeat refine qb ?_); refine qa ?_
    repeat (first | refine zR ?_ | refine zK ?_ | refine zM ?_ | refine zB ?_ | refine zA ?_ | refine zS ?_ | refine zL ?_)
    refine qc ?_
    (repeat refine qb ?_); refine qf rfl (fun hlt => ?_) (fun hlt => ?_)
    · refine qm ?_
      rw [l1] at hlt
      simp only [decide_eq_true_eq] at hlt
      have hlt' : k < p.rules.length := by omega
      obtain ⟨x, hx⟩ : ∃ x, x = p.rules[k] := ⟨_, rfl⟩
      obtain ⟨tx, cx, ox⟩ := hru _ (List.getElem_mem hlt')
      rw [← hx] at tx cx ox
      have HT2 := ktarget_h x.target tx
      (repeat refine qb ?_); refine ql ?_
      (repeat refine qb ?_); refine qa ?_
      repeat (first | refine zR ?_ | refine zK ?_ | refine zM ?_ | refine zB ?_ | refine zA ?_ | refine zS ?_ | refine zL ?_)
      refine qw qe rfl rfl (by rw [l1]; omega) rfl ?_
      rw [qJ hlt', ← hx]
      repeat (first | refine zR ?_ | refine zK ?_ | refine zM ?_ | refine zB ?_ | refine zA ?_ | refine zS ?_ | refine zL ?_)
      refine qc ?_
      (repeat refine qb ?_); refine zH 17 rfl (by kernel_rfl) ?_
      refine qy (i := 0) (K := [28, 32]) (by kernel_rfl) (by kernel_rfl) rfl rfl (qi qe rfl (by exact True.intro)) rfl ?_
      refine qy (i := 1) (K := [28, 32]) (by kernel_rfl) (by kernel_rfl) rfl rfl (qi qe rfl (by exact True.intro)) rfl ?_
      refine qy (i := 4) (K := [28, 32]) (by kernel_rfl) (by kernel_rfl) rfl rfl (qi qe rfl (by exact True.intro)) rfl ?_
      refine qy (i := 5) (K := [28, 32]) (by kernel_rfl) (by kernel_rfl) rfl rfl (qi qe rfl (by exact True.intro)) rfl ?_
      refine qy (i := 8) (K := [28, 32]) (by kernel_rfl) (by kernel_rfl) rfl rfl (qi qe rfl (by exact True.intro)) rfl ?_
      refine qy (i := 9) (K := [28, 32]) (by kernel_rfl) (by kernel_rfl) rfl rfl (qi qe rfl (by exact True.intro)) rfl ?_
      refine swb_fork3 2 3 7 (by kernel_rfl) ?_ ?_ ?_
      refine qd rfl rfl rfl (qD rfl rfl rfl rfl (HT2) rfl rfl rfl ?_)
      refine qy (i := 11) (K := [28, 32]) (by kernel_rfl) (by kernel_rfl) rfl rfl (qi qe rfl (by exact True.intro)) rfl ?_
      refine zE 3 7 (by kernel_rfl) ?_ ?_
      first | refine qd rfl rfl rfl (aM (h := ?_)) | refine qd rfl rfl rfl (aB (h := ?_)) | refine qd rfl rfl rfl (aA (h := ?_)) | refine qd rfl rfl rfl (aS (h := ?_)) | refine qd rfl rfl rfl (aL (h := ?_)) | refine qd rfl rfl rfl (qv (K := []) (qi qe rfl (by exact True.intro)) rfl ?_)
      refine zE 6 7 (by kernel_rfl) ?_ ?_
      refine qd rfl rfl rfl (qp qe rfl rfl rfl rfl rfl rfl rfl rfl rfl rfl rfl rfl rfl rfl rfl rfl (by simp only [List.length_append, List.length_map, List.length_take, List.length_cons, List.length_nil]; unfold reachBytes; omega) (by simp only [List.length_append, List.length_map, List.length_take, List.length_cons, List.length_nil]; omega) ?_)
      refine qo 7 (by kernel_rfl) ?_
      first | refine qd rfl rfl rfl (aM (h := ?_)) | refine qd rfl rfl rfl (aB (h := ?_)) | refine qd rfl rfl rfl (aA (h := ?_)) | refine qd rfl rfl rfl (aS (h := ?_)) | refine qd rfl rfl rfl (aL (h := ?_)) | refine qd rfl rfl rfl (qv (K := []) (qi qe rfl (by exact True.intro)) rfl ?_)
      refine qo 10 (by kernel_rfl) ?_
      refine qd rfl rfl rfl (qp qe rfl rfl rfl rfl rfl rfl rfl rfl rfl rfl rfl rfl rfl rfl rfl rfl (by simp only [List.length_append, List.length_map, List.length_take, List.length_cons, List.length_nil]; unfold reachBytes; omega) (by simp only [List.length_append, List.length_map, List.length_take, List.length_cons, List.length_nil]; omega) ?_)
      refine qo 12 (by kernel_rfl) ?_
      first | refine qd rfl rfl rfl (aM (h := ?_)) | refine qd rfl rfl rfl (aB (h := ?_)) | refine qd rfl rfl rfl (aA (h := ?_)) | refine qd rfl rfl rfl (aS (h := ?_)) | refine qd rfl rfl rfl (aL (h := ?_)) | refine qd rfl rfl rfl (qv (K := []) (qi qe rfl (by exact True.intro)) rfl ?_)
      refine qy (i := 13) (K := [28, 32]) (by kernel_rfl) (by kernel_rfl) rfl rfl (qi qe rfl (by exact True.intro)) rfl ?_
      refine qo 14 (by kernel_rfl) ?_
      first | refine qd rfl rfl rfl (aM (h := ?_)) | refine qd rfl rfl rfl (aB (h := ?_)) | refine qd rfl rfl rfl (aA (h := ?_)) | refine qd rfl rfl rfl (aS (h := ?_)) | refine qd rfl rfl rfl (aL (h := ?_)) | refine qd rfl rfl rfl (qv (K := []) (qi qe rfl (by exact True.intro)) rfl ?_)
      refine qy (i := 15) (K := [28, 32]) (by kernel_rfl) (by kernel_rfl) rfl rfl (qi qe rfl (by exact True.intro)) rfl ?_
      refine qo 16 (by kernel_rfl) ?_
      first | refine qd rfl rfl rfl (aM (h := ?_)) | refine qd rfl rfl rfl (aB (h := ?_)) | refine qd rfl rfl rfl (aA (h := ?_)) | refine qd rfl rfl rfl (aS (h := ?_)) | refine qd rfl rfl rfl (aL (h := ?_)) | refine qd rfl rfl rfl (qv (K := []) (qi qe rfl (by exact True.intro)) rfl ?_)
      refine zd (by kernel_rfl) ?_
      refine SW.wk (qq [1, 2, 3, 5, 19, 20, 21] [(1, 1), (2, 2), (0, 0), (5, 5), (28000, 28000), (31, 31), (35, 35)] rfl rfl) ?_
      refine ?fk6_208
      rotate_left
      first | refine qd rfl rfl rfl (aM (h := ?_)) | refine qd rfl rfl rfl (aB (h := ?_)) | refine qd rfl rfl rfl (aA (h := ?_)) | refine qd rfl rfl rfl (aS (h := ?_)) | refine qd rfl rfl rfl (aL (h := ?_)) | refine qd rfl rfl rfl (qv (K := []) (qi qe rfl (by exact True.intro)) rfl ?_)
      refine qo 6 (by kernel_rfl) ?_
      refine qd rfl rfl rfl (qp qe rfl rfl rfl rfl rfl rfl rfl rfl rfl rfl rfl rfl rfl rfl rfl rfl (by simp only [List.length_append, List.length_map, List.length_take, List.length_cons, List.length_nil]; unfold reachBytes; omega) (by simp only [List.length_append, List.length_map, List.length_take, List.length_cons, List.length_nil]; omega) ?_)
      refine qo 10 (by kernel_rfl) ?_
      refine qd rfl rfl rfl (qp qe rfl rfl rfl rfl rfl rfl rfl rfl rfl rfl rfl rfl rfl rfl rfl rfl (by simp only [List.length_append, List.length_map, List.length_take, List.length_cons, List.length_nil]; unfold reachBytes; omega) (by simp only [List.length_append, List.length_map, List.length_take, List.length_cons, List.length_nil]; omega) ?_)
      refine qo 12 (by kernel_rfl) ?_
      first | refine qd rfl rfl rfl (aM (h := ?_)) | refine qd rfl rfl rfl (aB (h := ?_)) | refine qd rfl rfl rfl (aA (h := ?_)) | refine qd rfl rfl rfl (aS (h := ?_)) | refine qd rfl rfl rfl (aL (h := ?_)) | refine qd rfl rfl rfl (qv (K := []) (qi qe rfl (by exact True.intro)) rfl ?_)
      refine qy (i := 13) (K := [28, 32]) (by kernel_rfl) (by kernel_rfl) rfl rfl (qi qe rfl (by exact True.intro)) rfl ?_
      refine qo 14 (by kernel_rfl) ?_
      first | refine qd rfl rfl rfl (aM (h := ?_)) | refine qd rfl rfl rfl (aB (h := ?_)) | refine qd rfl rfl rfl (aA (h := ?_)) | refine qd rfl rfl rfl (aS (h := ?_)) | refine qd rfl rfl rfl (aL (h := ?_)) | refine qd rfl rfl rfl (qv (K := []) (qi qe rfl (by exact True.intro)) rfl ?_)
      refine qy (i := 15) (K := [28, 32]) (by kernel_rfl) (by kernel_rfl) rfl rfl (qi qe rfl (by exact True.intro)) rfl ?_
      refine qo 16 (by kernel_rfl) ?_
      first | refine qd rfl rfl rfl (aM (h := ?_)) | refine qd rfl rfl rfl (aB (h := ?_)) | refine qd rfl rfl rfl (aA (h := ?_)) | refine qd rfl rfl rfl (aS (h := ?_)) | refine qd rfl rfl rfl (aL (h := ?_)) | refine qd rfl rfl rfl (qv (K := []) (qi qe rfl (by exact True.intro)) rfl ?_)
      refine zd (by kernel_rfl) ?_
      refine SW.wk (qq [1, 2, 3, 5, 19, 20, 21] [(1, 1), (2, 2), (0, 0), (5, 5), (28000, 28000), (31, 31), (35, 35)] rfl rfl) ?_
      exact ?fk6_208
      first | refine qd rfl rfl rfl (aM (h := ?_)) | refine qd rfl rfl rfl (aB (h := ?_)) | refine qd rfl rfl rfl (aA (h := ?_)) | refine qd rfl rfl rfl (aS (h := ?_)) | refine qd rfl rfl rfl (aL (h := ?_)) | refine qd rfl rfl rfl (qv (K := []) (qi qe rfl (by exact True.intro)) rfl ?_)
      refine qo 3 (by kernel_rfl) ?_
      first | refine qd rfl rfl rfl (aM (h := ?_)) | refine qd rfl rfl rfl (aB (h := ?_)) | refine qd rfl rfl rfl (aA (h := ?_)) | refine qd rfl rfl rfl (aS (h := ?_)) | refine qd rfl rfl rfl (aL (h := ?_)) | refine qd rfl rfl rfl (qv (K := []) (qi qe rfl (by exact True.intro)) rfl ?_)
      refine qo 6 (by kernel_rfl) ?_
      refine qd rfl rfl rfl (qp qe rfl rfl rfl rfl rfl rfl rfl rfl rfl rfl rfl rfl rfl rfl rfl rfl (by simp only [List.length_append, List.length_map, List.length_take, List.length_cons, List.length_nil]; unfold reachBytes; omega) (by simp only [List.length_append, List.length_map, List.length_take, List.length_cons, List.length_nil]; omega) ?_)
      refine qo 10 (by kernel_rfl) ?_
      refine qd rfl rfl rfl (qp qe rfl rfl rfl rfl rfl rfl rfl rfl rfl rfl rfl rfl rfl rfl rfl rfl (by simp only [List.length_append, List.length_map, List.length_take, List.length_cons, List.length_nil]; unfold reachBytes; omega) (by simp only [List.length_append, List.length_map, List.length_take, List.length_cons, List.length_nil]; omega) ?_)
      refine qo 12 (by kernel_rfl) ?_
      first | refine qd rfl rfl rfl (aM (h := ?_)) | refine qd rfl rfl rfl (aB (h := ?_)) | refine qd rfl rfl rfl (aA (h := ?_)) | refine qd rfl rfl rfl (aS (h := ?_)) | refine qd rfl rfl rfl (aL (h := ?_)) | refine qd rfl rfl rfl (qv (K := []) (qi qe rfl (by exact True.intro)) rfl ?_)
      refine qy (i := 13) (K := [28, 32]) (by kernel_rfl) (by kernel_rfl) rfl rfl (qi qe rfl (by exact True.intro)) rfl ?_
      refine qo 14 (by kernel_rfl) ?_
      first | refine qd rfl rfl rfl (aM (h := ?_)) | refine qd rfl rfl rfl (aB (h := ?_)) | refine qd rfl rfl rfl (aA (h := ?_)) | refine qd rfl rfl rfl (aS (h := ?_)) | refine qd rfl rfl rfl (aL (h := ?_)) | refine qd rfl rfl rfl (qv (K := []) (qi qe rfl (by exact True.intro)) rfl ?_)
      refine qy (i := 15) (K := [28, 32]) (by kernel_rfl) (by kernel_rfl) rfl rfl (qi qe rfl (by exact True.intro)) rfl ?_
      refine qo 16 (by kernel_rfl) ?_
      first | refine qd rfl rfl rfl (aM (h := ?_)) | refine qd rfl rfl rfl (aB (h := ?_)) | refine qd rfl rfl rfl (aA (h := ?_)) | refine qd rfl rfl rfl (aS (h := ?_)) | refine qd rfl rfl rfl (aL (h := ?_)) | refine qd rfl rfl rfl (qv (K := []) (qi qe rfl (by exact True.intro)) rfl ?_)
      refine zd (by kernel_rfl) ?_
      refine SW.wk (qq [1, 2, 3, 5, 19, 20, 21] [(1, 1), (2, 2), (0, 0), (5, 5), (28000, 28000), (31, 31), (35, 35)] rfl rfl) ?_
      exact ?fk6_208
      first | refine qd rfl rfl rfl (aM (h := ?_)) | refine qd rfl rfl rfl (aB (h := ?_)) | refine qd rfl rfl rfl (aA (h := ?_)) | refine qd rfl rfl rfl (aS (h := ?_)) | refine qd rfl rfl rfl (aL (h := ?_)) | refine qd rfl rfl rfl (qv (K := []) (qi qe rfl (by exact True.intro)) rfl ?_)
      refine zE 2 7 (by kernel_rfl) ?_ ?_
      refine qd rfl rfl rfl (qD rfl rfl rfl rfl (HT2) rfl rfl rfl ?_)
      refine qy (i := 11) (K := [28, 32]) (by kernel_rfl) (by kernel_rfl) rfl rfl (qi qe rfl (by exact True.intro)) rfl ?_
      refine zE 6 7 (by kernel_rfl) ?_ ?_
      refine qd rfl rfl rfl (qp qe rfl rfl rfl rfl rfl rfl rfl rfl rfl rfl rfl rfl rfl rfl rfl rfl (by simp only [List.length_append, List.length_map, List.length_take, List.length_cons, List.length_nil]; unfold reachBytes; omega) (by simp only [List.length_append, List.length_map, List.length_take, List.length_cons, List.length_nil]; omega) ?_)
      refine qo 7 (by kernel_rfl) ?_
      first | refine qd rfl rfl rfl (aM (h := ?_)) | refine qd rfl rfl rfl (aB (h := ?_)) | refine qd rfl rfl rfl (aA (h := ?_)) | refine qd rfl rfl rfl (aS (h := ?_)) | refine qd rfl rfl rfl (aL (h := ?_)) | refine qd rfl rfl rfl (qv (K := []) (qi qe rfl (by exact True.intro)) rfl ?_)
      refine qo 10 (by kernel_rfl) ?_
      refine qd rfl rfl rfl (qp qe rfl rfl rfl rfl rfl rfl rfl rfl rfl rfl rfl rfl rfl rfl rfl rfl (by simp only [List.length_append, List.length_map, List.length_take, List.length_cons, List.length_nil]; unfold reachBytes; omega) (by simp only [List.length_append, List.length_map, List.length_take, List.length_cons, List.length_nil]; omega) ?_)
      refine qo 12 (by kernel_rfl) ?_
      first | refine qd rfl rfl rfl (aM (h := ?_)) | refine qd rfl rfl rfl (aB (h := ?_)) | refine qd rfl rfl rfl (aA (h := ?_)) | refine qd rfl rfl rfl (aS (h := ?_)) | refine qd rfl rfl rfl (aL (h := ?_)) | refine qd rfl rfl rfl (qv (K := []) (qi qe rfl (by exact True.intro)) rfl ?_)
      refine qy (i := 13) (K := [28, 32]) (by kernel_rfl) (by kernel_rfl) rfl rfl (qi qe rfl (by exact True.intro)) rfl ?_
      refine qo 14 (by kernel_rfl) ?_
      first | refine qd rfl rfl rfl (aM (h := ?_)) | refine qd rfl rfl rfl (aB (h := ?_)) | refine qd rfl rfl rfl (aA (h := ?_)) | refine qd rfl rfl rfl (aS (h := ?_)) | refine qd rfl rfl rfl (aL (h := ?_)) | refine qd rfl rfl rfl (qv (K := []) (qi qe rfl (by exact True.intro)) rfl ?_)
      refine qy (i := 15) (K := [28, 32]) (by kernel_rfl) (by kernel_rfl) rfl rfl (qi qe rfl (by exact True.intro)) rfl ?_
      refine qo 16 (by kernel_rfl) ?_
      first | refine qd rfl rfl rfl (aM (h := ?_)) | refine qd rfl rfl rfl (aB (h := ?_)) | refine qd rfl rfl rfl (aA (h := ?_)) | refine qd rfl rfl rfl (aS (h := ?_)) | refine qd rfl rfl rfl (aL (h := ?_)) | refine qd rfl rfl rfl (qv (K := []) (qi qe rfl (by exact True.intro)) rfl ?_)
      refine zd (by kernel_rfl) ?_
      refine SW.wk (qq [1, 2, 3, 5, 19, 20, 21] [(1, 1), (2, 2), (0, 0), (5, 5), (28000, 28000), (31, 31), (35, 35)] rfl rfl) ?_
      exact ?fk6_208
      first | refine qd rfl rfl rfl (aM (h := ?_)) | refine qd rfl rfl rfl (aB (h := ?_)) | refine qd rfl rfl rfl (aA (h := ?_)) | refine qd rfl rfl rfl (aS (h := ?_)) | refine qd rfl rfl rfl (aL (h := ?_)) | refine qd rfl rfl rfl (qv (K := []) (qi qe rfl (by exact True.intro)) rfl ?_)
      refine qo 6 (by kernel_rfl) ?_
      refine qd rfl rfl rfl (qp qe rfl rfl rfl rfl rfl rfl rfl rfl rfl rfl rfl rfl rfl rfl rfl rfl (by simp only [List.length_append, List.length_map, List.length_take, List.length_cons, List.length_nil]; unfold reachBytes; omega) (by simp only [List.length_append, List.length_map, List.length_take, List.length_cons, List.length_nil]; omega) ?_)
      refine qo 10 (by kernel_rfl) ?_
      refine qd rfl rfl rfl (qp qe rfl rfl rfl rfl rfl rfl rfl rfl rfl rfl rfl rfl rfl rfl rfl rfl (by simp only [List.length_append, List.length_map, List.length_take, List.length_cons, List.length_nil]; unfold reachBytes; omega) (by simp only [List.length_append, List.length_map, List.length_take, List.length_cons, List.length_nil]; omega) ?_)
      refine qo 12 (by kernel_rfl) ?_
      first | refine qd rfl rfl rfl (aM (h := ?_)) | refine qd rfl rfl rfl (aB (h := ?_)) | refine qd rfl rfl rfl (aA (h := ?_)) | refine qd rfl rfl rfl (aS (h := ?_)) | refine qd rfl rfl rfl (aL (h := ?_)) | refine qd rfl rfl rfl (qv (K := []) (qi qe rfl (by exact True.intro)) rfl ?_)
      refine qy (i := 13) (K := [28, 32]) (by kernel_rfl) (by kernel_rfl) rfl rfl (qi qe rfl (by exact True.intro)) rfl ?_
      refine qo 14 (by kernel_rfl) ?_
      first | refine qd rfl rfl rfl (aM (h := ?_)) | refine qd rfl rfl rfl (aB (h := ?_)) | refine qd rfl rfl rfl (aA (h := ?_)) | refine qd rfl rfl rfl (aS (h := ?_)) | refine qd rfl rfl rfl (aL (h := ?_)) | refine qd rfl rfl rfl (qv (K := []) (qi qe rfl (by exact True.intro)) rfl ?_)
      refine qy (i := 15) (K := [28, 32]) (by kernel_rfl) (by kernel_rfl) rfl rfl (qi qe rfl (by exact True.intro)) rfl ?_
      refine qo 16 (by kernel_rfl) ?_
      first | refine qd rfl rfl rfl (aM (h := ?_)) | refine qd rfl rfl rfl (aB (h := ?_)) | refine qd rfl rfl rfl (aA (h := ?_)) | refine qd rfl rfl rfl (aS (h := ?_)) | refine qd rfl rfl rfl (aL (h := ?_)) | refine qd rfl rfl rfl (qv (K := []) (qi qe rfl (by exact True.intro)) rfl ?_)
      refine zd (by kernel_rfl) ?_
      refine SW.wk (qq [1, 2, 3, 5, 19, 20, 21] [(1, 1), (2, 2), (0, 0), (5, 5), (28000, 28000), (31, 31), (35, 35)] rfl rfl) ?_
      exact ?fk6_208
      first | refine qd rfl rfl rfl (aM (h := ?_)) | refine qd rfl rfl rfl (aB (h := ?_)) | refine qd rfl rfl rfl (aA (h := ?_)) | refine qd rfl rfl rfl (aS (h := ?_)) | refine qd rfl rfl rfl (aL (h := ?_)) | refine qd rfl rfl rfl (qv (K := []) (qi qe rfl (by exact True.intro)) rfl ?_)
      refine qo 2 (by kernel_rfl) ?_
      refine qd rfl rfl rfl (qD rfl rfl rfl rfl (HT2) rfl rfl rfl ?_)
      refine qy (i := 11) (K := [28, 32]) (by kernel_rfl) (by kernel_rfl) rfl rfl (qi qe rfl (by exact True.intro)) rfl ?_
      refine qo 6 (by kernel_rfl) ?_
      refine qd rfl rfl rfl (qp qe rfl rfl rfl rfl rfl rfl rfl rfl rfl rfl rfl rfl rfl rfl rfl rfl (by simp only [List.length_append, List.length_map, List.length_take, List.length_cons, List.length_nil]; unfold reachBytes; omega) (by simp only [List.length_append, List.length_map, List.length_take, List.length_cons, List.length_nil]; omega) ?_)
      refine qo 10 (by kernel_rfl) ?_
      refine qd rfl rfl rfl (qp qe rfl rfl rfl rfl rfl rfl rfl rfl rfl rfl rfl rfl rfl rfl rfl rfl (by simp only [List.length_append, List.length_map, List.length_take, List.length_cons, List.length_nil]; unfold reachBytes; omega) (by simp only [List.length_append, List.length_map, List.length_take, List.length_cons, List.length_nil]; omega) ?_)
      refine qo 12 (by kernel_rfl) ?_
      first | refine qd rfl rfl rfl (aM (h := ?_)) | refine qd rfl rfl rfl (aB (h := ?_)) | refine qd rfl rfl rfl (aA (h := ?_)) | refine qd rfl rfl rfl (aS (h := ?_)) | refine qd rfl rfl rfl (aL (h := ?_)) | refine qd rfl rfl rfl (qv (K := []) (qi qe rfl (by exact True.intro)) rfl ?_)
      refine qy (i := 13) (K := [28, 32]) (by kernel_rfl) (by kernel_rfl) rfl rfl (qi qe rfl (by exact True.intro)) rfl ?_
      refine qo 14 (by kernel_rfl) ?_
      first | refine qd rfl rfl rfl (aM (h := ?_)) | refine qd rfl rfl rfl (aB (h := ?_)) | refine qd rfl rfl rfl (aA (h := ?_)) | refine qd rfl rfl rfl (aS (h := ?_)) | refine qd rfl rfl rfl (aL (h := ?_)) | refine qd rfl rfl rfl (qv (K := []) (qi qe rfl (by exact True.intro)) rfl ?_)
      refine qy (i := 15) (K := [28, 32]) (by kernel_rfl) (by kernel_rfl) rfl rfl (qi qe rfl (by exact True.intro)) rfl ?_
      refine qo 16 (by kernel_rfl) ?_
      first | refine qd rfl rfl rfl (aM (h := ?_)) | refine qd rfl rfl rfl (aB (h := ?_)) | refine qd rfl rfl rfl (aA (h := ?_)) | refine qd rfl rfl rfl (aS (h := ?_)) | refine qd rfl rfl rfl (aL (h := ?_)) | refine qd rfl rfl rfl (qv (K := []) (qi qe rfl (by exact True.intro)) rfl ?_)
      refine zd (by kernel_rfl) ?_
      refine SW.wk (qq [1, 2, 3, 5, 19, 20, 21] [(1, 1), (2, 2), (0, 0), (5, 5), (28000, 28000), (31, 31), (35, 35)] rfl rfl) ?_
      exact ?fk6_208
      first | refine qd rfl rfl rfl (aM (h := ?_)) | refine qd rfl rfl rfl (aB (h := ?_)) | refine qd rfl rfl rfl (aA (h := ?_)) | refine qd rfl rfl rfl (aS (h := ?_)) | refine qd rfl rfl rfl (aL (h := ?_)) | refine qd rfl rfl rfl (qv (K := []) (qi qe rfl (by exact True.intro)) rfl ?_)
      refine zE 2 3 (by kernel_rfl) ?_ ?_
      refine qd rfl rfl rfl (qD rfl rfl rfl rfl (HT2) rfl rfl rfl ?_)
      refine qy (i := 11) (K := [28, 32]) (by kernel_rfl) (by kernel_rfl) rfl rfl (qi qe rfl (by exact True.intro)) rfl ?_
      refine qo 3 (by kernel_rfl) ?_
      first | refine qd rfl rfl rfl (aM (h := ?_)) | refine qd rfl rfl rfl (aB (h := ?_)) | refine qd rfl rfl rfl (aA (h := ?_)) | refine qd rfl rfl rfl (aS (h := ?_)) | refine qd rfl rfl rfl (aL (h := ?_)) | refine qd rfl rfl rfl (qv (K := []) (qi qe rfl (by exact True.intro)) rfl ?_)
      refine qo 6 (by kernel_rfl) ?_
      refine qd rfl rfl rfl (qp qe rfl rfl rfl rfl rfl rfl rfl rfl rfl rfl rfl rfl rfl rfl rfl rfl (by simp only [List.length_append, List.length_map, List.length_take, List.length_cons, List.length_nil]; unfold reachBytes; omega) (by simp only [List.length_append, List.length_map, List.length_take, List.length_cons, List.length_nil]; omega) ?_)
      refine qo 10 (by kernel_rfl) ?_
      refine qd rfl rfl rfl (qp qe rfl rfl rfl rfl rfl rfl rfl rfl rfl rfl rfl rfl rfl rfl rfl rfl (by simp only [List.length_append, List.length_map, List.length_take, List.length_cons, List.length_nil]; unfold reachBytes; omega) (by simp only [List.length_append, List.length_map, List.length_take, List.length_cons, List.length_nil]; omega) ?_)
      refine qo 12 (by kernel_rfl) ?_
      first | refine qd rfl rfl rfl (aM (h := ?_)) | refine qd rfl rfl rfl (aB (h := ?_)) | refine qd rfl rfl rfl (aA (h := ?_)) | refine qd rfl rfl rfl (aS (h := ?_)) | refine qd rfl rfl rfl (aL (h := ?_)) | refine qd rfl rfl rfl (qv (K := []) (qi qe rfl (by exact True.intro)) rfl ?_)
      refine qy (i := 13) (K := [28, 32]) (by kernel_rfl) (by kernel_rfl) rfl rfl (qi qe rfl (by exact True.intro)) rfl ?_
      refine qo 14 (by kernel_rfl) ?_
      first | refine qd rfl rfl rfl (aM (h := ?_)) | refine qd rfl rfl rfl (aB (h := ?_)) | refine qd rfl rfl rfl (aA (h := ?_)) | refine qd rfl rfl rfl (aS (h := ?_)) | refine qd rfl rfl rfl (aL (h := ?_)) | refine qd rfl rfl rfl (qv (K := []) (qi qe rfl (by exact True.intro)) rfl ?_)
      refine qy (i := 15) (K := [28, 32]) (by kernel_rfl) (by kernel_rfl) rfl rfl (qi qe rfl (by exact True.intro)) rfl ?_
      refine qo 16 (by kernel_rfl) ?_
      first | refine qd rfl rfl rfl (aM (h := ?_)) | refine qd rfl rfl rfl (aB (h := ?_)) | refine qd rfl rfl rfl (aA (h := ?_)) | refine qd rfl rfl rfl (aS (h := ?_)) | refine qd rfl rfl rfl (aL (h := ?_)) | refine qd rfl rfl rfl (qv (K := []) (qi qe rfl (by exact True.intro)) rfl ?_)
      refine zd (by kernel_rfl) ?_
      refine SW.wk (qq [1, 2, 3, 5, 19, 20, 21] [(1, 1), (2, 2), (0, 0), (5, 5), (28000, 28000), (31, 31), (35, 35)] rfl rfl) ?_
      exact ?fk6_208
      first | refine qd rfl rfl rfl (aM (h := ?_)) | refine qd rfl rfl rfl (aB (h := ?_)) | refine qd rfl rfl rfl (aA (h := ?_)) | refine qd rfl rfl rfl (aS (h := ?_)) | refine qd rfl rfl rfl (aL (h := ?_)) | refine qd rfl rfl rfl (qv (K := []) (qi qe rfl (by exact True.intro)) rfl ?_)
      refine qo 2 (by kernel_rfl) ?_
      refine qd rfl rfl rfl (qD rfl rfl rfl rfl (HT2) rfl rfl rfl ?_)
      refine qy (i := 11) (K := [28, 32]) (by kernel_rfl) (by kernel_rfl) rfl rfl (qi qe rfl (by exact True.intro)) rfl ?_
      refine qo 6 (by kernel_rfl) ?_
      refine qd rfl rfl rfl (qp qe rfl rfl rfl rfl rfl rfl rfl rfl rfl rfl rfl rfl rfl rfl rfl rfl (by simp only [List.length_append, List.length_map, List.length_take, List.length_cons, List.length_nil]; unfold reachBytes; omega) (by simp only [List.length_append, List.length_map, List.length_take, List.length_cons, List.length_nil]; omega) ?_)
      refine qo 10 (by kernel_rfl) ?_
      refine qd rfl rfl rfl (qp qe rfl rfl rfl rfl rfl rfl rfl rfl rfl rfl rfl rfl rfl rfl rfl rfl (by simp only [List.length_append, List.length_map, List.length_take, List.length_cons, List.length_nil]; unfold reachBytes; omega) (by simp only [List.length_append, List.length_map, List.length_take, List.length_cons, List.length_nil]; omega) ?_)
      refine qo 12 (by kernel_rfl) ?_
      first | refine qd rfl rfl rfl (aM (h := ?_)) | refine qd rfl rfl rfl (aB (h := ?_)) | refine qd rfl rfl rfl (aA (h := ?_)) | refine qd rfl rfl rfl (aS (h := ?_)) | refine qd rfl rfl rfl (aL (h := ?_)) | refine qd rfl rfl rfl (qv (K := []) (qi qe rfl (by exact True.intro)) rfl ?_)
      refine qy (i := 13) (K := [28, 32]) (by kernel_rfl) (by kernel_rfl) rfl rfl (qi qe rfl (by exact True.intro)) rfl ?_
      refine qo 14 (by kernel_rfl) ?_
      first | refine qd rfl rfl rfl (aM (h := ?_)) | refine qd rfl rfl rfl (aB (h := ?_)) | refine qd rfl rfl rfl (aA (h := ?_)) | refine qd rfl rfl rfl (aS (h := ?_)) | refine qd rfl rfl rfl (aL (h := ?_)) | refine qd rfl rfl rfl (qv (K := []) (qi qe rfl (by exact True.intro)) rfl ?_)
      refine qy (i := 15) (K := [28, 32]) (by kernel_rfl) (by kernel_rfl) rfl rfl (qi qe rfl (by exact True.intro)) rfl ?_
      refine qo 16 (by kernel_rfl) ?_
      first | refine qd rfl rfl rfl (aM (h := ?_)) | refine qd rfl rfl rfl (aB (h := ?_)) | refine qd rfl rfl rfl (aA (h := ?_)) | refine qd rfl rfl rfl (aS (h := ?_)) | refine qd rfl rfl rfl (aL (h := ?_)) | refine qd rfl rfl rfl (qv (K := []) (qi qe rfl (by exact True.intro)) rfl ?_)
      refine zd (by kernel_rfl) ?_
      refine SW.wk (qq [1, 2, 3, 5, 19, 20, 21] [(1, 1), (2, 2), (0, 0), (5, 5), (28000, 28000), (31, 31), (35, 35)] rfl rfl) ?_
      exact ?fk6_208
      refine SW.wk ((zN (k := 28000) rfl).trans ((zN (k := 31) rfl).trans (zN (k := 35) rfl))) ?_
      refine SW.wk (qq [1, 2, 3, 5, 19, 20, 21] [(1, 1), (2, 2), (0, 0), (5, 5)] rfl rfl) ?_
      change SW _ _ _ ⟨62, [(1, .ptr 1 0), (2, .ptr 2 0), (3, .row 0), (5, .ptr 5 0), (19, .p (.sl 5 (p.rules.map zt))), (20, .p (pI (p.rules.map zt).length)), (21, .p (pI k))], [(1, .cells [.p (pS p.id), .p (pB p.set), .p (pI p.alg), .p (tgtP p.target), .p (.sl 5 (p.rules.map zt)), .p (.sl 7 (p.kids.map polP)), .p (zQ p.obls)]), (2, .cells [.p (pS ⟨#[]⟩), .p (pB false), .p (pI 0), .p nilV, .p nilV, .p nilV, .p nilV]), (0, .row 59 5 ((p.rules.take k).map zt)), (5, .cells ((zt x).map .p))]⟩
      (repeat refine qb ?_); refine qa ?_
      repeat (first | refine zR ?_ | refine zK ?_ | refine zM ?_ | refine zB ?_ | refine zA ?_ | refine zS ?_ | refine zL ?_)
      refine qn rfl (qp qe rfl rfl rfl rfl rfl rfl rfl rfl rfl rfl rfl rfl rfl rfl rfl rfl (by simp only [List.length_append, List.length_map, List.length_take, List.length_cons, List.length_nil]; unfold reachBytes; omega) (by simp only [List.length_append, List.length_map, List.length_take, List.length_cons, List.length_nil]; omega) ?_)
      repeat (first | refine zR ?_ | refine zK ?_ | refine zM ?_ | refine zB ?_ | refine zA ?_ | refine zS ?_ | refine zL ?_)
      refine qc ?_
      (repeat refine qb ?_); refine qa ?_
      repeat (first | refine zR ?_ | refine zK ?_ | refine zM ?_ | refine zB ?_ | refine zA ?_ | refine zS ?_ | refine zL ?_)
      refine qc ?_
      refine ⟨_, _, ?_, qq [1, 2, 3, 19, 20, 21] [(1, 1), (2, 2), (42, 0)] rfl rfl, k + 1, _, hlt', rfl, qz hlt' (by omega), ?_⟩
      · omega
      · rw [List.take_succ_eq_append_getElem hlt', List.map_append, ← hx]; rfl
    · refine qK ?_
      rw [l1] at hlt
      simp only [decide_eq_false_iff_not] at hlt
      have hkk : k = p.rules.length := by omega
      subst hkk
      rw [List.take_length]
      (repeat refine qb ?_); refine qa ?_
      repeat (first | refine zR ?_ | refine zK ?_ | refine zM ?_ | refine zB ?_ | refine zA ?_ | refine zS ?_ | refine zL ?_)
      refine qc ?_
      (repeat refine qb ?_); refine qa ?_
      repeat (first | refine zR ?_ | refine zK ?_ | refine zM ?_ | refine zB ?_ | refine zA ?_ | refine zS ?_ | refine zL ?_)
      refine qc ?_
      (repeat refine qb ?_); refine ql ?_
      refine SW.wk (jP 6 900 28 7 rfl rfl) ?_
      refine SW.wk (qq [1, 2, 3, 6, 45, 46, 47] [(1, 1), (2, 2), (0, 0), (900, 3)] rfl rfl) ?_
      refine qO (fun m s => ∃ (k : Nat) (kk : Int), k ≤ p.kids.length ∧ m = p.kids.length - k ∧ kk = k ∧ s = ⟨62, [(1, .ptr 1 0), (2, .ptr 2 0), (3, .row 0), (6, .row 3), (45, .p (.sl 7 (p.kids.map polP))), (46, .p (pI (p.kids.map polP).length)), (47, .p (pI kk))], [(1, .cells [.p (pS p.id), .p (pB p.set), .p (pI p.alg), .p (tgtP p.target), .p (.sl 5 (p.rules.map zt)), .p (.sl 7 (p.kids.map polP)), .p (zQ p.obls)]), (2, .cells [.p (pS ⟨#[]⟩), .p (pB false), .p (pI 0), .p nilV, .p nilV, .p nilV, .p nilV]), (0, .row 59 5 (p.rules.map zt)), (3, .row 28 7 ((p.kids.take k).map polP))]⟩) p.kids.length ⟨0, 0, Nat.zero_le _, rfl, rfl, rfl⟩ ?_
      rintro m s ⟨k, _, hk', rfl, rfl, rfl⟩
      (repeat refine qb ?_); refine qa ?_
      repeat (first | refine zR ?_ | refine zK ?_ | refine zM ?_ | refine zB ?_ | refine zA ?_ | refine zS ?_ | refine zL ?_)
      refine qc ?_
      (repeat refine qb ?_); refine qf rfl (fun hlt => ?_) (fun hlt => ?_)
      · refine qm ?_
        rw [l2] at hlt
        simp only [decide_eq_true_eq] at hlt
        have hlt' : k < p.kids.length := by omega
        have H2 := IH _ (List.getElem_mem hlt')
        obtain ⟨x, hx⟩ : ∃ x, x = p.kids[k] := ⟨_, rfl⟩
        rw [← hx, zf] at H2
        (repeat refine qb ?_); refine ql ?_
        (repeat refine qb ?_); refine qa ?_
        repeat (first | refine zR ?_ | refine zK ?_ | refine zM ?_ | refine zB ?_ | refine zA ?_ | refine zS ?_ | refine zL ?_)
        refine qw qe rfl rfl (by rw [l2]; omega) rfl ?_
        rw [qJ hlt', ← hx, zf x]
        repeat (first | refine zR ?_ | refine zK ?_ | refine zM ?_ | refine zB ?_ | refine zA ?_ | refine zS ?_ | refine zL ?_)
        refine qc ?_
        (repeat refine qb ?_); refine qa ?_
        repeat (first | refine zR ?_ | refine zK ?_ | refine zM ?_ | refine zB ?_ | refine zA ?_ | refine zS ?_ | refine zL ?_)
        refine qn rfl (qD rfl rfl rfl rfl (H2) rfl rfl rfl ?_)
        repeat (first | refine zR ?_ | refine zK ?_ | refine zM ?_ | refine zB ?_ | refine zA ?_ | refine zS ?_ | refine zL ?_)
        refine SWT.wk ((zN (k := 54000) rfl).trans (zN (k := 54001) rfl)) ?_
        repeat (first | refine zR ?_ | refine zK ?_ | refine zM ?_ | refine zB ?_ | refine zA ?_ | refine zS ?_ | refine zL ?_)
        refine qn rfl (qp qe rfl rfl rfl rfl rfl rfl rfl rfl rfl rfl rfl rfl rfl rfl rfl rfl (by simp only [List.length_append, List.length_map, List.length_take, List.length_cons, List.length_nil]; unfold reachBytes; omega) (by simp only [List.length_append, List.length_map, List.length_take, List.length_cons, List.length_nil]; omega) ?_)
        repeat (first | refine zR ?_ | refine zK ?_ | refine zM ?_ | refine zB ?_ | refine zA ?_ | refine zS ?_ | refine zL ?_)
        refine qc ?_
        (repeat refine qb ?_); refine qa ?_
        repeat (first | refine zR ?_ | refine zK ?_ | refine zM ?_ | refine zB ?_ | refine zA ?_ | refine zS ?_ | refine zL ?_)
        refine qc ?_
        refine ⟨_, _, ?_, qq [1, 2, 3, 6, 45, 46, 47] [(1, 1), (2, 2), (0, 0), (55, 3)] rfl rfl, k + 1, _, hlt', rfl, qz hlt' (by omega), ?_⟩
        · omega
        · have e : (p.kids.take (k + 1)).map polP = (p.kids.take k).map polP ++ [[pS x.id, pB x.set, pI x.alg, tgtP x.target, .sl 5 (x.rules.map zt), .sl 7 (x.kids.map polP), zQ x.obls]] := by
            rw [List.take_succ_eq_append_getElem hlt', List.map_append, ← hx]
            exact congrArg (fun q => (p.kids.take k).map polP ++ [q]) (zf x)
          rw [e]; rfl
      · refine qK ?_
        rw [l2] at hlt
        simp only [decide_eq_false_iff_not] at hlt
        have hkk : k = p.kids.length := by omega
        subst hkk
        rw [List.take_length]
        (repeat refine qb ?_); refine qa ?_
        repeat (first | refine zR ?_ | refine zK ?_ | refine zM ?_ | refine zB ?_ | refine zA ?_ | refine zS ?_ | refine zL ?_)
        refine qc ?_
        (repeat refine qb ?_); refine qa ?_
        repeat (first | refine zR ?_ | refine zK ?_ | refine zM ?_ | refine zB ?_ | refine zA ?_ | refine zS ?_ | refine zL ?_)
        refine qc ?_
        (repeat refine qb ?_); refine qk ?_
        exact ⟨Or.inr rfl, _, _, [(0, 0), (3, 1)], _, Wk.refl _, rfl, rfl, .refl _, rfl, rfl⟩
theorem copy_h : ∀ (n : Nat), CopyOk n
  | 0 => fun _ h => h.elim
  | n + 1 => copy_step n (copy_h n)
end Go.Proofs.YtppfcacnofjmdaaGreatDoor
namespace Go.Proofs.YtppfcacnofjmdaaGreatDoor
set_option linter.unusedVariables false
set_option linter.unusedSimpArgs false
open Go.RowKit
def Upto (k m : Nat) (r : SV) : Prop := ∃ b : Bool, r = .p (pB b) ∧ (b = true → k ≤ m)
theorem upto_ok {k m : Nat} {w : World} {e : Ending} {w' : World} (h : upTo k m w e w') : ∃ r, Upto k m r ∧ flatS r = true ∧ e = .returned (valS r) ∧ Below w.heap.size w w' ∧ RelS (fun _ => True) (fun _ => none) w' r (valS r) := by
  rcases h with ⟨rfl, hb⟩ | ⟨rfl, hk, hb⟩
  · exact ⟨.p (pB false), ⟨false, rfl, fun h => by cases h⟩, rfl, rfl, hb, .p (.v rfl)⟩
  · exact ⟨.p (pB true), ⟨true, rfl, fun _ => hk.out⟩, rfl, rfl, hb, .p (.v rfl)⟩
theorem few_h (l : List Giv) (hf : ∀ x ∈ l, x.Fit) : HoldsE Tryz.prog 16 [zP l] (Upto (fsz l) 1200) :=
  .of_calls Tryz.func16 (by kernel_rfl) rfl fun w vs hl hr => by
    obtain ⟨u, rfl⟩ := one_arg hl
    obtain ⟨A, c, rfl, h1, h2, h3⟩ := givs_typed (hr 0 _ u rfl rfl) hf
    exact (few_any l A c w h2.1 h3).mono fun e w' h => upto_ok h
theorem few_len {l : List Giv} (h : fsz l ≤ 1200) : l.length ≤ 600 ∧ ∀ g ∈ l, g.bag.length ≤ 1200 := by
  refine ⟨by unfold fsz at h; omega, fun g hg => ?_⟩
  have h2 : gsz g ≤ fsz l := by have := wb (f := gsz) hg; unfold fsz; omega
  have h3 : g.bag.length ≤ gsz g := by unfold gsz; omega
  omega
end Go.Proofs.YtppfcacnofjmdaaGreatDoor
namespace Go.Proofs.YtppfcacnofjmdaaGreatDoor
set_option linter.unusedVariables false
set_option linter.unusedSimpArgs false
open Go.RowKit
theorem nod_back {ok : Nat → Prop} {w : World} {cs : List Value} {x : Nod} (h : rPV ok w cs x.pv) (hf : x.Fit) : rNod w cs x :=
  ⟨rPV_plain (xs := [.int .i64 x.op, .int .i64 x.val.kind, .int .i64 x.val.n, .string x.val.s, .int .i64 x.attr.cat, .string x.attr.name, .bool x.attr.must]) h, hf⟩
theorem obl_back {ok : Nat → Prop} {w : World} {cs : List Value} {x : Obli} (h : rPV ok w cs x.pv) (hf : x.Fit) : rObl w cs x :=
  ⟨rPV_plain (xs := [.int .i64 x.on, .int .i64 x.kind, .string x.arg]) h, hf⟩
theorem slv_back {α : Type} {R : Rp α} {f : α → List PV} {z : Nat} {ok : Nat → Prop} {w : World} {u : Value} {l : List α} (h : RelP ok w (.sl z (l.map f)) u) (hf : ∀ x ∈ l, ∀ cs, rPV ok w cs (f x) → R w cs x) : SlV R z w u l := by
  obtain ⟨A, c, rfl, h1, h2, h3⟩ := sl_typed h hf
  exact ⟨A, c, rfl, h1, h2, h3⟩
theorem tar_back {ok : Nat → Prop} {w : World} {u : Value} {t : Tar} (h : RelP ok w (tgtP t) u) (hf : TarFit t) : SlV rTar' 1 w u t := by
  obtain ⟨A, c, rfl, h1, h2, h3⟩ := tgt_typed h hf
  exact ⟨A, c, rfl, h1, h2, h3⟩
theorem rul_back {ok : Nat → Prop} {w : World} {cs : List Value} {x : Rul} (h : rPV ok w cs (zt x)) (hf : RulFit x) : rRul w cs x := by
  have hl : cs.length = 5 := h.1
  match cs, hl with
  | [c0, c1, c2, c3, c4], _ =>
    have e0 := zX (h.2 0 _ c0 rfl rfl) rfl
    have e1 := zX (h.2 1 _ c1 rfl rfl) rfl
    subst e0 e1
    exact ⟨c2, c3, c4, rfl, hf.id, tar_back (h.2 2 _ c2 rfl rfl) hf.tgt, slv_back (h.2 3 _ c3 rfl rfl) (fun x hx cs hcs => nod_back hcs (hf.cond x hx)), slv_back (h.2 4 _ c4 rfl rfl) (fun x hx cs hcs => obl_back hcs (hf.obls x hx))⟩
theorem pol_back : ∀ {n : Nat} {ok : Nat → Prop} {w : World} {cs : List Value} {p : Pol}, rPV ok w cs (polP p) → PolF n p → rPolN n w cs p
  | n + 1, ok, w, cs, p, h, hf => by
    rw [zf] at h
    have hl : cs.length = 7 := h.1
    match cs, hl with
    | [c0, c1, c2, c3, c4, c5, c6], _ =>
      have e0 := zX (h.2 0 _ c0 rfl rfl) rfl
      have e1 := zX (h.2 1 _ c1 rfl rfl) rfl
      have e2 := zX (h.2 2 _ c2 rfl rfl) rfl
      subst e0 e1 e2
      exact ⟨c3, c4, c5, c6, rfl, hf.1.id, hf.2.1, tar_back (h.2 3 _ c3 rfl rfl) hf.1.tgt, slv_back (h.2 4 _ c4 rfl rfl) (fun x hx cs hcs => rul_back hcs (hf.1.rules x hx)),
        slv_back (h.2 5 _ c5 rfl rfl) (fun x hx cs hcs => pol_back hcs (hf.2.2 x hx)), slv_back (h.2 6 _ c6 rfl rfl) (fun x hx cs hcs => obl_back hcs (hf.1.obls x hx))⟩
theorem small_h {n : Nat} (p : Pol) (hf : PolF n p) : HoldsE Tryz.prog 15 [.agg (polP p)] (Upto p.sz 3000) :=
  .of_calls Tryz.func15 (by kernel_rfl) rfl fun w vs hl hr => by
    obtain ⟨u, rfl⟩ := one_arg hl
    have h := hr 0 _ u rfl rfl
    cases h with
    | @agg _ us hl2 hr2 =>
      have hp := pol_back ⟨hl2, hr2⟩ hf
      match n, hf, hp with
      | n + 1, _, ⟨c3, c4, c5, c6, he, h1⟩ =>
        subst he
        exact (small_any (n + 1) p w c3 c4 c5 c6 ⟨c3, c4, c5, c6, rfl, h1⟩).mono fun e w' h => upto_ok h
end Go.Proofs.YtppfcacnofjmdaaGreatDoor
namespace Go.Proofs.YtppfcacnofjmdaaGreatDoor
set_option linter.unusedVariables false
set_option linter.unusedSimpArgs false
open Go.RowKit
theorem givOk_of {g : List Giv} (hg : ∀ x ∈ g, x.Fit) (h : fsz g ≤ 1200) : GivOk g := by
  obtain ⟨g1, g2⟩ := few_len h
  exact ⟨hg, by omega, fun x hx => by have := g2 x hx; omega⟩
end Go.Proofs.YtppfcacnofjmdaaGreatDoor
namespace Go.Proofs.YtppfcacnofjmdaaGreatDoor
set_option linter.unusedVariables false
set_option linter.unusedSimpArgs false
open Go.RowKit
set_option maxHeartbeats 4000000
theorem decide_obls {g : List Giv} {p : Pol} (h : p.sz ≤ 3000) : (qF g 4 p).obls.length ≤ 1000000 := by have := decideS_len g 4 p; omega
end Go.Proofs.YtppfcacnofjmdaaGreatDoor
namespace Go.Proofs.YtppfcacnofjmdaaGreatDoor
set_option linter.unusedVariables false
set_option linter.unusedSimpArgs false
open Go.RowKit
theorem ruleS_ok {m : List ByteArray} {n : Int} {r : Rul} : (zq ⟨m, n⟩ r).1 = 0 ↔ zO m r.id = true ∧ n + 1 ≤ 64 ∧ ruleE r = 0 := by
  unfold zq
  split
  · rename_i h
    simp only
    split
    · constructor
      · intro h; cases h
      · intro h; omega
    · exact ⟨fun h1 => ⟨h, by omega, h1⟩, fun h1 => h1.2.2⟩
  · rename_i h
    exact ⟨fun h => (by cases h), fun h1 => absurd h1.1 h⟩
theorem rules_ok : ∀ {l : List Rul} {m : List ByteArray} {n : Int}, (seqS zq ⟨m, n⟩ l).1 = 0 ↔ (∀ r ∈ l, wO r.id = true ∧ ruleE r = 0 ∧ hasS m r.id = false) ∧ l.Pairwise (fun a b => a.id ≠ b.id) ∧ (l = [] ∨ n + l.length ≤ 64)
  | [], m, n => by simp [seqS]
  | x :: r, m, n => by
    rw [seqS]
    have hno : ∀ {m' : List ByteArray} {s : ByteArray}, zO m' s = true ↔ hasS m' s = false ∧ wO s = true := fun {m' s} => by simp [zO]
    by_cases h0 : (zq ⟨m, n⟩ x).1 = 0
    · obtain ⟨h1, h2, h3⟩ := ruleS_ok.1 h0
      have e : (zq ⟨m, n⟩ x).2 = ⟨m ++ [x.id], n + 1⟩ := by unfold zq; rw [if_pos h1]
      obtain ⟨k1, k2⟩ := hno.1 h1
      rw [if_pos h0, e, rules_ok, List.pairwise_cons]
      simp only [List.length_cons, List.mem_cons, forall_eq_or_imp]
      constructor
      · rintro ⟨a, b, c⟩
        refine ⟨⟨⟨k2, h3, k1⟩, fun y hy => ?_⟩, ⟨fun y hy => ?_, b⟩, .inr ?_⟩
        · obtain ⟨p, q, s⟩ := a y hy
          rw [hasS_snoc, Bool.or_eq_false_iff] at s
          exact ⟨p, q, s.1⟩
        · obtain ⟨p, q, s⟩ := a y hy
          rw [hasS_snoc, Bool.or_eq_false_iff] at s
          exact fun he => by simpa [he] using s.2
        · rcases c with rfl | c
          · simp; omega
          · omega
      · rintro ⟨⟨_, a⟩, ⟨b, c⟩, d⟩
        refine ⟨fun y hy => ?_, c, ?_⟩
        · obtain ⟨p, q, s⟩ := a y hy
          refine ⟨p, q, ?_⟩
          rw [hasS_snoc, s, Bool.false_or, decide_eq_false_iff_not]
          exact fun he => b y hy he.symm
        · rcases d with d | d
          · cases d
          · exact .inr (by omega)
    · rw [if_neg h0]
      constructor
      · intro h; exact absurd h h0
      · rintro ⟨a, b, c⟩
        exfalso
        obtain ⟨p, q, s⟩ := a x (by simp)
        refine h0 (ruleS_ok.2 ⟨hno.2 ⟨s, p⟩, ?_, q⟩)
        rcases c with c | c
        · cases c
        · simp only [List.length_cons] at c; omega
theorem headE_of {p q : Pol} (h : headE p = 0) (h1 : q.set = p.set) (h2 : q.kids = p.kids) (h3 : q.target = p.target) (h4 : q.obls = p.obls) (h5 : q.rules.length ≤ p.rules.length) (h6 : q.alg = p.alg ∨ q.alg ≠ 4) : headE q = 0 := by
  unfold headE at h ⊢
  rw [h1, h2, h3, h4]
  split at h
  · cases h
  · rename_i hc
    have hc' : ¬ (p.set && decide (0 < q.rules.length) || !p.set && (decide (0 < p.kids.length) || decide (q.alg = 4))) = true := by
      intro h
      refine hc ?_
      simp only [Bool.or_eq_true, Bool.and_eq_true, decide_eq_true_eq, Bool.not_eq_true'] at h ⊢
      rcases h with ⟨a, b⟩ | ⟨a, b | b⟩
      · exact .inl ⟨a, by omega⟩
      · exact .inr ⟨a, .inl b⟩
      · refine .inr ⟨a, .inr ?_⟩
        rcases h6 with h6 | h6
        · rw [← h6]; exact b
        · exact absurd b h6
    rw [if_neg hc']
    split at h
    · rename_i ht
      rw [if_pos ht]
      split at h
      · rename_i ho
        rw [if_pos ho]
        split at h
        · cases h
        · rename_i hm
          rw [if_neg (by omega)]
      · rename_i ho; rw [if_neg ho]; exact h
    · rename_i ht; exact absurd h ht
theorem right_rules {p q : Pol} (h : zb p = 0) (hs : p.set = false) (e1 : q.id = p.id) (e2 : q.set = p.set) (e3 : q.target = p.target) (e4 : q.kids = p.kids) (e5 : q.obls = p.obls) (ha : 1 ≤ q.alg ∧ q.alg ≤ 6 ∧ q.alg ≠ 4)
    (hr : ∃ l', l'.Perm p.rules ∧ q.rules.Sublist l') : zb q = 0 := by
  obtain ⟨h1, h2, h3, h4, h5⟩ := jG h
  obtain ⟨k1, k2, k3⟩ := wj h
  have hk := (right_shape h).2 hs
  obtain ⟨l', hp, hsub⟩ := hr
  rw [wJ h1 h4 h5] at k2
  have k2' : (seqS zq ⟨[p.id], 0⟩ p.rules).1 = 0 := k2
  obtain ⟨r1, r2, r3⟩ := rules_ok.1 k2'
  have hlen : q.rules.length ≤ p.rules.length := by have := hsub.length_le; have := hp.length_eq; omega
  have k4 : (seqS zq ⟨[q.id], 0⟩ q.rules).1 = 0 := by
    refine rules_ok.2 ⟨fun r hr => ?_, ?_, ?_⟩
    · rw [e1]; exact r1 r (hp.mem_iff.1 (hsub.subset hr))
    · exact List.Pairwise.sublist hsub ((List.Perm.pairwise_iff (fun h => Ne.symm h) hp).2 r2)
    · rcases r3 with r3 | r3
      · refine .inl (List.length_eq_zero_iff.1 ?_)
        rw [r3] at hlen
        simp at hlen
        rw [hlen]; rfl
      · exact .inr (by omega)
  have he := headE_of (q := q) h3 e2 e4 e3 e5 hlen (.inr ha.2.2)
  have hh : zF ⟨[], 0⟩ q = (0, ⟨[q.id], 0⟩) := by rw [wJ (by rw [e1]; exact h1) ha.1 ha.2.1, he]
  unfold zb
  rw [polS, hh, if_pos rfl]
  show (if (seqS zq ⟨[q.id], 0⟩ q.rules).1 = 0 then seqS (polS 3) (seqS zq ⟨[q.id], 0⟩ q.rules).2 q.kids else _).1 = 0
  rw [if_pos k4, e4, hk]; rfl
theorem first_take : ∀ (l : List Rs) (k : Nat), (∀ x ∈ l.take k, x.m = (0, 0)) → (∀ h : k < l.length, l[k].m ≠ (0, 0)) →
    wy ((l.take (k + 1)).map Rs.m) = wy (l.map Rs.m) ∧ (wy (l.map Rs.m) ≠ (0, 0) → wF 3 (wy (l.map Rs.m)) (l.take (k + 1)) = wF 3 (wy (l.map Rs.m)) l)
  | [], k, _, _ => by simp
  | x :: r, 0, _, h => by
    have h0 : x.m ≠ (0, 0) := by simpa using h
    rw [List.take_succ_cons, List.take_zero]
    simp only [List.map_cons, List.map_nil, wy, if_neg h0, wF]
    simp
  | x :: r, k + 1, ha, h => by
    have h0 : x.m = (0, 0) := ha x (by simp)
    obtain ⟨h1, h2⟩ := first_take r k (fun y hy => ha y (by simp [hy])) (fun h' => by have := h (by simp only [List.length_cons]; omega); rwa [List.getElem_cons_succ] at this)
    rw [List.take_succ_cons]
    simp only [List.map_cons, wy, if_pos h0]
    refine ⟨h1, fun hne => ?_⟩
    rw [wF, wF, if_neg (by rw [h0]; exact fun e => hne e.symm), if_neg (by rw [h0]; exact fun e => hne e.symm)]
    exact h2 hne
theorem joinR_first {p q : Pol} (hp : p.alg = 3) (hq : q.alg = 3) (ho : q.obls = p.obls) {l : List Rs} {k : Nat} (ha : ∀ x ∈ l.take k, x.m = (0, 0)) (h : ∀ h : k < l.length, l[k].m ≠ (0, 0)) : wM q 2 (l.take (k + 1)) = wM p 2 l := by
  obtain ⟨h1, h2⟩ := first_take l k ha h
  have e1 : ∀ l', allM q.alg l' = wy l' := fun l' => by rw [hq]; rfl
  have e2 : ∀ l', allM p.alg l' = wy l' := fun l' => by rw [hp]; rfl
  unfold wM
  rw [e1, e2, h1, ho, hp, hq]
  by_cases hm : wy (l.map Rs.m) = (0, 0)
  · rw [hm]; simp
  · rw [h2 hm]
theorem joinM_zero (a : Mk) : qaA (0, 0) a = a := by unfold qaA; simp
theorem joinM_assoc (a b c : Mk) : qaA (qaA a b) c = qaA a (qaA b c) := by unfold qaA; simp [Nat.max_assoc]
theorem joinM_comm (a b : Mk) : qaA a b = qaA b a := by unfold qaA; simp [Nat.max_comm]
theorem joinL_foldl : ∀ (l : List Mk) (a : Mk), l.foldl qaA a = qaA a (qaC l)
  | [], a => by unfold qaC qaA; simp
  | x :: l, a => by
    have e : qaC (x :: l) = qaA x (qaC l) := by
      unfold qaC
      rw [List.foldl_cons, joinL_foldl l (qaA (0, 0) x), joinM_zero]; rfl
    rw [List.foldl_cons, joinL_foldl l (qaA a x), e, joinM_assoc]
theorem joinL_append (a b : List Mk) : qaC (a ++ b) = qaA (qaC a) (qaC b) := by
  unfold qaC
  rw [List.foldl_append, joinL_foldl]; rfl
theorem qaD {alg : Int} (h : alg ≠ 3) (m : Mk) : ∀ (a b : List Rs), wF alg m (a ++ b) = wF alg m a ++ wF alg m b
  | [], b => rfl
  | x :: a, b => by
    rw [List.cons_append, wF, wF, if_neg h, qaD h m a b]
    split
    · rw [List.append_assoc]
    · rfl
theorem joinR_rot {p q : Pol} (hp : p.alg = 1 ∨ p.alg = 2) (hq : q.alg = p.alg) (ho : q.obls = p.obls) (a b : List Rs) : (wM q 2 (b ++ a)).m = (wM p 2 (a ++ b)).m ∧ (wM q 2 (b ++ a)).obls.length = (wM p 2 (a ++ b)).obls.length := by
  have e : allM p.alg ((b ++ a).map Rs.m) = allM p.alg ((a ++ b).map Rs.m) := by
    have : qaC ((b ++ a).map Rs.m) = qaC ((a ++ b).map Rs.m) := by rw [List.map_append, List.map_append, joinL_append, joinL_append, joinM_comm]
    rcases hp with h | h
    · rw [h]
      show overM (qaC ((b ++ a).map Rs.m)) = overM (qaC ((a ++ b).map Rs.m))
      rw [this]
    · rw [h]
      show turnM (overM (turnM (qaC ((b ++ a).map Rs.m)))) = turnM (overM (turnM (qaC ((a ++ b).map Rs.m))))
      rw [this]
  have h3 : p.alg ≠ 3 := by omega
  unfold wM
  rw [hq, e, ho, qaD h3, qaD h3]
  simp only [show ¬ ((2 : Int) = 0) by omega, show ¬ ((2 : Int) = 1) by omega, if_false]
  split
  · exact ⟨rfl, rfl⟩
  · refine ⟨rfl, ?_⟩
    simp only [List.length_append]
    omega
theorem eval_rules (g : List Giv) {p : Pol} (h : zb p = 0) (hs : p.set = false) (ht : p.target = []) : qF g 4 p = wM p 2 (p.rules.map (qaw g)) := by
  rw [decide_right g h, ht, (right_shape h).2 hs, List.map_nil, List.append_nil]; rfl
end Go.Proofs.YtppfcacnofjmdaaGreatDoor
namespace Go.Proofs.YtppfcacnofjmdaaGreatDoor
open Go.RowKit
noncomputable def fnsev46 : FnI := ⟨6, Tryz.f46.body.getD .skip, [.tmp 2], []⟩
theorem fnsev46_ok : FnOk Tryz.prog 46 fnsev46 := ⟨_, Tryz.func46, by kernel_rfl, by kernel_rfl, by kernel_rfl, by kernel_rfl, by kernel_rfl, by kernel_rfl⟩
noncomputable def fnsev45 : FnI := ⟨13, Tryz.f45.body.getD .skip, [.cell 2 28], []⟩
theorem fnsev45_ok : FnOk Tryz.prog 45 fnsev45 := ⟨_, Tryz.func45, by kernel_rfl, by kernel_rfl, by kernel_rfl, by kernel_rfl, by kernel_rfl, by kernel_rfl⟩
noncomputable def fnsev61 : FnI := ⟨61, Tryz.f61.body.getD .skip, [.cell 2 28, .tmp 3, .tmp 4], [(11, [(0, true), (1, true), (2, true), (3, true), (4, true), (5, true), (6, true), (7, true), (8, true), (9, false), (10, false), (11, false)])]⟩
theorem fnsev61_ok : FnOk Tryz.prog 61 fnsev61 := ⟨_, Tryz.func61, by kernel_rfl, by kernel_rfl, by kernel_rfl, by kernel_rfl, by kernel_rfl, by kernel_rfl⟩
noncomputable def fnsev80 : FnI := ⟨19, Tryz.f80.body.getD .skip, [], []⟩
theorem fnsev80_ok : FnOk Tryz.prog 80 fnsev80 := ⟨_, Tryz.func80, by kernel_rfl, by kernel_rfl, by kernel_rfl, by kernel_rfl, by kernel_rfl, by kernel_rfl⟩
noncomputable def fnsev17 : FnI := ⟨10, Tryz.f17.body.getD .skip, [.tmp 2], []⟩
theorem fnsev17_ok : FnOk Tryz.prog 17 fnsev17 := ⟨_, Tryz.func17, by kernel_rfl, by kernel_rfl, by kernel_rfl, by kernel_rfl, by kernel_rfl, by kernel_rfl⟩
noncomputable def fnsev44 : FnI := ⟨52, Tryz.f44.body.getD .skip, [.tmp 6], []⟩
theorem fnsev44_ok : FnOk Tryz.prog 44 fnsev44 := ⟨_, Tryz.func44, by kernel_rfl, by kernel_rfl, by kernel_rfl, by kernel_rfl, by kernel_rfl, by kernel_rfl⟩
noncomputable def fnsev68 : FnI := ⟨39, Tryz.f68.body.getD .skip, [.tmp 4], []⟩
theorem fnsev68_ok : FnOk Tryz.prog 68 fnsev68 := ⟨_, Tryz.func68, by kernel_rfl, by kernel_rfl, by kernel_rfl, by kernel_rfl, by kernel_rfl, by kernel_rfl⟩
noncomputable def fnsev86 : FnI := ⟨39, Tryz.f86.body.getD .skip, [.tmp 2], []⟩
theorem fnsev86_ok : FnOk Tryz.prog 86 fnsev86 := ⟨_, Tryz.func86, by kernel_rfl, by kernel_rfl, by kernel_rfl, by kernel_rfl, by kernel_rfl, by kernel_rfl⟩
noncomputable def fnsev105 : FnI := ⟨49, Tryz.f105.body.getD .skip, [.tmp 2], []⟩
theorem fnsev105_ok : FnOk Tryz.prog 105 fnsev105 := ⟨_, Tryz.func105, by kernel_rfl, by kernel_rfl, by kernel_rfl, by kernel_rfl, by kernel_rfl, by kernel_rfl⟩
noncomputable def fnsev73 : FnI := ⟨38, Tryz.f73.body.getD .skip, [.tmp 2], []⟩
theorem fnsev73_ok : FnOk Tryz.prog 73 fnsev73 := ⟨_, Tryz.func73, by kernel_rfl, by kernel_rfl, by kernel_rfl, by kernel_rfl, by kernel_rfl, by kernel_rfl⟩
noncomputable def fnsev89 : FnI := ⟨60, Tryz.f89.body.getD .skip, [.tmp 4, .tmp 5], [(11, [(0, true), (1, true), (2, true), (3, false), (4, false), (5, false), (6, false), (7, false), (8, false), (9, false)])]⟩
theorem fnsev89_ok : FnOk Tryz.prog 89 fnsev89 := ⟨_, Tryz.func89, by kernel_rfl, by kernel_rfl, by kernel_rfl, by kernel_rfl, by kernel_rfl, by kernel_rfl⟩
noncomputable def fnsev114 : FnI := ⟨37, Tryz.f114.body.getD .skip, [.tmp 2], []⟩
theorem fnsev114_ok : FnOk Tryz.prog 114 fnsev114 := ⟨_, Tryz.func114, by kernel_rfl, by kernel_rfl, by kernel_rfl, by kernel_rfl, by kernel_rfl, by kernel_rfl⟩
noncomputable def fnsev143 : FnI := ⟨16, Tryz.f143.body.getD .skip, [.tmp 2], []⟩
theorem fnsev143_ok : FnOk Tryz.prog 143 fnsev143 := ⟨_, Tryz.func143, by kernel_rfl, by kernel_rfl, by kernel_rfl, by kernel_rfl, by kernel_rfl, by kernel_rfl⟩
noncomputable def fnsev103 : FnI := ⟨61, Tryz.f103.body.getD .skip, [.tmp 2], []⟩
theorem fnsev103_ok : FnOk Tryz.prog 103 fnsev103 := ⟨_, Tryz.func103, by kernel_rfl, by kernel_rfl, by kernel_rfl, by kernel_rfl, by kernel_rfl, by kernel_rfl⟩
noncomputable def fnsev113 : FnI := ⟨35, Tryz.f113.body.getD .skip, [.tmp 2, .tmp 3], []⟩
theorem fnsev113_ok : FnOk Tryz.prog 113 fnsev113 := ⟨_, Tryz.func113, by kernel_rfl, by kernel_rfl, by kernel_rfl, by kernel_rfl, by kernel_rfl, by kernel_rfl⟩
noncomputable def fnsev85 : FnI := ⟨21, Tryz.f85.body.getD .skip, [.tmp 2], []⟩
theorem fnsev85_ok : FnOk Tryz.prog 85 fnsev85 := ⟨_, Tryz.func85, by kernel_rfl, by kernel_rfl, by kernel_rfl, by kernel_rfl, by kernel_rfl, by kernel_rfl⟩
noncomputable def fnsev106 : FnI := ⟨25, Tryz.f106.body.getD .skip, [.tmp 2], []⟩
theorem fnsev106_ok : FnOk Tryz.prog 106 fnsev106 := ⟨_, Tryz.func106, by kernel_rfl, by kernel_rfl, by kernel_rfl, by kernel_rfl, by kernel_rfl, by kernel_rfl⟩
noncomputable def fnsev135 : FnI := ⟨22, Tryz.f135.body.getD .skip, [.tmp 2], []⟩
theorem fnsev135_ok : FnOk Tryz.prog 135 fnsev135 := ⟨_, Tryz.func135, by kernel_rfl, by kernel_rfl, by kernel_rfl, by kernel_rfl, by kernel_rfl, by kernel_rfl⟩
noncomputable def fnsev153 : FnI := ⟨21, Tryz.f153.body.getD .skip, [.tmp 2], []⟩
theorem fnsev153_ok : FnOk Tryz.prog 153 fnsev153 := ⟨_, Tryz.func153, by kernel_rfl, by kernel_rfl, by kernel_rfl, by kernel_rfl, by kernel_rfl, by kernel_rfl⟩
noncomputable def fnsev134 : FnI := ⟨9, Tryz.f134.body.getD .skip, [.tmp 2], []⟩
theorem fnsev134_ok : FnOk Tryz.prog 134 fnsev134 := ⟨_, Tryz.func134, by kernel_rfl, by kernel_rfl, by kernel_rfl, by kernel_rfl, by kernel_rfl, by kernel_rfl⟩
noncomputable def fnsev84 : FnI := ⟨28, Tryz.f84.body.getD .skip, [.tmp 4], []⟩
theorem fnsev84_ok : FnOk Tryz.prog 84 fnsev84 := ⟨_, Tryz.func84, by kernel_rfl, by kernel_rfl, by kernel_rfl, by kernel_rfl, by kernel_rfl, by kernel_rfl⟩
noncomputable def fnsev67 : FnI := ⟨68, Tryz.f67.body.getD .skip, [.tmp 4], []⟩
theorem fnsev67_ok : FnOk Tryz.prog 67 fnsev67 := ⟨_, Tryz.func67, by kernel_rfl, by kernel_rfl, by kernel_rfl, by kernel_rfl, by kernel_rfl, by kernel_rfl⟩
noncomputable def fnsev79 : FnI := ⟨7, Tryz.f79.body.getD .skip, [], []⟩
theorem fnsev79_ok : FnOk Tryz.prog 79 fnsev79 := ⟨_, Tryz.func79, by kernel_rfl, by kernel_rfl, by kernel_rfl, by kernel_rfl, by kernel_rfl, by kernel_rfl⟩
noncomputable def fnsev78 : FnI := ⟨13, Tryz.f78.body.getD .skip, [.cell 2 143], [(1, [(0, true), (1, true), (2, true), (3, true), (4, false), (5, false), (6, false), (7, false), (8, false), (9, false), (10, false)])]⟩
theorem fnsev78_ok : FnOk Tryz.prog 78 fnsev78 := ⟨_, Tryz.func78, by kernel_rfl, by kernel_rfl, by kernel_rfl, by kernel_rfl, by kernel_rfl, by kernel_rfl⟩
noncomputable def fnsev77 : FnI := ⟨39, Tryz.f77.body.getD .skip, [.cell 4 28], []⟩
theorem fnsev77_ok : FnOk Tryz.prog 77 fnsev77 := ⟨_, Tryz.func77, by kernel_rfl, by kernel_rfl, by kernel_rfl, by kernel_rfl, by kernel_rfl, by kernel_rfl⟩
noncomputable def fnsev100 : FnI := ⟨28, Tryz.f100.body.getD .skip, [.tmp 2], []⟩
theorem fnsev100_ok : FnOk Tryz.prog 100 fnsev100 := ⟨_, Tryz.func100, by kernel_rfl, by kernel_rfl, by kernel_rfl, by kernel_rfl, by kernel_rfl, by kernel_rfl⟩
noncomputable def fnsev131 : FnI := ⟨10, Tryz.f131.body.getD .skip, [], []⟩
theorem fnsev131_ok : FnOk Tryz.prog 131 fnsev131 := ⟨_, Tryz.func131, by kernel_rfl, by kernel_rfl, by kernel_rfl, by kernel_rfl, by kernel_rfl, by kernel_rfl⟩
noncomputable def fnsev95 : FnI := ⟨25, Tryz.f95.body.getD .skip, [.tmp 2], []⟩
theorem fnsev95_ok : FnOk Tryz.prog 95 fnsev95 := ⟨_, Tryz.func95, by kernel_rfl, by kernel_rfl, by kernel_rfl, by kernel_rfl, by kernel_rfl, by kernel_rfl⟩
noncomputable def fnsev94 : FnI := ⟨28, Tryz.f94.body.getD .skip, [.tmp 4], []⟩
theorem fnsev94_ok : FnOk Tryz.prog 94 fnsev94 := ⟨_, Tryz.func94, by kernel_rfl, by kernel_rfl, by kernel_rfl, by kernel_rfl, by kernel_rfl, by kernel_rfl⟩
noncomputable def fnsev129 : FnI := ⟨18, Tryz.f129.body.getD .skip, [.tmp 4], []⟩
theorem fnsev129_ok : FnOk Tryz.prog 129 fnsev129 := ⟨_, Tryz.func129, by kernel_rfl, by kernel_rfl, by kernel_rfl, by kernel_rfl, by kernel_rfl, by kernel_rfl⟩
noncomputable def fnsev132 : FnI := ⟨29, Tryz.f132.body.getD .skip, [.tmp 4], []⟩
theorem fnsev132_ok : FnOk Tryz.prog 132 fnsev132 := ⟨_, Tryz.func132, by kernel_rfl, by kernel_rfl, by kernel_rfl, by kernel_rfl, by kernel_rfl, by kernel_rfl⟩
noncomputable def fnsev128 : FnI := ⟨19, Tryz.f128.body.getD .skip, [.tmp 4], []⟩
theorem fnsev128_ok : FnOk Tryz.prog 128 fnsev128 := ⟨_, Tryz.func128, by kernel_rfl, by kernel_rfl, by kernel_rfl, by kernel_rfl, by kernel_rfl, by kernel_rfl⟩
noncomputable def fnsev99 : FnI := ⟨51, Tryz.f99.body.getD .skip, [.tmp 2], []⟩
theorem fnsev99_ok : FnOk Tryz.prog 99 fnsev99 := ⟨_, Tryz.func99, by kernel_rfl, by kernel_rfl, by kernel_rfl, by kernel_rfl, by kernel_rfl, by kernel_rfl⟩
noncomputable def fnsev133 : FnI := ⟨23, Tryz.f133.body.getD .skip, [.cell 4 59], []⟩
theorem fnsev133_ok : FnOk Tryz.prog 133 fnsev133 := ⟨_, Tryz.func133, by kernel_rfl, by kernel_rfl, by kernel_rfl, by kernel_rfl, by kernel_rfl, by kernel_rfl⟩
noncomputable def fnsev97 : FnI := ⟨10, Tryz.f97.body.getD .skip, [], []⟩
theorem fnsev97_ok : FnOk Tryz.prog 97 fnsev97 := ⟨_, Tryz.func97, by kernel_rfl, by kernel_rfl, by kernel_rfl, by kernel_rfl, by kernel_rfl, by kernel_rfl⟩
noncomputable def fnsev152 : FnI := ⟨25, Tryz.f152.body.getD .skip, [.tmp 6], []⟩
theorem fnsev152_ok : FnOk Tryz.prog 152 fnsev152 := ⟨_, Tryz.func152, by kernel_rfl, by kernel_rfl, by kernel_rfl, by kernel_rfl, by kernel_rfl, by kernel_rfl⟩
noncomputable def fnsev160 : FnI := ⟨52, Tryz.f160.body.getD .skip, [.tmp 4, .tmp 5], [(10, [(0, true), (1, true), (2, true), (3, true), (4, false), (5, false)])]⟩
theorem fnsev160_ok : FnOk Tryz.prog 160 fnsev160 := ⟨_, Tryz.func160, by kernel_rfl, by kernel_rfl, by kernel_rfl, by kernel_rfl, by kernel_rfl, by kernel_rfl⟩
noncomputable def fnsev167 : FnI := ⟨56, Tryz.f167.body.getD .skip, [.cell 2 52], []⟩
theorem fnsev167_ok : FnOk Tryz.prog 167 fnsev167 := ⟨_, Tryz.func167, by kernel_rfl, by kernel_rfl, by kernel_rfl, by kernel_rfl, by kernel_rfl, by kernel_rfl⟩
noncomputable def fnsev166 : FnI := ⟨17, Tryz.f166.body.getD .skip, [.cell 2 54], []⟩
theorem fnsev166_ok : FnOk Tryz.prog 166 fnsev166 := ⟨_, Tryz.func166, by kernel_rfl, by kernel_rfl, by kernel_rfl, by kernel_rfl, by kernel_rfl, by kernel_rfl⟩
noncomputable def fnsev168 : FnI := ⟨36, Tryz.f168.body.getD .skip, [.tmp 4, .cell 5 56], [(9, [(0, true), (1, true), (2, false), (3, false)])]⟩
theorem fnsev168_ok : FnOk Tryz.prog 168 fnsev168 := ⟨_, Tryz.func168, by kernel_rfl, by kernel_rfl, by kernel_rfl, by kernel_rfl, by kernel_rfl, by kernel_rfl⟩
noncomputable def fnsev173 : FnI := ⟨15, Tryz.f173.body.getD .skip, [.tmp 2], []⟩
theorem fnsev173_ok : FnOk Tryz.prog 173 fnsev173 := ⟨_, Tryz.func173, by kernel_rfl, by kernel_rfl, by kernel_rfl, by kernel_rfl, by kernel_rfl, by kernel_rfl⟩
noncomputable def fnsev96 : FnI := ⟨23, Tryz.f96.body.getD .skip, [.tmp 2], []⟩
theorem fnsev96_ok : FnOk Tryz.prog 96 fnsev96 := ⟨_, Tryz.func96, by kernel_rfl, by kernel_rfl, by kernel_rfl, by kernel_rfl, by kernel_rfl, by kernel_rfl⟩
noncomputable def fnsev130 : FnI := ⟨24, Tryz.f130.body.getD .skip, [.tmp 2], []⟩
theorem fnsev130_ok : FnOk Tryz.prog 130 fnsev130 := ⟨_, Tryz.func130, by kernel_rfl, by kernel_rfl, by kernel_rfl, by kernel_rfl, by kernel_rfl, by kernel_rfl⟩
noncomputable def fnsev151 : FnI := ⟨20, Tryz.f151.body.getD .skip, [.tmp 2], []⟩
theorem fnsev151_ok : FnOk Tryz.prog 151 fnsev151 := ⟨_, Tryz.func151, by kernel_rfl, by kernel_rfl, by kernel_rfl, by kernel_rfl, by kernel_rfl, by kernel_rfl⟩
noncomputable def fnsev159 : FnI := ⟨32, Tryz.f159.body.getD .skip, [.cell 2 62], []⟩
theorem fnsev159_ok : FnOk Tryz.prog 159 fnsev159 := ⟨_, Tryz.func159, by kernel_rfl, by kernel_rfl, by kernel_rfl, by kernel_rfl, by kernel_rfl, by kernel_rfl⟩
noncomputable def fnsev98 : FnI := ⟨33, Tryz.f98.body.getD .skip, [.tmp 4], []⟩
theorem fnsev98_ok : FnOk Tryz.prog 98 fnsev98 := ⟨_, Tryz.func98, by kernel_rfl, by kernel_rfl, by kernel_rfl, by kernel_rfl, by kernel_rfl, by kernel_rfl⟩
noncomputable def fnsev76 : FnI := ⟨52, Tryz.f76.body.getD .skip, [.tmp 2, .tmp 3, .tmp 4], []⟩
theorem fnsev76_ok : FnOk Tryz.prog 76 fnsev76 := ⟨_, Tryz.func76, by kernel_rfl, by kernel_rfl, by kernel_rfl, by kernel_rfl, by kernel_rfl, by kernel_rfl⟩
noncomputable def fnsev93 : FnI := ⟨106, Tryz.f93.body.getD .skip, [.cell 2 143, .tmp 3], [(30, [(0, true), (1, true), (2, false), (3, false), (4, false), (5, false), (6, false)])]⟩
theorem fnsev93_ok : FnOk Tryz.prog 93 fnsev93 := ⟨_, Tryz.func93, by kernel_rfl, by kernel_rfl, by kernel_rfl, by kernel_rfl, by kernel_rfl, by kernel_rfl⟩
noncomputable def fnsev126 : FnI := ⟨50, Tryz.f126.body.getD .skip, [.tmp 2, .tmp 3], []⟩
theorem fnsev126_ok : FnOk Tryz.prog 126 fnsev126 := ⟨_, Tryz.func126, by kernel_rfl, by kernel_rfl, by kernel_rfl, by kernel_rfl, by kernel_rfl, by kernel_rfl⟩
noncomputable def fnsev149 : FnI := ⟨38, Tryz.f149.body.getD .skip, [.tmp 2, .tmp 3], [(3, [(0, true), (1, true), (4, true), (5, true), (2, false), (3, true), (6, false), (7, false), (8, false), (9, false)])]⟩
theorem fnsev149_ok : FnOk Tryz.prog 149 fnsev149 := ⟨_, Tryz.func149, by kernel_rfl, by kernel_rfl, by kernel_rfl, by kernel_rfl, by kernel_rfl, by kernel_rfl⟩
noncomputable def fnsev148 : FnI := ⟨17, Tryz.f148.body.getD .skip, [.tmp 2], []⟩
theorem fnsev148_ok : FnOk Tryz.prog 148 fnsev148 := ⟨_, Tryz.func148, by kernel_rfl, by kernel_rfl, by kernel_rfl, by kernel_rfl, by kernel_rfl, by kernel_rfl⟩
noncomputable def fnsev157 : FnI := ⟨20, Tryz.f157.body.getD .skip, [.tmp 2], []⟩
theorem fnsev157_ok : FnOk Tryz.prog 157 fnsev157 := ⟨_, Tryz.func157, by kernel_rfl, by kernel_rfl, by kernel_rfl, by kernel_rfl, by kernel_rfl, by kernel_rfl⟩
noncomputable def fnsev124 : FnI := ⟨9, Tryz.f124.body.getD .skip, [.tmp 2], []⟩
theorem fnsev124_ok : FnOk Tryz.prog 124 fnsev124 := ⟨_, Tryz.func124, by kernel_rfl, by kernel_rfl, by kernel_rfl, by kernel_rfl, by kernel_rfl, by kernel_rfl⟩
noncomputable def fnsev125 : FnI := ⟨35, Tryz.f125.body.getD .skip, [.tmp 4, .tmp 5], []⟩
theorem fnsev125_ok : FnOk Tryz.prog 125 fnsev125 := ⟨_, Tryz.func125, by kernel_rfl, by kernel_rfl, by kernel_rfl, by kernel_rfl, by kernel_rfl, by kernel_rfl⟩
noncomputable def fnsev145 : FnI := ⟨20, Tryz.f145.body.getD .skip, [.tmp 4], []⟩
theorem fnsev145_ok : FnOk Tryz.prog 145 fnsev145 := ⟨_, Tryz.func145, by kernel_rfl, by kernel_rfl, by kernel_rfl, by kernel_rfl, by kernel_rfl, by kernel_rfl⟩
noncomputable def fnsev123 : FnI := ⟨12, Tryz.f123.body.getD .skip, [.tmp 2], []⟩
theorem fnsev123_ok : FnOk Tryz.prog 123 fnsev123 := ⟨_, Tryz.func123, by kernel_rfl, by kernel_rfl, by kernel_rfl, by kernel_rfl, by kernel_rfl, by kernel_rfl⟩
noncomputable def fnsev146 : FnI := ⟨17, Tryz.f146.body.getD .skip, [.tmp 2], []⟩
theorem fnsev146_ok : FnOk Tryz.prog 146 fnsev146 := ⟨_, Tryz.func146, by kernel_rfl, by kernel_rfl, by kernel_rfl, by kernel_rfl, by kernel_rfl, by kernel_rfl⟩
noncomputable def fnsev23 : FnI := ⟨17, Tryz.f23.body.getD .skip, [.tmp 4], []⟩
theorem fnsev23_ok : FnOk Tryz.prog 23 fnsev23 := ⟨_, Tryz.func23, by kernel_rfl, by kernel_rfl, by kernel_rfl, by kernel_rfl, by kernel_rfl, by kernel_rfl⟩
noncomputable def fnsev49 : FnI := ⟨26, Tryz.f49.body.getD .skip, [.tmp 4], [(6, [(0, true), (1, true), (2, true), (3, true), (4, true), (5, false), (6, false), (7, false), (8, false)])]⟩
theorem fnsev49_ok : FnOk Tryz.prog 49 fnsev49 := ⟨_, Tryz.func49, by kernel_rfl, by kernel_rfl, by kernel_rfl, by kernel_rfl, by kernel_rfl, by kernel_rfl⟩
noncomputable def fnsev19 : FnI := ⟨13, Tryz.f19.body.getD .skip, [.cell 4 38, .tmp 5], []⟩
theorem fnsev19_ok : FnOk Tryz.prog 19 fnsev19 := ⟨_, Tryz.func19, by kernel_rfl, by kernel_rfl, by kernel_rfl, by kernel_rfl, by kernel_rfl, by kernel_rfl⟩
noncomputable def fnsev47 : FnI := ⟨50, Tryz.f47.body.getD .skip, [.cell 4 38], []⟩
theorem fnsev47_ok : FnOk Tryz.prog 47 fnsev47 := ⟨_, Tryz.func47, by kernel_rfl, by kernel_rfl, by kernel_rfl, by kernel_rfl, by kernel_rfl, by kernel_rfl⟩
noncomputable def fnsev69 : FnI := ⟨84, Tryz.f69.body.getD .skip, [.cell 6 38], [(22, [(0, true), (1, true), (2, true), (3, true), (4, false), (5, false), (6, false), (7, false), (8, false)])]⟩
theorem fnsev69_ok : FnOk Tryz.prog 69 fnsev69 := ⟨_, Tryz.func69, by kernel_rfl, by kernel_rfl, by kernel_rfl, by kernel_rfl, by kernel_rfl, by kernel_rfl⟩
noncomputable def fnsev70 : FnI := ⟨36, Tryz.f70.body.getD .skip, [.tmp 4], []⟩
theorem fnsev70_ok : FnOk Tryz.prog 70 fnsev70 := ⟨_, Tryz.func70, by kernel_rfl, by kernel_rfl, by kernel_rfl, by kernel_rfl, by kernel_rfl, by kernel_rfl⟩
noncomputable def fnsev25 : FnI := ⟨9, Tryz.f25.body.getD .skip, [.tmp 2], []⟩
theorem fnsev25_ok : FnOk Tryz.prog 25 fnsev25 := ⟨_, Tryz.func25, by kernel_rfl, by kernel_rfl, by kernel_rfl, by kernel_rfl, by kernel_rfl, by kernel_rfl⟩
noncomputable def fnsev87 : FnI := ⟨49, Tryz.f87.body.getD .skip, [.tmp 4, .tmp 5], []⟩
theorem fnsev87_ok : FnOk Tryz.prog 87 fnsev87 := ⟨_, Tryz.func87, by kernel_rfl, by kernel_rfl, by kernel_rfl, by kernel_rfl, by kernel_rfl, by kernel_rfl⟩
noncomputable def fnsev112 : FnI := ⟨12, Tryz.f112.body.getD .skip, [.tmp 6], []⟩
theorem fnsev112_ok : FnOk Tryz.prog 112 fnsev112 := ⟨_, Tryz.func112, by kernel_rfl, by kernel_rfl, by kernel_rfl, by kernel_rfl, by kernel_rfl, by kernel_rfl⟩
noncomputable def fnsev142 : FnI := ⟨9, Tryz.f142.body.getD .skip, [.tmp 4], []⟩
theorem fnsev142_ok : FnOk Tryz.prog 142 fnsev142 := ⟨_, Tryz.func142, by kernel_rfl, by kernel_rfl, by kernel_rfl, by kernel_rfl, by kernel_rfl, by kernel_rfl⟩
noncomputable def fnsev154 : FnI := ⟨19, Tryz.f154.body.getD .skip, [.tmp 4], []⟩
theorem fnsev154_ok : FnOk Tryz.prog 154 fnsev154 := ⟨_, Tryz.func154, by kernel_rfl, by kernel_rfl, by kernel_rfl, by kernel_rfl, by kernel_rfl, by kernel_rfl⟩
noncomputable def fnsev111 : FnI := ⟨20, Tryz.f111.body.getD .skip, [.tmp 2], []⟩
theorem fnsev111_ok : FnOk Tryz.prog 111 fnsev111 := ⟨_, Tryz.func111, by kernel_rfl, by kernel_rfl, by kernel_rfl, by kernel_rfl, by kernel_rfl, by kernel_rfl⟩
noncomputable def fnsev141 : FnI := ⟨31, Tryz.f141.body.getD .skip, [.tmp 6], []⟩
theorem fnsev141_ok : FnOk Tryz.prog 141 fnsev141 := ⟨_, Tryz.func141, by kernel_rfl, by kernel_rfl, by kernel_rfl, by kernel_rfl, by kernel_rfl, by kernel_rfl⟩
noncomputable def fnsev107 : FnI := ⟨26, Tryz.f107.body.getD .skip, [.tmp 4], []⟩
theorem fnsev107_ok : FnOk Tryz.prog 107 fnsev107 := ⟨_, Tryz.func107, by kernel_rfl, by kernel_rfl, by kernel_rfl, by kernel_rfl, by kernel_rfl, by kernel_rfl⟩
noncomputable def fnsev137 : FnI := ⟨8, Tryz.f137.body.getD .skip, [.tmp 4], []⟩
theorem fnsev137_ok : FnOk Tryz.prog 137 fnsev137 := ⟨_, Tryz.func137, by kernel_rfl, by kernel_rfl, by kernel_rfl, by kernel_rfl, by kernel_rfl, by kernel_rfl⟩
noncomputable def fnsev136 : FnI := ⟨10, Tryz.f136.body.getD .skip, [.tmp 2, .tmp 3], []⟩
theorem fnsev136_ok : FnOk Tryz.prog 136 fnsev136 := ⟨_, Tryz.func136, by kernel_rfl, by kernel_rfl, by kernel_rfl, by kernel_rfl, by kernel_rfl, by kernel_rfl⟩
noncomputable def fnsev140 : FnI := ⟨13, Tryz.f140.body.getD .skip, [.tmp 2], []⟩
theorem fnsev140_ok : FnOk Tryz.prog 140 fnsev140 := ⟨_, Tryz.func140, by kernel_rfl, by kernel_rfl, by kernel_rfl, by kernel_rfl, by kernel_rfl, by kernel_rfl⟩
noncomputable def fnsev110 : FnI := ⟨12, Tryz.f110.body.getD .skip, [.tmp 2], []⟩
theorem fnsev110_ok : FnOk Tryz.prog 110 fnsev110 := ⟨_, Tryz.func110, by kernel_rfl, by kernel_rfl, by kernel_rfl, by kernel_rfl, by kernel_rfl, by kernel_rfl⟩
noncomputable def fnsev139 : FnI := ⟨5, Tryz.f139.body.getD .skip, [.tmp 2], []⟩
theorem fnsev139_ok : FnOk Tryz.prog 139 fnsev139 := ⟨_, Tryz.func139, by kernel_rfl, by kernel_rfl, by kernel_rfl, by kernel_rfl, by kernel_rfl, by kernel_rfl⟩
noncomputable def fnsev138 : FnI := ⟨19, Tryz.f138.body.getD .skip, [.tmp 4], []⟩
theorem fnsev138_ok : FnOk Tryz.prog 138 fnsev138 := ⟨_, Tryz.func138, by kernel_rfl, by kernel_rfl, by kernel_rfl, by kernel_rfl, by kernel_rfl, by kernel_rfl⟩
noncomputable def fnsev109 : FnI := ⟨13, Tryz.f109.body.getD .skip, [.tmp 2], []⟩
theorem fnsev109_ok : FnOk Tryz.prog 109 fnsev109 := ⟨_, Tryz.func109, by kernel_rfl, by kernel_rfl, by kernel_rfl, by kernel_rfl, by kernel_rfl, by kernel_rfl⟩
noncomputable def fnsev108 : FnI := ⟨29, Tryz.f108.body.getD .skip, [.tmp 2], []⟩
theorem fnsev108_ok : FnOk Tryz.prog 108 fnsev108 := ⟨_, Tryz.func108, by kernel_rfl, by kernel_rfl, by kernel_rfl, by kernel_rfl, by kernel_rfl, by kernel_rfl⟩
noncomputable def fnsev20 : FnI := ⟨6, Tryz.f20.body.getD .skip, [.tmp 2], []⟩
theorem fnsev20_ok : FnOk Tryz.prog 20 fnsev20 := ⟨_, Tryz.func20, by kernel_rfl, by kernel_rfl, by kernel_rfl, by kernel_rfl, by kernel_rfl, by kernel_rfl⟩
noncomputable def fnsev48 : FnI := ⟨16, Tryz.f48.body.getD .skip, [.tmp 2], []⟩
theorem fnsev48_ok : FnOk Tryz.prog 48 fnsev48 := ⟨_, Tryz.func48, by kernel_rfl, by kernel_rfl, by kernel_rfl, by kernel_rfl, by kernel_rfl, by kernel_rfl⟩
noncomputable def fnsev27 : FnI := ⟨15, Tryz.f27.body.getD .skip, [.cell 4 38], [(1, [(0, true), (1, true), (2, true), (3, true), (5, true), (6, true), (7, true), (4, false), (8, false), (9, false), (10, false)])]⟩
theorem fnsev27_ok : FnOk Tryz.prog 27 fnsev27 := ⟨_, Tryz.func27, by kernel_rfl, by kernel_rfl, by kernel_rfl, by kernel_rfl, by kernel_rfl, by kernel_rfl⟩
noncomputable def fnsev51 : FnI := ⟨38, Tryz.f51.body.getD .skip, [.cell 6 38], []⟩
theorem fnsev51_ok : FnOk Tryz.prog 51 fnsev51 := ⟨_, Tryz.func51, by kernel_rfl, by kernel_rfl, by kernel_rfl, by kernel_rfl, by kernel_rfl, by kernel_rfl⟩
noncomputable def fnsev34 : FnI := ⟨26, Tryz.f34.body.getD .skip, [.tmp 4], []⟩
theorem fnsev34_ok : FnOk Tryz.prog 34 fnsev34 := ⟨_, Tryz.func34, by kernel_rfl, by kernel_rfl, by kernel_rfl, by kernel_rfl, by kernel_rfl, by kernel_rfl⟩
noncomputable def fnsev60 : FnI := ⟨15, Tryz.f60.body.getD .skip, [.tmp 4], []⟩
theorem fnsev60_ok : FnOk Tryz.prog 60 fnsev60 := ⟨_, Tryz.func60, by kernel_rfl, by kernel_rfl, by kernel_rfl, by kernel_rfl, by kernel_rfl, by kernel_rfl⟩
noncomputable def fnsev59 : FnI := ⟨51, Tryz.f59.body.getD .skip, [.cell 4 52, .tmp 5], [(8, [(0, true), (1, true), (2, true), (3, true), (4, true), (5, true), (6, true), (7, false), (8, false), (9, false), (10, false), (11, false)]), (10, [(0, true), (1, true), (2, true), (3, true), (4, true), (5, true), (6, true), (7, true), (8, false), (9, false)])]⟩
theorem fnsev59_ok : FnOk Tryz.prog 59 fnsev59 := ⟨_, Tryz.func59, by kernel_rfl, by kernel_rfl, by kernel_rfl, by kernel_rfl, by kernel_rfl, by kernel_rfl⟩
noncomputable def fnsev75 : FnI := ⟨122, Tryz.f75.body.getD .skip, [.cell 6 115], [(28, [(0, true), (1, true), (2, true), (3, true), (4, false), (5, false), (6, false), (7, false), (8, false), (9, false), (10, false)])]⟩
theorem fnsev75_ok : FnOk Tryz.prog 75 fnsev75 := ⟨_, Tryz.func75, by kernel_rfl, by kernel_rfl, by kernel_rfl, by kernel_rfl, by kernel_rfl, by kernel_rfl⟩
noncomputable def fnsev92 : FnI := ⟨111, Tryz.f92.body.getD .skip, [.cell 4 52, .tmp 5], [(5, [(0, true), (1, true), (2, true), (3, true), (4, false), (5, false), (6, false), (7, false), (8, false)]), (7, [(0, true), (1, true), (2, true), (3, false), (4, false), (5, false), (6, false), (7, false), (8, false), (9, false)]), (9, [(0, true), (1, true), (2, true), (3, false), (4, false), (5, false), (6, false), (7, false), (8, true), (9, true), (10, false), (11, false)])]⟩
theorem fnsev92_ok : FnOk Tryz.prog 92 fnsev92 := ⟨_, Tryz.func92, by kernel_rfl, by kernel_rfl, by kernel_rfl, by kernel_rfl, by kernel_rfl, by kernel_rfl⟩
noncomputable def fnsev122 : FnI := ⟨18, Tryz.f122.body.getD .skip, [.tmp 4], []⟩
theorem fnsev122_ok : FnOk Tryz.prog 122 fnsev122 := ⟨_, Tryz.func122, by kernel_rfl, by kernel_rfl, by kernel_rfl, by kernel_rfl, by kernel_rfl, by kernel_rfl⟩
noncomputable def fnsev121 : FnI := ⟨36, Tryz.f121.body.getD .skip, [.tmp 4, .tmp 5], []⟩
theorem fnsev121_ok : FnOk Tryz.prog 121 fnsev121 := ⟨_, Tryz.func121, by kernel_rfl, by kernel_rfl, by kernel_rfl, by kernel_rfl, by kernel_rfl, by kernel_rfl⟩
noncomputable def fnsev120 : FnI := ⟨27, Tryz.f120.body.getD .skip, [.tmp 4, .tmp 5], []⟩
theorem fnsev120_ok : FnOk Tryz.prog 120 fnsev120 := ⟨_, Tryz.func120, by kernel_rfl, by kernel_rfl, by kernel_rfl, by kernel_rfl, by kernel_rfl, by kernel_rfl⟩
noncomputable def fnsev119 : FnI := ⟨27, Tryz.f119.body.getD .skip, [.tmp 4, .tmp 5], []⟩
theorem fnsev119_ok : FnOk Tryz.prog 119 fnsev119 := ⟨_, Tryz.func119, by kernel_rfl, by kernel_rfl, by kernel_rfl, by kernel_rfl, by kernel_rfl, by kernel_rfl⟩
noncomputable def fnsev118 : FnI := ⟨31, Tryz.f118.body.getD .skip, [.cell 4 52, .tmp 5], [(3, [(0, true), (1, true), (2, true), (3, true), (4, true), (5, false), (6, false), (7, false), (8, false), (9, false), (10, false), (11, true), (12, true), (13, false), (14, false)])]⟩
theorem fnsev118_ok : FnOk Tryz.prog 118 fnsev118 := ⟨_, Tryz.func118, by kernel_rfl, by kernel_rfl, by kernel_rfl, by kernel_rfl, by kernel_rfl, by kernel_rfl⟩
noncomputable def fnsev83 : FnI := ⟨40, Tryz.f83.body.getD .skip, [.tmp 4, .tmp 5], []⟩
theorem fnsev83_ok : FnOk Tryz.prog 83 fnsev83 := ⟨_, Tryz.func83, by kernel_rfl, by kernel_rfl, by kernel_rfl, by kernel_rfl, by kernel_rfl, by kernel_rfl⟩
noncomputable def fnsev104 : FnI := ⟨9, Tryz.f104.body.getD .skip, [.tmp 2], []⟩
theorem fnsev104_ok : FnOk Tryz.prog 104 fnsev104 := ⟨_, Tryz.func104, by kernel_rfl, by kernel_rfl, by kernel_rfl, by kernel_rfl, by kernel_rfl, by kernel_rfl⟩
noncomputable def fnsev117 : FnI := ⟨8, Tryz.f117.body.getD .skip, [.cell 2 52], []⟩
theorem fnsev117_ok : FnOk Tryz.prog 117 fnsev117 := ⟨_, Tryz.func117, by kernel_rfl, by kernel_rfl, by kernel_rfl, by kernel_rfl, by kernel_rfl, by kernel_rfl⟩
noncomputable def fnsev116 : FnI := ⟨32, Tryz.f116.body.getD .skip, [.tmp 4], []⟩
theorem fnsev116_ok : FnOk Tryz.prog 116 fnsev116 := ⟨_, Tryz.func116, by kernel_rfl, by kernel_rfl, by kernel_rfl, by kernel_rfl, by kernel_rfl, by kernel_rfl⟩
noncomputable def fnsev91 : FnI := ⟨8, Tryz.f91.body.getD .skip, [.tmp 4], []⟩
theorem fnsev91_ok : FnOk Tryz.prog 91 fnsev91 := ⟨_, Tryz.func91, by kernel_rfl, by kernel_rfl, by kernel_rfl, by kernel_rfl, by kernel_rfl, by kernel_rfl⟩
noncomputable def fnsev115 : FnI := ⟨9, Tryz.f115.body.getD .skip, [.tmp 4], []⟩
theorem fnsev115_ok : FnOk Tryz.prog 115 fnsev115 := ⟨_, Tryz.func115, by kernel_rfl, by kernel_rfl, by kernel_rfl, by kernel_rfl, by kernel_rfl, by kernel_rfl⟩
noncomputable def fnsev144 : FnI := ⟨19, Tryz.f144.body.getD .skip, [.tmp 4], [(4, [(0, true), (1, true), (2, false), (3, false), (4, false), (5, false)])]⟩
theorem fnsev144_ok : FnOk Tryz.prog 144 fnsev144 := ⟨_, Tryz.func144, by kernel_rfl, by kernel_rfl, by kernel_rfl, by kernel_rfl, by kernel_rfl, by kernel_rfl⟩
noncomputable def fnsev90 : FnI := ⟨10, Tryz.f90.body.getD .skip, [.cell 2 115], []⟩
theorem fnsev90_ok : FnOk Tryz.prog 90 fnsev90 := ⟨_, Tryz.func90, by kernel_rfl, by kernel_rfl, by kernel_rfl, by kernel_rfl, by kernel_rfl, by kernel_rfl⟩
noncomputable def fnsev62 : FnI := ⟨30, Tryz.f62.body.getD .skip, [.tmp 4, .tmp 5], []⟩
theorem fnsev62_ok : FnOk Tryz.prog 62 fnsev62 := ⟨_, Tryz.func62, by kernel_rfl, by kernel_rfl, by kernel_rfl, by kernel_rfl, by kernel_rfl, by kernel_rfl⟩
noncomputable def fnsev82 : FnI := ⟨8, Tryz.f82.body.getD .skip, [.tmp 2], []⟩
theorem fnsev82_ok : FnOk Tryz.prog 82 fnsev82 := ⟨_, Tryz.func82, by kernel_rfl, by kernel_rfl, by kernel_rfl, by kernel_rfl, by kernel_rfl, by kernel_rfl⟩
noncomputable def fnsev81 : FnI := ⟨10, Tryz.f81.body.getD .skip, [.tmp 6], []⟩
theorem fnsev81_ok : FnOk Tryz.prog 81 fnsev81 := ⟨_, Tryz.func81, by kernel_rfl, by kernel_rfl, by kernel_rfl, by kernel_rfl, by kernel_rfl, by kernel_rfl⟩
noncomputable def fnsev101 : FnI := ⟨19, Tryz.f101.body.getD .skip, [.tmp 4], []⟩
theorem fnsev101_ok : FnOk Tryz.prog 101 fnsev101 := ⟨_, Tryz.func101, by kernel_rfl, by kernel_rfl, by kernel_rfl, by kernel_rfl, by kernel_rfl, by kernel_rfl⟩
noncomputable def fnsev102 : FnI := ⟨15, Tryz.f102.body.getD .skip, [.tmp 4], []⟩
theorem fnsev102_ok : FnOk Tryz.prog 102 fnsev102 := ⟨_, Tryz.func102, by kernel_rfl, by kernel_rfl, by kernel_rfl, by kernel_rfl, by kernel_rfl, by kernel_rfl⟩
noncomputable def fnsev74 : FnI := ⟨11, Tryz.f74.body.getD .skip, [.tmp 2], []⟩
theorem fnsev74_ok : FnOk Tryz.prog 74 fnsev74 := ⟨_, Tryz.func74, by kernel_rfl, by kernel_rfl, by kernel_rfl, by kernel_rfl, by kernel_rfl, by kernel_rfl⟩
noncomputable def fnsev28 : FnI := ⟨34, Tryz.f28.body.getD .skip, [.tmp 4], []⟩
theorem fnsev28_ok : FnOk Tryz.prog 28 fnsev28 := ⟨_, Tryz.func28, by kernel_rfl, by kernel_rfl, by kernel_rfl, by kernel_rfl, by kernel_rfl, by kernel_rfl⟩
noncomputable def fnsev52 : FnI := ⟨21, Tryz.f52.body.getD .skip, [.tmp 4], []⟩
theorem fnsev52_ok : FnOk Tryz.prog 52 fnsev52 := ⟨_, Tryz.func52, by kernel_rfl, by kernel_rfl, by kernel_rfl, by kernel_rfl, by kernel_rfl, by kernel_rfl⟩
noncomputable def fnsev37 : FnI := ⟨38, Tryz.f37.body.getD .skip, [.tmp 4], []⟩
theorem fnsev37_ok : FnOk Tryz.prog 37 fnsev37 := ⟨_, Tryz.func37, by kernel_rfl, by kernel_rfl, by kernel_rfl, by kernel_rfl, by kernel_rfl, by kernel_rfl⟩
noncomputable def fnsev63 : FnI := ⟨42, Tryz.f63.body.getD .skip, [.tmp 4, .tmp 5], []⟩
theorem fnsev63_ok : FnOk Tryz.prog 63 fnsev63 := ⟨_, Tryz.func63, by kernel_rfl, by kernel_rfl, by kernel_rfl, by kernel_rfl, by kernel_rfl, by kernel_rfl⟩
noncomputable def FnsEvF : List (FuncId × FnI) := [(46, fnsev46),
  (45, fnsev45),
  (61, fnsev61),
  (80, fnsev80),
  (17, fnsev17),
  (44, fnsev44),
  (68, fnsev68),
  (86, fnsev86),
  (105, fnsev105),
  (73, fnsev73),
  (89, fnsev89),
  (114, fnsev114),
  (143, fnsev143),
  (103, fnsev103),
  (113, fnsev113),
  (85, fnsev85),
  (106, fnsev106),
  (135, fnsev135),
  (153, fnsev153),
  (134, fnsev134),
  (84, fnsev84),
  (67, fnsev67),
  (79, fnsev79),
  (78, fnsev78),
  (77, fnsev77),
  (100, fnsev100),
  (131, fnsev131),
  (95, fnsev95),
  (94, fnsev94),
  (129, fnsev129),
  (132, fnsev132),
  (128, fnsev128),
  (99, fnsev99),
  (133, fnsev133),
  (97, fnsev97),
  (152, fnsev152),
  (160, fnsev160),
  (167, fnsev167),
  (166, fnsev166),
  (168, fnsev168),
  (173, fnsev173),
  (96, fnsev96),
  (130, fnsev130),
  (151, fnsev151),
  (159, fnsev159),
  (98, fnsev98),
  (76, fnsev76),
  (93, fnsev93),
  (126, fnsev126),
  (149, fnsev149),
  (148, fnsev148),
  (157, fnsev157),
  (124, fnsev124),
  (125, fnsev125),
  (145, fnsev145),
  (123, fnsev123),
  (146, fnsev146),
  (23, fnsev23),
  (49, fnsev49),
  (19, fnsev19),
  (47, fnsev47),
  (69, fnsev69),
  (70, fnsev70),
  (25, fnsev25),
  (87, fnsev87),
  (112, fnsev112),
  (142, fnsev142),
  (154, fnsev154),
  (111, fnsev111),
  (141, fnsev141),
  (107, fnsev107),
  (137, fnsev137),
  (136, fnsev136),
  (140, fnsev140),
  (110, fnsev110),
  (139, fnsev139),
  (138, fnsev138),
  (109, fnsev109),
  (108, fnsev108),
  (20, fnsev20),
  (48, fnsev48),
  (27, fnsev27),
  (51, fnsev51),
  (34, fnsev34),
  (60, fnsev60),
  (59, fnsev59),
  (75, fnsev75),
  (92, fnsev92),
  (122, fnsev122),
  (121, fnsev121),
  (120, fnsev120),
  (119, fnsev119),
  (118, fnsev118),
  (83, fnsev83),
  (104, fnsev104),
  (117, fnsev117),
  (116, fnsev116),
  (91, fnsev91),
  (115, fnsev115),
  (144, fnsev144),
  (90, fnsev90),
  (62, fnsev62),
  (82, fnsev82),
  (81, fnsev81),
  (101, fnsev101),
  (102, fnsev102),
  (74, fnsev74),
  (28, fnsev28),
  (52, fnsev52),
  (37, fnsev37),
  (63, fnsev63)]
theorem jr (C : FuncId → List PV → Option SV) : FOk Tryz.prog ⟨TTab, FnsEvF, C⟩ := qj fnsev46_ok <|
  qj fnsev45_ok <|
  qj fnsev61_ok <|
  qj fnsev80_ok <|
  qj fnsev17_ok <|
  qj fnsev44_ok <|
  qj fnsev68_ok <|
  qj fnsev86_ok <|
  qj fnsev105_ok <|
  qj fnsev73_ok <|
  qj fnsev89_ok <|
  qj fnsev114_ok <|
  qj fnsev143_ok <|
  qj fnsev103_ok <|
  qj fnsev113_ok <|
  qj fnsev85_ok <|
  qj fnsev106_ok <|
  qj fnsev135_ok <|
  qj fnsev153_ok <|
  qj fnsev134_ok <|
  qj fnsev84_ok <|
  qj fnsev67_ok <|
  qj fnsev79_ok <|
  qj fnsev78_ok <|
  qj fnsev77_ok <|
  qj fnsev100_ok <|
  qj fnsev131_ok <|
  qj fnsev95_ok <|
  qj fnsev94_ok <|
  qj fnsev129_ok <|
  qj fnsev132_ok <|
  qj fnsev128_ok <|
  qj fnsev99_ok <|
  qj fnsev133_ok <|
  qj fnsev97_ok <|
  qj fnsev152_ok <|
  qj fnsev160_ok <|
  qj fnsev167_ok <|
  qj fnsev166_ok <|
  qj fnsev168_ok <|
  qj fnsev173_ok <|
  qj fnsev96_ok <|
  qj fnsev130_ok <|
  qj fnsev151_ok <|
  qj fnsev159_ok <|
  qj fnsev98_ok <|
  qj fnsev76_ok <|
  qj fnsev93_ok <|
  qj fnsev126_ok <|
  qj fnsev149_ok <|
  qj fnsev148_ok <|
  qj fnsev157_ok <|
  qj fnsev124_ok <|
  qj fnsev125_ok <|
  qj fnsev145_ok <|
  qj fnsev123_ok <|
  qj fnsev146_ok <|
  qj fnsev23_ok <|
  qj fnsev49_ok <|
  qj fnsev19_ok <|
  qj fnsev47_ok <|
  qj fnsev69_ok <|
  qj fnsev70_ok <|
  qj fnsev25_ok <|
  qj fnsev87_ok <|
  qj fnsev112_ok <|
  qj fnsev142_ok <|
  qj fnsev154_ok <|
  qj fnsev111_ok <|
  qj fnsev141_ok <|
  qj fnsev107_ok <|
  qj fnsev137_ok <|
  qj fnsev136_ok <|
  qj fnsev140_ok <|
  qj fnsev110_ok <|
  qj fnsev139_ok <|
  qj fnsev138_ok <|
  qj fnsev109_ok <|
  qj fnsev108_ok <|
  qj fnsev20_ok <|
  qj fnsev48_ok <|
  qj fnsev27_ok <|
  qj fnsev51_ok <|
  qj fnsev34_ok <|
  qj fnsev60_ok <|
  qj fnsev59_ok <|
  qj fnsev75_ok <|
  qj fnsev92_ok <|
  qj fnsev122_ok <|
  qj fnsev121_ok <|
  qj fnsev120_ok <|
  qj fnsev119_ok <|
  qj fnsev118_ok <|
  qj fnsev83_ok <|
  qj fnsev104_ok <|
  qj fnsev117_ok <|
  qj fnsev116_ok <|
  qj fnsev91_ok <|
  qj fnsev115_ok <|
  qj fnsev144_ok <|
  qj fnsev90_ok <|
  qj fnsev62_ok <|
  qj fnsev82_ok <|
  qj fnsev81_ok <|
  qj fnsev101_ok <|
  qj fnsev102_ok <|
  qj fnsev74_ok <|
  qj fnsev28_ok <|
  qj fnsev52_ok <|
  qj fnsev37_ok <|
  qj fnsev63_ok <| fok_nil
end Go.Proofs.YtppfcacnofjmdaaGreatDoor
