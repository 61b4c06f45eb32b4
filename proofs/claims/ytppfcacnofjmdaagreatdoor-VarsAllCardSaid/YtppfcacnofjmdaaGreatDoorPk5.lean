/-
  What the statement leans on, part 5: ExV, EvQ, EvR, SmallH, Within, FnsV, Dec, Itoa, VarsRuns, VarsAsks, VarH, FnsM, MkH, CombH, Fork, EvH, Nilc, EvJ, EvD, VarO, VarL, EvM, CopyH, EvL, VarsAll, LawKit0, LawL.
-/
import Derived.Shelf.Strconv.Itoa3
import Derived.Shelf.Small.Strs
import Derived.Shelf.Strconv.AtoiAll
import Derived.Test.YtppfcacnofjmdaaGreatDoorRows
import Derived.Lib.LaidTab
import Derived.LaidLaws
import Derived.LaidHandle
import Derived.Stop.Joined
import Derived.ChangeSame
import Derived.ChangeVars
import Derived.JoinedOf
import Derived.RowKitTokens
import Derived.Test.YtppfcacnofjmdaaGreatDoorPk1
import Derived.Test.YtppfcacnofjmdaaGreatDoorPk2
import Derived.Test.YtppfcacnofjmdaaGreatDoorPk3
import Derived.Test.YtppfcacnofjmdaaGreatDoorPk4
namespace Go.Proofs.YtppfcacnofjmdaaGreatDoor
set_option linter.unusedVariables false
set_option linter.unusedSimpArgs false
open Go.RowKit
set_option maxHeartbeats 4000000
theorem node_h (n : Nod) (S : List Itm) (lo : Nat) (g : List Giv) (hlo : lo + qL n.op = S.length) (hl : S.length ≤ 1000000) (hS : ∀ x ∈ S, x.Fit) (hgn : g.length ≤ 1000000) (hb : ∀ x ∈ g, x.bag.length ≤ 1000000) (hop : 1 ≤ n.op ∧ n.op ≤ 13) :
    zZ Tryz.prog 75 [.p (.agg n.pv), .view 1000000 5 lo S.length, .p (zP g)] (jz S) (.p (.agg (zc n (S.drop lo) g).pv)) (jz S) := by
  obtain ⟨op, val, attr⟩ := n
  simp only at hop hlo
  rcases (show op = 1 ∨ op = 2 ∨ op = 3 ∨ op = 4 ∨ op = 5 ∨ op = 6 ∨ op = 7 ∨ op = 8 ∨ op = 9 ∨ op = 10 ∨ op = 11 ∨ op = 12 ∨ op = 13 by omega) with rfl | rfl | rfl | rfl | rfl | rfl | rfl | rfl | rfl | rfl | rfl | rfl | rfl
  · exact node_lit val attr S lo g
  · exact node_attr val attr S lo g hgn hb
  · exact node_one_h val attr S lo g hlo hl
  · exact node_size_h val attr S lo g hlo hl
  · exact node_has_h val attr S lo g hlo hl hS
  · exact jE 6 (by omega) val attr S lo g hl (by omega) hS
  · exact jE 7 (by omega) val attr S lo g hl (by omega) hS
  · exact jE 8 (by omega) val attr S lo g hl (by omega) hS
  · exact jE 9 (by omega) val attr S lo g hl (by omega) hS
  · exact jE 10 (by omega) val attr S lo g hl (by omega) hS
  · exact jE 11 (by omega) val attr S lo g hl (by omega) hS
  · exact node_12_h val attr S lo g hl hlo hS
  · exact node_13_h val attr S lo g hl hlo hS
theorem stepS_op {l l' : List Bool} {n : Nod} (h : zy l n = some l') : (1 ≤ n.op ∧ n.op ≤ 13) ∧ qL n.op ≤ l.length := by
  unfold zy at h
  split at h
  · cases h
  · rename_i w hw
    split at h
    · rename_i hc
      have := operandsS_wants hw
      refine ⟨?_, by omega⟩
      unfold zu at hw
      repeat' split at hw
      all_goals first | omega | cases hw
    · cases h
theorem value_h (l : List Nod) (g : List Giv) (hf : ∀ x ∈ l, x.Fit) (hgf : ∀ x ∈ g, x.Fit) (hgn : g.length ≤ 1000000) (hb : ∀ x ∈ g, x.bag.length ≤ 1000000) : Holds Tryz.prog 59 [qar l, zP g] (.tup [.p (.agg (zk l g).1.pv), .p (pI (zk l g).2)]) [] := by
  refine .ofW ?_
  by_cases hl0 : l = []
  · subst hl0
    have e : zk [] g = (noVal, 1) := rfl
    rw [e]
    refine qR (T := TTab) qe Tryz.func59 (by kernel_rfl) rfl rfl rfl ?_
    (repeat refine qb ?_); refine qa ?_
    repeat (first | refine zR ?_ | refine zK ?_ | refine zM ?_ | refine zB ?_ | refine zA ?_ | refine zS ?_ | refine zL ?_)
    refine qc ?_
    (repeat refine qb ?_); refine qa ?_
    repeat (first | refine zR ?_ | refine zK ?_ | refine zM ?_ | refine zB ?_ | refine zA ?_ | refine zS ?_ | refine zL ?_)
    refine qc ?_
    (repeat refine qb ?_); refine qf rfl (fun h => ?_) (fun h => ?_)
    · (repeat refine qb ?_); refine qa ?_
      repeat (first | refine zR ?_ | refine zK ?_ | refine zM ?_ | refine zB ?_ | refine zA ?_ | refine zS ?_ | refine zL ?_)
      refine qc ?_
      (repeat refine qb ?_); refine qk ?_
      exact ⟨Or.inr rfl, _, _, [], _, Wk.refl _, rfl, rfl, .refl _, rfl, rfl⟩
    · cases h
  · have lm : (l.map Nod.pv).length = l.length := by simp
    have hpos : 0 < l.length := List.length_pos_iff.2 hl0
    refine qR (T := TTab) qe Tryz.func59 (by kernel_rfl) rfl rfl rfl ?_
    (repeat refine qb ?_); refine qa ?_
    repeat (first | refine zR ?_ | refine zK ?_ | refine zM ?_ | refine zB ?_ | refine zA ?_ | refine zS ?_ | refine zL ?_)
    refine qc ?_
    (repeat refine qb ?_); refine qa ?_
    repeat (first | refine zR ?_ | refine zK ?_ | refine zM ?_ | refine zB ?_ | refine zA ?_ | refine zS ?_ | refine zL ?_)
    rw [show (((l.map Nod.pv).length : Int) == 0) = false by rw [lm]; simp; exact hl0]
    repeat (first | refine zR ?_ | refine zK ?_ | refine zM ?_ | refine zB ?_ | refine zA ?_ | refine zS ?_ | refine zL ?_)
    refine qn rfl (qg rfl rfl rfl rfl (expr_h l hf) rfl rfl ?_)
    repeat (first | refine zR ?_ | refine zK ?_ | refine zM ?_ | refine zB ?_ | refine zA ?_ | refine zS ?_ | refine zL ?_)
    refine qc ?_
    (repeat refine qb ?_); refine qf rfl (fun h => ?_) (fun h => ?_)
    · have h0 : zo l ≠ 0 := by simpa using h
      have e : zk l g = (noVal, 1) := by unfold zk; rw [if_pos (.inr h0)]
      rw [e]
      (repeat refine qb ?_); refine qa ?_
      repeat (first | refine zR ?_ | refine zK ?_ | refine zM ?_ | refine zB ?_ | refine zA ?_ | refine zS ?_ | refine zL ?_)
      refine qc ?_
      (repeat refine qb ?_); refine qk ?_
      exact ⟨Or.inr rfl, _, _, [], _, Wk.refl _, rfl, rfl, .refl _, rfl, rfl⟩
    · have h0 : zo l = 0 := by simpa using h
      obtain ⟨hst, hl32⟩ := wd h0 hl0
      refine qm ?_
      (repeat refine qb ?_); refine qa ?_
      repeat (first | refine zR ?_ | refine zK ?_ | refine zM ?_ | refine zB ?_ | refine zA ?_ | refine zS ?_ | refine zL ?_)
      refine qc ?_
      (repeat refine qb ?_); refine qa ?_
      repeat (first | refine zR ?_ | refine zK ?_ | refine zM ?_ | refine zB ?_ | refine zA ?_ | refine zS ?_ | refine zL ?_)
      refine qc ?_
      (repeat refine qb ?_); refine ql ?_
      refine SW.wk (jP 6 900 115 5 rfl rfl) ?_
      refine SW.wk (qq [1, 4, 5, 6, 19, 20, 21] [(4, 4), (900, 0)] rfl rfl) ?_
      refine qO (fun m s => ∃ (k : Nat) (kk : Int) (S : List Itm) (made : List Bool), k ≤ l.length ∧ m = l.length - k ∧ kk = k ∧ S = jV g (l.take k) ∧ qW [] (l.take k) = some made ∧ S.length = made.length ∧ made.length ≤ k ∧ (∀ x ∈ S, x.Fit) ∧ s = ⟨51, [(1, .p (zP g)), (4, .ptr 4 0), (5, .p (pI 0)), (6, .row 0), (19, .p (qar l)), (20, .p (pI (l.map Nod.pv).length)), (21, .p (pI kk))], [(4, .cells (noVal.pv.map .p)), (0, .row 115 5 (S.map Itm.pv))]⟩) l.length ⟨0, 0, [], [], Nat.zero_le _, rfl, rfl, rfl, by simp [qW], rfl, Nat.le_refl _, by simp, rfl⟩ ?_
      rintro m s ⟨k, _, S, made, hk, rfl, rfl, hSe, ha, hSl, hml, hS, rfl⟩
      (repeat refine qb ?_); refine qa ?_
      repeat (first | refine zR ?_ | refine zK ?_ | refine zM ?_ | refine zB ?_ | refine zA ?_ | refine zS ?_ | refine zL ?_)
      refine qc ?_
      (repeat refine qb ?_); refine qf rfl (fun hlt => ?_) (fun hlt => ?_)
      · refine qm ?_
        rw [lm] at hlt
        simp only [decide_eq_true_eq] at hlt
        have hlt' : k < l.length := by omega
        have hst2 := stepsS_some hlt' ha
        cases hs : zy made l[k] with
        | none =>
          rw [hs] at hst2
          rw [stepsS_none (k + 1) hst2] at hst
          cases hst
        | some made' =>
          rw [hs] at hst2
          obtain ⟨hop, hopl⟩ := stepS_op hs
          obtain ⟨hSl', _⟩ := stepI_len (g := g) hSl hs
          have lmS : (S.map Itm.pv).length = S.length := by simp
          obtain ⟨left, hleft⟩ : ∃ left : Nat, left + qL l[k].op = S.length := ⟨S.length - qL l[k].op, by omega⟩
          have hml' := stepS_len hs
          (repeat refine qb ?_); refine ql ?_
          (repeat refine qb ?_); refine qa ?_
          repeat (first | refine zR ?_ | refine zK ?_ | refine zM ?_ | refine zB ?_ | refine zA ?_ | refine zS ?_ | refine zL ?_)
          refine qw qe rfl rfl (by rw [lm]; omega) rfl ?_
          rw [qJ hlt']
          repeat (first | refine zR ?_ | refine zK ?_ | refine zM ?_ | refine zB ?_ | refine zA ?_ | refine zS ?_ | refine zL ?_)
          refine qc ?_
          (repeat refine qb ?_); refine qa ?_
          repeat (first | refine zR ?_ | refine zK ?_ | refine zM ?_ | refine zB ?_ | refine zA ?_ | refine zS ?_ | refine zL ?_)
          refine qn rfl (qg rfl rfl rfl rfl (operands_h l[k].op) rfl rfl ?_)
          repeat (first | refine zR ?_ | refine zK ?_ | refine zM ?_ | refine zB ?_ | refine zA ?_ | refine zS ?_ | refine zL ?_)
          rw [show IntKind.i64.wrap (((S.map Itm.pv).length : Int) - (qL l[k].op : Int)) = (left : Int) by rw [lmS, IntWalk.i64_in _ (by omega)]; omega]
          refine qc ?_
          (repeat refine qb ?_); refine zl [0] [(0, true), (1, true), (2, true), (3, true), (4, true), (5, true), (6, true), (7, true), (8, false), (9, false), (10, false), (11, true)] (by kernel_rfl) (by kernel_rfl) (by kernel_rfl) ?_
          repeat (first | refine yR ?_ | refine yK ?_ | refine yM ?_ | refine yB ?_ | refine yA ?_ | refine yS ?_ | refine yL ?_)
          refine zi qe rfl rfl rfl (by rw [lmS]; omega) rfl ?_
          repeat (first | refine yR ?_ | refine yK ?_ | refine yM ?_ | refine yB ?_ | refine yA ?_ | refine yS ?_ | refine yL ?_)
          refine zi qe rfl rfl rfl (by rw [lmS]; omega) rfl ?_
          rw [lmS]
          repeat (first | refine yR ?_ | refine yK ?_ | refine yM ?_ | refine yB ?_ | refine yA ?_ | refine yS ?_ | refine yL ?_)
          refine qak rfl rfl rfl (zr [(0, 1000000)] rfl rfl rfl rfl rfl rfl (node_h l[k] S left g hleft (by omega) hS hgn hb hop) rfl rfl rfl ?_)
          repeat (first | refine yR ?_ | refine yK ?_ | refine yM ?_ | refine yB ?_ | refine yA ?_ | refine yS ?_ | refine yL ?_)
          refine qak rfl rfl rfl (ActOk.shrink 33 999 rfl rfl rfl rfl (qp qe rfl rfl rfl rfl rfl rfl rfl rfl rfl rfl rfl rfl rfl rfl rfl rfl (by simp only [List.length_append, List.length_take, List.length_map]; unfold reachBytes; simp; omega) (by simp only [List.length_append, List.length_take, List.length_map]; simp; omega) ?_))
          repeat (first | refine yR ?_ | refine yK ?_ | refine yM ?_ | refine yB ?_ | refine yA ?_ | refine yS ?_ | refine yL ?_)
          refine qaO ?_
          (repeat refine qb ?_); refine qa ?_
          repeat (first | refine zR ?_ | refine zK ?_ | refine zM ?_ | refine zB ?_ | refine zA ?_ | refine zS ?_ | refine zL ?_)
          refine qc ?_
          have hdrop : S.length - qL l[k].op = left := by omega
          refine ⟨_, _, ?_, qq [1, 4, 5, 6, 19, 20, 21] [(4, 4), (41, 0)] rfl rfl, k + 1, _, zJ g S l[k], made', hlt', rfl, qz hlt' (by omega), ?_, hst2, hSl', by omega, ?_, ?_⟩
          · omega
          · rw [hSe]; exact (foldl_take_succ (zJ g) [] l k hlt').symm
          · intro x hx
            unfold zJ at hx
            rcases List.mem_append.1 hx with hx | hx
            · exact hS x (List.mem_of_mem_take hx)
            · rw [List.mem_singleton] at hx
              subst hx
              exact nodeS_fit (hf _ (List.getElem_mem hlt')) (fun x hx => hS x (List.mem_of_mem_drop hx)) hgf hb
          · have e3 : (zJ g S l[k]).map Itm.pv = (S.map Itm.pv).take left ++ [(zc l[k] (S.drop left) g).pv] := by
              unfold zJ
              rw [hdrop, List.map_append, List.map_take]; rfl
            rw [e3]; rfl
      · refine qK ?_
        rw [lm] at hlt
        simp only [decide_eq_false_iff_not] at hlt
        have hkk : k = l.length := by omega
        subst hkk
        rw [List.take_length] at hSe
        obtain ⟨x, hx⟩ := evalI_one (g := g) h0 hl0
        rw [hx] at hSe
        subst hSe
        rw [zp h0 hl0 hx]
        (repeat refine qb ?_); refine zl [4] [(0, true), (1, true), (2, true), (3, true), (4, true), (5, true), (6, true), (7, true), (8, false), (9, true)] (by kernel_rfl) (by kernel_rfl) (by kernel_rfl) ?_
        repeat (first | refine yR ?_ | refine yK ?_ | refine yM ?_ | refine yB ?_ | refine yA ?_ | refine yS ?_ | refine yL ?_)
        refine zi qe rfl rfl rfl (by simp) rfl ?_
        repeat (first | refine yR ?_ | refine yK ?_ | refine yM ?_ | refine yB ?_ | refine yA ?_ | refine yS ?_ | refine yL ?_)
        refine zi qe rfl rfl (za rfl rfl rfl rfl rfl (show ([x].map Itm.pv).getD (Int.toNat 0) [] = x.pv from rfl) rfl) (by simp) rfl ?_
        repeat (first | refine yR ?_ | refine yK ?_ | refine yM ?_ | refine yB ?_ | refine yA ?_ | refine yS ?_ | refine yL ?_)
        refine zi qe rfl rfl rfl (by simp) rfl ?_
        repeat (first | refine yR ?_ | refine yK ?_ | refine yM ?_ | refine yB ?_ | refine yA ?_ | refine yS ?_ | refine yL ?_)
        refine zi qe rfl rfl (za rfl rfl rfl rfl rfl (show ([x].map Itm.pv).getD (Int.toNat 0) [] = x.pv from rfl) rfl) (by simp) rfl ?_
        repeat (first | refine yR ?_ | refine yK ?_ | refine yM ?_ | refine yB ?_ | refine yA ?_ | refine yS ?_ | refine yL ?_)
        refine qaO ?_
        (repeat refine qb ?_); refine qk ?_
        exact ⟨Or.inr rfl, _, _, [], _, Wk.refl _, rfl, rfl, .refl _, rfl, rfl⟩
theorem cond_h (l : List Nod) (g : List Giv) (hf : ∀ x ∈ l, x.Fit) (hgf : ∀ x ∈ g, x.Fit) (hgn : g.length ≤ 1000000) (hb : ∀ x ∈ g, x.bag.length ≤ 1000000) : Holds Tryz.prog 34 [qar l, zP g] (.p (pI (qam l g))) [] := by
  by_cases hl0 : l = []
  · subst hl0
    refine qA (ts := [4]) Tryz.func34 (by kernel_rfl) rfl rfl rfl ?_
    (repeat refine qb ?_); refine qa ?_
    repeat (first | refine zR ?_ | refine zK ?_ | refine zM ?_ | refine zB ?_ | refine zA ?_ | refine zS ?_ | refine zL ?_)
    refine qc ?_
    (repeat refine qb ?_); refine qa ?_
    repeat (first | refine zR ?_ | refine zK ?_ | refine zM ?_ | refine zB ?_ | refine zA ?_ | refine zS ?_ | refine zL ?_)
    refine qc ?_
    (repeat refine qb ?_); refine qf rfl (fun h => ?_) (fun h => ?_)
    · (repeat refine qb ?_); refine qa ?_
      repeat (first | refine zR ?_ | refine zK ?_ | refine zM ?_ | refine zB ?_ | refine zA ?_ | refine zS ?_ | refine zL ?_)
      refine qc ?_
      (repeat refine qb ?_); refine qk ?_
      exact zg rfl rfl
    · cases h
  · have lm : (l.map Nod.pv).length = l.length := by simp
    have e : qam l g = ww (zk l g) := by unfold qam; rw [if_neg hl0]
    have H := value_h l g hf hgf hgn hb
    rw [e]
    generalize zk l g = r at *
    refine qA (ts := [4]) Tryz.func34 (by kernel_rfl) rfl rfl rfl ?_
    (repeat refine qb ?_); refine qa ?_
    repeat (first | refine zR ?_ | refine zK ?_ | refine zM ?_ | refine zB ?_ | refine zA ?_ | refine zS ?_ | refine zL ?_)
    refine qc ?_
    (repeat refine qb ?_); refine qa ?_
    repeat (first | refine zR ?_ | refine zK ?_ | refine zM ?_ | refine zB ?_ | refine zA ?_ | refine zS ?_ | refine zL ?_)
    rw [show (((l.map Nod.pv).length : Int) == 0) = false by rw [lm]; simp; exact hl0]
    repeat (first | refine zR ?_ | refine zK ?_ | refine zM ?_ | refine zB ?_ | refine zA ?_ | refine zS ?_ | refine zL ?_)
    refine qc ?_
    (repeat refine qb ?_); refine qf rfl (fun h => ?_) (fun h => ?_)
    · cases h
    · refine qm ?_
      (repeat refine qb ?_); refine qa ?_
      repeat (first | refine zR ?_ | refine zK ?_ | refine zM ?_ | refine zB ?_ | refine zA ?_ | refine zS ?_ | refine zL ?_)
      refine qn rfl (qg rfl rfl rfl rfl (H) rfl rfl ?_)
      repeat (first | refine zR ?_ | refine zK ?_ | refine zM ?_ | refine zB ?_ | refine zA ?_ | refine zS ?_ | refine zL ?_)
      refine qc ?_
      (repeat refine qb ?_); refine qa ?_
      repeat (first | refine zR ?_ | refine zK ?_ | refine zM ?_ | refine zB ?_ | refine zA ?_ | refine zS ?_ | refine zL ?_)
      refine qc ?_
      (repeat refine qb ?_); refine ql ?_
      (repeat refine qb ?_); refine qa ?_
      repeat (first | refine zR ?_ | refine zK ?_ | refine zM ?_ | refine zB ?_ | refine zA ?_ | refine zS ?_ | refine zL ?_)
      refine qn rfl (qg rfl rfl rfl rfl ((is_h ⟨[], r.1, r.2⟩ 1).cv (.cons (CvL.agg (.cons (.nil 3) (.refl _))) (.refl _))) rfl rfl ?_)
      repeat (first | refine zR ?_ | refine zK ?_ | refine zM ?_ | refine zB ?_ | refine zA ?_ | refine zS ?_ | refine zL ?_)
      refine qc ?_
      (repeat refine qb ?_); refine qf rfl (fun h1 => ?_) (fun h1 => ?_)
      · (repeat refine qb ?_); refine qa ?_
        repeat (first | refine zR ?_ | refine zK ?_ | refine zM ?_ | refine zB ?_ | refine zA ?_ | refine zS ?_ | refine zL ?_)
        refine qc ?_
        (repeat refine qb ?_); refine qk ?_
        exact zg rfl (by unfold ww; rw [h1]; rfl)
      · (repeat refine qb ?_); refine qa ?_
        repeat (first | refine zR ?_ | refine zK ?_ | refine zM ?_ | refine zB ?_ | refine zA ?_ | refine zS ?_ | refine zL ?_)
        refine qn rfl (qg rfl rfl rfl rfl ((is_h ⟨[], r.1, r.2⟩ 0).cv (.cons (CvL.agg (.cons (.nil 3) (.refl _))) (.refl _))) rfl rfl ?_)
        repeat (first | refine zR ?_ | refine zK ?_ | refine zM ?_ | refine zB ?_ | refine zA ?_ | refine zS ?_ | refine zL ?_)
        refine qc ?_
        (repeat refine qb ?_); refine qf rfl (fun h2 => ?_) (fun h2 => ?_)
        · (repeat refine qb ?_); refine qa ?_
          repeat (first | refine zR ?_ | refine zK ?_ | refine zM ?_ | refine zB ?_ | refine zA ?_ | refine zS ?_ | refine zL ?_)
          refine qc ?_
          (repeat refine qb ?_); refine qk ?_
          exact zg rfl (by unfold ww; rw [h1, h2]; rfl)
        · refine qm ?_
          (repeat refine qb ?_); refine qa ?_
          repeat (first | refine zR ?_ | refine zK ?_ | refine zM ?_ | refine zB ?_ | refine zA ?_ | refine zS ?_ | refine zL ?_)
          refine qc ?_
          (repeat refine qb ?_); refine qk ?_
          exact zg rfl (by unfold ww; rw [h1, h2]; rfl)
end Go.Proofs.YtppfcacnofjmdaaGreatDoor
namespace Go.Proofs.YtppfcacnofjmdaaGreatDoor
set_option linter.unusedVariables false
set_option linter.unusedSimpArgs false
open Go.RowKit
end Go.Proofs.YtppfcacnofjmdaaGreatDoor
namespace Go.Proofs.YtppfcacnofjmdaaGreatDoor
set_option linter.unusedVariables false
set_option linter.unusedSimpArgs false
open Go.RowKit
inductive SubL {α : Type} (R : α → α → Prop) : List α → List α → Prop
  | nil : SubL R [] []
  | skip {a b : List α} {x : α} (h : SubL R a b) : SubL R a (x :: b)
  | keep {a b : List α} {x y : α} (hr : R y x) (h : SubL R a b) : SubL R (y :: a) (x :: b)
theorem SubL.len {α : Type} {R : α → α → Prop} {a b : List α} (h : SubL R a b) : a.length ≤ b.length := by
  induction h with
  | nil => exact Nat.le_refl _
  | skip h ih => simp; omega
  | keep hr h ih => simp; omega
def SubP : Nat → Pol → Pol → Prop
  | 0, _, _ => True
  | n + 1, q, p => q.id = p.id ∧ q.set = p.set ∧ q.alg = p.alg ∧ q.target = p.target ∧ q.rules = p.rules ∧ q.obls = p.obls ∧ SubL (SubP n) q.kids p.kids
theorem SubP.refl : ∀ (n : Nat) (p : Pol), SubP n p p
  | 0, _ => True.intro
  | n + 1, p => ⟨rfl, rfl, rfl, rfl, rfl, rfl, by
    have : ∀ l : List Pol, SubL (SubP n) l l := fun l => by
      induction l with
      | nil => exact .nil
      | cons x l ih => exact .keep (SubP.refl n x) ih
    exact this _⟩
theorem Wlk.le_trans {a b c : Wlk} (h : a.le b) (h' : b.le c) : a.le c := ⟨fun s hs => h'.1 s (h.1 s hs), Int.le_trans h.2 h'.2⟩
end Go.Proofs.YtppfcacnofjmdaaGreatDoor
namespace Go.Proofs.YtppfcacnofjmdaaGreatDoor
set_option linter.unusedVariables false
set_option linter.unusedSimpArgs false
open Go.RowKit
theorem nod_back {ok : Nat → Prop} {w : World} {cs : List Value} {x : Nod} (h : rPV ok w cs x.pv) (hf : x.Fit) : rNod w cs x :=
  ⟨rPV_plain (xs := [.int .i64 x.op, .int .i64 x.val.kind, .int .i64 x.val.n, .string x.val.s, .int .i64 x.attr.cat, .string x.attr.name, .bool x.attr.must]) h, hf⟩
theorem obl_back {ok : Nat → Prop} {w : World} {cs : List Value} {x : Obli} (h : rPV ok w cs x.pv) (hf : x.Fit) : rObl w cs x :=
  ⟨rPV_plain (xs := [.int .i64 x.on, .int .i64 x.kind, .string x.arg]) h, hf⟩
theorem slv_back {α : Type} {R : Rp α} {f : α → List PV} {z : Nat} {ok : Nat → Prop} {w : World} {u : Value} {l : List α} (h : RelP ok w (.sl z (l.map f)) u) (hf : ∀ x ∈ l, ∀ cs, rPV ok w cs (f x) → R w cs x) : SlV R z w u l := by
  obtain ⟨A, c, rfl, h1, h2, h3⟩ := sl_typed h hf
  exact ⟨A, c, rfl, h1, h2, h3⟩
theorem tar_back {ok : Nat → Prop} {w : World} {u : Value} {t : Tar} (h : RelP ok w (tgtP t) u) (hf : TarFit t) : SlV rTar' 1 w u t := by
  obtain ⟨A, c, rfl, h1, h2, h3⟩ := tgt_typed h hf
  exact ⟨A, c, rfl, h1, h2, h3⟩
theorem rul_back {ok : Nat → Prop} {w : World} {cs : List Value} {x : Rul} (h : rPV ok w cs (zt x)) (hf : RulFit x) : rRul w cs x := by
  have hl : cs.length = 5 := h.1
  match cs, hl with
  | [c0, c1, c2, c3, c4], _ =>
    have e0 := zX (h.2 0 _ c0 rfl rfl) rfl
    have e1 := zX (h.2 1 _ c1 rfl rfl) rfl
    subst e0 e1
    exact ⟨c2, c3, c4, rfl, hf.id, tar_back (h.2 2 _ c2 rfl rfl) hf.tgt, slv_back (h.2 3 _ c3 rfl rfl) (fun x hx cs hcs => nod_back hcs (hf.cond x hx)), slv_back (h.2 4 _ c4 rfl rfl) (fun x hx cs hcs => obl_back hcs (hf.obls x hx))⟩
theorem pol_back : ∀ {n : Nat} {ok : Nat → Prop} {w : World} {cs : List Value} {p : Pol}, rPV ok w cs (polP p) → PolF n p → rPolN n w cs p
  | n + 1, ok, w, cs, p, h, hf => by
    rw [zf] at h
    have hl : cs.length = 7 := h.1
    match cs, hl with
    | [c0, c1, c2, c3, c4, c5, c6], _ =>
      have e0 := zX (h.2 0 _ c0 rfl rfl) rfl
      have e1 := zX (h.2 1 _ c1 rfl rfl) rfl
      have e2 := zX (h.2 2 _ c2 rfl rfl) rfl
      subst e0 e1 e2
      exact ⟨c3, c4, c5, c6, rfl, hf.1.id, hf.2.1, tar_back (h.2 3 _ c3 rfl rfl) hf.1.tgt, slv_back (h.2 4 _ c4 rfl rfl) (fun x hx cs hcs => rul_back hcs (hf.1.rules x hx)),
        slv_back (h.2 5 _ c5 rfl rfl) (fun x hx cs hcs => pol_back hcs (hf.2.2 x hx)), slv_back (h.2 6 _ c6 rfl rfl) (fun x hx cs hcs => obl_back hcs (hf.1.obls x hx))⟩
theorem small_h {n : Nat} (p : Pol) (hf : PolF n p) : HoldsE Tryz.prog 15 [.agg (polP p)] (Upto p.sz 3000) :=
  .of_calls Tryz.func15 (by kernel_rfl) rfl fun w vs hl hr => by
    obtain ⟨u, rfl⟩ := one_arg hl
    have h := hr 0 _ u rfl rfl
    cases h with
    | @agg _ us hl2 hr2 =>
      have hp := pol_back ⟨hl2, hr2⟩ hf
      match n, hf, hp with
      | n + 1, _, ⟨c3, c4, c5, c6, he, h1⟩ =>
        subst he
        exact (small_any (n + 1) p w c3 c4 c5 c6 ⟨c3, c4, c5, c6, rfl, h1⟩).mono fun e w' h => upto_ok h
end Go.Proofs.YtppfcacnofjmdaaGreatDoor
namespace Go.Proofs.YtppfcacnofjmdaaGreatDoor
set_option linter.unusedVariables false
set_option linter.unusedSimpArgs false
open Go.RowKit
set_option maxHeartbeats 1000000
end Go.Proofs.YtppfcacnofjmdaaGreatDoor
namespace Go.Proofs.YtppfcacnofjmdaaGreatDoor
open Go.RowKit
noncomputable def fnsv29 : FnI := ⟨27, Tryz.f29.body.getD .skip, [.tmp 0], []⟩
theorem fnsv29_ok : FnOk Tryz.prog 29 fnsv29 := ⟨_, Tryz.func29, by kernel_rfl, by kernel_rfl, by kernel_rfl, by kernel_rfl, by kernel_rfl, by kernel_rfl⟩
noncomputable def fnsv32 : FnI := ⟨42, Tryz.f32.body.getD .skip, [.tmp 4], [(6, [(0, true), (1, true), (2, true), (3, true), (4, true), (5, true), (6, false), (7, false), (8, false), (9, false), (10, false), (11, false), (12, true), (13, true), (14, true), (15, true), (16, true), (17, true), (18, false), (19, false), (20, false), (21, false), (22, false), (23, false), (24, false)])]⟩
theorem fnsv32_ok : FnOk Tryz.prog 32 fnsv32 := ⟨_, Tryz.func32, by kernel_rfl, by kernel_rfl, by kernel_rfl, by kernel_rfl, by kernel_rfl, by kernel_rfl⟩
noncomputable def fnsv58 : FnI := ⟨26, Tryz.f58.body.getD .skip, [.tmp 4], [(6, [(0, true), (1, true), (2, true), (3, true), (4, true), (5, false), (6, false), (7, false), (8, false)])]⟩
theorem fnsv58_ok : FnOk Tryz.prog 58 fnsv58 := ⟨_, Tryz.func58, by kernel_rfl, by kernel_rfl, by kernel_rfl, by kernel_rfl, by kernel_rfl, by kernel_rfl⟩
noncomputable def fnsv30 : FnI := ⟨14, Tryz.f30.body.getD .skip, [.tmp 2, .tmp 3], []⟩
theorem fnsv30_ok : FnOk Tryz.prog 30 fnsv30 := ⟨_, Tryz.func30, by kernel_rfl, by kernel_rfl, by kernel_rfl, by kernel_rfl, by kernel_rfl, by kernel_rfl⟩
noncomputable def fnsv54 : FnI := ⟨46, Tryz.f54.body.getD .skip, [.tmp 4], []⟩
theorem fnsv54_ok : FnOk Tryz.prog 54 fnsv54 := ⟨_, Tryz.func54, by kernel_rfl, by kernel_rfl, by kernel_rfl, by kernel_rfl, by kernel_rfl, by kernel_rfl⟩
noncomputable def fnsv72 : FnI := ⟨18, Tryz.f72.body.getD .skip, [.tmp 4], []⟩
theorem fnsv72_ok : FnOk Tryz.prog 72 fnsv72 := ⟨_, Tryz.func72, by kernel_rfl, by kernel_rfl, by kernel_rfl, by kernel_rfl, by kernel_rfl, by kernel_rfl⟩
noncomputable def fnsv88 : FnI := ⟨8, Tryz.f88.body.getD .skip, [.tmp 2], []⟩
theorem fnsv88_ok : FnOk Tryz.prog 88 fnsv88 := ⟨_, Tryz.func88, by kernel_rfl, by kernel_rfl, by kernel_rfl, by kernel_rfl, by kernel_rfl, by kernel_rfl⟩
noncomputable def fnsv31 : FnI := ⟨8, Tryz.f31.body.getD .skip, [.tmp 4], []⟩
theorem fnsv31_ok : FnOk Tryz.prog 31 fnsv31 := ⟨_, Tryz.func31, by kernel_rfl, by kernel_rfl, by kernel_rfl, by kernel_rfl, by kernel_rfl, by kernel_rfl⟩
noncomputable def fnsv55 : FnI := ⟨19, Tryz.f55.body.getD .skip, [.tmp 4], []⟩
theorem fnsv55_ok : FnOk Tryz.prog 55 fnsv55 := ⟨_, Tryz.func55, by kernel_rfl, by kernel_rfl, by kernel_rfl, by kernel_rfl, by kernel_rfl, by kernel_rfl⟩
noncomputable def fnsv56 : FnI := ⟨16, Tryz.f56.body.getD .skip, [.tmp 3], []⟩
theorem fnsv56_ok : FnOk Tryz.prog 56 fnsv56 := ⟨_, Tryz.func56, by kernel_rfl, by kernel_rfl, by kernel_rfl, by kernel_rfl, by kernel_rfl, by kernel_rfl⟩
noncomputable def fnsv57 : FnI := ⟨26, Tryz.f57.body.getD .skip, [.tmp 4], [(6, [(0, true), (1, true), (2, true), (3, true), (4, true), (5, false), (6, false), (7, false), (8, false)])]⟩
theorem fnsv57_ok : FnOk Tryz.prog 57 fnsv57 := ⟨_, Tryz.func57, by kernel_rfl, by kernel_rfl, by kernel_rfl, by kernel_rfl, by kernel_rfl, by kernel_rfl⟩
noncomputable def fnsv71 : FnI := ⟨37, Tryz.f71.body.getD .skip, [.tmp 4], []⟩
theorem fnsv71_ok : FnOk Tryz.prog 71 fnsv71 := ⟨_, Tryz.func71, by kernel_rfl, by kernel_rfl, by kernel_rfl, by kernel_rfl, by kernel_rfl, by kernel_rfl⟩
noncomputable def fnsv17 : FnI := ⟨10, Tryz.f17.body.getD .skip, [.tmp 2], []⟩
theorem fnsv17_ok : FnOk Tryz.prog 17 fnsv17 := ⟨_, Tryz.func17, by kernel_rfl, by kernel_rfl, by kernel_rfl, by kernel_rfl, by kernel_rfl, by kernel_rfl⟩
noncomputable def fnsv44 : FnI := ⟨52, Tryz.f44.body.getD .skip, [.tmp 6], []⟩
theorem fnsv44_ok : FnOk Tryz.prog 44 fnsv44 := ⟨_, Tryz.func44, by kernel_rfl, by kernel_rfl, by kernel_rfl, by kernel_rfl, by kernel_rfl, by kernel_rfl⟩
noncomputable def fnsv68 : FnI := ⟨39, Tryz.f68.body.getD .skip, [.tmp 4], []⟩
theorem fnsv68_ok : FnOk Tryz.prog 68 fnsv68 := ⟨_, Tryz.func68, by kernel_rfl, by kernel_rfl, by kernel_rfl, by kernel_rfl, by kernel_rfl, by kernel_rfl⟩
noncomputable def fnsv86 : FnI := ⟨39, Tryz.f86.body.getD .skip, [.tmp 2], []⟩
theorem fnsv86_ok : FnOk Tryz.prog 86 fnsv86 := ⟨_, Tryz.func86, by kernel_rfl, by kernel_rfl, by kernel_rfl, by kernel_rfl, by kernel_rfl, by kernel_rfl⟩
noncomputable def fnsv105 : FnI := ⟨49, Tryz.f105.body.getD .skip, [.tmp 2], []⟩
theorem fnsv105_ok : FnOk Tryz.prog 105 fnsv105 := ⟨_, Tryz.func105, by kernel_rfl, by kernel_rfl, by kernel_rfl, by kernel_rfl, by kernel_rfl, by kernel_rfl⟩
noncomputable def fnsv73 : FnI := ⟨38, Tryz.f73.body.getD .skip, [.tmp 2], []⟩
theorem fnsv73_ok : FnOk Tryz.prog 73 fnsv73 := ⟨_, Tryz.func73, by kernel_rfl, by kernel_rfl, by kernel_rfl, by kernel_rfl, by kernel_rfl, by kernel_rfl⟩
noncomputable def fnsv89 : FnI := ⟨60, Tryz.f89.body.getD .skip, [.tmp 4, .tmp 5], [(11, [(0, true), (1, true), (2, true), (3, false), (4, false), (5, false), (6, false), (7, false), (8, false), (9, false)])]⟩
theorem fnsv89_ok : FnOk Tryz.prog 89 fnsv89 := ⟨_, Tryz.func89, by kernel_rfl, by kernel_rfl, by kernel_rfl, by kernel_rfl, by kernel_rfl, by kernel_rfl⟩
noncomputable def fnsv114 : FnI := ⟨37, Tryz.f114.body.getD .skip, [.tmp 2], []⟩
theorem fnsv114_ok : FnOk Tryz.prog 114 fnsv114 := ⟨_, Tryz.func114, by kernel_rfl, by kernel_rfl, by kernel_rfl, by kernel_rfl, by kernel_rfl, by kernel_rfl⟩
noncomputable def fnsv143 : FnI := ⟨16, Tryz.f143.body.getD .skip, [.tmp 2], []⟩
theorem fnsv143_ok : FnOk Tryz.prog 143 fnsv143 := ⟨_, Tryz.func143, by kernel_rfl, by kernel_rfl, by kernel_rfl, by kernel_rfl, by kernel_rfl, by kernel_rfl⟩
noncomputable def fnsv103 : FnI := ⟨61, Tryz.f103.body.getD .skip, [.tmp 2], []⟩
theorem fnsv103_ok : FnOk Tryz.prog 103 fnsv103 := ⟨_, Tryz.func103, by kernel_rfl, by kernel_rfl, by kernel_rfl, by kernel_rfl, by kernel_rfl, by kernel_rfl⟩
noncomputable def fnsv113 : FnI := ⟨35, Tryz.f113.body.getD .skip, [.tmp 2, .tmp 3], []⟩
theorem fnsv113_ok : FnOk Tryz.prog 113 fnsv113 := ⟨_, Tryz.func113, by kernel_rfl, by kernel_rfl, by kernel_rfl, by kernel_rfl, by kernel_rfl, by kernel_rfl⟩
noncomputable def fnsv85 : FnI := ⟨21, Tryz.f85.body.getD .skip, [.tmp 2], []⟩
theorem fnsv85_ok : FnOk Tryz.prog 85 fnsv85 := ⟨_, Tryz.func85, by kernel_rfl, by kernel_rfl, by kernel_rfl, by kernel_rfl, by kernel_rfl, by kernel_rfl⟩
noncomputable def fnsv106 : FnI := ⟨25, Tryz.f106.body.getD .skip, [.tmp 2], []⟩
theorem fnsv106_ok : FnOk Tryz.prog 106 fnsv106 := ⟨_, Tryz.func106, by kernel_rfl, by kernel_rfl, by kernel_rfl, by kernel_rfl, by kernel_rfl, by kernel_rfl⟩
noncomputable def fnsv135 : FnI := ⟨22, Tryz.f135.body.getD .skip, [.tmp 2], []⟩
theorem fnsv135_ok : FnOk Tryz.prog 135 fnsv135 := ⟨_, Tryz.func135, by kernel_rfl, by kernel_rfl, by kernel_rfl, by kernel_rfl, by kernel_rfl, by kernel_rfl⟩
noncomputable def fnsv153 : FnI := ⟨21, Tryz.f153.body.getD .skip, [.tmp 2], []⟩
theorem fnsv153_ok : FnOk Tryz.prog 153 fnsv153 := ⟨_, Tryz.func153, by kernel_rfl, by kernel_rfl, by kernel_rfl, by kernel_rfl, by kernel_rfl, by kernel_rfl⟩
noncomputable def fnsv134 : FnI := ⟨9, Tryz.f134.body.getD .skip, [.tmp 2], []⟩
theorem fnsv134_ok : FnOk Tryz.prog 134 fnsv134 := ⟨_, Tryz.func134, by kernel_rfl, by kernel_rfl, by kernel_rfl, by kernel_rfl, by kernel_rfl, by kernel_rfl⟩
noncomputable def fnsv84 : FnI := ⟨28, Tryz.f84.body.getD .skip, [.tmp 4], []⟩
theorem fnsv84_ok : FnOk Tryz.prog 84 fnsv84 := ⟨_, Tryz.func84, by kernel_rfl, by kernel_rfl, by kernel_rfl, by kernel_rfl, by kernel_rfl, by kernel_rfl⟩
noncomputable def fnsv67 : FnI := ⟨68, Tryz.f67.body.getD .skip, [.tmp 4], []⟩
theorem fnsv67_ok : FnOk Tryz.prog 67 fnsv67 := ⟨_, Tryz.func67, by kernel_rfl, by kernel_rfl, by kernel_rfl, by kernel_rfl, by kernel_rfl, by kernel_rfl⟩
noncomputable def fnsv53 : FnI := ⟨13, Tryz.f53.body.getD .skip, [.cell 2 28], []⟩
theorem fnsv53_ok : FnOk Tryz.prog 53 fnsv53 := ⟨_, Tryz.func53, by kernel_rfl, by kernel_rfl, by kernel_rfl, by kernel_rfl, by kernel_rfl, by kernel_rfl⟩
noncomputable def fnsv61 : FnI := ⟨61, Tryz.f61.body.getD .skip, [.cell 2 28, .tmp 3, .tmp 4], [(11, [(0, true), (1, true), (2, true), (3, true), (4, true), (5, true), (6, true), (7, true), (8, true), (9, false), (10, false), (11, false)])]⟩
theorem fnsv61_ok : FnOk Tryz.prog 61 fnsv61 := ⟨_, Tryz.func61, by kernel_rfl, by kernel_rfl, by kernel_rfl, by kernel_rfl, by kernel_rfl, by kernel_rfl⟩
noncomputable def fnsv80 : FnI := ⟨19, Tryz.f80.body.getD .skip, [], []⟩
theorem fnsv80_ok : FnOk Tryz.prog 80 fnsv80 := ⟨_, Tryz.func80, by kernel_rfl, by kernel_rfl, by kernel_rfl, by kernel_rfl, by kernel_rfl, by kernel_rfl⟩
noncomputable def fnsv79 : FnI := ⟨7, Tryz.f79.body.getD .skip, [], []⟩
theorem fnsv79_ok : FnOk Tryz.prog 79 fnsv79 := ⟨_, Tryz.func79, by kernel_rfl, by kernel_rfl, by kernel_rfl, by kernel_rfl, by kernel_rfl, by kernel_rfl⟩
noncomputable def fnsv78 : FnI := ⟨13, Tryz.f78.body.getD .skip, [.cell 2 143], [(1, [(0, true), (1, true), (2, true), (3, true), (4, false), (5, false), (6, false), (7, false), (8, false), (9, false), (10, false)])]⟩
theorem fnsv78_ok : FnOk Tryz.prog 78 fnsv78 := ⟨_, Tryz.func78, by kernel_rfl, by kernel_rfl, by kernel_rfl, by kernel_rfl, by kernel_rfl, by kernel_rfl⟩
noncomputable def fnsv77 : FnI := ⟨39, Tryz.f77.body.getD .skip, [.cell 4 28], []⟩
theorem fnsv77_ok : FnOk Tryz.prog 77 fnsv77 := ⟨_, Tryz.func77, by kernel_rfl, by kernel_rfl, by kernel_rfl, by kernel_rfl, by kernel_rfl, by kernel_rfl⟩
noncomputable def fnsv100 : FnI := ⟨28, Tryz.f100.body.getD .skip, [.tmp 2], []⟩
theorem fnsv100_ok : FnOk Tryz.prog 100 fnsv100 := ⟨_, Tryz.func100, by kernel_rfl, by kernel_rfl, by kernel_rfl, by kernel_rfl, by kernel_rfl, by kernel_rfl⟩
noncomputable def fnsv131 : FnI := ⟨10, Tryz.f131.body.getD .skip, [], []⟩
theorem fnsv131_ok : FnOk Tryz.prog 131 fnsv131 := ⟨_, Tryz.func131, by kernel_rfl, by kernel_rfl, by kernel_rfl, by kernel_rfl, by kernel_rfl, by kernel_rfl⟩
noncomputable def fnsv95 : FnI := ⟨25, Tryz.f95.body.getD .skip, [.tmp 2], []⟩
theorem fnsv95_ok : FnOk Tryz.prog 95 fnsv95 := ⟨_, Tryz.func95, by kernel_rfl, by kernel_rfl, by kernel_rfl, by kernel_rfl, by kernel_rfl, by kernel_rfl⟩
noncomputable def fnsv94 : FnI := ⟨28, Tryz.f94.body.getD .skip, [.tmp 4], []⟩
theorem fnsv94_ok : FnOk Tryz.prog 94 fnsv94 := ⟨_, Tryz.func94, by kernel_rfl, by kernel_rfl, by kernel_rfl, by kernel_rfl, by kernel_rfl, by kernel_rfl⟩
noncomputable def fnsv129 : FnI := ⟨18, Tryz.f129.body.getD .skip, [.tmp 4], []⟩
theorem fnsv129_ok : FnOk Tryz.prog 129 fnsv129 := ⟨_, Tryz.func129, by kernel_rfl, by kernel_rfl, by kernel_rfl, by kernel_rfl, by kernel_rfl, by kernel_rfl⟩
noncomputable def fnsv132 : FnI := ⟨29, Tryz.f132.body.getD .skip, [.tmp 4], []⟩
theorem fnsv132_ok : FnOk Tryz.prog 132 fnsv132 := ⟨_, Tryz.func132, by kernel_rfl, by kernel_rfl, by kernel_rfl, by kernel_rfl, by kernel_rfl, by kernel_rfl⟩
noncomputable def fnsv128 : FnI := ⟨19, Tryz.f128.body.getD .skip, [.tmp 4], []⟩
theorem fnsv128_ok : FnOk Tryz.prog 128 fnsv128 := ⟨_, Tryz.func128, by kernel_rfl, by kernel_rfl, by kernel_rfl, by kernel_rfl, by kernel_rfl, by kernel_rfl⟩
noncomputable def fnsv99 : FnI := ⟨51, Tryz.f99.body.getD .skip, [.tmp 2], []⟩
theorem fnsv99_ok : FnOk Tryz.prog 99 fnsv99 := ⟨_, Tryz.func99, by kernel_rfl, by kernel_rfl, by kernel_rfl, by kernel_rfl, by kernel_rfl, by kernel_rfl⟩
noncomputable def fnsv133 : FnI := ⟨23, Tryz.f133.body.getD .skip, [.cell 4 59], []⟩
theorem fnsv133_ok : FnOk Tryz.prog 133 fnsv133 := ⟨_, Tryz.func133, by kernel_rfl, by kernel_rfl, by kernel_rfl, by kernel_rfl, by kernel_rfl, by kernel_rfl⟩
noncomputable def fnsv97 : FnI := ⟨10, Tryz.f97.body.getD .skip, [], []⟩
theorem fnsv97_ok : FnOk Tryz.prog 97 fnsv97 := ⟨_, Tryz.func97, by kernel_rfl, by kernel_rfl, by kernel_rfl, by kernel_rfl, by kernel_rfl, by kernel_rfl⟩
noncomputable def fnsv152 : FnI := ⟨25, Tryz.f152.body.getD .skip, [.tmp 6], []⟩
theorem fnsv152_ok : FnOk Tryz.prog 152 fnsv152 := ⟨_, Tryz.func152, by kernel_rfl, by kernel_rfl, by kernel_rfl, by kernel_rfl, by kernel_rfl, by kernel_rfl⟩
noncomputable def fnsv160 : FnI := ⟨52, Tryz.f160.body.getD .skip, [.tmp 4, .tmp 5], [(10, [(0, true), (1, true), (2, true), (3, true), (4, false), (5, false)])]⟩
theorem fnsv160_ok : FnOk Tryz.prog 160 fnsv160 := ⟨_, Tryz.func160, by kernel_rfl, by kernel_rfl, by kernel_rfl, by kernel_rfl, by kernel_rfl, by kernel_rfl⟩
noncomputable def fnsv167 : FnI := ⟨56, Tryz.f167.body.getD .skip, [.cell 2 52], []⟩
theorem fnsv167_ok : FnOk Tryz.prog 167 fnsv167 := ⟨_, Tryz.func167, by kernel_rfl, by kernel_rfl, by kernel_rfl, by kernel_rfl, by kernel_rfl, by kernel_rfl⟩
noncomputable def fnsv166 : FnI := ⟨17, Tryz.f166.body.getD .skip, [.cell 2 54], []⟩
theorem fnsv166_ok : FnOk Tryz.prog 166 fnsv166 := ⟨_, Tryz.func166, by kernel_rfl, by kernel_rfl, by kernel_rfl, by kernel_rfl, by kernel_rfl, by kernel_rfl⟩
noncomputable def fnsv168 : FnI := ⟨36, Tryz.f168.body.getD .skip, [.tmp 4, .cell 5 56], [(9, [(0, true), (1, true), (2, false), (3, false)])]⟩
theorem fnsv168_ok : FnOk Tryz.prog 168 fnsv168 := ⟨_, Tryz.func168, by kernel_rfl, by kernel_rfl, by kernel_rfl, by kernel_rfl, by kernel_rfl, by kernel_rfl⟩
noncomputable def fnsv173 : FnI := ⟨15, Tryz.f173.body.getD .skip, [.tmp 2], []⟩
theorem fnsv173_ok : FnOk Tryz.prog 173 fnsv173 := ⟨_, Tryz.func173, by kernel_rfl, by kernel_rfl, by kernel_rfl, by kernel_rfl, by kernel_rfl, by kernel_rfl⟩
noncomputable def fnsv96 : FnI := ⟨23, Tryz.f96.body.getD .skip, [.tmp 2], []⟩
theorem fnsv96_ok : FnOk Tryz.prog 96 fnsv96 := ⟨_, Tryz.func96, by kernel_rfl, by kernel_rfl, by kernel_rfl, by kernel_rfl, by kernel_rfl, by kernel_rfl⟩
noncomputable def fnsv130 : FnI := ⟨24, Tryz.f130.body.getD .skip, [.tmp 2], []⟩
theorem fnsv130_ok : FnOk Tryz.prog 130 fnsv130 := ⟨_, Tryz.func130, by kernel_rfl, by kernel_rfl, by kernel_rfl, by kernel_rfl, by kernel_rfl, by kernel_rfl⟩
noncomputable def fnsv151 : FnI := ⟨20, Tryz.f151.body.getD .skip, [.tmp 2], []⟩
theorem fnsv151_ok : FnOk Tryz.prog 151 fnsv151 := ⟨_, Tryz.func151, by kernel_rfl, by kernel_rfl, by kernel_rfl, by kernel_rfl, by kernel_rfl, by kernel_rfl⟩
noncomputable def fnsv159 : FnI := ⟨32, Tryz.f159.body.getD .skip, [.cell 2 62], []⟩
theorem fnsv159_ok : FnOk Tryz.prog 159 fnsv159 := ⟨_, Tryz.func159, by kernel_rfl, by kernel_rfl, by kernel_rfl, by kernel_rfl, by kernel_rfl, by kernel_rfl⟩
noncomputable def fnsv98 : FnI := ⟨33, Tryz.f98.body.getD .skip, [.tmp 4], []⟩
theorem fnsv98_ok : FnOk Tryz.prog 98 fnsv98 := ⟨_, Tryz.func98, by kernel_rfl, by kernel_rfl, by kernel_rfl, by kernel_rfl, by kernel_rfl, by kernel_rfl⟩
noncomputable def fnsv76 : FnI := ⟨52, Tryz.f76.body.getD .skip, [.tmp 2, .tmp 3, .tmp 4], []⟩
theorem fnsv76_ok : FnOk Tryz.prog 76 fnsv76 := ⟨_, Tryz.func76, by kernel_rfl, by kernel_rfl, by kernel_rfl, by kernel_rfl, by kernel_rfl, by kernel_rfl⟩
noncomputable def fnsv93 : FnI := ⟨106, Tryz.f93.body.getD .skip, [.cell 2 143, .tmp 3], [(30, [(0, true), (1, true), (2, false), (3, false), (4, false), (5, false), (6, false)])]⟩
theorem fnsv93_ok : FnOk Tryz.prog 93 fnsv93 := ⟨_, Tryz.func93, by kernel_rfl, by kernel_rfl, by kernel_rfl, by kernel_rfl, by kernel_rfl, by kernel_rfl⟩
noncomputable def fnsv126 : FnI := ⟨50, Tryz.f126.body.getD .skip, [.tmp 2, .tmp 3], []⟩
theorem fnsv126_ok : FnOk Tryz.prog 126 fnsv126 := ⟨_, Tryz.func126, by kernel_rfl, by kernel_rfl, by kernel_rfl, by kernel_rfl, by kernel_rfl, by kernel_rfl⟩
noncomputable def fnsv149 : FnI := ⟨38, Tryz.f149.body.getD .skip, [.tmp 2, .tmp 3], [(3, [(0, true), (1, true), (4, true), (5, true), (2, false), (3, true), (6, false), (7, false), (8, false), (9, false)])]⟩
theorem fnsv149_ok : FnOk Tryz.prog 149 fnsv149 := ⟨_, Tryz.func149, by kernel_rfl, by kernel_rfl, by kernel_rfl, by kernel_rfl, by kernel_rfl, by kernel_rfl⟩
noncomputable def fnsv148 : FnI := ⟨17, Tryz.f148.body.getD .skip, [.tmp 2], []⟩
theorem fnsv148_ok : FnOk Tryz.prog 148 fnsv148 := ⟨_, Tryz.func148, by kernel_rfl, by kernel_rfl, by kernel_rfl, by kernel_rfl, by kernel_rfl, by kernel_rfl⟩
noncomputable def fnsv157 : FnI := ⟨20, Tryz.f157.body.getD .skip, [.tmp 2], []⟩
theorem fnsv157_ok : FnOk Tryz.prog 157 fnsv157 := ⟨_, Tryz.func157, by kernel_rfl, by kernel_rfl, by kernel_rfl, by kernel_rfl, by kernel_rfl, by kernel_rfl⟩
noncomputable def fnsv124 : FnI := ⟨9, Tryz.f124.body.getD .skip, [.tmp 2], []⟩
theorem fnsv124_ok : FnOk Tryz.prog 124 fnsv124 := ⟨_, Tryz.func124, by kernel_rfl, by kernel_rfl, by kernel_rfl, by kernel_rfl, by kernel_rfl, by kernel_rfl⟩
noncomputable def fnsv125 : FnI := ⟨35, Tryz.f125.body.getD .skip, [.tmp 4, .tmp 5], []⟩
theorem fnsv125_ok : FnOk Tryz.prog 125 fnsv125 := ⟨_, Tryz.func125, by kernel_rfl, by kernel_rfl, by kernel_rfl, by kernel_rfl, by kernel_rfl, by kernel_rfl⟩
noncomputable def fnsv145 : FnI := ⟨20, Tryz.f145.body.getD .skip, [.tmp 4], []⟩
theorem fnsv145_ok : FnOk Tryz.prog 145 fnsv145 := ⟨_, Tryz.func145, by kernel_rfl, by kernel_rfl, by kernel_rfl, by kernel_rfl, by kernel_rfl, by kernel_rfl⟩
noncomputable def fnsv123 : FnI := ⟨12, Tryz.f123.body.getD .skip, [.tmp 2], []⟩
theorem fnsv123_ok : FnOk Tryz.prog 123 fnsv123 := ⟨_, Tryz.func123, by kernel_rfl, by kernel_rfl, by kernel_rfl, by kernel_rfl, by kernel_rfl, by kernel_rfl⟩
noncomputable def fnsv146 : FnI := ⟨17, Tryz.f146.body.getD .skip, [.tmp 2], []⟩
theorem fnsv146_ok : FnOk Tryz.prog 146 fnsv146 := ⟨_, Tryz.func146, by kernel_rfl, by kernel_rfl, by kernel_rfl, by kernel_rfl, by kernel_rfl, by kernel_rfl⟩
noncomputable def FnsVF : List (FuncId × FnI) := [(29, fnsv29),
  (32, fnsv32),
  (58, fnsv58),
  (30, fnsv30),
  (54, fnsv54),
  (72, fnsv72),
  (88, fnsv88),
  (31, fnsv31),
  (55, fnsv55),
  (56, fnsv56),
  (57, fnsv57),
  (71, fnsv71),
  (17, fnsv17),
  (44, fnsv44),
  (68, fnsv68),
  (86, fnsv86),
  (105, fnsv105),
  (73, fnsv73),
  (89, fnsv89),
  (114, fnsv114),
  (143, fnsv143),
  (103, fnsv103),
  (113, fnsv113),
  (85, fnsv85),
  (106, fnsv106),
  (135, fnsv135),
  (153, fnsv153),
  (134, fnsv134),
  (84, fnsv84),
  (67, fnsv67),
  (53, fnsv53),
  (61, fnsv61),
  (80, fnsv80),
  (79, fnsv79),
  (78, fnsv78),
  (77, fnsv77),
  (100, fnsv100),
  (131, fnsv131),
  (95, fnsv95),
  (94, fnsv94),
  (129, fnsv129),
  (132, fnsv132),
  (128, fnsv128),
  (99, fnsv99),
  (133, fnsv133),
  (97, fnsv97),
  (152, fnsv152),
  (160, fnsv160),
  (167, fnsv167),
  (166, fnsv166),
  (168, fnsv168),
  (173, fnsv173),
  (96, fnsv96),
  (130, fnsv130),
  (151, fnsv151),
  (159, fnsv159),
  (98, fnsv98),
  (76, fnsv76),
  (93, fnsv93),
  (126, fnsv126),
  (149, fnsv149),
  (148, fnsv148),
  (157, fnsv157),
  (124, fnsv124),
  (125, fnsv125),
  (145, fnsv145),
  (123, fnsv123),
  (146, fnsv146)]
theorem FnsVF_ok (C : FuncId → List PV → Option SV) : FOk Tryz.prog ⟨TTab, FnsVF, C⟩ := qj fnsv29_ok <|
  qj fnsv32_ok <|
  qj fnsv58_ok <|
  qj fnsv30_ok <|
  qj fnsv54_ok <|
  qj fnsv72_ok <|
  qj fnsv88_ok <|
  qj fnsv31_ok <|
  qj fnsv55_ok <|
  qj fnsv56_ok <|
  qj fnsv57_ok <|
  qj fnsv71_ok <|
  qj fnsv17_ok <|
  qj fnsv44_ok <|
  qj fnsv68_ok <|
  qj fnsv86_ok <|
  qj fnsv105_ok <|
  qj fnsv73_ok <|
  qj fnsv89_ok <|
  qj fnsv114_ok <|
  qj fnsv143_ok <|
  qj fnsv103_ok <|
  qj fnsv113_ok <|
  qj fnsv85_ok <|
  qj fnsv106_ok <|
  qj fnsv135_ok <|
  qj fnsv153_ok <|
  qj fnsv134_ok <|
  qj fnsv84_ok <|
  qj fnsv67_ok <|
  qj fnsv53_ok <|
  qj fnsv61_ok <|
  qj fnsv80_ok <|
  qj fnsv79_ok <|
  qj fnsv78_ok <|
  qj fnsv77_ok <|
  qj fnsv100_ok <|
  qj fnsv131_ok <|
  qj fnsv95_ok <|
  qj fnsv94_ok <|
  qj fnsv129_ok <|
  qj fnsv132_ok <|
  qj fnsv128_ok <|
  qj fnsv99_ok <|
  qj fnsv133_ok <|
  qj fnsv97_ok <|
  qj fnsv152_ok <|
  qj fnsv160_ok <|
  qj fnsv167_ok <|
  qj fnsv166_ok <|
  qj fnsv168_ok <|
  qj fnsv173_ok <|
  qj fnsv96_ok <|
  qj fnsv130_ok <|
  qj fnsv151_ok <|
  qj fnsv159_ok <|
  qj fnsv98_ok <|
  qj fnsv76_ok <|
  qj fnsv93_ok <|
  qj fnsv126_ok <|
  qj fnsv149_ok <|
  qj fnsv148_ok <|
  qj fnsv157_ok <|
  qj fnsv124_ok <|
  qj fnsv125_ok <|
  qj fnsv145_ok <|
  qj fnsv123_ok <|
  qj fnsv146_ok <| fok_nil
end Go.Proofs.YtppfcacnofjmdaaGreatDoor
namespace Go.Proofs.YtppfcacnofjmdaaGreatDoor
set_option linter.unusedVariables false
set_option linter.unusedSimpArgs false
def decF : Nat → Nat → List UInt8
  | 0, _ => []
  | f + 1, u => bif Nat.blt u 10 then [UInt8.ofNat (48 + u)] else decF f (u / 10) ++ [UInt8.ofNat (48 + u % 10)]
def itoaF (n : Int) : List UInt8 := match n with
  | .ofNat u => decF 20 u
  | .negSucc u => 45 :: decF 20 (u + 1)
end Go.Proofs.YtppfcacnofjmdaaGreatDoor
namespace Go.Proofs.YtppfcacnofjmdaaGreatDoor
open Go.RowKit Go.Shelf
def laysItoa_ren : Go.Shelf.Ren := ⟨fun | 171 => 172 | 243 => 176 | 246 => 177 | 283 => 178 | 284 => 179 | 285 => 180 | 286 => 181 | 129 => 183 | 317 => 182 | 318 => 184 | 319 => 185 | 320 => 186 | 337 => 187 | 338 => 188 | n => n, fun | 3 => 3 | 9 => 9 | 2 => 2 | 4 => 4 | 171 => 251 | 0 => 0 | 53 => 236 | 37 => 214 | 5 => 5 | 173 => 254 | 212 => 257 | 51 => 258 | 20 => 20 | 213 => 259 | 46 => 239 | 232 => 262 | 233 => 263 | n => n, fun | 17 => 3 | 18 => 4 | 19 => 5 | n => n⟩
theorem laysItoa : Go.Proofs.LaysM.n171 Tryz.prog laysItoa_ren := {
  mixed := by kernel_rfl
  f129 := Tryz.func183.trans (congrArg some (by kernel_rfl))
  f171 := Tryz.func172.trans (congrArg some (by kernel_rfl))
  f243 := Tryz.func176.trans (congrArg some (by kernel_rfl))
  f246 := Tryz.func177.trans (congrArg some (by kernel_rfl))
  f283 := Tryz.func178.trans (congrArg some (by kernel_rfl))
  f284 := Tryz.func179.trans (congrArg some (by kernel_rfl))
  f285 := Tryz.func180.trans (congrArg some (by kernel_rfl))
  f286 := Tryz.func181.trans (congrArg some (by kernel_rfl))
  f317 := Tryz.func182.trans (congrArg some (by kernel_rfl))
  f318 := Tryz.func184.trans (congrArg some (by kernel_rfl))
  f319 := Tryz.func185.trans (congrArg some (by kernel_rfl))
  f320 := Tryz.func186.trans (congrArg some (by kernel_rfl))
  f337 := Tryz.func187.trans (congrArg some (by kernel_rfl))
  f338 := Tryz.func188.trans (congrArg some (by kernel_rfl))
  t0 := Tryz.underlying0
  a0 := Tryz.isAgg0
  z0 := Tryz.sizeOf0
  v0 := Tryz.zeroValue0
  t2 := Tryz.underlying2
  a2 := Tryz.isAgg2
  z2 := Tryz.sizeOf2
  v2 := Tryz.zeroValue2
  t3 := Tryz.underlying3
  a3 := Tryz.isAgg3
  z3 := Tryz.sizeOf3
  v3 := Tryz.zeroValue3
  t4 := Tryz.underlying4
  a4 := Tryz.isAgg4
  z4 := Tryz.sizeOf4
  v4 := Tryz.zeroValue4
  t5 := Tryz.underlying5
  a5 := Tryz.isAgg5
  z5 := Tryz.sizeOf5
  v5 := Tryz.zeroValue5
  t9 := Tryz.underlying9
  a9 := Tryz.isAgg9
  z9 := Tryz.sizeOf9
  v9 := Tryz.zeroValue9
  t20 := Tryz.underlying20
  a20 := Tryz.isAgg20
  z20 := Tryz.sizeOf20
  v20 := Tryz.zeroValue20
  t37 := Tryz.underlying214
  a37 := Tryz.isAgg214
  z37 := Tryz.sizeOf214
  v37 := Tryz.zeroValue214
  t46 := Tryz.underlying239
  a46 := Tryz.isAgg239
  z46 := Tryz.sizeOf239
  v46 := Tryz.zeroValue239
  t51 := Tryz.underlying258
  a51 := Tryz.isAgg258
  z51 := Tryz.sizeOf258
  v51 := Tryz.zeroValue258
  t53 := Tryz.underlying236
  a53 := Tryz.isAgg236
  z53 := Tryz.sizeOf236
  v53 := Tryz.zeroValue236
  t171 := Tryz.underlying251
  a171 := Tryz.isAgg251
  z171 := Tryz.sizeOf251
  v171 := Tryz.zeroValue251
  t173 := Tryz.underlying254
  a173 := Tryz.isAgg254
  z173 := Tryz.sizeOf254
  v173 := Tryz.zeroValue254
  t212 := Tryz.underlying257
  a212 := Tryz.isAgg257
  z212 := Tryz.sizeOf257
  v212 := Tryz.zeroValue257
  t213 := Tryz.underlying259
  a213 := Tryz.isAgg259
  z213 := Tryz.sizeOf259
  t232 := Tryz.underlying262
  a232 := Tryz.isAgg262
  z232 := Tryz.sizeOf262
  v232 := Tryz.zeroValue262
  t233 := Tryz.underlying263
  a233 := Tryz.isAgg263
  z233 := Tryz.sizeOf263
  v233 := Tryz.zeroValue263
  g17 := by kernel_rfl
  g18 := by kernel_rfl
  g19 := by kernel_rfl
  i0 := by kernel_rfl
  i2 := by kernel_rfl
  i3 := by kernel_rfl
  i4 := by kernel_rfl
  i5 := by kernel_rfl
  i9 := by kernel_rfl
  i20 := by kernel_rfl
  i37 := by kernel_rfl
  i46 := by kernel_rfl
  i51 := by kernel_rfl
  i53 := by kernel_rfl
  i171 := by kernel_rfl
  i173 := by kernel_rfl
  i212 := by kernel_rfl
  i232 := by kernel_rfl
  i233 := by kernel_rfl
  m17 := by kernel_rfl
  m18 := by kernel_rfl
  m19 := by kernel_rfl
}
def laysIdx_ren : Go.Shelf.Ren := ⟨fun | 137 => 127 | 217 => 150 | 266 => 158 | n => n, fun | 9 => 9 | 5 => 5 | 3 => 3 | n => n, fun | n => n⟩
theorem laysIdx : Go.Proofs.Lays.n137 Tryz.prog laysIdx_ren := {
  mixed := by kernel_rfl
  f137 := Tryz.func127.trans (congrArg some (by kernel_rfl))
  f217 := Tryz.func150.trans (congrArg some (by kernel_rfl))
  f266 := Tryz.func158.trans (congrArg some (by kernel_rfl))
  t3 := Tryz.underlying3
  a3 := Tryz.isAgg3
  z3 := Tryz.sizeOf3
  v3 := Tryz.zeroValue3
  t5 := Tryz.underlying5
  a5 := Tryz.isAgg5
  z5 := Tryz.sizeOf5
  v5 := Tryz.zeroValue5
  t9 := Tryz.underlying9
  a9 := Tryz.isAgg9
  z9 := Tryz.sizeOf9
  v9 := Tryz.zeroValue9
}
def laysAtoi_ren : Go.Shelf.Ren := ⟨fun | 172 => 147 | 244 => 155 | 245 => 156 | 247 => 161 | 279 => 162 | 280 => 163 | 281 => 164 | 282 => 165 | 287 => 169 | 316 => 170 | 171 => 172 | 205 => 171 | 321 => 174 | 322 => 175 | 243 => 176 | 246 => 177 | 283 => 178 | 284 => 179 | 285 => 180 | 286 => 181 | 129 => 183 | 317 => 182 | 318 => 184 | 319 => 185 | 320 => 186 | 337 => 187 | 338 => 188 | n => n, fun | 9 => 9 | 3 => 3 | 75 => 211 | 76 => 212 | 4 => 4 | 5 => 5 | 167 => 226 | 37 => 214 | 0 => 0 | 85 => 227 | 2 => 2 | 168 => 229 | 53 => 236 | 175 => 237 | 46 => 239 | 210 => 241 | 127 => 246 | 145 => 249 | 143 => 247 | 21 => 21 | 171 => 251 | 173 => 254 | 212 => 257 | 51 => 258 | 20 => 20 | 213 => 259 | 232 => 262 | 233 => 263 | 80 => 164 | n => n, fun | 15 => 1 | 16 => 2 | 17 => 3 | 18 => 4 | 19 => 5 | n => n⟩
theorem laysAtoi : Go.Proofs.LaysC.n172 Tryz.prog laysAtoi_ren := {
  mixed := by kernel_rfl
  f129 := Tryz.func183.trans (congrArg some (by kernel_rfl))
  f171 := Tryz.func172.trans (congrArg some (by kernel_rfl))
  f172 := Tryz.func147.trans (congrArg some (by kernel_rfl))
  f205 := Tryz.func171.trans (congrArg some (by kernel_rfl))
  f243 := Tryz.func176.trans (congrArg some (by kernel_rfl))
  f244 := Tryz.func155.trans (congrArg some (by kernel_rfl))
  f245 := Tryz.func156.trans (congrArg some (by kernel_rfl))
  f246 := Tryz.func177.trans (congrArg some (by kernel_rfl))
  f247 := Tryz.func161.trans (congrArg some (by kernel_rfl))
  f279 := Tryz.func162.trans (congrArg some (by kernel_rfl))
  f280 := Tryz.func163.trans (congrArg some (by kernel_rfl))
  f281 := Tryz.func164.trans (congrArg some (by kernel_rfl))
  f282 := Tryz.func165.trans (congrArg some (by kernel_rfl))
  f283 := Tryz.func178.trans (congrArg some (by kernel_rfl))
  f284 := Tryz.func179.trans (congrArg some (by kernel_rfl))
  f285 := Tryz.func180.trans (congrArg some (by kernel_rfl))
  f286 := Tryz.func181.trans (congrArg some (by kernel_rfl))
  f287 := Tryz.func169.trans (congrArg some (by kernel_rfl))
  f316 := Tryz.func170.trans (congrArg some (by kernel_rfl))
  f317 := Tryz.func182.trans (congrArg some (by kernel_rfl))
  f318 := Tryz.func184.trans (congrArg some (by kernel_rfl))
  f319 := Tryz.func185.trans (congrArg some (by kernel_rfl))
  f320 := Tryz.func186.trans (congrArg some (by kernel_rfl))
  f321 := Tryz.func174.trans (congrArg some (by kernel_rfl))
  f322 := Tryz.func175.trans (congrArg some (by kernel_rfl))
  f337 := Tryz.func187.trans (congrArg some (by kernel_rfl))
  f338 := Tryz.func188.trans (congrArg some (by kernel_rfl))
  t0 := Tryz.underlying0
  a0 := Tryz.isAgg0
  z0 := Tryz.sizeOf0
  v0 := Tryz.zeroValue0
  t2 := Tryz.underlying2
  a2 := Tryz.isAgg2
  z2 := Tryz.sizeOf2
  v2 := Tryz.zeroValue2
  t3 := Tryz.underlying3
  a3 := Tryz.isAgg3
  z3 := Tryz.sizeOf3
  v3 := Tryz.zeroValue3
  t4 := Tryz.underlying4
  a4 := Tryz.isAgg4
  z4 := Tryz.sizeOf4
  v4 := Tryz.zeroValue4
  t5 := Tryz.underlying5
  a5 := Tryz.isAgg5
  z5 := Tryz.sizeOf5
  v5 := Tryz.zeroValue5
  t9 := Tryz.underlying9
  a9 := Tryz.isAgg9
  z9 := Tryz.sizeOf9
  v9 := Tryz.zeroValue9
  t20 := Tryz.underlying20
  a20 := Tryz.isAgg20
  z20 := Tryz.sizeOf20
  v20 := Tryz.zeroValue20
  t21 := Tryz.underlying21
  a21 := Tryz.isAgg21
  z21 := Tryz.sizeOf21
  v21 := Tryz.zeroValue21
  t37 := Tryz.underlying214
  a37 := Tryz.isAgg214
  z37 := Tryz.sizeOf214
  v37 := Tryz.zeroValue214
  t46 := Tryz.underlying239
  a46 := Tryz.isAgg239
  z46 := Tryz.sizeOf239
  v46 := Tryz.zeroValue239
  t51 := Tryz.underlying258
  a51 := Tryz.isAgg258
  z51 := Tryz.sizeOf258
  v51 := Tryz.zeroValue258
  t53 := Tryz.underlying236
  a53 := Tryz.isAgg236
  z53 := Tryz.sizeOf236
  v53 := Tryz.zeroValue236
  t75 := Tryz.underlying211
  a75 := Tryz.isAgg211
  z75 := Tryz.sizeOf211
  v75 := Tryz.zeroValue211
  t76 := Tryz.underlying212
  a76 := Tryz.isAgg212
  z76 := Tryz.sizeOf212
  v76 := Tryz.zeroValue212
  t85 := Tryz.underlying227
  a85 := Tryz.isAgg227
  z85 := Tryz.sizeOf227
  v85 := Tryz.zeroValue227
  t127 := Tryz.underlying246
  a127 := Tryz.isAgg246
  z127 := Tryz.sizeOf246
  v127 := Tryz.zeroValue246
  t143 := Tryz.underlying247
  a143 := Tryz.isAgg247
  z143 := Tryz.sizeOf247
  v143 := Tryz.zeroValue247
  t145 := Tryz.underlying249
  a145 := Tryz.isAgg249
  z145 := Tryz.sizeOf249
  v145 := Tryz.zeroValue249
  t167 := Tryz.underlying226
  a167 := Tryz.isAgg226
  z167 := Tryz.sizeOf226
  v167 := Tryz.zeroValue226
  t168 := Tryz.underlying229
  a168 := Tryz.isAgg229
  z168 := Tryz.sizeOf229
  v168 := Tryz.zeroValue229
  t171 := Tryz.underlying251
  a171 := Tryz.isAgg251
  z171 := Tryz.sizeOf251
  v171 := Tryz.zeroValue251
  t173 := Tryz.underlying254
  a173 := Tryz.isAgg254
  z173 := Tryz.sizeOf254
  v173 := Tryz.zeroValue254
  t175 := Tryz.underlying237
  a175 := Tryz.isAgg237
  z175 := Tryz.sizeOf237
  v175 := Tryz.zeroValue237
  t210 := Tryz.underlying241
  a210 := Tryz.isAgg241
  z210 := Tryz.sizeOf241
  v210 := Tryz.zeroValue241
  t212 := Tryz.underlying257
  a212 := Tryz.isAgg257
  z212 := Tryz.sizeOf257
  v212 := Tryz.zeroValue257
  t213 := Tryz.underlying259
  a213 := Tryz.isAgg259
  z213 := Tryz.sizeOf259
  t232 := Tryz.underlying262
  a232 := Tryz.isAgg262
  z232 := Tryz.sizeOf262
  v232 := Tryz.zeroValue262
  t233 := Tryz.underlying263
  a233 := Tryz.isAgg263
  z233 := Tryz.sizeOf263
  v233 := Tryz.zeroValue263
  g15 := by kernel_rfl
  g16 := by kernel_rfl
  g17 := by kernel_rfl
  g18 := by kernel_rfl
  g19 := by kernel_rfl
  t80 := Tryz.underlying164
  a80 := Tryz.isAgg164
  z80 := Tryz.sizeOf164
  v80 := Tryz.zeroValue164
  i0 := by kernel_rfl
  i2 := by kernel_rfl
  i3 := by kernel_rfl
  i4 := by kernel_rfl
  i5 := by kernel_rfl
  i9 := by kernel_rfl
  i20 := by kernel_rfl
  i21 := by kernel_rfl
  i37 := by kernel_rfl
  i46 := by kernel_rfl
  i51 := by kernel_rfl
  i53 := by kernel_rfl
  i75 := by kernel_rfl
  i76 := by kernel_rfl
  i80 := by kernel_rfl
  i85 := by kernel_rfl
  i127 := by kernel_rfl
  i143 := by kernel_rfl
  i145 := by kernel_rfl
  i167 := by kernel_rfl
  i168 := by kernel_rfl
  i171 := by kernel_rfl
  i173 := by kernel_rfl
  i175 := by kernel_rfl
  i210 := by kernel_rfl
  i212 := by kernel_rfl
  i232 := by kernel_rfl
  i233 := by kernel_rfl
  m15 := by kernel_rfl
  m16 := by kernel_rfl
  m17 := by kernel_rfl
  m18 := by kernel_rfl
  m19 := by kernel_rfl
  c0 := by kernel_rfl
  c2 := by kernel_rfl
  c3 := by kernel_rfl
  c4 := by kernel_rfl
  c5 := by kernel_rfl
  c9 := by kernel_rfl
  c20 := by kernel_rfl
  c21 := by kernel_rfl
  c37 := by kernel_rfl
  c46 := by kernel_rfl
  c51 := by kernel_rfl
  c53 := by kernel_rfl
  c75 := by kernel_rfl
  c76 := by kernel_rfl
  c80 := by kernel_rfl
  c85 := by kernel_rfl
  c127 := by kernel_rfl
  c143 := by kernel_rfl
  c145 := by kernel_rfl
  c167 := by kernel_rfl
  c168 := by kernel_rfl
  c171 := by kernel_rfl
  c173 := by kernel_rfl
  c175 := by kernel_rfl
  c210 := by kernel_rfl
  c212 := by kernel_rfl
  c213 := by kernel_rfl
  c232 := by kernel_rfl
  c233 := by kernel_rfl
}
theorem decF_eq : ∀ (f u : Nat), u < 10 ^ f → 0 < f → decF f u = Lib.decDigits u
  | f + 1, u, h, _ => by
    rw [decF, Lib.decDigits]
    by_cases hu : u < 10
    · rw [show Nat.blt u 10 = true from by simpa [Nat.blt, Nat.lt_iff_add_one_le] using hu, dif_pos hu]; rfl
    · rw [show Nat.blt u 10 = false from by cases hb : Nat.blt u 10 with | false => rfl | true => exact absurd (by simpa [Nat.blt, Nat.lt_iff_add_one_le] using hb) hu, dif_neg hu, cond_false]
      have hf : 0 < f := by
        rcases Nat.eq_zero_or_pos f with h0 | h0
        · subst h0; exact absurd (by simpa using h) hu
        · exact h0
      rw [decF_eq f (u / 10) (by rw [Nat.pow_succ] at h; omega) hf]
theorem itoaF_eq (n : Int) (h : -9223372036854775808 ≤ n ∧ n ≤ 9223372036854775807) : itoaF n = Lib.itoa n := by
  unfold itoaF Lib.itoa
  cases n with
  | ofNat u =>
    have : u < 10 ^ 20 := by have := h.2; simp only [Int.ofNat_eq_natCast] at this; omega
    rw [if_neg (by simp)]
    exact decF_eq 20 u this (by decide)
  | negSucc u =>
    have : u + 1 < 10 ^ 20 := by have := h.1; simp only [Int.negSucc_eq] at this; omega
    rw [if_pos (Int.negSucc_lt_zero u)]
    exact congrArg _ (decF_eq 20 (u + 1) this (by decide))
theorem itoa_h (n : Int) (h : -9223372036854775808 ≤ n ∧ n ≤ 9223372036854775807) : Holds Tryz.prog 172 [.v (.int .i64 n)] (.p (.v (.string ⟨⟨itoaF n⟩⟩))) [] :=
  .of_callsG Tryz.func172 (by kernel_rfl) rfl (fun w vs hg hl hr => by
    have hv : ∃ u, vs = [u] := by
      match vs, hl with
      | [u], _ => exact ⟨u, rfl⟩
    obtain ⟨u, rfl⟩ := hv
    have h1 := zX (hr 0 _ u rfl rfl) rfl
    subst h1
    have htab : Lib.TabIs Tryz.prog w "internal/strconv.uint64pow10" .u64 Lib.pow10Tab := by
      obtain ⟨ty, m, hb⟩ := hg 3 _ rfl
      unfold Lib.TabIs World.var?
      rw [show Tryz.prog.globalNamed "internal/strconv.uint64pow10" = some 3 from by kernel_rfl]
      simp only [Option.bind_some, hb]
      rfl
    refine (Any.strconv_Itoa laysItoa n h.1 h.2 w htab).mono fun e w' ⟨h1, k, os, h2⟩ => ⟨?_, ?_⟩
    · rw [h1, ← itoaF_eq n h]; rfl
    · subst h2
      refine ⟨rfl, rfl, rfl, by simp [Sort.grow], fun b hb => ?_⟩
      show (_ ++ os)[b]? = _
      rw [Array.getElem?_append_left (by exact hb)]; rfl) rfl fun w => .p (.v rfl)
theorem indexByte_h (s : ByteArray) (c : Int) : Holds Tryz.prog 127 [.v (.string s), .v (.int .u8 c)] (.p (.v (.int .i64 (Lib.indexByte s.data.toList c.toNat.toUInt8)))) [] :=
  .of_callsG Tryz.func127 (by kernel_rfl) rfl (fun w vs hg hl hr => by
    have hv : ∃ u v, vs = [u, v] := by
      match vs, hl with
      | [u, v], _ => exact ⟨u, v, rfl⟩
    obtain ⟨u, v, rfl⟩ := hv
    have h1 := zX (hr 0 _ u rfl rfl) rfl
    have h2 := zX (hr 1 _ v rfl rfl) rfl
    subst h1 h2
    exact (Any.strings_IndexByte laysIdx s c w).mono fun e w' ⟨h1, h2⟩ => ⟨h1, h2 ▸ Below.refl _ _⟩) rfl fun w => .p (.v rfl)
theorem atoi_h (s : ByteArray) (hs : s.size ≤ 9223372036854775806) (v : Int) (h : Lib.atoiAll s.data.toList = .ok v) : Holds Tryz.prog 147 [.v (.string s)] (.tup [.p (.v (.int .i64 v)), .p (.v .nilIface)]) [] :=
  .of_callsG Tryz.func147 (by kernel_rfl) rfl (fun w vs hg hl hr => by
    have hv : ∃ u, vs = [u] := by
      match vs, hl with
      | [u], _ => exact ⟨u, rfl⟩
    obtain ⟨u, rfl⟩ := hv
    have h1 := zX (hr 0 _ u rfl rfl) rfl
    subst h1
    refine (Any.strconv_Atoi_ok laysAtoi s hs v h w).mono fun e w' ⟨h1, h2⟩ => ⟨h1, ?_⟩
    rcases h2 with rfl | ⟨t, rfl⟩
    · exact Below.refl _ _
    · exact Lib.bytesWorld_below _ _ _) rfl fun w => .tup (us := [.int .i64 v, .nilIface]) rfl fun i s u hs hu => by
      match i, hs, hu with
      | 0, hs, hu => cases hs; cases hu; exact .p (.v rfl)
      | 1, hs, hu => cases hs; cases hu; exact .p (.v rfl)
def ctab (f : FuncId) (ps : List PV) : Option SV := bif Nat.beq f 172 then (match ps with
  | [.v (.int .i64 n)] => bif ible (-9223372036854775808) n && ible n 9223372036854775807 then some (.p (.v (.string ⟨⟨itoaF n⟩⟩))) else none
  | _ => none)
  else bif Nat.beq f 127 then (match ps with
  | [.v (.string s), .v (.int .u8 c)] => some (.p (.v (.int .i64 (Lib.indexByte s.data.toList c.toNat.toUInt8))))
  | _ => none)
  else bif Nat.beq f 147 then (match ps with
  | [.v (.string s)] => bif Nat.ble s.size 9223372036854775806 then (match Lib.atoiAll s.data.toList with
    | .ok v => some (.tup [.p (.v (.int .i64 v)), .p (.v .nilIface)])
    | _ => none) else none
  | _ => none)
  else none
theorem zU (F : List (FuncId × FnI)) : TabOk Tryz.prog ⟨TTab, F, ctab⟩ := fun f ps r h0 => by
  have h : ctab f ps = some r := h0
  clear h0
  unfold ctab at h
  cases hf : Nat.beq f 172 with
  | false =>
    rw [hf, cond_false] at h
    cases hf : Nat.beq f 127 with
    | true =>
      rw [hf, cond_true] at h
      have e := Nat.eq_of_beq_eq_true hf
      subst e
      split at h
      · cases h; exact indexByte_h _ _
      · cases h
    | false =>
      rw [hf, cond_false] at h
      cases hf : Nat.beq f 147 with
      | true =>
        rw [hf, cond_true] at h
        have e := Nat.eq_of_beq_eq_true hf
        subst e
        split at h
        · rename_i s
          cases hb : Nat.ble s.size 9223372036854775806 with
          | false => rw [hb] at h; cases h
          | true =>
            rw [hb, cond_true] at h
            split at h
            · rename_i v hv
              cases h
              exact atoi_h s (Nat.le_of_ble_eq_true hb) v hv
            · cases h
        · cases h
      | false =>
        rw [hf, cond_false] at h
        cases h
  | true =>
    rw [hf, cond_true] at h
    have e := Nat.eq_of_beq_eq_true hf
    subst e
    split at h
    · rename_i n
      cases hb : (ible (-9223372036854775808) n && ible n 9223372036854775807) with
      | false => rw [hb] at h; cases h
      | true =>
        rw [hb, cond_true] at h
        cases h
        simp only [Bool.and_eq_true] at hb
        exact itoa_h n ⟨jT hb.1, jT hb.2⟩
    · cases h
end Go.Proofs.YtppfcacnofjmdaaGreatDoor
namespace Go.Proofs.YtppfcacnofjmdaaGreatDoor
set_option linter.unusedVariables false
set_option linter.unusedSimpArgs false
open Go.RowKit
theorem qaL : Holds Tryz.prog 29 [] (.p (.v (.bool true))) [] :=
  .ofW (zT (n := 5000) qe (zU _) (FnsVF_ok ctab) (by kernel_rfl) (by kernel_rfl))
end Go.Proofs.YtppfcacnofjmdaaGreatDoor
namespace Go.Proofs.YtppfcacnofjmdaaGreatDoor
set_option linter.unusedVariables false
set_option linter.unusedSimpArgs false
open Go.RowKit
set_option maxHeartbeats 4000000
theorem HoldsE.cv {P : Program} {f : FuncId} {args args' : List PV} {R : SV → Prop} (h : HoldsE P f args R) (hc : CvL args' args) : HoldsE P f args' R :=
  ⟨h.1, fun w Sx vs hSx hl hr => h.2 w Sx vs hSx (by rw [hl, hc.1]) fun i s u hs hu => by
    have hi : i < args.length := (List.getElem?_eq_some_iff.1 hs).1
    have h0 : args'[i]? = some (args'[i]'(by rw [hc.1]; exact hi)) := List.getElem?_eq_getElem _
    exact (hr i _ u h0 hu).cv (hc.2 i _ s h0 hs)⟩
def askS (m : Mat) (l : List Nod) (g : List Giv) : Int := if l = [] then qax m g else qam l g
def atmP (m : Mat) (c : PV) : List PV := [pI m.attr.cat, pS m.attr.name, pB m.attr.must, pI m.op, pI m.val.kind, pI m.val.n, pS m.val.s, c]
theorem ask_h (m : Mat) (l : List Nod) (hm : m.Fit) (hl : ∀ x ∈ l, x.Fit) (g : List Giv) (hg : GivOk g) : Holds Tryz.prog 33 [.agg (atmP m (qar l)), zP g] (.p (pI (askS m l g))) [] := by
  have lm : (l.map Nod.pv).length = l.length := by simp
  have H1 := match2_h m g hm hg.fit hg.len hg.bags
  have H2 := cond_h l g hl hg.fit hg.len hg.bags
  unfold askS
  obtain ⟨⟨ac, an, am⟩, mo, ⟨vk, vn, vs⟩⟩ := m
  refine qA (ts := [4]) Tryz.func33 (by kernel_rfl) rfl rfl rfl ?_
  (repeat refine qb ?_); refine qa ?_
  repeat (first | refine zR ?_ | refine zK ?_ | refine zM ?_ | refine zB ?_ | refine zA ?_ | refine zS ?_ | refine zL ?_)
  refine qc ?_
  (repeat refine qb ?_); refine qa ?_
  repeat (first | refine zR ?_ | refine zK ?_ | refine zM ?_ | refine zB ?_ | refine zA ?_ | refine zS ?_ | refine zL ?_)
  refine qc ?_
  rw [lm]
  (repeat refine qb ?_); refine qf rfl (fun h => ?_) (fun h => ?_)
  · have e : ¬ l = [] := by
      intro e; subst e; simp at h
    rw [if_neg e]
    (repeat refine qb ?_); refine qa ?_
    repeat (first | refine zR ?_ | refine zK ?_ | refine zM ?_ | refine zB ?_ | refine zA ?_ | refine zS ?_ | refine zL ?_)
    refine qn rfl (qg rfl rfl rfl rfl (H2) rfl rfl ?_)
    repeat (first | refine zR ?_ | refine zK ?_ | refine zM ?_ | refine zB ?_ | refine zA ?_ | refine zS ?_ | refine zL ?_)
    refine qc ?_
    (repeat refine qb ?_); refine qk ?_
    exact zg rfl rfl
  · have e : l = [] := by
      refine List.length_eq_zero_iff.1 ?_
      have : ¬ ((l.length : Int) > 0) := by simpa using h
      omega
    rw [if_pos e]
    refine qm ?_
    (repeat refine qb ?_); refine qa ?_
    repeat (first | refine zR ?_ | refine zK ?_ | refine zM ?_ | refine zB ?_ | refine zA ?_ | refine zS ?_ | refine zL ?_)
    refine qn rfl (qg rfl rfl rfl rfl (H1) rfl rfl ?_)
    repeat (first | refine zR ?_ | refine zK ?_ | refine zM ?_ | refine zB ?_ | refine zA ?_ | refine zS ?_ | refine zL ?_)
    refine qc ?_
    (repeat refine qb ?_); refine qk ?_
    exact zg rfl rfl
def p0 (m : Mat) (l : List Nod) : Pol := .mk ⟨#[]⟩ false 0 [[[m]]] [⟨⟨#[]⟩, false, [], l, []⟩] [] []
end Go.Proofs.YtppfcacnofjmdaaGreatDoor
namespace Go.Proofs.YtppfcacnofjmdaaGreatDoor
set_option linter.unusedVariables false
set_option linter.unusedSimpArgs false
open Go.RowKit
set_option maxHeartbeats 4000000
def Atm.pv (a : Atm) : List PV := atmP a.m (qar a.c)
abbrev atmsP (l : List Atm) : PV := .sl 8 (l.map Atm.pv)
theorem cloneN_h (l : List Nod) (hn : l.length ≤ 1000000) : Holds Tryz.prog 88 [qar l] (.row 0) [(0, .row 56 7 (l.map Nod.pv))] := by
  refine qA (ts := [2]) Tryz.func88 (by kernel_rfl) rfl rfl rfl ?_
  (repeat refine qb ?_); refine qa ?_
  repeat (first | refine zR ?_ | refine zK ?_ | refine zM ?_ | refine zB ?_ | refine zA ?_ | refine zS ?_ | refine zL ?_)
  refine qc ?_
  (repeat refine qb ?_); refine qa ?_
  repeat (first | refine zR ?_ | refine zK ?_ | refine zM ?_ | refine zB ?_ | refine zA ?_ | refine zS ?_ | refine zL ?_)
  refine qn rfl (act_nilcmp qe rfl rfl rfl rfl rfl rfl (fun b hb => ?_))
  refine qc ?_
  (repeat refine qb ?_); refine qf rfl (fun hc => ?_) (fun hc => ?_)
  · have hl := hb hc
    have hl' : l = [] := by simpa using hl
    subst hl'
    (repeat refine qb ?_); refine qa ?_
    repeat (first | refine zR ?_ | refine zK ?_ | refine zM ?_ | refine zB ?_ | refine zA ?_ | refine zS ?_ | refine zL ?_)
    refine qc ?_
    (repeat refine qb ?_); refine qk ?_
    exact ⟨Or.inr rfl, _, _, [(0, 0)], jP 2 0 56 7 rfl rfl, rfl, rfl, rfl, rfl⟩
  · refine qm ?_
    (repeat refine qb ?_); refine qa ?_
    repeat (first | refine zR ?_ | refine zK ?_ | refine zM ?_ | refine zB ?_ | refine zA ?_ | refine zS ?_ | refine zL ?_)
    refine qn rfl (qp qe rfl rfl rfl rfl rfl rfl rfl rfl rfl rfl rfl rfl rfl rfl rfl rfl (by simp [reachBytes]; omega) (by simp; omega) ?_)
    repeat (first | refine zR ?_ | refine zK ?_ | refine zM ?_ | refine zB ?_ | refine zA ?_ | refine zS ?_ | refine zL ?_)
    refine qc ?_
    (repeat refine qb ?_); refine qk ?_
    exact ⟨Or.inr rfl, _, _, [(7, 0)], Wk.refl _, rfl, rfl, rfl, rfl⟩
theorem eqL_mat (x y : Mat) : eqL x.pv y.pv = some (decide (x = y)) := by
  have h : eqL x.pv y.pv = some ((x.attr.cat == y.attr.cat) && ((x.attr.name.toList == y.attr.name.toList) && ((x.attr.must == y.attr.must) && ((x.op == y.op) && ((x.val.kind == y.val.kind) && ((x.val.n == y.val.n) && ((x.val.s.toList == y.val.s.toList) && true))))))) := rfl
  rw [h, beq_bytes, beq_bytes, Bool.and_true]
  congr 1
  rw [Bool.eq_iff_iff]
  obtain ⟨⟨a, b, c⟩, d, ⟨e, f, g⟩⟩ := x
  obtain ⟨⟨a', b', c'⟩, d', ⟨e', f', g'⟩⟩ := y
  simp [and_assoc]
theorem eqL_nod (x y : Nod) : eqL x.pv y.pv = some (decide (x = y)) := by
  have h : eqL x.pv y.pv = some ((x.op == y.op) && ((x.val.kind == y.val.kind) && ((x.val.n == y.val.n) && ((x.val.s.toList == y.val.s.toList) && ((x.attr.cat == y.attr.cat) && ((x.attr.name.toList == y.attr.name.toList) && ((x.attr.must == y.attr.must) && true))))))) := rfl
  rw [h, beq_bytes, beq_bytes, Bool.and_true]
  congr 1
  rw [Bool.eq_iff_iff]
  obtain ⟨a, ⟨b, c, d⟩, ⟨e, f, g⟩⟩ := x
  obtain ⟨a', ⟨b', c', d'⟩, ⟨e', f', g'⟩⟩ := y
  simp [and_assoc]
theorem opR_eqM {T : TT} {K : List Nat} {st : St} {o : Op} {t t' : TypeId} {a b : Operand} (x y : Mat) (ho : o = .binOp .eql t a b t') {n m : Nat} {d : Ty} {z : List Value} (ht : lk t T = some ⟨n, m, d, z, true⟩) (ha : evS st a = some (.p (.agg x.pv))) (hb : evS st b = some (.p (.agg y.pv))) : opR T K st o = some (zm x.pv z = true, .p (pB (decide (x = y)))) := by
  subst ho
  show rBin T .eql t (evS st a) (evS st b) = _
  rw [ha, hb]
  unfold rBin
  simp only [ht, eqL_mat]
theorem opR_neN {T : TT} {K : List Nat} {st : St} {o : Op} {t t' : TypeId} {a b : Operand} (x y : Nod) (ho : o = .binOp .neq t a b t') {n m : Nat} {d : Ty} {z : List Value} (ht : lk t T = some ⟨n, m, d, z, true⟩) (ha : evS st a = some (.p (.agg x.pv))) (hb : evS st b = some (.p (.agg y.pv))) : opR T K st o = some (zm x.pv z = true, .p (pB (!decide (x = y)))) := by
  subst ho
  show rBin T .neq t (evS st a) (evS st b) = _
  rw [ha, hb]
  unfold rBin
  simp only [ht, eqL_nod]
theorem equalN_h (a b : List Nod) (ha : a.length ≤ 1000000) (hb : b.length ≤ 1000000) : Holds Tryz.prog 57 [qar a, qar b] (.p (pB (decide (a = b)))) [] := by
  have la : (a.map Nod.pv).length = a.length := by simp
  have lb : (b.map Nod.pv).length = b.length := by simp
  refine qA (ts := [4]) Tryz.func57 (by kernel_rfl) rfl rfl rfl ?_
  (repeat refine qb ?_); refine qa ?_
  repeat (first | refine zR ?_ | refine zK ?_ | refine zM ?_ | refine zB ?_ | refine zA ?_ | refine zS ?_ | refine zL ?_)
  refine qc ?_
  (repeat refine qb ?_); refine qa ?_
  repeat (first | refine zR ?_ | refine zK ?_ | refine zM ?_ | refine zB ?_ | refine zA ?_ | refine zS ?_ | refine zL ?_)
  refine qc ?_
  rw [la, lb]
  (repeat refine qb ?_); refine qf rfl (fun h0 => ?_) (fun h0 => ?_)
  · have e : a ≠ b := by intro e; subst e; simp at h0
    (repeat refine qb ?_); refine qa ?_
    repeat (first | refine zR ?_ | refine zK ?_ | refine zM ?_ | refine zB ?_ | refine zA ?_ | refine zS ?_ | refine zL ?_)
    refine qc ?_
    (repeat refine qb ?_); refine qk ?_
    exact wS rfl (by simp [e])
  · have hl : a.length = b.length := by simp at h0; omega
    refine qm ?_
    (repeat refine qb ?_); refine qa ?_
    repeat (first | refine zR ?_ | refine zK ?_ | refine zM ?_ | refine zB ?_ | refine zA ?_ | refine zS ?_ | refine zL ?_)
    refine qc ?_
    (repeat refine qb ?_); refine ql ?_
    refine SW.wk (qq [0, 1, 12, 13] [] rfl rfl) ?_
    refine qO (fun m s => ∃ (k : Nat) (kk : Int), k ≤ a.length ∧ m = a.length - k ∧ kk = k ∧ a.take k = b.take k ∧ s = ⟨26, [(0, .p (qar a)), (1, .p (qar b)), (12, .p (pI (a.map Nod.pv).length)), (13, .p (pI kk))], []⟩) a.length ⟨0, 0, Nat.zero_le _, rfl, rfl, rfl, rfl⟩ ?_
    rintro m s ⟨k, _, hk, rfl, rfl, he, rfl⟩
    (repeat refine qb ?_); refine qa ?_
    repeat (first | refine zR ?_ | refine zK ?_ | refine zM ?_ | refine zB ?_ | refine zA ?_ | refine zS ?_ | refine zL ?_)
    refine qc ?_
    (repeat refine qb ?_); refine qf rfl (fun hlt => ?_) (fun hlt => ?_)
    · refine qm ?_
      rw [la] at hlt
      simp only [decide_eq_true_eq] at hlt
      have hlt' : k < a.length := by omega
      have hlb : k < b.length := by omega
      obtain ⟨x, hx⟩ : ∃ x, x = a[k] := ⟨_, rfl⟩
      obtain ⟨y, hy⟩ : ∃ y, y = b[k] := ⟨_, rfl⟩
      (repeat refine qb ?_); refine ql ?_
      (repeat refine qb ?_); refine qa ?_
      repeat (first | refine zR ?_ | refine zK ?_ | refine zM ?_ | refine zB ?_ | refine zA ?_ | refine zS ?_ | refine zL ?_)
      refine qc ?_
      (repeat refine qb ?_); refine zl [] [(0, true), (1, true), (2, true), (3, true), (4, true), (5, true), (6, true), (7, true), (8, true)] (by kernel_rfl) (by kernel_rfl) (by kernel_rfl) ?_
      repeat (first | refine yR ?_ | refine yK ?_ | refine yM ?_ | refine yB ?_ | refine yA ?_ | refine yS ?_ | refine yL ?_)
      refine zi qe rfl rfl rfl (by rw [la]; omega) rfl ?_
      rw [qJ hlt', ← hx]
      repeat (first | refine yR ?_ | refine yK ?_ | refine yM ?_ | refine yB ?_ | refine yA ?_ | refine yS ?_ | refine yL ?_)
      refine zi qe rfl rfl rfl (by rw [lb]; omega) rfl ?_
      rw [qJ hlb, ← hy]
      repeat (first | refine yR ?_ | refine yK ?_ | refine yM ?_ | refine yB ?_ | refine yA ?_ | refine yS ?_ | refine yL ?_)
      refine zi qe rfl rfl (opR_neN x y rfl rfl rfl rfl) rfl rfl ?_
      repeat (first | refine yR ?_ | refine yK ?_ | refine yM ?_ | refine yB ?_ | refine yA ?_ | refine yS ?_ | refine yL ?_)
      refine qaO ?_
      (repeat refine qb ?_); refine qf rfl (fun hp => ?_) (fun hp => ?_)
      · have e : x ≠ y := by simpa using hp
        have e2 : a ≠ b := by intro e2; subst e2; exact e (by rw [hx, hy])
        (repeat refine qb ?_); refine qa ?_
        repeat (first | refine zR ?_ | refine zK ?_ | refine zM ?_ | refine zB ?_ | refine zA ?_ | refine zS ?_ | refine zL ?_)
        refine qc ?_
        (repeat refine qb ?_); refine qk ?_
        exact wS rfl (by simp [e2])
      · refine qm ?_
        (repeat refine qb ?_); refine qa ?_
        repeat (first | refine zR ?_ | refine zK ?_ | refine zM ?_ | refine zB ?_ | refine zA ?_ | refine zS ?_ | refine zL ?_)
        refine qc ?_
        refine ⟨_, _, ?_, qq [0, 1, 12, 13] [] rfl rfl, k + 1, _, hlt', rfl, qz hlt' (by omega), ?_, rfl⟩
        · omega
        · rw [List.take_succ_eq_append_getElem hlt', List.take_succ_eq_append_getElem hlb, he, ← hx, ← hy, show x = y by simpa using hp]
    · refine qK ?_
      rw [la] at hlt
      simp only [decide_eq_false_iff_not] at hlt
      have hkk : k = a.length := by omega
      subst hkk
      rw [List.take_length, List.take_of_length_le (by omega)] at he
      (repeat refine qb ?_); refine qa ?_
      repeat (first | refine zR ?_ | refine zK ?_ | refine zM ?_ | refine zB ?_ | refine zA ?_ | refine zS ?_ | refine zL ?_)
      refine qc ?_
      (repeat refine qb ?_); refine qk ?_
      exact wS rfl (by simp [he])
theorem find1_h (x a : Atm) (hx : x.c.length ≤ 1000000) (ha : a.c.length ≤ 1000000) : Holds Tryz.prog 56 [.agg x.pv, .rp a.pv] (.p (pB (decide (x = a)))) [] := by
  have H := equalN_h x.c a.c hx ha
  have e : (x = a) ↔ (x.m = a.m ∧ x.c = a.c) := ⟨fun h => by subst h; exact ⟨rfl, rfl⟩, fun h => by cases x; cases a; simp only at h; simp [h]⟩
  refine qA (ts := [3]) Tryz.func56 (by kernel_rfl) rfl rfl rfl ?_
  (repeat refine qb ?_); refine qa ?_
  repeat (first | refine zR ?_ | refine zK ?_ | refine zM ?_ | refine zB ?_ | refine zA ?_ | refine zS ?_ | refine zL ?_)
  refine qc ?_
  (repeat refine qb ?_); refine qa ?_
  repeat (first | refine zR ?_ | refine zK ?_ | refine zM ?_ | refine zB ?_ | refine zA ?_ | refine zS ?_ | refine zL ?_)
  refine qw qe rfl (opR_eqM x.m a.m rfl rfl rfl rfl) rfl rfl ?_
  by_cases hm : x.m = a.m
  · rw [decide_eq_true hm]
    repeat (first | refine zR ?_ | refine zK ?_ | refine zM ?_ | refine zB ?_ | refine zA ?_ | refine zS ?_ | refine zL ?_)
    refine qn rfl (qg rfl rfl rfl rfl (H) rfl rfl ?_)
    repeat (first | refine zR ?_ | refine zK ?_ | refine zM ?_ | refine zB ?_ | refine zA ?_ | refine zS ?_ | refine zL ?_)
    refine qc ?_
    (repeat refine qb ?_); refine qk ?_
    exact wS rfl (by simp [e, hm])
  · rw [decide_eq_false hm]
    repeat (first | refine zR ?_ | refine zK ?_ | refine zM ?_ | refine zB ?_ | refine zA ?_ | refine zS ?_ | refine zL ?_)
    refine qc ?_
    (repeat refine qb ?_); refine qk ?_
    exact wS rfl (by simp [e, hm])
theorem indexA_h (l : List Atm) (hn : l.length ≤ 1000000) (f : FuncId) (caps : List PV) (p : Atm → Bool) (hF : ∀ m ∈ l, Holds Tryz.prog f ([.agg m.pv] ++ caps) (.p (pB (p m))) []) :
    Holds Tryz.prog 55 [atmsP l, .fn f caps] (.p (pI (if l.findIdx p < l.length then (l.findIdx p : Int) else -1))) [] := by
  refine qA (ts := [4]) Tryz.func55 (by kernel_rfl) rfl rfl rfl ?_
  (repeat refine qb ?_); refine qa ?_
  repeat (first | refine zR ?_ | refine zK ?_ | refine zM ?_ | refine zB ?_ | refine zA ?_ | refine zS ?_ | refine zL ?_)
  refine qc ?_
  (repeat refine qb ?_); refine qa ?_
  repeat (first | refine zR ?_ | refine zK ?_ | refine zM ?_ | refine zB ?_ | refine zA ?_ | refine zS ?_ | refine zL ?_)
  refine qc ?_
  (repeat refine qb ?_); refine ql ?_
  refine SW.wk (qq [0, 1, 7, 8] [] rfl rfl) ?_
  refine qO (fun n s => ∃ (k : Nat) (kk : Int), k ≤ l.length ∧ n = l.length - k ∧ kk = k ∧ (∀ g ∈ l.take k, p g = false) ∧ s = ⟨19, [(0, .p (atmsP l)), (1, .p (.fn f caps)), (7, .p (pI (l.map Atm.pv).length)), (8, .p (pI kk))], []⟩) l.length ⟨0, 0, Nat.zero_le _, rfl, rfl, by simp, rfl⟩ ?_
  rintro n s ⟨k, _, hk, rfl, rfl, ha, rfl⟩
  (repeat refine qb ?_); refine qa ?_
  repeat (first | refine zR ?_ | refine zK ?_ | refine zM ?_ | refine zB ?_ | refine zA ?_ | refine zS ?_ | refine zL ?_)
  refine qc ?_
  (repeat refine qb ?_); refine qf rfl (fun hlt => ?_) (fun hlt => ?_)
  · refine qm ?_
    simp only [List.length_map, decide_eq_true_eq] at hlt
    have hlt' : k < l.length := by omega
    (repeat refine qb ?_); refine ql ?_
    (repeat refine qb ?_); refine qa ?_
    repeat (first | refine zR ?_ | refine zK ?_ | refine zM ?_ | refine zB ?_ | refine zA ?_ | refine zS ?_ | refine zL ?_)
    refine qc ?_
    (repeat refine qb ?_); refine qa ?_
    repeat (first | refine zR ?_ | refine zK ?_ | refine zM ?_ | refine zB ?_ | refine zA ?_ | refine zS ?_ | refine zL ?_)
    refine qw qe rfl rfl (by simp only [List.length_map]; omega) rfl ?_
    rw [qJ hlt']
    repeat (first | refine zR ?_ | refine zK ?_ | refine zM ?_ | refine zB ?_ | refine zA ?_ | refine zS ?_ | refine zL ?_)
    refine qn rfl (qg rfl rfl rfl rfl (hF l[k] (List.getElem_mem hlt')) rfl rfl ?_)
    repeat (first | refine zR ?_ | refine zK ?_ | refine zM ?_ | refine zB ?_ | refine zA ?_ | refine zS ?_ | refine zL ?_)
    refine qc ?_
    (repeat refine qb ?_); refine qf rfl (fun hp => ?_) (fun hp => ?_)
    · (repeat refine qb ?_); refine qa ?_
      repeat (first | refine zR ?_ | refine zK ?_ | refine zM ?_ | refine zB ?_ | refine zA ?_ | refine zS ?_ | refine zL ?_)
      refine qc ?_
      (repeat refine qb ?_); refine qk ?_
      refine zg rfl ?_
      have e : l.findIdx p = k := (List.findIdx_eq hlt').2 ⟨hp, fun j hj => ha _ (List.mem_take_iff_getElem.2 ⟨j, by omega, rfl⟩)⟩
      rw [e, if_pos hlt']
    · refine qm ?_
      (repeat refine qb ?_); refine qa ?_
      repeat (first | refine zR ?_ | refine zK ?_ | refine zM ?_ | refine zB ?_ | refine zA ?_ | refine zS ?_ | refine zL ?_)
      refine qc ?_
      refine ⟨_, _, ?_, qq [0, 1, 7, 8] [] rfl rfl, k + 1, _, hlt', rfl, qz hlt' (by omega), ?_, rfl⟩
      · omega
      · intro g hg
        rw [List.take_succ_eq_append_getElem hlt', List.mem_append, List.mem_singleton] at hg
        rcases hg with hg | rfl
        · exact ha g hg
        · exact hp
  · refine qK ?_
    simp only [List.length_map, decide_eq_false_iff_not] at hlt
    have hkk : k = l.length := by omega
    subst hkk
    (repeat refine qb ?_); refine qa ?_
    repeat (first | refine zR ?_ | refine zK ?_ | refine zM ?_ | refine zB ?_ | refine zA ?_ | refine zS ?_ | refine zL ?_)
    refine qc ?_
    (repeat refine qb ?_); refine qk ?_
    refine zg rfl ?_
    rw [List.take_length] at ha
    rw [if_neg]
    have := List.findIdx_eq_length_of_false ha
    omega
theorem find_h (l : List Atm) (a : Atm) (hn : l.length ≤ 1000000) (hl : ∀ x ∈ l, x.c.length ≤ 1000000) (ha : a.c.length ≤ 1000000) : Holds Tryz.prog 31 [atmsP l, .agg a.pv] (.p (pI (findA l a))) [] := by
  refine qA (ts := [4]) Tryz.func31 (by kernel_rfl) rfl rfl rfl ?_
  (repeat refine qb ?_); refine qa ?_
  repeat (first | refine zR ?_ | refine zK ?_ | refine zM ?_ | refine zB ?_ | refine zA ?_ | refine zS ?_ | refine zL ?_)
  refine qc ?_
  (repeat refine qb ?_); refine qa ?_
  repeat (first | refine zR ?_ | refine zK ?_ | refine zM ?_ | refine zB ?_ | refine zA ?_ | refine zS ?_ | refine zL ?_)
  refine qn rfl (qg rfl rfl rfl rfl (indexA_h l hn _ _ (fun x => decide (x = a)) (fun x hx => find1_h x a (hl x hx) ha)) rfl rfl ?_)
  repeat (first | refine zR ?_ | refine zK ?_ | refine zM ?_ | refine zB ?_ | refine zA ?_ | refine zS ?_ | refine zL ?_)
  refine qc ?_
  (repeat refine qb ?_); refine qk ?_
  exact zg rfl rfl
abbrev rowA (i : Nat) (l : List Atm) : List (Nat × Box) := [(i, .row 76 8 (l.map Atm.pv))]
theorem more_h (l : List Atm) (a : Atm) (hn : l.length ≤ 1000000) (hl : ∀ x ∈ l, x.c.length ≤ 1000000) (ha : a.c.length ≤ 1000000) : zZ Tryz.prog 72 [.row 1000000, .p (.agg a.pv)] (rowA 1000000 l) (.row 0) (rowA 0 (moreA l a)) := by
  have HF := find_h l a hn hl ha
  have HC := (cloneN_h a.c ha).row_sl
  by_cases hm : a ∈ l
  · have e1 : moreA l a = l := if_pos hm
    have e2 := findA_yes hm
    rw [e1]
    refine ja (ts := [4]) Tryz.func72 (by kernel_rfl) rfl rfl rfl ?_
    (repeat refine qb ?_); refine qa ?_
    repeat (first | refine zR ?_ | refine zK ?_ | refine zM ?_ | refine zB ?_ | refine zA ?_ | refine zS ?_ | refine zL ?_)
    refine qc ?_
    (repeat refine qb ?_); refine qa ?_
    repeat (first | refine zR ?_ | refine zK ?_ | refine zM ?_ | refine zB ?_ | refine zA ?_ | refine zS ?_ | refine zL ?_)
    refine qn rfl (qg rfl rfl rfl rfl (HF) rfl rfl ?_)
    repeat (first | refine zR ?_ | refine zK ?_ | refine zM ?_ | refine zB ?_ | refine zA ?_ | refine zS ?_ | refine zL ?_)
    refine qc ?_
    (repeat refine qb ?_); refine qf rfl (fun h => ?_) (fun h => ?_)
    · (repeat refine qb ?_); refine qa ?_
      repeat (first | refine zR ?_ | refine zK ?_ | refine zM ?_ | refine zB ?_ | refine zA ?_ | refine zS ?_ | refine zL ?_)
      refine qc ?_
      (repeat refine qb ?_); refine qk ?_
      exact ⟨Or.inr rfl, _, _, [(1000000, 0)], Wk.refl _, rfl, rfl, rfl, rfl⟩
    · exfalso
      simp at h
      omega
  · have e1 : moreA l a = l ++ [a] := if_neg hm
    rw [e1, show rowA 0 (l ++ [a]) = [(0, .row 76 8 (l.map Atm.pv ++ [a.pv]))] by simp [rowA]]
    rw [findA_no hm] at HF
    refine ja (ts := [4]) Tryz.func72 (by kernel_rfl) rfl rfl rfl ?_
    (repeat refine qb ?_); refine qa ?_
    repeat (first | refine zR ?_ | refine zK ?_ | refine zM ?_ | refine zB ?_ | refine zA ?_ | refine zS ?_ | refine zL ?_)
    refine qc ?_
    (repeat refine qb ?_); refine qa ?_
    repeat (first | refine zR ?_ | refine zK ?_ | refine zM ?_ | refine zB ?_ | refine zA ?_ | refine zS ?_ | refine zL ?_)
    refine qn rfl (qg rfl rfl rfl rfl (HF) rfl rfl ?_)
    repeat (first | refine zR ?_ | refine zK ?_ | refine zM ?_ | refine zB ?_ | refine zA ?_ | refine zS ?_ | refine zL ?_)
    refine qc ?_
    (repeat refine qb ?_); refine qf rfl (fun h => ?_) (fun h => ?_)
    · cases h
    · refine qm ?_
      (repeat refine qb ?_); refine qa ?_
      repeat (first | refine zR ?_ | refine zK ?_ | refine zM ?_ | refine zB ?_ | refine zA ?_ | refine zS ?_ | refine zL ?_)
      refine qn rfl (qD rfl rfl rfl rfl (HC) rfl rfl rfl ?_)
      repeat (first | refine zR ?_ | refine zK ?_ | refine zM ?_ | refine zB ?_ | refine zA ?_ | refine zS ?_ | refine zL ?_)
      refine qc ?_
      (repeat refine qb ?_); refine qa ?_
      repeat (first | refine zR ?_ | refine zK ?_ | refine zM ?_ | refine zB ?_ | refine zA ?_ | refine zS ?_ | refine zL ?_)
      refine qn rfl (qp qe rfl rfl rfl rfl rfl rfl rfl rfl rfl rfl rfl rfl rfl rfl rfl rfl (by simp only [List.length_append, List.length_map, List.length_take, List.length_cons, List.length_nil]; unfold reachBytes; omega) (by simp only [List.length_append, List.length_map, List.length_take, List.length_cons, List.length_nil]; omega) ?_)
      repeat (first | refine zR ?_ | refine zK ?_ | refine zM ?_ | refine zB ?_ | refine zA ?_ | refine zS ?_ | refine zL ?_)
      refine qc ?_
      (repeat refine qb ?_); refine qk ?_
      exact ⟨Or.inr rfl, _, _, [(17, 0)], Wk.refl _, rfl, rfl, rfl, rfl⟩
end Go.Proofs.YtppfcacnofjmdaaGreatDoor
namespace Go.Proofs.YtppfcacnofjmdaaGreatDoor
open Go.RowKit
noncomputable def fnsm141 : FnI := ⟨31, Tryz.f141.body.getD .skip, [.tmp 6], []⟩
theorem fnsm141_ok : FnOk Tryz.prog 141 fnsm141 := ⟨_, Tryz.func141, by kernel_rfl, by kernel_rfl, by kernel_rfl, by kernel_rfl, by kernel_rfl, by kernel_rfl⟩
noncomputable def fnsm107 : FnI := ⟨26, Tryz.f107.body.getD .skip, [.tmp 4], []⟩
theorem fnsm107_ok : FnOk Tryz.prog 107 fnsm107 := ⟨_, Tryz.func107, by kernel_rfl, by kernel_rfl, by kernel_rfl, by kernel_rfl, by kernel_rfl, by kernel_rfl⟩
noncomputable def fnsm137 : FnI := ⟨8, Tryz.f137.body.getD .skip, [.tmp 4], []⟩
theorem fnsm137_ok : FnOk Tryz.prog 137 fnsm137 := ⟨_, Tryz.func137, by kernel_rfl, by kernel_rfl, by kernel_rfl, by kernel_rfl, by kernel_rfl, by kernel_rfl⟩
noncomputable def fnsm136 : FnI := ⟨10, Tryz.f136.body.getD .skip, [.tmp 2, .tmp 3], []⟩
theorem fnsm136_ok : FnOk Tryz.prog 136 fnsm136 := ⟨_, Tryz.func136, by kernel_rfl, by kernel_rfl, by kernel_rfl, by kernel_rfl, by kernel_rfl, by kernel_rfl⟩
noncomputable def fnsm140 : FnI := ⟨13, Tryz.f140.body.getD .skip, [.tmp 2], []⟩
theorem fnsm140_ok : FnOk Tryz.prog 140 fnsm140 := ⟨_, Tryz.func140, by kernel_rfl, by kernel_rfl, by kernel_rfl, by kernel_rfl, by kernel_rfl, by kernel_rfl⟩
noncomputable def fnsm139 : FnI := ⟨5, Tryz.f139.body.getD .skip, [.tmp 2], []⟩
theorem fnsm139_ok : FnOk Tryz.prog 139 fnsm139 := ⟨_, Tryz.func139, by kernel_rfl, by kernel_rfl, by kernel_rfl, by kernel_rfl, by kernel_rfl, by kernel_rfl⟩
noncomputable def fnsm109 : FnI := ⟨13, Tryz.f109.body.getD .skip, [.tmp 2], []⟩
theorem fnsm109_ok : FnOk Tryz.prog 109 fnsm109 := ⟨_, Tryz.func109, by kernel_rfl, by kernel_rfl, by kernel_rfl, by kernel_rfl, by kernel_rfl, by kernel_rfl⟩
noncomputable def fnsm108 : FnI := ⟨29, Tryz.f108.body.getD .skip, [.tmp 2], []⟩
theorem fnsm108_ok : FnOk Tryz.prog 108 fnsm108 := ⟨_, Tryz.func108, by kernel_rfl, by kernel_rfl, by kernel_rfl, by kernel_rfl, by kernel_rfl, by kernel_rfl⟩
noncomputable def fnsm25 : FnI := ⟨9, Tryz.f25.body.getD .skip, [.tmp 2], []⟩
theorem fnsm25_ok : FnOk Tryz.prog 25 fnsm25 := ⟨_, Tryz.func25, by kernel_rfl, by kernel_rfl, by kernel_rfl, by kernel_rfl, by kernel_rfl, by kernel_rfl⟩
noncomputable def fnsm20 : FnI := ⟨6, Tryz.f20.body.getD .skip, [.tmp 2], []⟩
theorem fnsm20_ok : FnOk Tryz.prog 20 fnsm20 := ⟨_, Tryz.func20, by kernel_rfl, by kernel_rfl, by kernel_rfl, by kernel_rfl, by kernel_rfl, by kernel_rfl⟩
noncomputable def fnsm48 : FnI := ⟨16, Tryz.f48.body.getD .skip, [.tmp 2], []⟩
theorem fnsm48_ok : FnOk Tryz.prog 48 fnsm48 := ⟨_, Tryz.func48, by kernel_rfl, by kernel_rfl, by kernel_rfl, by kernel_rfl, by kernel_rfl, by kernel_rfl⟩
noncomputable def FnsMF : List (FuncId × FnI) := [(141, fnsm141),
  (107, fnsm107),
  (137, fnsm137),
  (136, fnsm136),
  (140, fnsm140),
  (139, fnsm139),
  (109, fnsm109),
  (108, fnsm108),
  (25, fnsm25),
  (20, fnsm20),
  (48, fnsm48)]
theorem wH (C : FuncId → List PV → Option SV) : FOk Tryz.prog ⟨TTab, FnsMF, C⟩ := qj fnsm141_ok <|
  qj fnsm107_ok <|
  qj fnsm137_ok <|
  qj fnsm136_ok <|
  qj fnsm140_ok <|
  qj fnsm139_ok <|
  qj fnsm109_ok <|
  qj fnsm108_ok <|
  qj fnsm25_ok <|
  qj fnsm20_ok <|
  qj fnsm48_ok <| fok_nil
end Go.Proofs.YtppfcacnofjmdaaGreatDoor
namespace Go.Proofs.YtppfcacnofjmdaaGreatDoor
set_option linter.unusedVariables false
set_option linter.unusedSimpArgs false
open Go.RowKit
set_option maxHeartbeats 4000000
def hb : Nat → Nat
  | 0 => 0
  | 1 => 4602678819172646912
  | _ => 4607182418800017408
def mkP (m : Mk) : PV := .v (.complex .f64 (hb m.1) (hb m.2))
def mkE (a b : Mk) : Bool := FloatKind.f64.format.order (hb a.1) (hb b.1) == some .eq && FloatKind.f64.format.order (hb a.2) (hb b.2) == some .eq
theorem hb_eq {a b : Nat} (ha : a ≤ 2) (hb' : b ≤ 2) : (FloatKind.f64.format.order (hb a) (hb b) == some .eq) = decide (a = b) := by
  have h1 : a = 0 ∨ a = 1 ∨ a = 2 := by omega
  have h2 : b = 0 ∨ b = 1 ∨ b = 2 := by omega
  rcases h1 with rfl | rfl | rfl <;> rcases h2 with rfl | rfl | rfl <;> decide +kernel
theorem mks_le {m : Mk} (h : m ∈ mks) : m.1 ≤ 2 ∧ m.2 ≤ 2 := by
  unfold mks at h
  simp only [List.mem_cons, List.not_mem_nil, or_false] at h
  rcases h with rfl | rfl | rfl | rfl | rfl | rfl <;> exact ⟨by decide, by decide⟩
theorem mkE_eq {a b : Mk} (ha : a ∈ mks) (hb' : b ∈ mks) : mkE a b = decide (a = b) := by
  obtain ⟨h1, h2⟩ := mks_le ha
  obtain ⟨h3, h4⟩ := mks_le hb'
  unfold mkE
  rw [hb_eq h1 h3, hb_eq h2 h4]
  obtain ⟨a1, a2⟩ := a
  obtain ⟨b1, b2⟩ := b
  rw [Bool.eq_iff_iff]
  simp
theorem mkRight_h (m : Mk) (hm : m ∈ mks) : Holds Tryz.prog 20 [mkP m] (.p (pB true)) [] := by
  unfold mks at hm; simp only [List.mem_cons, List.not_mem_nil, or_false] at hm; rcases hm with rfl | rfl | rfl | rfl | rfl | rfl <;> exact .ofW (zT (n := 500) qe (zU _) (wH ctab) (by kernel_rfl) (by kernel_rfl))
theorem qas (m : Mk) (hm : m ∈ mks) : Holds Tryz.prog 25 [mkP m] (.p (mkP (qat m))) [] := by
  unfold mks at hm; simp only [List.mem_cons, List.not_mem_nil, or_false] at hm; rcases hm with rfl | rfl | rfl | rfl | rfl | rfl <;> exact .ofW (zT (n := 500) qe (zU _) (wH ctab) (by kernel_rfl) (by kernel_rfl))
theorem applies_h (m : Mk) (hm : m ∈ mks) : Holds Tryz.prog 139 [mkP m] (.p (pB (decide (m ≠ (0, 0))))) [] := by
  unfold mks at hm; simp only [List.mem_cons, List.not_mem_nil, or_false] at hm; rcases hm with rfl | rfl | rfl | rfl | rfl | rfl <;> exact .ofW (zT (n := 500) qe (zU _) (wH ctab) (by kernel_rfl) (by kernel_rfl))
theorem sure_h (m : Mk) (hm : m ∈ mks) : Holds Tryz.prog 140 [mkP m] (.p (pB (sureM m))) [] := by
  unfold mks at hm; simp only [List.mem_cons, List.not_mem_nil, or_false] at hm; rcases hm with rfl | rfl | rfl | rfl | rfl | rfl <;> exact .ofW (zT (n := 500) qe (zU _) (wH ctab) (by kernel_rfl) (by kernel_rfl))
theorem step4_h (j m : Mk) (hj : j ∈ mks) (hm : m ∈ mks) : Holds Tryz.prog 141 [pI 4, mkP j, mkP m] (.p (mkP (stepJ j m))) [] := by
  unfold mks at hj
  simp only [List.mem_cons, List.not_mem_nil, or_false] at hj
  unfold mks at hm; simp only [List.mem_cons, List.not_mem_nil, or_false] at hm; rcases hm with rfl | rfl | rfl | rfl | rfl | rfl <;> rcases hj with rfl | rfl | rfl | rfl | rfl | rfl <;> exact .ofW (zT (n := 500) qe (zU _) (wH ctab) (by kernel_rfl) (by kernel_rfl))
theorem mkTurn_h (a b : Nat) (ha : a ≤ 2) (hb' : b ≤ 2) : Holds Tryz.prog 109 [mkP (a, b)] (.p (mkP (b, a))) [] := by
  have h1 : a = 0 ∨ a = 1 ∨ a = 2 := by omega
  have h2 : b = 0 ∨ b = 1 ∨ b = 2 := by omega
  rcases h1 with rfl | rfl | rfl <;> rcases h2 with rfl | rfl | rfl <;> exact .ofW (zT (n := 500) qe (zU _) (wH ctab) (by kernel_rfl) (by kernel_rfl))
theorem mkOver_h (a b : Nat) (ha : a ≤ 2) (hb' : b ≤ 2) : Holds Tryz.prog 108 [mkP (a, b)] (.p (mkP (overM (a, b)))) [] := by
  have h1 : a = 0 ∨ a = 1 ∨ a = 2 := by omega
  have h2 : b = 0 ∨ b = 1 ∨ b = 2 := by omega
  rcases h1 with rfl | rfl | rfl <;> rcases h2 with rfl | rfl | rfl <;> exact .ofW (zT (n := 500) qe (zU _) (wH ctab) (by kernel_rfl) (by kernel_rfl))
theorem mkJoin_h (j m : Mk) (hj : j.1 ≤ 2 ∧ j.2 ≤ 2) (hm : m ∈ mks) : Holds Tryz.prog 107 [mkP j, mkP m] (.p (mkP (qaA j m))) [] := by
  obtain ⟨a, b⟩ := j
  obtain ⟨h1, h2⟩ := hj
  simp only at h1 h2
  have h1 : a = 0 ∨ a = 1 ∨ a = 2 := by omega
  have h2 : b = 0 ∨ b = 1 ∨ b = 2 := by omega
  unfold mks at hm; simp only [List.mem_cons, List.not_mem_nil, or_false] at hm; rcases hm with rfl | rfl | rfl | rfl | rfl | rfl <;> rcases h1 with rfl | rfl | rfl <;> rcases h2 with rfl | rfl | rfl <;> exact .ofW (zT (n := 500) qe (zU _) (wH ctab) (by kernel_rfl) (by kernel_rfl))
theorem joinM_le {a b : Mk} (ha : a.1 ≤ 2 ∧ a.2 ≤ 2) (hb' : b.1 ≤ 2 ∧ b.2 ≤ 2) : (qaA a b).1 ≤ 2 ∧ (qaA a b).2 ≤ 2 := by
  unfold qaA
  simp only
  omega
end Go.Proofs.YtppfcacnofjmdaaGreatDoor
namespace Go.Proofs.YtppfcacnofjmdaaGreatDoor
set_option linter.unusedVariables false
set_option linter.unusedSimpArgs false
open Go.RowKit
set_option maxHeartbeats 4000000
def marksP (l : List Mk) : PV := .sl 1 (l.map fun m => [mkP m])
theorem indexMk_h (l : List Mk) (hn : l.length ≤ 1000000) (f : FuncId) (caps : List PV) (p : Mk → Bool) (hF : ∀ m ∈ l, Holds Tryz.prog f ([mkP m] ++ caps) (.p (pB (p m))) []) :
    Holds Tryz.prog 138 [marksP l, .fn f caps] (.p (pI (if l.findIdx p < l.length then (l.findIdx p : Int) else -1))) [] := by
  refine qA (ts := [4]) Tryz.func138 (by kernel_rfl) rfl rfl rfl ?_
  (repeat refine qb ?_); refine qa ?_
  repeat (first | refine zR ?_ | refine zK ?_ | refine zM ?_ | refine zB ?_ | refine zA ?_ | refine zS ?_ | refine zL ?_)
  refine qc ?_
  (repeat refine qb ?_); refine qa ?_
  repeat (first | refine zR ?_ | refine zK ?_ | refine zM ?_ | refine zB ?_ | refine zA ?_ | refine zS ?_ | refine zL ?_)
  refine qc ?_
  (repeat refine qb ?_); refine ql ?_
  refine SW.wk (qq [0, 1, 7, 8] [] rfl rfl) ?_
  refine qO (fun n s => ∃ (k : Nat) (kk : Int), k ≤ l.length ∧ n = l.length - k ∧ kk = k ∧ (∀ g ∈ l.take k, p g = false) ∧ s = ⟨19, [(0, .p (marksP l)), (1, .p (.fn f caps)), (7, .p (pI (l.map fun m => [mkP m]).length)), (8, .p (pI kk))], []⟩) l.length ⟨0, 0, Nat.zero_le _, rfl, rfl, by simp, rfl⟩ ?_
  rintro n s ⟨k, _, hk, rfl, rfl, ha, rfl⟩
  (repeat refine qb ?_); refine qa ?_
  repeat (first | refine zR ?_ | refine zK ?_ | refine zM ?_ | refine zB ?_ | refine zA ?_ | refine zS ?_ | refine zL ?_)
  refine qc ?_
  (repeat refine qb ?_); refine qf rfl (fun hlt => ?_) (fun hlt => ?_)
  · refine qm ?_
    simp only [List.length_map, decide_eq_true_eq] at hlt
    have hlt' : k < l.length := by omega
    (repeat refine qb ?_); refine ql ?_
    (repeat refine qb ?_); refine qa ?_
    repeat (first | refine zR ?_ | refine zK ?_ | refine zM ?_ | refine zB ?_ | refine zA ?_ | refine zS ?_ | refine zL ?_)
    refine qc ?_
    (repeat refine qb ?_); refine qa ?_
    repeat (first | refine zR ?_ | refine zK ?_ | refine zM ?_ | refine zB ?_ | refine zA ?_ | refine zS ?_ | refine zL ?_)
    refine qw qe rfl rfl (by simp only [List.length_map]; omega) rfl ?_
    rw [qJ hlt']
    repeat (first | refine zR ?_ | refine zK ?_ | refine zM ?_ | refine zB ?_ | refine zA ?_ | refine zS ?_ | refine zL ?_)
    refine qn rfl (qg rfl rfl rfl rfl (hF l[k] (List.getElem_mem hlt')) rfl rfl ?_)
    repeat (first | refine zR ?_ | refine zK ?_ | refine zM ?_ | refine zB ?_ | refine zA ?_ | refine zS ?_ | refine zL ?_)
    refine qc ?_
    (repeat refine qb ?_); refine qf rfl (fun hp => ?_) (fun hp => ?_)
    · (repeat refine qb ?_); refine qa ?_
      repeat (first | refine zR ?_ | refine zK ?_ | refine zM ?_ | refine zB ?_ | refine zA ?_ | refine zS ?_ | refine zL ?_)
      refine qc ?_
      (repeat refine qb ?_); refine qk ?_
      refine zg rfl ?_
      have e : l.findIdx p = k := (List.findIdx_eq hlt').2 ⟨hp, fun j hj => ha _ (List.mem_take_iff_getElem.2 ⟨j, by omega, rfl⟩)⟩
      rw [e, if_pos hlt']
    · refine qm ?_
      (repeat refine qb ?_); refine qa ?_
      repeat (first | refine zR ?_ | refine zK ?_ | refine zM ?_ | refine zB ?_ | refine zA ?_ | refine zS ?_ | refine zL ?_)
      refine qc ?_
      refine ⟨_, _, ?_, qq [0, 1, 7, 8] [] rfl rfl, k + 1, _, hlt', rfl, qz hlt' (by omega), ?_, rfl⟩
      · omega
      · intro g hg
        rw [List.take_succ_eq_append_getElem hlt', List.mem_append, List.mem_singleton] at hg
        rcases hg with hg | rfl
        · exact ha g hg
        · exact hp
  · refine qK ?_
    simp only [List.length_map, decide_eq_false_iff_not] at hlt
    have hkk : k = l.length := by omega
    subst hkk
    (repeat refine qb ?_); refine qa ?_
    repeat (first | refine zR ?_ | refine zK ?_ | refine zM ?_ | refine zB ?_ | refine zA ?_ | refine zS ?_ | refine zL ?_)
    refine qc ?_
    (repeat refine qb ?_); refine qk ?_
    refine zg rfl ?_
    rw [List.take_length] at ha
    rw [if_neg]
    have := List.findIdx_eq_length_of_false ha
    omega
theorem indexEq_h (l : List Mk) (hn : l.length ≤ 1000000) (hl : ∀ m ∈ l, m ∈ mks) (v : Mk) (hv : v ∈ mks) :
    Holds Tryz.prog 154 [marksP l, mkP v] (.p (pI (if l.findIdx (fun m => decide (v = m)) < l.length then (l.findIdx (fun m => decide (v = m)) : Int) else -1))) [] := by
  refine qA (ts := [4]) Tryz.func154 (by kernel_rfl) rfl rfl rfl ?_
  (repeat refine qb ?_); refine qa ?_
  repeat (first | refine zR ?_ | refine zK ?_ | refine zM ?_ | refine zB ?_ | refine zA ?_ | refine zS ?_ | refine zL ?_)
  refine qc ?_
  (repeat refine qb ?_); refine qa ?_
  repeat (first | refine zR ?_ | refine zK ?_ | refine zM ?_ | refine zB ?_ | refine zA ?_ | refine zS ?_ | refine zL ?_)
  refine qc ?_
  (repeat refine qb ?_); refine ql ?_
  refine SW.wk (qq [0, 1, 7, 8] [] rfl rfl) ?_
  refine qO (fun n s => ∃ (k : Nat) (kk : Int), k ≤ l.length ∧ n = l.length - k ∧ kk = k ∧ (∀ g ∈ l.take k, decide (v = g) = false) ∧ s = ⟨19, [(0, .p (marksP l)), (1, .p (mkP v)), (7, .p (pI (l.map fun m => [mkP m]).length)), (8, .p (pI kk))], []⟩) l.length ⟨0, 0, Nat.zero_le _, rfl, rfl, by simp, rfl⟩ ?_
  rintro n s ⟨k, _, hk, rfl, rfl, ha, rfl⟩
  (repeat refine qb ?_); refine qa ?_
  repeat (first | refine zR ?_ | refine zK ?_ | refine zM ?_ | refine zB ?_ | refine zA ?_ | refine zS ?_ | refine zL ?_)
  refine qc ?_
  (repeat refine qb ?_); refine qf rfl (fun hlt => ?_) (fun hlt => ?_)
  · refine qm ?_
    simp only [List.length_map, decide_eq_true_eq] at hlt
    have hlt' : k < l.length := by omega
    (repeat refine qb ?_); refine ql ?_
    (repeat refine qb ?_); refine qa ?_
    repeat (first | refine zR ?_ | refine zK ?_ | refine zM ?_ | refine zB ?_ | refine zA ?_ | refine zS ?_ | refine zL ?_)
    refine qc ?_
    (repeat refine qb ?_); refine qa ?_
    repeat (first | refine zR ?_ | refine zK ?_ | refine zM ?_ | refine zB ?_ | refine zA ?_ | refine zS ?_ | refine zL ?_)
    refine qw qe rfl rfl (by simp only [List.length_map]; omega) rfl ?_
    rw [qJ hlt']
    repeat (first | refine zR ?_ | refine zK ?_ | refine zM ?_ | refine zB ?_ | refine zA ?_ | refine zS ?_ | refine zL ?_)
    refine qc ?_
    (repeat refine qb ?_); refine qf rfl (fun hp => ?_) (fun hp => ?_)
    · (repeat refine qb ?_); refine qa ?_
      repeat (first | refine zR ?_ | refine zK ?_ | refine zM ?_ | refine zB ?_ | refine zA ?_ | refine zS ?_ | refine zL ?_)
      refine qc ?_
      (repeat refine qb ?_); refine qk ?_
      refine zg rfl ?_
      change mkE v l[k] = true at hp
      rw [mkE_eq hv (hl _ (List.getElem_mem hlt'))] at hp
      have e : l.findIdx (fun m => decide (v = m)) = k := (List.findIdx_eq hlt').2 ⟨hp, fun j hj => ha _ (List.mem_take_iff_getElem.2 ⟨j, by omega, rfl⟩)⟩
      rw [e, if_pos hlt']
    · change mkE v l[k] = false at hp
      rw [mkE_eq hv (hl _ (List.getElem_mem hlt'))] at hp
      refine qm ?_
      (repeat refine qb ?_); refine qa ?_
      repeat (first | refine zR ?_ | refine zK ?_ | refine zM ?_ | refine zB ?_ | refine zA ?_ | refine zS ?_ | refine zL ?_)
      refine qc ?_
      refine ⟨_, _, ?_, qq [0, 1, 7, 8] [] rfl rfl, k + 1, _, hlt', rfl, qz hlt' (by omega), ?_, rfl⟩
      · omega
      · intro g hg
        rw [List.take_succ_eq_append_getElem hlt', List.mem_append, List.mem_singleton] at hg
        rcases hg with hg | rfl
        · exact ha g hg
        · exact hp
  · refine qK ?_
    simp only [List.length_map, decide_eq_false_iff_not] at hlt
    have hkk : k = l.length := by omega
    subst hkk
    (repeat refine qb ?_); refine qa ?_
    repeat (first | refine zR ?_ | refine zK ?_ | refine zM ?_ | refine zB ?_ | refine zA ?_ | refine zS ?_ | refine zL ?_)
    refine qc ?_
    (repeat refine qb ?_); refine qk ?_
    refine zg rfl ?_
    rw [List.take_length] at ha
    rw [if_neg]
    have := List.findIdx_eq_length_of_false ha
    omega
theorem contMk_h (l : List Mk) (hn : l.length ≤ 1000000) (hl : ∀ m ∈ l, m ∈ mks) (v : Mk) (hv : v ∈ mks) :
    Holds Tryz.prog 142 [marksP l, mkP v] (.p (pB (decide (v ∈ l)))) [] := by
  refine qA (ts := [4]) Tryz.func142 (by kernel_rfl) rfl rfl rfl ?_
  (repeat refine qb ?_); refine qa ?_
  repeat (first | refine zR ?_ | refine zK ?_ | refine zM ?_ | refine zB ?_ | refine zA ?_ | refine zS ?_ | refine zL ?_)
  refine qc ?_
  (repeat refine qb ?_); refine qa ?_
  repeat (first | refine zR ?_ | refine zK ?_ | refine zM ?_ | refine zB ?_ | refine zA ?_ | refine zS ?_ | refine zL ?_)
  refine qn rfl (qg rfl rfl rfl rfl (indexEq_h l hn hl v hv) rfl rfl ?_)
  repeat (first | refine zR ?_ | refine zK ?_ | refine zM ?_ | refine zB ?_ | refine zA ?_ | refine zS ?_ | refine zL ?_)
  refine qc ?_
  (repeat refine qb ?_); refine qk ?_
  refine wS rfl ?_
  by_cases h : v ∈ l
  · have : l.findIdx (fun m => decide (v = m)) < l.length := List.findIdx_lt_length_of_exists ⟨v, h, by simp⟩
    rw [if_pos this]
    simp [h]
  · have : l.findIdx (fun m => decide (v = m)) = l.length := List.findIdx_eq_length_of_false fun x hx => by
      simp only [decide_eq_false_iff_not]
      exact fun e => h (e ▸ hx)
    rw [if_neg (by omega)]
    simp [h]
theorem unless_h (l : List Mk) (hn : l.length ≤ 1000000) (hl : ∀ m ∈ l, m ∈ mks) (m o : Mk) (ho : o ∈ mks) : Holds Tryz.prog 112 [marksP l, mkP m, mkP o] (.p (mkP (zY l m o))) [] := by
  unfold zY
  refine qA (ts := [6]) Tryz.func112 (by kernel_rfl) rfl rfl rfl ?_
  (repeat refine qb ?_); refine qa ?_
  repeat (first | refine zR ?_ | refine zK ?_ | refine zM ?_ | refine zB ?_ | refine zA ?_ | refine zS ?_ | refine zL ?_)
  refine qc ?_
  (repeat refine qb ?_); refine qa ?_
  repeat (first | refine zR ?_ | refine zK ?_ | refine zM ?_ | refine zB ?_ | refine zA ?_ | refine zS ?_ | refine zL ?_)
  refine qn rfl (qg rfl rfl rfl rfl (contMk_h l hn hl o ho) rfl rfl ?_)
  repeat (first | refine zR ?_ | refine zK ?_ | refine zM ?_ | refine zB ?_ | refine zA ?_ | refine zS ?_ | refine zL ?_)
  refine qc ?_
  (repeat refine qb ?_); refine qf rfl (fun hc => ?_) (fun hc => ?_)
  · (repeat refine qb ?_); refine qa ?_
    repeat (first | refine zR ?_ | refine zK ?_ | refine zM ?_ | refine zB ?_ | refine zA ?_ | refine zS ?_ | refine zL ?_)
    refine qc ?_
    (repeat refine qb ?_); refine qk ?_
    rw [if_pos (of_decide_eq_true hc)]
    exact ⟨Or.inr rfl, _, _, [], Wk.refl _, rfl, rfl, rfl, rfl⟩
  · refine qm ?_
    (repeat refine qb ?_); refine qa ?_
    repeat (first | refine zR ?_ | refine zK ?_ | refine zM ?_ | refine zB ?_ | refine zA ?_ | refine zS ?_ | refine zL ?_)
    refine qc ?_
    (repeat refine qb ?_); refine qk ?_
    rw [if_neg (of_decide_eq_false hc)]
    exact ⟨Or.inr rfl, _, _, [], Wk.refl _, rfl, rfl, rfl, rfl⟩
theorem firstM_idx : ∀ {l : List Mk} {k : Nat} (h : k < l.length), l.findIdx (fun m => decide (m ≠ (0, 0))) = k → wy l = l[k]
  | m :: l, k, h, e => by
    rw [List.findIdx_cons] at e
    rw [wy]
    by_cases hm : m = (0, 0)
    · rw [if_pos hm]
      rw [show decide (m ≠ (0, 0)) = false by simp [hm], cond_false] at e
      obtain ⟨j, rfl⟩ : ∃ j, k = j + 1 := ⟨k - 1, by omega⟩
      rw [List.getElem_cons_succ]
      exact firstM_idx (by simpa using h) (by omega)
    · rw [if_neg hm]
      rw [show decide (m ≠ (0, 0)) = true by simp [hm], cond_true] at e
      subst e; rfl
theorem firstM_none : ∀ {l : List Mk}, (∀ m ∈ l, m = (0, 0)) → wy l = (0, 0)
  | [], _ => rfl
  | m :: l, h => by rw [wy, if_pos (h m (by simp))]; exact firstM_none fun x hx => h x (List.mem_cons_of_mem _ hx)
theorem first_h (l : List Mk) (hn : l.length ≤ 1000000) (hl : ∀ m ∈ l, m ∈ mks) : Holds Tryz.prog 110 [marksP l] (.p (mkP (wy l))) [] := by
  refine qA (ts := [2]) Tryz.func110 (by kernel_rfl) rfl rfl rfl ?_
  (repeat refine qb ?_); refine qa ?_
  repeat (first | refine zR ?_ | refine zK ?_ | refine zM ?_ | refine zB ?_ | refine zA ?_ | refine zS ?_ | refine zL ?_)
  refine qc ?_
  (repeat refine qb ?_); refine qa ?_
  repeat (first | refine zR ?_ | refine zK ?_ | refine zM ?_ | refine zB ?_ | refine zA ?_ | refine zS ?_ | refine zL ?_)
  refine qn rfl (qg rfl rfl rfl rfl (indexMk_h l hn _ _ (fun m => decide (m ≠ (0, 0))) (fun m hm => applies_h m (hl m hm))) rfl rfl ?_)
  repeat (first | refine zR ?_ | refine zK ?_ | refine zM ?_ | refine zB ?_ | refine zA ?_ | refine zS ?_ | refine zL ?_)
  refine qc ?_
  by_cases hf : l.findIdx (fun m => decide (m ≠ (0, 0))) < l.length
  · obtain ⟨k, hk, e1, e⟩ : ∃ k, ∃ h : k < l.length, l.findIdx (fun m => decide (m ≠ (0, 0))) = k ∧ wy l = l[k] := ⟨_, hf, rfl, firstM_idx hf rfl⟩
    rw [if_pos hf, e1, e]
    clear e1 hf
    (repeat refine qb ?_); refine qa ?_
    repeat (first | refine zR ?_ | refine zK ?_ | refine zM ?_ | refine zB ?_ | refine zA ?_ | refine zS ?_ | refine zL ?_)
    refine qc ?_
    (repeat refine qb ?_); refine qf rfl (fun hc => ?_) (fun hc => ?_)
    · (repeat refine qb ?_); refine qa ?_
      repeat (first | refine zR ?_ | refine zK ?_ | refine zM ?_ | refine zB ?_ | refine zA ?_ | refine zS ?_ | refine zL ?_)
      refine qw qe rfl rfl (by simp only [List.length_map]; omega) rfl ?_
      rw [qJ hk]
      repeat (first | refine zR ?_ | refine zK ?_ | refine zM ?_ | refine zB ?_ | refine zA ?_ | refine zS ?_ | refine zL ?_)
      refine qc ?_
      (repeat refine qb ?_); refine qk ?_
      exact ⟨Or.inr rfl, _, _, [], Wk.refl _, rfl, rfl, rfl, rfl⟩
    · exfalso
      simp at hc
  · have e : wy l = (0, 0) := firstM_none fun m hm => Classical.byContradiction fun hne => hf (List.findIdx_lt_length_of_exists ⟨m, hm, by simp [hne]⟩)
    rw [if_neg hf, e]
    (repeat refine qb ?_); refine qa ?_
    repeat (first | refine zR ?_ | refine zK ?_ | refine zM ?_ | refine zB ?_ | refine zA ?_ | refine zS ?_ | refine zL ?_)
    refine qc ?_
    (repeat refine qb ?_); refine qf rfl (fun hc => ?_) (fun hc => ?_)
    · cases hc
    · refine qm ?_
      (repeat refine qb ?_); refine qa ?_
      repeat (first | refine zR ?_ | refine zK ?_ | refine zM ?_ | refine zB ?_ | refine zA ?_ | refine zS ?_ | refine zL ?_)
      refine qc ?_
      (repeat refine qb ?_); refine qk ?_
      exact ⟨Or.inr rfl, _, _, [], Wk.refl _, rfl, rfl, rfl, rfl⟩
theorem stepJ_mem {j m : Mk} (hj : j ∈ mks) (hm : m ∈ mks) : stepJ j m ∈ mks := by
  unfold stepJ
  repeat' split
  · exact hm
  · simp [mks]
  · exact hj
theorem only_h (l : List Mk) (hn : l.length ≤ 1000000) (hl : ∀ m ∈ l, m ∈ mks) : Holds Tryz.prog 111 [marksP l] (.p (mkP (onlyM (0, 0) l))) [] := by
  refine qA (ts := [2]) Tryz.func111 (by kernel_rfl) rfl rfl rfl ?_
  (repeat refine qb ?_); refine qa ?_
  repeat (first | refine zR ?_ | refine zK ?_ | refine zM ?_ | refine zB ?_ | refine zA ?_ | refine zS ?_ | refine zL ?_)
  refine qc ?_
  (repeat refine qb ?_); refine qa ?_
  repeat (first | refine zR ?_ | refine zK ?_ | refine zM ?_ | refine zB ?_ | refine zA ?_ | refine zS ?_ | refine zL ?_)
  refine qc ?_
  (repeat refine qb ?_); refine qa ?_
  repeat (first | refine zR ?_ | refine zK ?_ | refine zM ?_ | refine zB ?_ | refine zA ?_ | refine zS ?_ | refine zL ?_)
  refine qc ?_
  (repeat refine qb ?_); refine ql ?_
  refine SW.wk (qq [3, 6, 7, 8] [] rfl rfl) ?_
  refine qO (fun n s => ∃ (k : Nat) (kk : Int) (j : Mk), k ≤ l.length ∧ n = l.length - k ∧ kk = k ∧ j ∈ mks ∧ onlyM (0, 0) l = onlyM j (l.drop k) ∧ s = ⟨20, [(3, .p (mkP j)), (6, .p (marksP l)), (7, .p (pI (l.map fun m => [mkP m]).length)), (8, .p (pI kk))], []⟩) l.length ⟨0, 0, (0, 0), Nat.zero_le _, rfl, rfl, by simp [mks], rfl, rfl⟩ ?_
  rintro n s ⟨k, _, j, hk, rfl, rfl, hj, ha, rfl⟩
  (repeat refine qb ?_); refine qa ?_
  repeat (first | refine zR ?_ | refine zK ?_ | refine zM ?_ | refine zB ?_ | refine zA ?_ | refine zS ?_ | refine zL ?_)
  refine qc ?_
  (repeat refine qb ?_); refine qf rfl (fun hlt => ?_) (fun hlt => ?_)
  · refine qm ?_
    simp only [List.length_map, decide_eq_true_eq] at hlt
    have hlt' : k < l.length := by omega
    have hm := hl _ (List.getElem_mem hlt')
    rw [List.drop_eq_getElem_cons hlt', onlyM] at ha
    (repeat refine qb ?_); refine ql ?_
    (repeat refine qb ?_); refine qa ?_
    repeat (first | refine zR ?_ | refine zK ?_ | refine zM ?_ | refine zB ?_ | refine zA ?_ | refine zS ?_ | refine zL ?_)
    refine qw qe rfl rfl (by simp only [List.length_map]; omega) rfl ?_
    rw [qJ hlt']
    repeat (first | refine zR ?_ | refine zK ?_ | refine zM ?_ | refine zB ?_ | refine zA ?_ | refine zS ?_ | refine zL ?_)
    refine qc ?_
    (repeat refine qb ?_); refine qa ?_
    repeat (first | refine zR ?_ | refine zK ?_ | refine zM ?_ | refine zB ?_ | refine zA ?_ | refine zS ?_ | refine zL ?_)
    refine qn rfl (qg rfl rfl rfl rfl (sure_h l[k] hm) rfl rfl ?_)
    repeat (first | refine zR ?_ | refine zK ?_ | refine zM ?_ | refine zB ?_ | refine zA ?_ | refine zS ?_ | refine zL ?_)
    refine qc ?_
    cases hs : sureM l[k] with
    | false =>
      rw [hs, if_neg (by simp)] at ha
      (repeat refine qb ?_); refine qf rfl (fun hc => ?_) (fun hc => ?_)
      · (repeat refine qb ?_); refine qa ?_
        repeat (first | refine zR ?_ | refine zK ?_ | refine zM ?_ | refine zB ?_ | refine zA ?_ | refine zS ?_ | refine zL ?_)
        refine qc ?_
        (repeat refine qb ?_); refine qk ?_
        rw [ha]
        exact ⟨Or.inr rfl, _, _, [], Wk.refl _, rfl, rfl, rfl, rfl⟩
      · cases hc
    | true =>
      rw [hs, if_pos rfl] at ha
      (repeat refine qb ?_); refine qf rfl (fun hc => ?_) (fun hc => ?_)
      · cases hc
      refine qm ?_
      (repeat refine qb ?_); refine qa ?_
      repeat (first | refine zR ?_ | refine zK ?_ | refine zM ?_ | refine zB ?_ | refine zA ?_ | refine zS ?_ | refine zL ?_)
      refine qn rfl (qg rfl rfl rfl rfl (step4_h j l[k] hj hm) rfl rfl ?_)
      repeat (first | refine zR ?_ | refine zK ?_ | refine zM ?_ | refine zB ?_ | refine zA ?_ | refine zS ?_ | refine zL ?_)
      refine qc ?_
      (repeat refine qb ?_); refine qa ?_
      repeat (first | refine zR ?_ | refine zK ?_ | refine zM ?_ | refine zB ?_ | refine zA ?_ | refine zS ?_ | refine zL ?_)
      refine qc ?_
      refine ⟨_, _, ?_, qq [3, 6, 7, 8] [] rfl rfl, k + 1, _, stepJ j l[k], hlt', rfl, qz hlt' (by omega), stepJ_mem hj hm, ha, rfl⟩
      omega
  · refine qK ?_
    simp only [List.length_map, decide_eq_false_iff_not] at hlt
    have hkk : k = l.length := by omega
    subst hkk
    rw [List.drop_length] at ha
    rw [ha]
    (repeat refine qb ?_); refine qa ?_
    repeat (first | refine zR ?_ | refine zK ?_ | refine zM ?_ | refine zB ?_ | refine zA ?_ | refine zS ?_ | refine zL ?_)
    refine qc ?_
    (repeat refine qb ?_); refine qk ?_
    exact ⟨Or.inr rfl, _, _, [], Wk.refl _, rfl, rfl, rfl, rfl⟩
theorem joinL_take {l : List Mk} {k : Nat} (h : k < l.length) : qaA (qaC (l.take k)) l[k] = qaC (l.take (k + 1)) := by
  unfold qaC
  rw [List.take_succ_eq_append_getElem h, List.foldl_append]; rfl
theorem combAll_h (alg : Int) (l : List Mk) (hn : l.length ≤ 1000000) (hl : ∀ m ∈ l, m ∈ mks) : Holds Tryz.prog 87 [pI alg, marksP l] (.tup [.p (mkP (allM alg l)), .p (pI (if 1 ≤ alg ∧ alg ≤ 6 then 0 else 1))]) [] := by
  refine qA (ts := [4,5]) Tryz.func87 (by kernel_rfl) rfl rfl rfl ?_
  (repeat refine qb ?_); refine qa ?_
  repeat (first | refine zR ?_ | refine zK ?_ | refine zM ?_ | refine zB ?_ | refine zA ?_ | refine zS ?_ | refine zL ?_)
  refine qc ?_
  (repeat refine qb ?_); refine qa ?_
  repeat (first | refine zR ?_ | refine zK ?_ | refine zM ?_ | refine zB ?_ | refine zA ?_ | refine zS ?_ | refine zL ?_)
  refine qc ?_
  (repeat refine qb ?_); refine qa ?_
  repeat (first | refine zR ?_ | refine zK ?_ | refine zM ?_ | refine zB ?_ | refine zA ?_ | refine zS ?_ | refine zL ?_)
  refine qc ?_
  (repeat refine qb ?_); refine ql ?_
  refine SW.wk (qq [0, 1, 6, 9, 10, 11] [] rfl rfl) ?_
  refine qO (fun m s => ∃ (k : Nat) (kk : Int) (j : Mk), k ≤ l.length ∧ m = l.length - k ∧ kk = k ∧ j = qaC (l.take k) ∧ (j.1 ≤ 2 ∧ j.2 ≤ 2) ∧ s = ⟨49, [(0, .p (pI alg)), (1, .p (marksP l)), (6, .p (mkP j)), (9, .p (marksP l)), (10, .p (pI (l.map fun m => [mkP m]).length)), (11, .p (pI kk))], []⟩) l.length ⟨0, 0, (0, 0), Nat.zero_le _, rfl, rfl, rfl, ⟨by decide, by decide⟩, rfl⟩ ?_
  rintro m s ⟨k, _, j, hk, rfl, rfl, hj, hj2, rfl⟩
  (repeat refine qb ?_); refine qa ?_
  repeat (first | refine zR ?_ | refine zK ?_ | refine zM ?_ | refine zB ?_ | refine zA ?_ | refine zS ?_ | refine zL ?_)
  refine qc ?_
  (repeat refine qb ?_); refine qf rfl (fun hlt => ?_) (fun hlt => ?_)
  · refine qm ?_
    simp only [List.length_map, decide_eq_true_eq] at hlt
    have hlt' : k < l.length := by omega
    have hm := hl _ (List.getElem_mem hlt')
    (repeat refine qb ?_); refine ql ?_
    (repeat refine qb ?_); refine qa ?_
    repeat (first | refine zR ?_ | refine zK ?_ | refine zM ?_ | refine zB ?_ | refine zA ?_ | refine zS ?_ | refine zL ?_)
    refine qw qe rfl rfl (by simp only [List.length_map]; omega) rfl ?_
    rw [qJ hlt']
    repeat (first | refine zR ?_ | refine zK ?_ | refine zM ?_ | refine zB ?_ | refine zA ?_ | refine zS ?_ | refine zL ?_)
    refine qc ?_
    (repeat refine qb ?_); refine qa ?_
    repeat (first | refine zR ?_ | refine zK ?_ | refine zM ?_ | refine zB ?_ | refine zA ?_ | refine zS ?_ | refine zL ?_)
    refine qn rfl (qg rfl rfl rfl rfl (mkRight_h l[k] hm) rfl rfl ?_)
    repeat (first | refine zR ?_ | refine zK ?_ | refine zM ?_ | refine zB ?_ | refine zA ?_ | refine zS ?_ | refine zL ?_)
    refine qc ?_
    (repeat refine qb ?_); refine qf rfl (fun hc => ?_) (fun hc => ?_)
    · cases hc
    refine qm ?_
    (repeat refine qb ?_); refine qa ?_
    repeat (first | refine zR ?_ | refine zK ?_ | refine zM ?_ | refine zB ?_ | refine zA ?_ | refine zS ?_ | refine zL ?_)
    refine qn rfl (qg rfl rfl rfl rfl (mkJoin_h j l[k] hj2 hm) rfl rfl ?_)
    repeat (first | refine zR ?_ | refine zK ?_ | refine zM ?_ | refine zB ?_ | refine zA ?_ | refine zS ?_ | refine zL ?_)
    refine qc ?_
    (repeat refine qb ?_); refine qa ?_
    repeat (first | refine zR ?_ | refine zK ?_ | refine zM ?_ | refine zB ?_ | refine zA ?_ | refine zS ?_ | refine zL ?_)
    refine qc ?_
    refine ⟨_, _, ?_, qq [0, 1, 6, 9, 10, 11] [] rfl rfl, k + 1, _, qaA j l[k], hlt', rfl, qz hlt' (by omega), ?_, joinM_le hj2 (mks_le hm), rfl⟩
    · omega
    · rw [hj]; exact joinL_take hlt'
  · refine qK ?_
    simp only [List.length_map, decide_eq_false_iff_not] at hlt
    have hkk : k = l.length := by omega
    subst hkk
    rw [List.take_length] at hj
    obtain ⟨a, b⟩ := j
    obtain ⟨h1, h2⟩ := hj2
    simp only at h1 h2
    (repeat refine qb ?_); refine qa ?_
    repeat (first | refine zR ?_ | refine zK ?_ | refine zM ?_ | refine zB ?_ | refine zA ?_ | refine zS ?_ | refine zL ?_)
    refine qc ?_
    (repeat refine qb ?_); refine ql ?_
    (repeat refine qb ?_); refine qa ?_
    repeat (first | refine zR ?_ | refine zK ?_ | refine zM ?_ | refine zB ?_ | refine zA ?_ | refine zS ?_ | refine zL ?_)
    refine qc ?_
    (repeat refine qb ?_); refine qf rfl (fun c1 => ?_) (fun c1 => ?_)
    · have e : alg = 1 := by simpa using c1
      subst e
      have e : allM 1 l = overM (a, b) := by rw [hj]; rfl
      rw [e]
      (repeat refine qb ?_); refine qa ?_
      repeat (first | refine zR ?_ | refine zK ?_ | refine zM ?_ | refine zB ?_ | refine zA ?_ | refine zS ?_ | refine zL ?_)
      refine qn rfl (qg rfl rfl rfl rfl (mkOver_h a b h1 h2) rfl rfl ?_)
      repeat (first | refine zR ?_ | refine zK ?_ | refine zM ?_ | refine zB ?_ | refine zA ?_ | refine zS ?_ | refine zL ?_)
      refine qc ?_
      (repeat refine qb ?_); refine qk ?_
      exact ⟨Or.inr rfl, _, _, [], Wk.refl _, rfl, rfl, rfl, rfl⟩
    have n1 : ¬ alg = 1 := by simpa using c1
    (repeat refine qb ?_); refine qa ?_
    repeat (first | refine zR ?_ | refine zK ?_ | refine zM ?_ | refine zB ?_ | refine zA ?_ | refine zS ?_ | refine zL ?_)
    refine qc ?_
    (repeat refine qb ?_); refine qf rfl (fun c2 => ?_) (fun c2 => ?_)
    · have e : alg = 2 := by simpa using c2
      subst e
      have e : allM 2 l = turnM (overM (b, a)) := by
        show turnM (overM (turnM (qaC l))) = _
        rw [← hj]; rfl
      rw [e]
      obtain ⟨ho1, ho2⟩ := mks_le (overM_mem (b, a))
      have HO := mkOver_h b a h2 h1
      generalize overM (b, a) = o at *
      obtain ⟨x, y⟩ := o
      (repeat refine qb ?_); refine qa ?_
      repeat (first | refine zR ?_ | refine zK ?_ | refine zM ?_ | refine zB ?_ | refine zA ?_ | refine zS ?_ | refine zL ?_)
      refine qn rfl (qg rfl rfl rfl rfl (mkTurn_h a b h1 h2) rfl rfl ?_)
      repeat (first | refine zR ?_ | refine zK ?_ | refine zM ?_ | refine zB ?_ | refine zA ?_ | refine zS ?_ | refine zL ?_)
      refine qn rfl (qg rfl rfl rfl rfl (HO) rfl rfl ?_)
      repeat (first | refine zR ?_ | refine zK ?_ | refine zM ?_ | refine zB ?_ | refine zA ?_ | refine zS ?_ | refine zL ?_)
      refine qn rfl (qg rfl rfl rfl rfl (mkTurn_h x y ho1 ho2) rfl rfl ?_)
      repeat (first | refine zR ?_ | refine zK ?_ | refine zM ?_ | refine zB ?_ | refine zA ?_ | refine zS ?_ | refine zL ?_)
      refine qc ?_
      (repeat refine qb ?_); refine qk ?_
      exact ⟨Or.inr rfl, _, _, [], Wk.refl _, rfl, rfl, rfl, rfl⟩
    have n2 : ¬ alg = 2 := by simpa using c2
    (repeat refine qb ?_); refine qa ?_
    repeat (first | refine zR ?_ | refine zK ?_ | refine zM ?_ | refine zB ?_ | refine zA ?_ | refine zS ?_ | refine zL ?_)
    refine qc ?_
    (repeat refine qb ?_); refine qf rfl (fun c3 => ?_) (fun c3 => ?_)
    · have e : alg = 3 := by simpa using c3
      subst e
      rw [show allM 3 l = wy l from rfl]
      (repeat refine qb ?_); refine qa ?_
      repeat (first | refine zR ?_ | refine zK ?_ | refine zM ?_ | refine zB ?_ | refine zA ?_ | refine zS ?_ | refine zL ?_)
      refine qn rfl (qg rfl rfl rfl rfl (first_h l hn hl) rfl rfl ?_)
      repeat (first | refine zR ?_ | refine zK ?_ | refine zM ?_ | refine zB ?_ | refine zA ?_ | refine zS ?_ | refine zL ?_)
      refine qc ?_
      (repeat refine qb ?_); refine qk ?_
      exact ⟨Or.inr rfl, _, _, [], Wk.refl _, rfl, rfl, rfl, rfl⟩
    have n3 : ¬ alg = 3 := by simpa using c3
    (repeat refine qb ?_); refine qa ?_
    repeat (first | refine zR ?_ | refine zK ?_ | refine zM ?_ | refine zB ?_ | refine zA ?_ | refine zS ?_ | refine zL ?_)
    refine qc ?_
    (repeat refine qb ?_); refine qf rfl (fun c4 => ?_) (fun c4 => ?_)
    · have e : alg = 4 := by simpa using c4
      subst e
      rw [show allM 4 l = onlyM (0, 0) l from rfl]
      (repeat refine qb ?_); refine qa ?_
      repeat (first | refine zR ?_ | refine zK ?_ | refine zM ?_ | refine zB ?_ | refine zA ?_ | refine zS ?_ | refine zL ?_)
      refine qn rfl (qg rfl rfl rfl rfl (only_h l hn hl) rfl rfl ?_)
      repeat (first | refine zR ?_ | refine zK ?_ | refine zM ?_ | refine zB ?_ | refine zA ?_ | refine zS ?_ | refine zL ?_)
      refine qc ?_
      (repeat refine qb ?_); refine qk ?_
      exact ⟨Or.inr rfl, _, _, [], Wk.refl _, rfl, rfl, rfl, rfl⟩
    have n4 : ¬ alg = 4 := by simpa using c4
    (repeat refine qb ?_); refine qa ?_
    repeat (first | refine zR ?_ | refine zK ?_ | refine zM ?_ | refine zB ?_ | refine zA ?_ | refine zS ?_ | refine zL ?_)
    refine qc ?_
    (repeat refine qb ?_); refine qf rfl (fun c5 => ?_) (fun c5 => ?_)
    · have e : alg = 5 := by simpa using c5
      subst e
      rw [show allM 5 l = zY l (0, 2) (2, 0) from rfl]
      (repeat refine qb ?_); refine qa ?_
      repeat (first | refine zR ?_ | refine zK ?_ | refine zM ?_ | refine zB ?_ | refine zA ?_ | refine zS ?_ | refine zL ?_)
      refine qn rfl (qg rfl rfl rfl rfl (unless_h l hn hl (0, 2) (2, 0) (by simp [mks])) rfl rfl ?_)
      repeat (first | refine zR ?_ | refine zK ?_ | refine zM ?_ | refine zB ?_ | refine zA ?_ | refine zS ?_ | refine zL ?_)
      refine qc ?_
      (repeat refine qb ?_); refine qk ?_
      exact ⟨Or.inr rfl, _, _, [], Wk.refl _, rfl, rfl, rfl, rfl⟩
    have n5 : ¬ alg = 5 := by simpa using c5
    (repeat refine qb ?_); refine qa ?_
    repeat (first | refine zR ?_ | refine zK ?_ | refine zM ?_ | refine zB ?_ | refine zA ?_ | refine zS ?_ | refine zL ?_)
    refine qc ?_
    (repeat refine qb ?_); refine qf rfl (fun c6 => ?_) (fun c6 => ?_)
    · have e : alg = 6 := by simpa using c6
      subst e
      rw [show allM 6 l = zY l (2, 0) (0, 2) from rfl]
      (repeat refine qb ?_); refine qa ?_
      repeat (first | refine zR ?_ | refine zK ?_ | refine zM ?_ | refine zB ?_ | refine zA ?_ | refine zS ?_ | refine zL ?_)
      refine qn rfl (qg rfl rfl rfl rfl (unless_h l hn hl (2, 0) (0, 2) (by simp [mks])) rfl rfl ?_)
      repeat (first | refine zR ?_ | refine zK ?_ | refine zM ?_ | refine zB ?_ | refine zA ?_ | refine zS ?_ | refine zL ?_)
      refine qc ?_
      (repeat refine qb ?_); refine qk ?_
      exact ⟨Or.inr rfl, _, _, [], Wk.refl _, rfl, rfl, rfl, rfl⟩
    · have n6 : ¬ alg = 6 := by simpa using c6
      have e : allM alg l = (0, 0) := by unfold allM; rw [if_neg n1, if_neg n2, if_neg n3, if_neg n4, if_neg n5, if_neg n6]
      rw [e, if_neg (by omega)]
      refine qm ?_
      (repeat refine qb ?_); refine qa ?_
      repeat (first | refine zR ?_ | refine zK ?_ | refine zM ?_ | refine zB ?_ | refine zA ?_ | refine zS ?_ | refine zL ?_)
      refine qc ?_
      (repeat refine qb ?_); refine qk ?_
      exact ⟨Or.inr rfl, _, _, [], Wk.refl _, rfl, rfl, rfl, rfl⟩
end Go.Proofs.YtppfcacnofjmdaaGreatDoor
namespace Go.Proofs.YtppfcacnofjmdaaGreatDoor
set_option linter.unusedVariables false
set_option linter.unusedSimpArgs false
open Go.RowKit
def SWB (P : Program) (ops : List Oper) (κ : Kap) (ls : Array Bool) (fuel : Nat) (Q : St → Prop) (st : St) : Prop := ∀ (w0 : Base) (Sx : Nat → Prop) (γ : Nat → Value) (a : Act) (w : World) (QQ : Exit → Act → World → Prop), Sim w0 Sx γ st a w →
  (∀ st' γ' a' w', Sim w0 Sx γ' st' a' w' → Q st' → QQ .normal a' w') → wpAnyP P ops.toArray (NoPanic QQ) fuel (pendOf γ st.own w κ) ls a w
def SWBo (P : Program) (ops : List Oper) (κ : Kap) (ls : Array Bool) (fuel : Nat) (Q : St → Prop) (st : St) (i : Nat) : Prop := ∀ (w0 : Base) (Sx : Nat → Prop) (γ : Nat → Value) (a : Act) (w : World) (QQ : Exit → Act → World → Prop), Sim w0 Sx γ st a w →
  (∀ st' γ' a' w', Sim w0 Sx γ' st' a' w' → Q st' → QQ .normal a' w') → wpOp P ops.toArray (NoPanic QQ) i (fun a' w' => (∀ p ∈ alive ops.toArray i (pendOf γ st.own w κ), p.2 w') ∧ wpAnyP P ops.toArray (NoPanic QQ) fuel (alive ops.toArray i (pendOf γ st.own w κ)) (ls.setIfInBounds i true) a' w') a w
section
variable {P : Program} {ops : List Oper} {κ : Kap} {ls : Array Bool} {fuel : Nat} {st : St} {Q : St → Prop} {i j : Nat} {o : Oper}
theorem zd (hr : Region.ready .any ops.toArray ls = []) (h : Q st) : SWB P ops κ ls fuel Q st := fun _ _ γ a w _ hI hQ => by
  cases fuel with
  | zero => exact ⟨hr, hQ st γ a w hI h⟩
  | succ f => exact ⟨fun _ => hQ st γ a w hI h, fun i hi => by rw [hr] at hi; cases hi⟩
theorem qo (i : Nat) (hr : Region.ready .any ops.toArray ls = [i]) (h : SWBo P ops κ ls fuel Q st i) : SWB P ops κ ls (fuel + 1) Q st := fun w0 Sx γ a w QQ hI hQ =>
  ⟨fun h0 => (by rw [hr] at h0; cases h0), fun k hk => by
    rw [hr] at hk
    obtain rfl : k = i := by simpa using hk
    exact h w0 Sx γ a w QQ hI hQ⟩
theorem qy {K : List Nat} {s : SV} (hB : (Region.free .any ops.toArray ls i && (Region.ready .any ops.toArray ls).contains i) = true) (hs : Region.noSelect ops.toArray = true) (hi : nthO ops i = some o) (hw : zw ops st o = some true) (hr : RdO P K st o s) (hd : zn st o.dst = true)
    (h : SWB P ops ((i, K) :: κ) (ls.setIfInBounds i true) fuel Q (st.put o.dst s)) : SWB P ops κ ls (fuel + 1) Q st := fun w0 Sx γ a w QQ hI hQ => by
  obtain ⟨v, h1, h2⟩ := hr w0 Sx γ a w hI
  have hrest := h w0 Sx γ _ w QQ (hI.put (dst := o.dst) hd h1) hQ
  simp only [wP] at hrest
  rw [Bool.and_eq_true] at hB
  have hio := (qZ ops i).trans hi
  exact wpAnyP_first hio (Region.noSelect_spec hs) (fun _ _ _ h => h) fuel _ ls a w (Region.free_spec hio hB.1) (by simpa using hB.2) (Or.inl ⟨zD hI hw, h2⟩) (SameOn.refl _ _) wC hrest
theorem qd {Ws : List Nat} (hi : nthO ops i = some o) (hw : zw ops st o = some true) (hK : (kapB o κ).all (fun p => Ws.all fun j => p.2.contains j) = true) (h : ActOk P Ws o st (SWB P ops (kapB o κ) (ls.setIfInBounds i true) fuel Q)) : SWBo P ops κ ls fuel Q st i := fun w0 Sx γ a w QQ hI hQ => by
  have hsub : ∀ p ∈ kapB o κ, ∀ j ∈ Ws, j ∈ p.2 := fun p hp j hj => by simpa using List.all_eq_true.1 (List.all_eq_true.1 hK p hp) j hj
  have hio := (qZ ops i).trans hi
  unfold wpOp
  rw [hio]
  simp only [zD hI hw, if_true]
  refine Or.inl ?_
  have := h w0 Sx γ a w (NoPanic QQ) hI
  have mono : ∀ {a' w'}, (∃ γ' st', SWB P ops (kapB o κ) (ls.setIfInBounds i true) fuel Q st' ∧ Sim w0 Sx γ' st' a' w' ∧ SameOn (vis Ws γ st.own) w w' ∧ ∀ K : List Nat, (∀ i ∈ Ws, i ∈ K) → ∀ b, b < w.heap.size → vis K γ st.own b → vis K γ' st'.own b) →
      (∀ p ∈ alive ops.toArray i (pendOf γ st.own w κ), p.2 w') ∧ wpAnyP P ops.toArray (NoPanic QQ) fuel (alive ops.toArray i (pendOf γ st.own w κ)) (ls.setIfInBounds i true) a' w' := fun {a' w'} ⟨γ', st', h1, h2, h3, h4⟩ => by
    have hc : Covers (alive ops.toArray i (pendOf γ st.own w κ)) (pendOf γ' st'.own w' (kapB o κ)) := fun p hp => by
      obtain ⟨hp1, hp2⟩ := mem_alive.1 hp
      obtain ⟨q, hq, rfl⟩ := List.mem_map.1 hp1
      have hq' : q ∈ kapB o κ := List.mem_filter.2 ⟨hq, by rw [hp2 o hio]; rfl⟩
      have hs := hsub q hq'
      refine .inr ⟨_, List.mem_map.2 ⟨q, hq', rfl⟩, rfl, fun x hx => ⟨Nat.le_trans h3.size hx.size, fun b hb hv => ?_⟩⟩
      have e1 := h3.block b hb (fun j bx hj hjW hjb => hv j bx hj (by simpa using hs j (by simpa using hjW)) hjb)
      have e2 := hx.block b (Nat.lt_of_lt_of_le hb h3.size) (h4 q.2 hs b hb hv)
      exact e2.trans e1
    exact ⟨hc.at wC, jC _ hc _ _ _ (h1 w0 Sx γ' a' w' QQ h2 hQ)⟩
  unfold Oper.wp at this ⊢
  generalize (execOp a.eval o).run P w = res at *
  cases res with
  | ok n w' =>
    cases n <;> simp only [Oper.upon] at this ⊢ <;> first
      | exact mono this
      | exact this
      | exact Calls.mono this (fun e w'' he => by cases e <;> first | exact mono he | exact he)
      | exact Rows.mono this (fun _ _ he => mono he)
  | halt x w' => cases x <;> simp only [Oper.upon] at this ⊢ <;> exact this
theorem zH {id : Nat} {l : List Oper} {QS : SEx → St → Prop} (n : Nat) (hn : l.length = n) (hm : P.follows .mixedOrders = true) (h : SWB P l [] (Array.replicate n false) n (QS .normal) st) : SW P (.region id l.toArray true) QS st := fun w0 Sx γ a w QQ hI hQ => by
  refine wp_region_noPanic (wp_region_any hm (wZ _ [] _ _ _ ?_))
  have h1 := h w0 Sx γ a w.drew QQ hI.drew fun s' γ' a' w' hI' hq => hQ .normal s' γ' a' w' hI' hq
  have e : l.toArray.size = n := by simpa using hn
  rw [e]
  exact h1
end
end Go.Proofs.YtppfcacnofjmdaaGreatDoor
namespace Go.Proofs.YtppfcacnofjmdaaGreatDoor
set_option linter.unusedVariables false
set_option linter.unusedSimpArgs false
open Go.RowKit
set_option maxHeartbeats 4000000
def rsP (x : Rs) : List PV := [mkP x.m, zQ x.obls]
def rssP (l : List Rs) : PV := .sl 2 (l.map rsP)
theorem dutiesS_take {l : List Obli} {m : Mk} {k : Nat} (h : k < l.length) : jm (l.take (k + 1)) m = if dutyS m l[k] then jm (l.take k) m ++ [l[k]] else jm (l.take k) m := by
  unfold jm
  rw [List.take_succ_eq_append_getElem h, List.filter_append]
  cases hd : dutyS m l[k] <;> simp [hd]
theorem wq (l : List Obli) (m : Mk) : (jm l m).length ≤ l.length := List.length_filter_le _ _
theorem duties_h (l : List Obli) (hn : l.length ≤ 1000000) (m : Mk) (hm : m ∈ mks) : Holds Tryz.prog 70 [zQ l, mkP m] (.p (zQ (jm l m))) [] := by
  have lm : (l.map Obli.pv).length = l.length := by simp
  refine .ofW ?_
  refine qR (T := TTab) qe Tryz.func70 (by kernel_rfl) rfl rfl rfl ?_
  (repeat refine qb ?_); refine qa ?_
  repeat (first | refine zR ?_ | refine zK ?_ | refine zM ?_ | refine zB ?_ | refine zA ?_ | refine zS ?_ | refine zL ?_)
  refine qc ?_
  (repeat refine qb ?_); refine qa ?_
  repeat (first | refine zR ?_ | refine zK ?_ | refine zM ?_ | refine zB ?_ | refine zA ?_ | refine zS ?_ | refine zL ?_)
  refine qc ?_
  (repeat refine qb ?_); refine qa ?_
  repeat (first | refine zR ?_ | refine zK ?_ | refine zM ?_ | refine zB ?_ | refine zA ?_ | refine zS ?_ | refine zL ?_)
  refine qc ?_
  (repeat refine qb ?_); refine ql ?_
  refine SW.wk (jP 5 900 43 3 rfl rfl) ?_
  refine SW.wk (qq [1, 5, 8, 9, 10] [(900, 0)] rfl rfl) ?_
  refine qO (fun n s => ∃ (k : Nat) (kk : Int) (L : List Obli), k ≤ l.length ∧ n = l.length - k ∧ kk = k ∧ L = jm (l.take k) m ∧ s = ⟨36, [(1, .p (mkP m)), (5, .row 0), (8, .p (zQ l)), (9, .p (pI (l.map Obli.pv).length)), (10, .p (pI kk))], [(0, .row 43 3 (L.map Obli.pv))]⟩) l.length ⟨0, 0, [], Nat.zero_le _, rfl, rfl, rfl, rfl⟩ ?_
  rintro n s ⟨k, _, L, hk, rfl, rfl, hL, rfl⟩
  (repeat refine qb ?_); refine qa ?_
  repeat (first | refine zR ?_ | refine zK ?_ | refine zM ?_ | refine zB ?_ | refine zA ?_ | refine zS ?_ | refine zL ?_)
  refine qc ?_
  (repeat refine qb ?_); refine qf rfl (fun hlt => ?_) (fun hlt => ?_)
  · refine qm ?_
    rw [lm] at hlt
    simp only [decide_eq_true_eq] at hlt
    have hlt' : k < l.length := by omega
    have hs := dutiesS_take (m := m) hlt'
    have hLl : L.length ≤ k := by rw [hL]; have := wq (l.take k) m; simp at this; omega
    (repeat refine qb ?_); refine ql ?_
    (repeat refine qb ?_); refine qa ?_
    repeat (first | refine zR ?_ | refine zK ?_ | refine zM ?_ | refine zB ?_ | refine zA ?_ | refine zS ?_ | refine zL ?_)
    refine qw qe rfl rfl (by rw [lm]; omega) rfl ?_
    rw [qJ hlt']
    repeat (first | refine zR ?_ | refine zK ?_ | refine zM ?_ | refine zB ?_ | refine zA ?_ | refine zS ?_ | refine zL ?_)
    refine qc ?_
    have hd : dutyS m l[k] = bif (l[k].on == 1) && mkE m (2, 0) then true else (l[k].on == 2) && mkE m (0, 2) := by
      rw [mkE_eq hm (by simp [mks]), mkE_eq hm (by simp [mks])]
      unfold dutyS
      rw [Bool.eq_iff_iff]
      simp
    (repeat refine qb ?_); refine qs (by kernel_rfl) ?_
    repeat (refine qr qe rfl (by exact True.intro) rfl ?_)
    refine qQ ?_
    (repeat refine qb ?_); refine qf rfl (fun hc => ?_) (fun hc => ?_)
    · have hd' : dutyS m l[k] = true := by
        rw [hd]
        revert hc
        unfold mkE
        cases (l[k].on == 1) <;> cases (l[k].on == 2) <;> simp [hb]
      rw [hd', if_pos rfl] at hs
      (repeat refine qb ?_); refine qa ?_
      repeat (first | refine zR ?_ | refine zK ?_ | refine zM ?_ | refine zB ?_ | refine zA ?_ | refine zS ?_ | refine zL ?_)
      refine qn rfl (qp qe rfl rfl rfl rfl rfl rfl rfl rfl rfl rfl rfl rfl rfl rfl rfl rfl (by simp only [List.length_append, List.length_map, List.length_take, List.length_cons, List.length_nil]; unfold reachBytes; omega) (by simp only [List.length_append, List.length_map, List.length_take, List.length_cons, List.length_nil]; omega) ?_)
      repeat (first | refine zR ?_ | refine zK ?_ | refine zM ?_ | refine zB ?_ | refine zA ?_ | refine zS ?_ | refine zL ?_)
      refine qc ?_
      (repeat refine qb ?_); refine qa ?_
      repeat (first | refine zR ?_ | refine zK ?_ | refine zM ?_ | refine zB ?_ | refine zA ?_ | refine zS ?_ | refine zL ?_)
      refine qc ?_
      refine ⟨_, _, ?_, qq [1, 5, 8, 9, 10] [(33, 0)] rfl rfl, k + 1, _, jm (l.take (k + 1)) m, hlt', rfl, qz hlt' (by omega), rfl, ?_⟩
      · omega
      · rw [hs, ← hL, List.map_append]; rfl
    · have hd' : dutyS m l[k] = false := by
        rw [hd]
        revert hc
        unfold mkE
        cases (l[k].on == 1) <;> cases (l[k].on == 2) <;> simp [hb]
      rw [hd', if_neg (by simp)] at hs
      refine qm ?_
      (repeat refine qb ?_); refine qa ?_
      repeat (first | refine zR ?_ | refine zK ?_ | refine zM ?_ | refine zB ?_ | refine zA ?_ | refine zS ?_ | refine zL ?_)
      refine qc ?_
      refine ⟨_, _, ?_, qq [1, 5, 8, 9, 10] [(0, 0)] rfl rfl, k + 1, _, L, hlt', rfl, qz hlt' (by omega), by rw [hs]; exact hL, rfl⟩
      omega
  · refine qK ?_
    rw [lm] at hlt
    simp only [decide_eq_false_iff_not] at hlt
    have hkk : k = l.length := by omega
    subst hkk
    rw [List.take_length] at hL
    subst hL
    (repeat refine qb ?_); refine qa ?_
    repeat (first | refine zR ?_ | refine zK ?_ | refine zM ?_ | refine zB ?_ | refine zA ?_ | refine zS ?_ | refine zL ?_)
    refine qc ?_
    (repeat refine qb ?_); refine qk ?_
    exact ⟨Or.inr rfl, _, _, [], _, zN (k := 0) rfl, rfl, rfl, .refl _, rfl, rfl⟩
theorem effect_h (r : Rul) (t c : Int) (ho : r.obls.length ≤ 1000000) : Holds Tryz.prog 51 [.agg (zt r), pI t, pI c] (.p (.agg (rsP (jW r t c)))) [] := by
  obtain ⟨id, deny, tg, cond, obls⟩ := r
  unfold jW effM
  simp only at ho ⊢
  refine .ofW ?_
  cases deny with
  | true =>
    rw [if_pos rfl]
    refine qR (T := TTab) qe Tryz.func51 (by kernel_rfl) rfl rfl rfl ?_
    (repeat refine qb ?_); refine qa ?_
    repeat (first | refine zR ?_ | refine zK ?_ | refine zM ?_ | refine zB ?_ | refine zA ?_ | refine zS ?_ | refine zL ?_)
    refine qc ?_
    (repeat refine qb ?_); refine qa ?_
    repeat (first | refine zR ?_ | refine zK ?_ | refine zM ?_ | refine zB ?_ | refine zA ?_ | refine zS ?_ | refine zL ?_)
    refine qc ?_
    (repeat refine qb ?_); refine qa ?_
    repeat (first | refine zR ?_ | refine zK ?_ | refine zM ?_ | refine zB ?_ | refine zA ?_ | refine zS ?_ | refine zL ?_)
    refine qc ?_
    (repeat refine qb ?_); refine qf rfl (fun hd => ?_) (fun hd => ?_)
    · (repeat refine qb ?_); refine qa ?_
      repeat (first | refine zR ?_ | refine zK ?_ | refine zM ?_ | refine zB ?_ | refine zA ?_ | refine zS ?_ | refine zL ?_)
      refine qc ?_
      (repeat refine qb ?_); refine ql ?_
      (repeat refine qb ?_); refine qs (by kernel_rfl) ?_
      repeat (refine qr qe rfl (by exact True.intro) rfl ?_)
      refine qQ ?_
      (repeat refine qb ?_); refine qf rfl (fun h0 => ?_) (fun h0 => ?_)
      · have h0' : t = 0 ∨ (t = 2 ∧ c = 0) := by
          revert h0
          by_cases a : t = 0 <;> by_cases b : t = 2 <;> by_cases d : c = 0 <;> simp [a, b, d]
        rw [if_pos h0']
        (repeat refine qb ?_); refine qa ?_
        repeat (first | refine zR ?_ | refine zK ?_ | refine zM ?_ | refine zB ?_ | refine zA ?_ | refine zS ?_ | refine zL ?_)
        refine qc ?_
        (repeat refine qb ?_); refine qk ?_
        exact ⟨Or.inr rfl, _, _, [], _, Wk.refl _, rfl, rfl, .p (CvL.agg (.cons (.refl _) (.cons (.nil 3) .nil))), rfl, rfl⟩
      · have h0' : ¬ (t = 0 ∨ (t = 2 ∧ c = 0)) := by
          revert h0
          by_cases a : t = 0 <;> by_cases b : t = 2 <;> by_cases d : c = 0 <;> simp [a, b, d]
        rw [if_neg h0']
        (repeat refine qb ?_); refine qs (by kernel_rfl) ?_
        repeat (refine qr qe rfl (by exact True.intro) rfl ?_)
        refine qQ ?_
        (repeat refine qb ?_); refine qf rfl (fun h1 => ?_) (fun h1 => ?_)
        · have h1' : t = 1 ∨ c = 1 := by
            revert h1
            by_cases a : t = 1 <;> by_cases d : c = 1 <;> simp [a, d]
          rw [if_pos h1']
          (repeat refine qb ?_); refine qa ?_
          repeat (first | refine zR ?_ | refine zK ?_ | refine zM ?_ | refine zB ?_ | refine zA ?_ | refine zS ?_ | refine zL ?_)
          refine qn rfl (qg rfl rfl rfl rfl (qas (0, 2) (by simp [mks])) rfl rfl ?_)
          repeat (first | refine zR ?_ | refine zK ?_ | refine zM ?_ | refine zB ?_ | refine zA ?_ | refine zS ?_ | refine zL ?_)
          refine qc ?_
          (repeat refine qb ?_); refine qk ?_
          exact ⟨Or.inr rfl, _, _, [], _, Wk.refl _, rfl, rfl, .p (CvL.agg (.cons (.refl _) (.cons (.nil 3) .nil))), rfl, rfl⟩
        · have h1' : ¬ (t = 1 ∨ c = 1) := by
            revert h1
            by_cases a : t = 1 <;> by_cases d : c = 1 <;> simp [a, d]
          rw [if_neg h1']
          refine qm ?_
          (repeat refine qb ?_); refine qa ?_
          repeat (first | refine zR ?_ | refine zK ?_ | refine zM ?_ | refine zB ?_ | refine zA ?_ | refine zS ?_ | refine zL ?_)
          refine qn rfl (qD rfl rfl rfl rfl (duties_h obls ho (0, 2) (by simp [mks])) rfl rfl rfl ?_)
          repeat (first | refine zR ?_ | refine zK ?_ | refine zM ?_ | refine zB ?_ | refine zA ?_ | refine zS ?_ | refine zL ?_)
          refine qc ?_
          (repeat refine qb ?_); refine qk ?_
          exact ⟨Or.inr rfl, _, _, [], _, Wk.refl _, rfl, rfl, .refl _, rfl, rfl⟩
    · cases hd
  | false =>
    simp only [Bool.false_eq_true, if_false]
    refine qR (T := TTab) qe Tryz.func51 (by kernel_rfl) rfl rfl rfl ?_
    (repeat refine qb ?_); refine qa ?_
    repeat (first | refine zR ?_ | refine zK ?_ | refine zM ?_ | refine zB ?_ | refine zA ?_ | refine zS ?_ | refine zL ?_)
    refine qc ?_
    (repeat refine qb ?_); refine qa ?_
    repeat (first | refine zR ?_ | refine zK ?_ | refine zM ?_ | refine zB ?_ | refine zA ?_ | refine zS ?_ | refine zL ?_)
    refine qc ?_
    (repeat refine qb ?_); refine qa ?_
    repeat (first | refine zR ?_ | refine zK ?_ | refine zM ?_ | refine zB ?_ | refine zA ?_ | refine zS ?_ | refine zL ?_)
    refine qc ?_
    (repeat refine qb ?_); refine qf rfl (fun hd => ?_) (fun hd => ?_)
    · cases hd
    · refine qm ?_
      (repeat refine qb ?_); refine ql ?_
      (repeat refine qb ?_); refine qs (by kernel_rfl) ?_
      repeat (refine qr qe rfl (by exact True.intro) rfl ?_)
      refine qQ ?_
      (repeat refine qb ?_); refine qf rfl (fun h0 => ?_) (fun h0 => ?_)
      · have h0' : t = 0 ∨ (t = 2 ∧ c = 0) := by
          revert h0
          by_cases a : t = 0 <;> by_cases b : t = 2 <;> by_cases d : c = 0 <;> simp [a, b, d]
        rw [if_pos h0']
        (repeat refine qb ?_); refine qa ?_
        repeat (first | refine zR ?_ | refine zK ?_ | refine zM ?_ | refine zB ?_ | refine zA ?_ | refine zS ?_ | refine zL ?_)
        refine qc ?_
        (repeat refine qb ?_); refine qk ?_
        exact ⟨Or.inr rfl, _, _, [], _, Wk.refl _, rfl, rfl, .p (CvL.agg (.cons (.refl _) (.cons (.nil 3) .nil))), rfl, rfl⟩
      · have h0' : ¬ (t = 0 ∨ (t = 2 ∧ c = 0)) := by
          revert h0
          by_cases a : t = 0 <;> by_cases b : t = 2 <;> by_cases d : c = 0 <;> simp [a, b, d]
        rw [if_neg h0']
        (repeat refine qb ?_); refine qs (by kernel_rfl) ?_
        repeat (refine qr qe rfl (by exact True.intro) rfl ?_)
        refine qQ ?_
        (repeat refine qb ?_); refine qf rfl (fun h1 => ?_) (fun h1 => ?_)
        · have h1' : t = 1 ∨ c = 1 := by
            revert h1
            by_cases a : t = 1 <;> by_cases d : c = 1 <;> simp [a, d]
          rw [if_pos h1']
          (repeat refine qb ?_); refine qa ?_
          repeat (first | refine zR ?_ | refine zK ?_ | refine zM ?_ | refine zB ?_ | refine zA ?_ | refine zS ?_ | refine zL ?_)
          refine qn rfl (qg rfl rfl rfl rfl (qas (2, 0) (by simp [mks])) rfl rfl ?_)
          repeat (first | refine zR ?_ | refine zK ?_ | refine zM ?_ | refine zB ?_ | refine zA ?_ | refine zS ?_ | refine zL ?_)
          refine qc ?_
          (repeat refine qb ?_); refine qk ?_
          exact ⟨Or.inr rfl, _, _, [], _, Wk.refl _, rfl, rfl, .p (CvL.agg (.cons (.refl _) (.cons (.nil 3) .nil))), rfl, rfl⟩
        · have h1' : ¬ (t = 1 ∨ c = 1) := by
            revert h1
            by_cases a : t = 1 <;> by_cases d : c = 1 <;> simp [a, d]
          rw [if_neg h1']
          refine qm ?_
          (repeat refine qb ?_); refine qa ?_
          repeat (first | refine zR ?_ | refine zK ?_ | refine zM ?_ | refine zB ?_ | refine zA ?_ | refine zS ?_ | refine zL ?_)
          refine qn rfl (qD rfl rfl rfl rfl (duties_h obls ho (2, 0) (by simp [mks])) rfl rfl rfl ?_)
          repeat (first | refine zR ?_ | refine zK ?_ | refine zM ?_ | refine zB ?_ | refine zA ?_ | refine zS ?_ | refine zL ?_)
          refine qc ?_
          (repeat refine qb ?_); refine qk ?_
          exact ⟨Or.inr rfl, _, _, [], _, Wk.refl _, rfl, rfl, .refl _, rfl, rfl⟩
theorem ruleR_h (r : Rul) (g : List Giv) (hr : RulFit r) (ht : TarSm r.target) (ho : r.obls.length ≤ 1000000) (hf : ∀ x ∈ g, x.Fit) (hn : g.length ≤ 1000000) (hb : ∀ x ∈ g, x.bag.length ≤ 1000000) : Holds Tryz.prog 27 [.agg (zt r), zP g] (.p (.agg (rsP (qaw g r)))) [] := by
  have H1 := metT_h r.target g hr.tgt ht hf hn hb
  have H2 := cond_h r.cond g hr.cond hf hn hb
  have H3 := effect_h r (metT r.target g) (qam r.cond g) ho
  obtain ⟨id, deny, tg, cond, obls⟩ := r
  unfold qaw
  simp only at H1 H2 H3 ⊢
  generalize metT tg g = t at *
  generalize qam cond g = c at *
  refine .ofW ?_
  refine qR (T := TTab) qe Tryz.func27 (by kernel_rfl) rfl rfl rfl ?_
  (repeat refine qb ?_); refine qa ?_
  repeat (first | refine zR ?_ | refine zK ?_ | refine zM ?_ | refine zB ?_ | refine zA ?_ | refine zS ?_ | refine zL ?_)
  refine qc ?_
  (repeat refine qb ?_); refine zl [4] [(0, true), (1, true), (2, true), (3, true), (5, true), (6, true), (7, true), (4, false), (8, false), (9, false), (10, false)] (by kernel_rfl) (by kernel_rfl) (by kernel_rfl) ?_
  repeat (first | refine yR ?_ | refine yK ?_ | refine yM ?_ | refine yB ?_ | refine yA ?_ | refine yS ?_ | refine yL ?_)
  refine qak rfl rfl rfl (qg rfl rfl rfl rfl (H1) rfl rfl ?_)
  repeat (first | refine yR ?_ | refine yK ?_ | refine yM ?_ | refine yB ?_ | refine yA ?_ | refine yS ?_ | refine yL ?_)
  refine qak rfl rfl rfl (qg rfl rfl rfl rfl (H2) rfl rfl ?_)
  repeat (first | refine yR ?_ | refine yK ?_ | refine yM ?_ | refine yB ?_ | refine yA ?_ | refine yS ?_ | refine yL ?_)
  refine qak rfl rfl rfl (qD rfl rfl rfl rfl (H3) rfl rfl rfl ?_)
  repeat (first | refine yR ?_ | refine yK ?_ | refine yM ?_ | refine yB ?_ | refine yA ?_ | refine yS ?_ | refine yL ?_)
  refine qaO ?_
  (repeat refine qb ?_); refine qk ?_
  exact ⟨Or.inr rfl, _, _, [], _, Wk.refl _, rfl, rfl, .refl _, rfl, rfl⟩
end Go.Proofs.YtppfcacnofjmdaaGreatDoor
namespace Go.Proofs.YtppfcacnofjmdaaGreatDoor
set_option linter.unusedVariables false
set_option linter.unusedSimpArgs false
open Go.RowKit
theorem wk_nilc {st : St} (j i d : Nat) (e : TypeId) (z : Nat) {cs : List SV} (hj : lk j st.own = some (.cells cs)) (hi : cs[i]? = some (.p (.v (.slice none 0 0)))) (hd : lk d st.own = none) (hdl : Nat.blt d 1000000 = true := by rfl) :
    Wk st ⟨st.n, st.fr, setB j (.cells (cs.set i (.row d))) ((d, .row e z []) :: st.own)⟩ := fun w0 Sx γ a w hI => by
  have hbx : BoxOk w0 Sx (upd γ d (.slice none 0 0)) ((d, .row e z []) :: st.own) w d (.row e z []) := by
    refine .row ?_ (by simp) (Nat.zero_le _) (fun b hb => by simp [upd, qV] at hb)
    rw [show upd γ d (.slice none 0 0) d = .slice none 0 0 from if_pos rfl]
    exact rowO_nil
  obtain ⟨h1, h2, h3, _⟩ := hI.heap.add (Below.refl _ w) hd (by simpa [Nat.blt, Nat.lt_iff_add_one_le] using hdl) (g := .slice none 0 0) (fun b hb => by cases hb) hbx
  have hdj : j ≠ d := fun h => by subst h; rw [hj] at hd; cases hd
  have hI1 : Sim w0 Sx (upd γ d (.slice none 0 0)) ⟨st.n, st.fr, (d, .row e z []) :: st.own⟩ a w := by
    refine ⟨hI.below, hI.size, hI.defers, fun k s hk => ?_, h1⟩
    have hr := hI.fr k s hk
    refine hr.keep2 (Nat.le_refl _) (fun b hb hok => ⟨rfl, h2 b hb hok⟩) fun i hi => h3 i fun e => ?_
    subst e
    rw [hr.live (jU hd)] at hi; cases hi
  have hj1 : lk j ((d, Box.row e z []) :: st.own) = some (.cells cs) := by rw [qE, if_neg hdj]; exact hj
  cases hI1.heap.box j _ hj1 with
  | @cells _ us ty b hg hB hh hl h hone =>
    have := hI1.setBox (bx' := .cells (cs.set i (.row d))) hj1 (b := b) (by rw [hg]; rfl) (Below.refl 0 w) (fun _ _ => rfl) (fun own' e1 e2 e3 => .cells (us := us) hg hB hh (by simpa using hl) (fun k s u hs hu => by
      by_cases hk : k = i
      · subst hk
        have hkl : k < cs.length := (List.getElem?_eq_some_iff.1 hi).1
        rw [List.getElem?_set_self hkl] at hs
        cases hs
        have h0 := (h k _ u hi hu).v_inv
        rw [h0]
        exact e3 (.row (by unfold hp; rw [qE, if_pos rfl]; simp [upd]))
      · rw [List.getElem?_set_ne (Ne.symm hk)] at hs
        exact e3 (h k s u hs hu)) hone)
    exact ⟨_, this.1⟩
end Go.Proofs.YtppfcacnofjmdaaGreatDoor
namespace Go.Proofs.YtppfcacnofjmdaaGreatDoor
set_option linter.unusedVariables false
set_option linter.unusedSimpArgs false
open Go.RowKit
set_option maxHeartbeats 4000000
def oblN (l : List Rs) : Nat := qT (fun x => x.obls.length) l
theorem oblN_take {l : List Rs} {k : Nat} (h : k < l.length) : oblN (l.take (k + 1)) = oblN (l.take k) + l[k].obls.length := zG h
theorem oblN_le (l : List Rs) (k : Nat) : oblN (l.take k) ≤ oblN l := sumBy_take _ l k
theorem rs_app (M : Mk) (a b : List Obli) : rsP ⟨M, a ++ b⟩ = [mkP M, .sl 3 (a.map Obli.pv ++ b.map Obli.pv)] := by
  unfold rsP
  simp only
  rw [show zQ (a ++ b) = .sl 3 ((a ++ b).map Obli.pv) from rfl, List.map_append]
def joinX (alg : Int) (obls : List Obli) (M : Mk) (t : Int) (parts : List Rs) : Rs :=
  if t = 0 then ⟨(0, 0), []⟩ else if t = 1 then ⟨qat M, []⟩
  else if M ≠ (2, 0) ∧ M ≠ (0, 2) then ⟨M, []⟩ else ⟨M, wF alg M parts ++ jm obls M⟩
theorem join_h (p : Pol) (t : Int) (parts : List Rs) (hn : parts.length ≤ 1000000) (hm : ∀ x ∈ parts, x.m ∈ mks) (ho : oblN parts ≤ 500000) (hp : p.obls.length ≤ 500000) : Holds Tryz.prog 69 [.agg (polP p), pI t, rssP parts] (.p (.agg (rsP (wM p t parts)))) [] := by
  obtain ⟨id, set, alg, tg, rules, kids, obls⟩ := p
  have lp : (parts.map rsP).length = parts.length := by simp
  replace hp : obls.length ≤ 500000 := hp
  have hM : allM alg (parts.map Rs.m) ∈ mks := allM_mem fun m h => by
    obtain ⟨x, hx, rfl⟩ := List.mem_map.1 h
    exact hm x hx
  have HC := combAll_h alg (parts.map Rs.m) (by simpa using hn) (fun m h => by
    obtain ⟨x, hx, rfl⟩ := List.mem_map.1 h
    exact hm x hx)
  rw [show wM (.mk id set alg tg rules kids obls) t parts = joinX alg obls (allM alg (parts.map Rs.m)) t parts from rfl, zf]
  simp only [Pol.id, Pol.set, Pol.alg, Pol.target, Pol.rules, Pol.kids, Pol.obls]
  obtain ⟨M, hMe⟩ : ∃ M, M = allM alg (parts.map Rs.m) := ⟨_, rfl⟩
  rw [← hMe] at hM HC ⊢
  clear hMe
  unfold joinX
  refine .ofW ?_
  refine qR (T := TTab) qe Tryz.func69 (by kernel_rfl) rfl rfl rfl ?_
  (repeat refine qb ?_); refine qa ?_
  repeat (first | refine zR ?_ | refine zK ?_ | refine zM ?_ | refine zB ?_ | refine zA ?_ | refine zS ?_ | refine zL ?_)
  refine qc ?_
  (repeat refine qb ?_); refine qa ?_
  repeat (first | refine zR ?_ | refine zK ?_ | refine zM ?_ | refine zB ?_ | refine zA ?_ | refine zS ?_ | refine zL ?_)
  refine qc ?_
  (repeat refine qb ?_); refine qa ?_
  repeat (first | refine zR ?_ | refine zK ?_ | refine zM ?_ | refine zB ?_ | refine zA ?_ | refine zS ?_ | refine zL ?_)
  refine qc ?_
  (repeat refine qb ?_); refine ql ?_
  refine SW.wk (jP 7 900 36 1 rfl rfl) ?_
  refine SW.wk (qq [1, 2, 3, 6, 7, 15, 16, 17] [(3, 3), (6, 6), (900, 0)] rfl rfl) ?_
  refine qO (fun n s => ∃ (k : Nat) (kk : Int), k ≤ parts.length ∧ n = parts.length - k ∧ kk = k ∧ s = ⟨84, [(1, .p (pI t)), (2, .p (rssP parts)), (3, .ptr 3 0), (6, .ptr 6 0), (7, .row 0), (15, .p (rssP parts)), (16, .p (pI (parts.map rsP).length)), (17, .p (pI kk))], [(3, .cells [.p (pS id), .p (pB set), .p (pI alg), .p (tgtP tg), .p (.sl 5 (rules.map zt)), .p (.sl 7 (kids.map polP)), .p (zQ obls)]), (6, .cells [.p (.v (.complex .f64 0 0)), .p nilV]), (0, .row 36 1 (((parts.take k).map Rs.m).map fun m => [mkP m]))]⟩) parts.length ⟨0, 0, Nat.zero_le _, rfl, rfl, rfl⟩ ?_
  rintro n s ⟨k, _, hk, rfl, rfl, rfl⟩
  (repeat refine qb ?_); refine qa ?_
  repeat (first | refine zR ?_ | refine zK ?_ | refine zM ?_ | refine zB ?_ | refine zA ?_ | refine zS ?_ | refine zL ?_)
  refine qc ?_
  (repeat refine qb ?_); refine qf rfl (fun hlt => ?_) (fun hlt => ?_)
  · refine qm ?_
    rw [lp] at hlt
    simp only [decide_eq_true_eq] at hlt
    have hlt' : k < parts.length := by omega
    obtain ⟨x, hx⟩ : ∃ x, x = parts[k] := ⟨_, rfl⟩
    (repeat refine qb ?_); refine ql ?_
    (repeat refine qb ?_); refine qa ?_
    repeat (first | refine zR ?_ | refine zK ?_ | refine zM ?_ | refine zB ?_ | refine zA ?_ | refine zS ?_ | refine zL ?_)
    refine qw qe rfl rfl (by rw [lp]; omega) rfl ?_
    rw [qJ hlt', ← hx]
    repeat (first | refine zR ?_ | refine zK ?_ | refine zM ?_ | refine zB ?_ | refine zA ?_ | refine zS ?_ | refine zL ?_)
    refine qc ?_
    (repeat refine qb ?_); refine qa ?_
    repeat (first | refine zR ?_ | refine zK ?_ | refine zM ?_ | refine zB ?_ | refine zA ?_ | refine zS ?_ | refine zL ?_)
    refine qn rfl (qp qe rfl rfl rfl rfl rfl rfl rfl rfl rfl rfl rfl rfl rfl rfl rfl rfl (by simp only [List.length_append, List.length_map, List.length_take, List.length_cons, List.length_nil]; unfold reachBytes; omega) (by simp only [List.length_append, List.length_map, List.length_take, List.length_cons, List.length_nil]; omega) ?_)
    repeat (first | refine zR ?_ | refine zK ?_ | refine zM ?_ | refine zB ?_ | refine zA ?_ | refine zS ?_ | refine zL ?_)
    refine qc ?_
    (repeat refine qb ?_); refine qa ?_
    repeat (first | refine zR ?_ | refine zK ?_ | refine zM ?_ | refine zB ?_ | refine zA ?_ | refine zS ?_ | refine zL ?_)
    refine qc ?_
    refine ⟨_, _, ?_, qq [1, 2, 3, 6, 7, 15, 16, 17] [(3, 3), (6, 6), (25, 0)] rfl rfl, k + 1, _, hlt', rfl, qz hlt' (by omega), ?_⟩
    · omega
    · rw [List.take_succ_eq_append_getElem hlt', ← hx, List.map_append, List.map_append]; rfl
  · refine qK ?_
    rw [lp] at hlt
    simp only [decide_eq_false_iff_not] at hlt
    have hkk : k = parts.length := by omega
    subst hkk
    rw [List.take_length]
    (repeat refine qb ?_); refine qa ?_
    repeat (first | refine zR ?_ | refine zK ?_ | refine zM ?_ | refine zB ?_ | refine zA ?_ | refine zS ?_ | refine zL ?_)
    refine qn rfl (qg rfl rfl rfl rfl (HC) rfl rfl ?_)
    repeat (first | refine zR ?_ | refine zK ?_ | refine zM ?_ | refine zB ?_ | refine zA ?_ | refine zS ?_ | refine zL ?_)
    refine qc ?_
    (repeat refine qb ?_); refine ql ?_
    (repeat refine qb ?_); refine qa ?_
    repeat (first | refine zR ?_ | refine zK ?_ | refine zM ?_ | refine zB ?_ | refine zA ?_ | refine zS ?_ | refine zL ?_)
    refine qc ?_
    (repeat refine qb ?_); refine qf rfl (fun c0 => ?_) (fun c0 => ?_)
    · have e : t = 0 := by simpa using c0
      rw [if_pos e]
      (repeat refine qb ?_); refine qa ?_
      repeat (first | refine zR ?_ | refine zK ?_ | refine zM ?_ | refine zB ?_ | refine zA ?_ | refine zS ?_ | refine zL ?_)
      refine qc ?_
      (repeat refine qb ?_); refine qk ?_
      exact ⟨Or.inr rfl, _, _, [], _, Wk.refl _, rfl, rfl, .p (CvL.agg (.cons (.refl _) (.cons (.nil 3) .nil))), rfl, rfl⟩
    have n0 : ¬ t = 0 := by simpa using c0
    rw [if_neg n0]
    (repeat refine qb ?_); refine qa ?_
    repeat (first | refine zR ?_ | refine zK ?_ | refine zM ?_ | refine zB ?_ | refine zA ?_ | refine zS ?_ | refine zL ?_)
    refine qc ?_
    (repeat refine qb ?_); refine qf rfl (fun c1 => ?_) (fun c1 => ?_)
    · have e : t = 1 := by simpa using c1
      rw [if_pos e]
      (repeat refine qb ?_); refine qa ?_
      repeat (first | refine zR ?_ | refine zK ?_ | refine zM ?_ | refine zB ?_ | refine zA ?_ | refine zS ?_ | refine zL ?_)
      refine qn rfl (qg rfl rfl rfl rfl (qas M hM) rfl rfl ?_)
      repeat (first | refine zR ?_ | refine zK ?_ | refine zM ?_ | refine zB ?_ | refine zA ?_ | refine zS ?_ | refine zL ?_)
      refine qc ?_
      (repeat refine qb ?_); refine qk ?_
      exact ⟨Or.inr rfl, _, _, [], _, Wk.refl _, rfl, rfl, .p (CvL.agg (.cons (.refl _) (.cons (.nil 3) .nil))), rfl, rfl⟩
    have n1 : ¬ t = 1 := by simpa using c1
    rw [if_neg n1]
    have hP : mkE M (2, 0) = decide (M = (2, 0)) := mkE_eq hM (by simp [mks])
    have hD : mkE M (0, 2) = decide (M = (0, 2)) := mkE_eq hM (by simp [mks])
    (repeat refine qb ?_); refine qs (by kernel_rfl) ?_
    repeat (refine qr qe rfl (by exact True.intro) rfl ?_)
    refine qQ ?_
    (repeat refine qb ?_); refine qf rfl (fun c2 => ?_) (fun c2 => ?_)
    · have e : M ≠ (2, 0) ∧ M ≠ (0, 2) := by
        change (bif !mkE M (2, 0) then !mkE M (0, 2) else false) = true at c2
        rw [hP, hD] at c2
        revert c2
        by_cases a : M = (2, 0) <;> by_cases b : M = (0, 2) <;> simp [a, b]
      rw [if_pos e]
      (repeat refine qb ?_); refine qa ?_
      repeat (first | refine zR ?_ | refine zK ?_ | refine zM ?_ | refine zB ?_ | refine zA ?_ | refine zS ?_ | refine zL ?_)
      refine qc ?_
      (repeat refine qb ?_); refine qk ?_
      exact ⟨Or.inr rfl, _, _, [], _, Wk.refl _, rfl, rfl, .p (CvL.agg (.cons (.refl _) (.cons (.nil 3) .nil))), rfl, rfl⟩
    have e : ¬ (M ≠ (2, 0) ∧ M ≠ (0, 2)) := by
      change (bif !mkE M (2, 0) then !mkE M (0, 2) else false) = false at c2
      rw [hP, hD] at c2
      revert c2
      by_cases a : M = (2, 0) <;> by_cases b : M = (0, 2) <;> simp [a, b]
    rw [if_neg e]
    refine qm ?_
    (repeat refine qb ?_); refine qa ?_
    repeat (first | refine zR ?_ | refine zK ?_ | refine zM ?_ | refine zB ?_ | refine zA ?_ | refine zS ?_ | refine zL ?_)
    refine qc ?_
    (repeat refine qb ?_); refine qa ?_
    repeat (first | refine zR ?_ | refine zK ?_ | refine zM ?_ | refine zB ?_ | refine zA ?_ | refine zS ?_ | refine zL ?_)
    refine qc ?_
    (repeat refine qb ?_); refine ql ?_
    refine SW.wk (wk_nilc 12 1 900 43 3 rfl rfl rfl) ?_
    refine SW.wk (qq [3, 6, 10, 12, 55, 56, 57] [(3, 3), (6, 6), (12, 12), (900, 0)] rfl rfl) ?_
    refine qO (fun n s => ∃ (k : Nat) (kk : Int) (acc : List Obli), k ≤ parts.length ∧ n = parts.length - k ∧ kk = k ∧ acc.length ≤ oblN (parts.take k) ∧ wF alg M parts = acc ++ wF alg M (parts.drop k) ∧ s = ⟨84, [(3, .ptr 3 0), (6, .ptr 6 0), (10, .p (mkP M)), (12, .ptr 12 0), (55, .p (rssP parts)), (56, .p (pI (parts.map rsP).length)), (57, .p (pI kk))], [(3, .cells [.p (pS id), .p (pB set), .p (pI alg), .p (tgtP tg), .p (.sl 5 (rules.map zt)), .p (.sl 7 (kids.map polP)), .p (zQ obls)]), (6, .cells [.p (.v (.complex .f64 0 0)), .p nilV]), (12, .cells [.p (mkP M), .row 0]), (0, .row 43 3 (acc.map Obli.pv))]⟩) parts.length ⟨0, 0, [], Nat.zero_le _, rfl, rfl, Nat.zero_le _, rfl, rfl⟩ ?_
    rintro n s ⟨k, _, acc, hk, rfl, rfl, hacc, hfin, rfl⟩
    have htk := oblN_le parts k
    (repeat refine qb ?_); refine qa ?_
    repeat (first | refine zR ?_ | refine zK ?_ | refine zM ?_ | refine zB ?_ | refine zA ?_ | refine zS ?_ | refine zL ?_)
    refine qc ?_
    (repeat refine qb ?_); refine qf rfl (fun hlt => ?_) (fun hlt => ?_)
    · refine qm ?_
      rw [lp] at hlt
      simp only [decide_eq_true_eq] at hlt
      have hlt' : k < parts.length := by omega
      have hs := oblN_take hlt'
      have htk2 := oblN_le parts (k + 1)
      have hxm := hm _ (List.getElem_mem hlt')
      rw [List.drop_eq_getElem_cons hlt', wF] at hfin
      (repeat refine qb ?_); refine ql ?_
      (repeat refine qb ?_); refine qa ?_
      repeat (first | refine zR ?_ | refine zK ?_ | refine zM ?_ | refine zB ?_ | refine zA ?_ | refine zS ?_ | refine zL ?_)
      refine qw qe rfl rfl (by rw [lp]; omega) rfl ?_
      rw [qJ hlt']
      repeat (first | refine zR ?_ | refine zK ?_ | refine zM ?_ | refine zB ?_ | refine zA ?_ | refine zS ?_ | refine zL ?_)
      refine qc ?_
      generalize parts[k] = x at *
      have hE : mkE x.m M = decide (x.m = M) := mkE_eq hxm hM
      (repeat refine qb ?_); refine qa ?_
      repeat (first | refine zR ?_ | refine zK ?_ | refine zM ?_ | refine zB ?_ | refine zA ?_ | refine zS ?_ | refine zL ?_)
      refine qc ?_
      (repeat refine qb ?_); refine qf rfl (fun cx => ?_) (fun cx => ?_)
      · have e : ¬ x.m = M := by
          change (!mkE x.m M) = true at cx
          rw [hE] at cx
          simpa using cx
        rw [if_neg e] at hfin
        refine qK ?_
        (repeat refine qb ?_); refine qa ?_
        repeat (first | refine zR ?_ | refine zK ?_ | refine zM ?_ | refine zB ?_ | refine zA ?_ | refine zS ?_ | refine zL ?_)
        refine qc ?_
        refine ⟨_, _, ?_, qq [3, 6, 10, 12, 55, 56, 57] [(3, 3), (6, 6), (12, 12), (0, 0)] rfl rfl, k + 1, _, acc, hlt', rfl, qz hlt' (by omega), by omega, hfin, rfl⟩
        omega
      · have e : x.m = M := by
          change (!mkE x.m M) = false at cx
          rw [hE] at cx
          simpa using cx
        rw [if_pos e] at hfin
        refine qm ?_
        (repeat refine qb ?_); refine qa ?_
        repeat (first | refine zR ?_ | refine zK ?_ | refine zM ?_ | refine zB ?_ | refine zA ?_ | refine zS ?_ | refine zL ?_)
        refine qn rfl (qp qe rfl rfl rfl rfl rfl rfl rfl rfl rfl rfl rfl rfl rfl rfl rfl rfl (by simp only [List.length_append, List.length_map, List.length_take, List.length_cons, List.length_nil]; unfold reachBytes; omega) (by simp only [List.length_append, List.length_map, List.length_take, List.length_cons, List.length_nil]; omega) ?_)
        repeat (first | refine zR ?_ | refine zK ?_ | refine zM ?_ | refine zB ?_ | refine zA ?_ | refine zS ?_ | refine zL ?_)
        refine qc ?_
        (repeat refine qb ?_); refine qa ?_
        repeat (first | refine zR ?_ | refine zK ?_ | refine zM ?_ | refine zB ?_ | refine zA ?_ | refine zS ?_ | refine zL ?_)
        refine qc ?_
        (repeat refine qb ?_); refine qf rfl (fun c3 => ?_) (fun c3 => ?_)
        · have e3 : alg = 3 := by simpa using c3
          rw [if_pos e3] at hfin
          refine qK ?_
          obtain ⟨acc2, ha2⟩ : ∃ acc2, acc2 = acc ++ x.obls := ⟨_, rfl⟩
          have hl2 : acc2.length = acc.length + x.obls.length := by rw [ha2, List.length_append]
          rw [← ha2] at hfin
          refine SW.wk (qq [3, 6, 10, 12] [(3, 3), (6, 6), (12, 12), (69, 69)] rfl rfl) ?_
          have eL : acc.map Obli.pv ++ x.obls.map Obli.pv = acc2.map Obli.pv := by rw [ha2, List.map_append]
          change SW _ _ _ ⟨84, [(3, .ptr 3 0), (6, .ptr 6 0), (10, .p (mkP M)), (12, .ptr 12 0)], [(3, .cells [.p (pS id), .p (pB set), .p (pI alg), .p (tgtP tg), .p (.sl 5 (rules.map zt)), .p (.sl 7 (kids.map polP)), .p (zQ obls)]), (6, .cells [.p (.v (.complex .f64 0 0)), .p nilV]), (12, .cells [.p (mkP M), .row 69]), (69, .row 43 3 (acc.map Obli.pv ++ x.obls.map Obli.pv))]⟩
          rw [eL]
          have hacc2 : acc2.length ≤ 1000000 := by omega
          have hdl := wq obls M
          (repeat refine qb ?_); refine zH 9 rfl (by kernel_rfl) ?_
          refine qy (i := 0) (K := [12, 69]) (by kernel_rfl) (by kernel_rfl) rfl rfl (qi qe rfl (by exact True.intro)) rfl ?_
          refine qy (i := 1) (K := []) (by kernel_rfl) (by kernel_rfl) rfl rfl (qi qe rfl (by exact True.intro)) rfl ?_
          refine qy (i := 2) (K := [12, 69]) (by kernel_rfl) (by kernel_rfl) rfl rfl (qi qe rfl (by exact True.intro)) rfl ?_
          refine qy (i := 3) (K := [12, 69]) (by kernel_rfl) (by kernel_rfl) rfl rfl (qi qe rfl (by exact True.intro)) rfl ?_
          refine qy (i := 4) (K := [12, 69]) (by kernel_rfl) (by kernel_rfl) rfl rfl (qi qe rfl (by exact True.intro)) rfl ?_
          refine qo 5 (by kernel_rfl) ?_
          refine qd rfl rfl rfl (qD rfl rfl rfl rfl ((duties_h obls (by omega) M hM)) rfl rfl rfl ?_)
          refine qo 6 (by kernel_rfl) ?_
          refine qd rfl rfl rfl (qp qe rfl rfl rfl rfl rfl rfl rfl rfl rfl rfl rfl rfl rfl rfl rfl rfl (by simp only [List.length_append, List.length_map, List.length_take, List.length_cons, List.length_nil]; unfold reachBytes; omega) (by simp only [List.length_append, List.length_map, List.length_take, List.length_cons, List.length_nil]; omega) ?_)
          refine qy (i := 7) (K := [12, 69]) (by kernel_rfl) (by kernel_rfl) rfl rfl (qi qe rfl (by exact True.intro)) rfl ?_
          refine qo 8 (by kernel_rfl) ?_
          first | refine qd rfl rfl rfl (aM (h := ?_)) | refine qd rfl rfl rfl (aB (h := ?_)) | refine qd rfl rfl rfl (aA (h := ?_)) | refine qd rfl rfl rfl (aS (h := ?_)) | refine qd rfl rfl rfl (aL (h := ?_)) | refine qd rfl rfl rfl (qv (K := []) (qi qe rfl (by exact True.intro)) rfl ?_)
          refine zd (by kernel_rfl) ?_
          refine SW.wk (qq [3, 6, 12] [(3, 3), (6, 6), (12, 12), (81, 81)] rfl rfl) ?_
          refine ?fk22_223
          rotate_left
          (repeat refine qb ?_); refine qa ?_
          repeat (first | refine zR ?_ | refine zK ?_ | refine zM ?_ | refine zB ?_ | refine zA ?_ | refine zS ?_ | refine zL ?_)
          refine qc ?_
          (repeat refine qb ?_); refine qk ?_
          rw [hfin, rs_app]
          exact ⟨Or.inr rfl, _, _, [], _, zN (k := 81) rfl, rfl, rfl, .refl _, rfl, rfl⟩
        · have e3 : ¬ alg = 3 := by simpa using c3
          rw [if_neg e3] at hfin
          refine qm ?_
          (repeat refine qb ?_); refine qa ?_
          repeat (first | refine zR ?_ | refine zK ?_ | refine zM ?_ | refine zB ?_ | refine zA ?_ | refine zS ?_ | refine zL ?_)
          refine qc ?_
          refine ⟨_, _, ?_, qq [3, 6, 10, 12, 55, 56, 57] [(3, 3), (6, 6), (12, 12), (69, 0)] rfl rfl, k + 1, _, acc ++ x.obls, hlt', rfl, qz hlt' (by omega), by rw [List.length_append]; omega, by rw [List.append_assoc]; exact hfin, ?_⟩
          · omega
          · rw [List.map_append]; rfl
    · refine qK ?_
      rw [lp] at hlt
      simp only [decide_eq_false_iff_not] at hlt
      have hkk : k = parts.length := by omega
      subst hkk
      rw [List.drop_length, wF, List.append_nil] at hfin
      obtain ⟨acc2, ha2⟩ : ∃ acc2, acc2 = acc := ⟨_, rfl⟩
      rw [← ha2] at hfin hacc ⊢
      have hacc2 : acc2.length ≤ 1000000 := by omega
      have hdl := wq obls M
      (repeat refine qb ?_); refine zH 9 rfl (by kernel_rfl) ?_
      refine qy (i := 0) (K := [12, 0]) (by kernel_rfl) (by kernel_rfl) rfl rfl (qi qe rfl (by exact True.intro)) rfl ?_
      refine qy (i := 1) (K := []) (by kernel_rfl) (by kernel_rfl) rfl rfl (qi qe rfl (by exact True.intro)) rfl ?_
      refine qy (i := 2) (K := [12, 0]) (by kernel_rfl) (by kernel_rfl) rfl rfl (qi qe rfl (by exact True.intro)) rfl ?_
      refine qy (i := 3) (K := [12, 0]) (by kernel_rfl) (by kernel_rfl) rfl rfl (qi qe rfl (by exact True.intro)) rfl ?_
      refine qy (i := 4) (K := [12, 0]) (by kernel_rfl) (by kernel_rfl) rfl rfl (qi qe rfl (by exact True.intro)) rfl ?_
      refine qo 5 (by kernel_rfl) ?_
      refine qd rfl rfl rfl (qD rfl rfl rfl rfl ((duties_h obls (by omega) M hM)) rfl rfl rfl ?_)
      refine qo 6 (by kernel_rfl) ?_
      refine qd rfl rfl rfl (qp qe rfl rfl rfl rfl rfl rfl rfl rfl rfl rfl rfl rfl rfl rfl rfl rfl (by simp only [List.length_append, List.length_map, List.length_take, List.length_cons, List.length_nil]; unfold reachBytes; omega) (by simp only [List.length_append, List.length_map, List.length_take, List.length_cons, List.length_nil]; omega) ?_)
      refine qy (i := 7) (K := [12, 0]) (by kernel_rfl) (by kernel_rfl) rfl rfl (qi qe rfl (by exact True.intro)) rfl ?_
      refine qo 8 (by kernel_rfl) ?_
      first | refine qd rfl rfl rfl (aM (h := ?_)) | refine qd rfl rfl rfl (aB (h := ?_)) | refine qd rfl rfl rfl (aA (h := ?_)) | refine qd rfl rfl rfl (aS (h := ?_)) | refine qd rfl rfl rfl (aL (h := ?_)) | refine qd rfl rfl rfl (qv (K := []) (qi qe rfl (by exact True.intro)) rfl ?_)
      refine zd (by kernel_rfl) ?_
      refine SW.wk (qq [3, 6, 12] [(3, 3), (6, 6), (12, 12), (81, 81)] rfl rfl) ?_
      refine ?fk22_265
      rotate_left
      (repeat refine qb ?_); refine qa ?_
      repeat (first | refine zR ?_ | refine zK ?_ | refine zM ?_ | refine zB ?_ | refine zA ?_ | refine zS ?_ | refine zL ?_)
      refine qc ?_
      (repeat refine qb ?_); refine qk ?_
      rw [hfin, rs_app]
      exact ⟨Or.inr rfl, _, _, [], _, zN (k := 81) rfl, rfl, rfl, .refl _, rfl, rfl⟩
end Go.Proofs.YtppfcacnofjmdaaGreatDoor
namespace Go.Proofs.YtppfcacnofjmdaaGreatDoor
set_option linter.unusedVariables false
set_option linter.unusedSimpArgs false
open Go.RowKit
set_option maxHeartbeats 4000000
theorem partsO_len (alg : Int) (m : Mk) : ∀ l : List Rs, (wF alg m l).length ≤ oblN l
  | [] => Nat.le_refl _
  | x :: l => by
    have ih := partsO_len alg m l
    have e : oblN (x :: l) = x.obls.length + oblN l := by unfold oblN qT; rw [List.map_cons, List.sum_cons]
    rw [wF, e]
    split
    · split
      · omega
      · rw [List.length_append]; omega
    · omega
theorem oblN_append (a b : List Rs) : oblN (a ++ b) = oblN a + oblN b := by unfold oblN qT; rw [List.map_append, List.sum_append]
theorem oblN_map {α : Type} {f : α → Rs} {c : α → Nat} (h : ∀ x, (f x).obls.length ≤ c x) : ∀ l : List α, oblN (l.map f) ≤ qT c l
  | [] => Nat.le_refl _
  | x :: l => by
    have ih := oblN_map h l
    have h1 := h x
    unfold oblN qT at ih ⊢
    rw [List.map_cons, List.map_cons, List.sum_cons, List.map_cons, List.sum_cons]
    omega
theorem effectS_len (r : Rul) (t c : Int) : (jW r t c).obls.length ≤ r.obls.length := by
  unfold jW
  repeat' split
  · exact Nat.zero_le _
  · exact Nat.zero_le _
  · exact wq _ _
theorem ruleR_len (g : List Giv) (r : Rul) : (qaw g r).obls.length ≤ rusz r := by
  have h1 := effectS_len r (metT r.target g) (qam r.cond g)
  have h2 : r.obls.length ≤ osz r.obls := by unfold osz; omega
  have h3 : rusz r = txt r.id + tsz r.target + r.cond.length + osz r.obls + qT nsz r.cond := rfl
  unfold qaw
  omega
theorem parts_len (g : List Giv) (n : Nat) (h : ∀ p, (qF g n p).obls.length ≤ p.sz) (p : Pol) : oblN (p.rules.map (qaw g) ++ p.kids.map (qF g n)) + p.obls.length ≤ p.sz := by
  have h1 := Pol.sz_eq p
  have h2 := oblN_map (ruleR_len g) p.rules
  have h3 := oblN_map h p.kids
  have h4 : p.obls.length ≤ osz p.obls := by unfold osz; omega
  rw [oblN_append]
  omega
theorem decideS_len (g : List Giv) : ∀ (n : Nat) (p : Pol), (qF g n p).obls.length ≤ p.sz
  | 0, p => Nat.zero_le _
  | n + 1, p => by
    have h1 := parts_len g n (decideS_len g n) p
    rw [qF]
    split
    · exact Nat.zero_le _
    · unfold wM
      repeat' split
      · exact Nat.zero_le _
      · exact Nat.zero_le _
      · exact Nat.zero_le _
      · have h2 := partsO_len p.alg (allM p.alg ((p.rules.map (qaw g) ++ p.kids.map (qF g n)).map Rs.m)) (p.rules.map (qaw g) ++ p.kids.map (qF g n))
        have h3 := wq p.obls (allM p.alg ((p.rules.map (qaw g) ++ p.kids.map (qF g n)).map Rs.m))
        simp only [List.length_append]
        omega
theorem tarSm_sz {t : Tar} {n : Nat} (h : tsz t ≤ n) (hn : n ≤ 100000) : TarSm t := by
  refine ⟨by unfold tsz at h; omega, fun x hx => ?_⟩
  have h1 := xsz_le hx
  refine ⟨by unfold xsz at h1; omega, fun y hy => ?_⟩
  have h4 : asz y ≤ xsz x := by have := wb (f := asz) hy; unfold xsz; omega
  unfold asz at h4
  omega
theorem sz_big {p : Pol} {n : Nat} (h : p.sz ≤ n) (hn : n ≤ 100000) : TarSm p.target ∧ p.rules.length ≤ 100000 ∧ p.kids.length ≤ 100000 ∧ p.obls.length ≤ 100000 ∧ (∀ r ∈ p.rules, TarSm r.target ∧ r.cond.length ≤ 100000 ∧ r.obls.length ≤ 100000) ∧ ∀ k ∈ p.kids, k.sz ≤ n := by
  have h1 := Pol.sz_eq p
  have h2 := len_sumBy Pol.sz (fun p => by rw [Pol.sz_eq]; omega) p.kids
  have h3 : p.obls.length ≤ osz p.obls := by unfold osz; omega
  refine ⟨tarSm_sz (n := n) (by omega) hn, by omega, by omega, by omega, fun r hr => ?_, fun k hk => ?_⟩
  · have h4 := wb (f := rusz) hr
    have h5 : r.obls.length ≤ osz r.obls := by unfold osz; omega
    have h6 : rusz r = txt r.id + tsz r.target + r.cond.length + osz r.obls + qT nsz r.cond := rfl
    exact ⟨tarSm_sz (n := n) (by omega) hn, by omega, by omega⟩
  · have := wb (f := Pol.sz) hk
    omega
def DecOk (g : List Giv) (n : Nat) : Prop := ∀ (p : Pol), PolF n p → p.sz ≤ 100000 → Holds Tryz.prog 47 [.agg (polP p), zP g] (.p (.agg (rsP (qF g n p)))) []
theorem dec_step {g : List Giv} (hg : GivOk g) (n : Nat) (IH : DecOk g n) : DecOk g (n + 1) := by
  intro p hf hsz
  obtain ⟨ht, hr, hk, ho, hru, hks⟩ := sz_big hsz (Nat.le_refl _)
  have hpl := parts_len g n (decideS_len g n) p
  have HK := fun k (hk : k ∈ p.kids) => IH k (hf.2.2 k hk) (hks k hk)
  have HM := metT_h p.target g hf.1.tgt ht hg.fit hg.len hg.bags
  have HR := fun r (hr : r ∈ p.rules) => ruleR_h r g (hf.1.rules r hr) (hru r hr).1 (by have := (hru r hr).2.2; omega) hg.fit hg.len hg.bags
  have HJ := join_h p (metT p.target g) (p.rules.map (qaw g) ++ p.kids.map (qF g n)) (by simp; omega) (fun x hx => by
    rcases List.mem_append.1 hx with hx | hx
    · obtain ⟨r, _, rfl⟩ := List.mem_map.1 hx; exact qan _ _ _
    · obtain ⟨k, _, rfl⟩ := List.mem_map.1 hx; exact qaa g n k) (by omega) (by omega)
  have eD : qF g (n + 1) p = if metT p.target g = 0 then noRs else wM p (metT p.target g) (p.rules.map (qaw g) ++ p.kids.map (qF g n)) := rfl
  rw [eD]
  clear eD
  rw [zf] at HJ ⊢
  generalize metT p.target g = t at *
  obtain ⟨id, set, alg, tg, rules, kids, obls⟩ := p
  simp only [Pol.id, Pol.set, Pol.alg, Pol.target, Pol.rules, Pol.kids, Pol.obls] at *
  have l1 : ((rules.map zt).length) = rules.length := by simp
  have l2 : ((kids.map polP).length) = kids.length := by simp
  refine .ofW ?_
  refine qR (T := TTab) qe Tryz.func47 (by kernel_rfl) rfl rfl rfl ?_
  (repeat refine qb ?_); refine qa ?_
  repeat (first | refine zR ?_ | refine zK ?_ | refine zM ?_ | refine zB ?_ | refine zA ?_ | refine zS ?_ | refine zL ?_)
  refine qc ?_
  (repeat refine qb ?_); refine qa ?_
  repeat (first | refine zR ?_ | refine zK ?_ | refine zM ?_ | refine zB ?_ | refine zA ?_ | refine zS ?_ | refine zL ?_)
  refine qn rfl (qg rfl rfl rfl rfl (HM) rfl rfl ?_)
  repeat (first | refine zR ?_ | refine zK ?_ | refine zM ?_ | refine zB ?_ | refine zA ?_ | refine zS ?_ | refine zL ?_)
  refine qc ?_
  (repeat refine qb ?_); refine qa ?_
  repeat (first | refine zR ?_ | refine zK ?_ | refine zM ?_ | refine zB ?_ | refine zA ?_ | refine zS ?_ | refine zL ?_)
  refine qc ?_
  (repeat refine qb ?_); refine qf rfl (fun h0 => ?_) (fun h0 => ?_)
  · have e : t = 0 := by simpa using h0
    rw [if_pos e]
    (repeat refine qb ?_); refine qa ?_
    repeat (first | refine zR ?_ | refine zK ?_ | refine zM ?_ | refine zB ?_ | refine zA ?_ | refine zS ?_ | refine zL ?_)
    refine qc ?_
    (repeat refine qb ?_); refine qk ?_
    exact ⟨Or.inr rfl, _, _, [], _, Wk.refl _, rfl, rfl, .p (CvL.agg (.cons (.refl _) (.cons (.nil 3) .nil))), rfl, rfl⟩
  have n0 : ¬ t = 0 := by simpa using h0
  rw [if_neg n0]
  refine qm ?_
  (repeat refine qb ?_); refine qa ?_
  repeat (first | refine zR ?_ | refine zK ?_ | refine zM ?_ | refine zB ?_ | refine zA ?_ | refine zS ?_ | refine zL ?_)
  refine qc ?_
  (repeat refine qb ?_); refine qa ?_
  repeat (first | refine zR ?_ | refine zK ?_ | refine zM ?_ | refine zB ?_ | refine zA ?_ | refine zS ?_ | refine zL ?_)
  refine qc ?_
  (repeat refine qb ?_); refine ql ?_
  refine SW.wk (jP 6 900 38 2 rfl rfl) ?_
  refine SW.wk (qq [1, 2, 4, 5, 6, 19, 20, 21] [(2, 2), (4, 4), (900, 0)] rfl rfl) ?_
  refine qO (fun m s => ∃ (k : Nat) (kk : Int), k ≤ rules.length ∧ m = rules.length - k ∧ kk = k ∧ s = ⟨50, [(1, .p (zP g)), (2, .ptr 2 0), (4, .ptr 4 0), (5, .p (pI t)), (6, .row 0), (19, .p (.sl 5 (rules.map zt))), (20, .p (pI (rules.map zt).length)), (21, .p (pI kk))], [(2, .cells [.p (pS id), .p (pB set), .p (pI alg), .p (tgtP tg), .p (.sl 5 (rules.map zt)), .p (.sl 7 (kids.map polP)), .p (zQ obls)]), (4, .cells [.p (.v (.complex .f64 0 0)), .p nilV]), (0, .row 38 2 (((rules.take k).map (qaw g)).map rsP))]⟩) rules.length ⟨0, 0, Nat.zero_le _, rfl, rfl, rfl⟩ ?_
  rintro m s ⟨k, _, hk', rfl, rfl, rfl⟩
  (repeat refine qb ?_); refine qa ?_
  repeat (first | refine zR ?_ | refine zK ?_ | refine zM ?_ | refine zB ?_ | refine zA ?_ | refine zS ?_ | refine zL ?_)
  refine qc ?_
  (repeat refine qb ?_); refine qf rfl (fun hlt => ?_) (fun hlt => ?_)
  · refine qm ?_
    rw [l1] at hlt
    simp only [decide_eq_true_eq] at hlt
    have hlt' : k < rules.length := by omega
    have H := HR _ (List.getElem_mem hlt')
    obtain ⟨x, hx⟩ : ∃ x, x = rules[k] := ⟨_, rfl⟩
    rw [← hx] at H
    (repeat refine qb ?_); refine ql ?_
    (repeat refine qb ?_); refine qa ?_
    repeat (first | refine zR ?_ | refine zK ?_ | refine zM ?_ | refine zB ?_ | refine zA ?_ | refine zS ?_ | refine zL ?_)
    refine qw qe rfl rfl (by rw [l1]; omega) rfl ?_
    rw [qJ hlt', ← hx]
    repeat (first | refine zR ?_ | refine zK ?_ | refine zM ?_ | refine zB ?_ | refine zA ?_ | refine zS ?_ | refine zL ?_)
    refine qc ?_
    (repeat refine qb ?_); refine qa ?_
    repeat (first | refine zR ?_ | refine zK ?_ | refine zM ?_ | refine zB ?_ | refine zA ?_ | refine zS ?_ | refine zL ?_)
    refine qn rfl (qD rfl rfl rfl rfl (H) rfl rfl rfl ?_)
    repeat (first | refine zR ?_ | refine zK ?_ | refine zM ?_ | refine zB ?_ | refine zA ?_ | refine zS ?_ | refine zL ?_)
    refine qn rfl (qp qe rfl rfl rfl rfl rfl rfl rfl rfl rfl rfl rfl rfl rfl rfl rfl rfl (by simp only [List.length_append, List.length_map, List.length_take, List.length_cons, List.length_nil]; unfold reachBytes; omega) (by simp only [List.length_append, List.length_map, List.length_take, List.length_cons, List.length_nil]; omega) ?_)
    repeat (first | refine zR ?_ | refine zK ?_ | refine zM ?_ | refine zB ?_ | refine zA ?_ | refine zS ?_ | refine zL ?_)
    refine qc ?_
    (repeat refine qb ?_); refine qa ?_
    repeat (first | refine zR ?_ | refine zK ?_ | refine zM ?_ | refine zB ?_ | refine zA ?_ | refine zS ?_ | refine zL ?_)
    refine qc ?_
    refine ⟨_, _, ?_, qq [1, 2, 4, 5, 6, 19, 20, 21] [(2, 2), (4, 4), (30, 0)] rfl rfl, k + 1, _, hlt', rfl, qz hlt' (by omega), ?_⟩
    · omega
    · rw [List.take_succ_eq_append_getElem hlt', ← hx, List.map_append, List.map_append]; rfl
  · refine qK ?_
    rw [l1] at hlt
    simp only [decide_eq_false_iff_not] at hlt
    have hkk : k = rules.length := by omega
    subst hkk
    rw [List.take_length]
    (repeat refine qb ?_); refine qa ?_
    repeat (first | refine zR ?_ | refine zK ?_ | refine zM ?_ | refine zB ?_ | refine zA ?_ | refine zS ?_ | refine zL ?_)
    refine qc ?_
    (repeat refine qb ?_); refine ql ?_
    refine SW.wk (qq [1, 2, 4, 5, 6, 33, 34, 35] [(2, 2), (4, 4), (0, 0)] rfl rfl) ?_
    refine qO (fun m s => ∃ (k : Nat) (kk : Int) (L : List Rs), k ≤ kids.length ∧ m = kids.length - k ∧ kk = k ∧ L = rules.map (qaw g) ++ (kids.take k).map (qF g n) ∧ s = ⟨50, [(1, .p (zP g)), (2, .ptr 2 0), (4, .ptr 4 0), (5, .p (pI t)), (6, .row 0), (33, .p (.sl 7 (kids.map polP))), (34, .p (pI (kids.map polP).length)), (35, .p (pI kk))], [(2, .cells [.p (pS id), .p (pB set), .p (pI alg), .p (tgtP tg), .p (.sl 5 (rules.map zt)), .p (.sl 7 (kids.map polP)), .p (zQ obls)]), (4, .cells [.p (.v (.complex .f64 0 0)), .p nilV]), (0, .row 38 2 (L.map rsP))]⟩) kids.length ⟨0, 0, rules.map (qaw g), Nat.zero_le _, rfl, rfl, by simp, rfl⟩ ?_
    rintro m s ⟨k, _, L, hk', rfl, rfl, hL, rfl⟩
    have hLl : L.length = rules.length + min k kids.length := by rw [hL]; simp
    (repeat refine qb ?_); refine qa ?_
    repeat (first | refine zR ?_ | refine zK ?_ | refine zM ?_ | refine zB ?_ | refine zA ?_ | refine zS ?_ | refine zL ?_)
    refine qc ?_
    (repeat refine qb ?_); refine qf rfl (fun hlt => ?_) (fun hlt => ?_)
    · refine qm ?_
      rw [l2] at hlt
      simp only [decide_eq_true_eq] at hlt
      have hlt' : k < kids.length := by omega
      have H := HK _ (List.getElem_mem hlt')
      obtain ⟨x, hx⟩ : ∃ x, x = kids[k] := ⟨_, rfl⟩
      rw [← hx, zf] at H
      (repeat refine qb ?_); refine ql ?_
      (repeat refine qb ?_); refine qa ?_
      repeat (first | refine zR ?_ | refine zK ?_ | refine zM ?_ | refine zB ?_ | refine zA ?_ | refine zS ?_ | refine zL ?_)
      refine qw qe rfl rfl (by rw [l2]; omega) rfl ?_
      rw [qJ hlt', ← hx, zf]
      repeat (first | refine zR ?_ | refine zK ?_ | refine zM ?_ | refine zB ?_ | refine zA ?_ | refine zS ?_ | refine zL ?_)
      refine qc ?_
      (repeat refine qb ?_); refine qa ?_
      repeat (first | refine zR ?_ | refine zK ?_ | refine zM ?_ | refine zB ?_ | refine zA ?_ | refine zS ?_ | refine zL ?_)
      refine qn rfl (qD rfl rfl rfl rfl (H) rfl rfl rfl ?_)
      repeat (first | refine zR ?_ | refine zK ?_ | refine zM ?_ | refine zB ?_ | refine zA ?_ | refine zS ?_ | refine zL ?_)
      refine qn rfl (qp qe rfl rfl rfl rfl rfl rfl rfl rfl rfl rfl rfl rfl rfl rfl rfl rfl (by simp only [List.length_append, List.length_map, List.length_take, List.length_cons, List.length_nil]; unfold reachBytes; omega) (by simp only [List.length_append, List.length_map, List.length_take, List.length_cons, List.length_nil]; omega) ?_)
      repeat (first | refine zR ?_ | refine zK ?_ | refine zM ?_ | refine zB ?_ | refine zA ?_ | refine zS ?_ | refine zL ?_)
      refine qc ?_
      (repeat refine qb ?_); refine qa ?_
      repeat (first | refine zR ?_ | refine zK ?_ | refine zM ?_ | refine zB ?_ | refine zA ?_ | refine zS ?_ | refine zL ?_)
      refine qc ?_
      refine ⟨_, _, ?_, qq [1, 2, 4, 5, 6, 33, 34, 35] [(2, 2), (4, 4), (44, 0)] rfl rfl, k + 1, _, L ++ [qF g n x], hlt', rfl, qz hlt' (by omega), ?_, ?_⟩
      · omega
      · rw [hL, List.append_assoc, List.take_succ_eq_append_getElem hlt', List.map_append, ← hx]; rfl
      · rw [List.map_append]; rfl
    · refine qK ?_
      rw [l2] at hlt
      simp only [decide_eq_false_iff_not] at hlt
      have hkk : k = kids.length := by omega
      subst hkk
      rw [List.take_length] at hL
      rw [← hL] at HJ ⊢
      refine SW.wk (zN (k := 0) rfl) ?_
      (repeat refine qb ?_); refine qa ?_
      repeat (first | refine zR ?_ | refine zK ?_ | refine zM ?_ | refine zB ?_ | refine zA ?_ | refine zS ?_ | refine zL ?_)
      refine qn rfl (qD rfl rfl rfl rfl (HJ) rfl rfl rfl ?_)
      repeat (first | refine zR ?_ | refine zK ?_ | refine zM ?_ | refine zB ?_ | refine zA ?_ | refine zS ?_ | refine zL ?_)
      refine qc ?_
      (repeat refine qb ?_); refine qk ?_
      exact ⟨Or.inr rfl, _, _, [], _, Wk.refl _, rfl, rfl, .refl _, rfl, rfl⟩
theorem dec_all {g : List Giv} (hg : GivOk g) : ∀ n, DecOk g n
  | 0 => fun _ h => h.elim
  | n + 1 => dec_step hg n (dec_all hg n)
theorem polF_dp : ∀ {n : Nat} {p : Pol}, PolF n p → Dp n p
  | n + 1, p, h => fun k hk => polF_dp (h.2.2 k hk)
theorem decideS_any (g : List Giv) {n m : Nat} {p : Pol} (hn : Dp n p) (hm : Dp m p) : qF g n p = qF g m p := by
  rcases Nat.le_total n m with h | h
  · exact (decideS_dp g hn h).symm
  · exact decideS_dp g hm h
theorem evPol_h {n : Nat} (p : Pol) (hf : PolF n p) (hsz : p.sz ≤ 100000) (g : List Giv) (hg : GivOk g) : Holds Tryz.prog 19 [.agg (polP p), zP g] (.tup [.p (.agg (rsP (evalS p g).1)), .p (pI (evalS p g).2)]) [] := by
  have HR := right_h p (qaF 4 hf)
  have HD := dec_all hg n p hf hsz
  unfold evalS
  by_cases h : zb p = 0
  · rw [if_pos h]
    rw [decideS_any g (polF_dp hf) (right_dp h)] at HD
    rw [h] at HR
    generalize qF g 4 p = x at *
    rw [zf] at HR HD ⊢
    refine .ofW ?_
    refine qR (T := TTab) qe Tryz.func19 (by kernel_rfl) rfl rfl rfl ?_
    (repeat refine qb ?_); refine qa ?_
    repeat (first | refine zR ?_ | refine zK ?_ | refine zM ?_ | refine zB ?_ | refine zA ?_ | refine zS ?_ | refine zL ?_)
    refine qc ?_
    (repeat refine qb ?_); refine qa ?_
    repeat (first | refine zR ?_ | refine zK ?_ | refine zM ?_ | refine zB ?_ | refine zA ?_ | refine zS ?_ | refine zL ?_)
    refine qn rfl (qg rfl rfl rfl rfl (HR) rfl rfl ?_)
    repeat (first | refine zR ?_ | refine zK ?_ | refine zM ?_ | refine zB ?_ | refine zA ?_ | refine zS ?_ | refine zL ?_)
    refine qc ?_
    (repeat refine qb ?_); refine qf rfl (fun hc => ?_) (fun hc => ?_)
    · cases hc
    refine qm ?_
    (repeat refine qb ?_); refine qa ?_
    repeat (first | refine zR ?_ | refine zK ?_ | refine zM ?_ | refine zB ?_ | refine zA ?_ | refine zS ?_ | refine zL ?_)
    refine qn rfl (qD rfl rfl rfl rfl (HD) rfl rfl rfl ?_)
    repeat (first | refine zR ?_ | refine zK ?_ | refine zM ?_ | refine zB ?_ | refine zA ?_ | refine zS ?_ | refine zL ?_)
    refine qc ?_
    (repeat refine qb ?_); refine qk ?_
    exact ⟨Or.inr rfl, _, _, [], _, Wk.refl _, rfl, rfl, .refl _, rfl, rfl⟩
  · rw [if_neg h]
    rw [zf] at HR ⊢
    refine .ofW ?_
    refine qR (T := TTab) qe Tryz.func19 (by kernel_rfl) rfl rfl rfl ?_
    (repeat refine qb ?_); refine qa ?_
    repeat (first | refine zR ?_ | refine zK ?_ | refine zM ?_ | refine zB ?_ | refine zA ?_ | refine zS ?_ | refine zL ?_)
    refine qc ?_
    (repeat refine qb ?_); refine qa ?_
    repeat (first | refine zR ?_ | refine zK ?_ | refine zM ?_ | refine zB ?_ | refine zA ?_ | refine zS ?_ | refine zL ?_)
    refine qn rfl (qg rfl rfl rfl rfl (HR) rfl rfl ?_)
    repeat (first | refine zR ?_ | refine zK ?_ | refine zM ?_ | refine zB ?_ | refine zA ?_ | refine zS ?_ | refine zL ?_)
    rw [show (zb p != 0) = true by simpa using h]
    refine qc ?_
    (repeat refine qb ?_); refine qf rfl (fun hc => ?_) (fun hc => ?_)
    · (repeat refine qb ?_); refine qa ?_
      repeat (first | refine zR ?_ | refine zK ?_ | refine zM ?_ | refine zB ?_ | refine zA ?_ | refine zS ?_ | refine zL ?_)
      refine qc ?_
      (repeat refine qb ?_); refine qk ?_
      exact ⟨Or.inr rfl, _, _, [], _, Wk.refl _, rfl, rfl, .two (CvL.agg (.cons (.refl _) (.cons (.nil 3) .nil))) (.refl _), rfl, rfl⟩
    · cases hc
end Go.Proofs.YtppfcacnofjmdaaGreatDoor
namespace Go.Proofs.YtppfcacnofjmdaaGreatDoor
set_option linter.unusedVariables false
set_option linter.unusedSimpArgs false
open Go.RowKit
set_option maxHeartbeats 4000000
theorem HoldsR.cv2 {P : Program} {f : FuncId} {s : SV} {x x' : PV} {own : List (Nat × Box)} {R : SV → List (Nat × Box) → Prop} (h : HoldsR P f [s, .p x] own R) (hc : Cv x' x) : HoldsR P f [s, .p x'] own R :=
  ⟨h.1, fun w Sx γ vs hh hl hr => h.2 w Sx γ vs hh hl fun i t u ht hu => by
    match i, ht with
    | 0, ht => exact hr 0 t u ht hu
    | 1, ht =>
      simp only [List.getElem?_cons_succ, List.getElem?_cons_zero, Option.some.injEq] at ht
      subst ht
      exact .p ((hr 1 (.p x') u rfl hu).p_inv.cv hc)⟩
theorem moreA_bd {l : List Atm} {a : Atm} {n : Nat} (h : ∀ x ∈ l, x.c.length ≤ n) (ha : a.c.length ≤ n) : ∀ x ∈ moreA l a, x.c.length ≤ n := fun x hx => by
  rcases moreA_mem.1 hx with hx | rfl
  · exact h x hx
  · exact ha
theorem flat_split {α : Type} (f : α → List Atm) {l : List α} {k : Nat} (hk : k < l.length) : l.flatMap f = (l.take k).flatMap f ++ (f l[k] ++ (l.drop (k + 1)).flatMap f) := by
  rw [← List.flatMap_cons, ← List.flatMap_append, ← List.drop_eq_getElem_cons hk, List.take_append_drop]
theorem qaM {α : Type} (f : α → List Atm) {l : List α} {k : Nat} (hk : k < l.length) : (l.take (k + 1)).flatMap f = (l.take k).flatMap f ++ f l[k] := by
  rw [List.take_succ_eq_append_getElem hk, List.flatMap_append]; simp
theorem flat_at {α : Type} (f : α → List Atm) {l : List α} {k : Nat} (hk : k < l.length) : ((l.take k).flatMap f).length + (f l[k]).length ≤ (l.flatMap f).length := by
  have := congrArg List.length (flat_split f hk)
  simp only [List.length_append] at this
  omega
theorem tarA_c {t : Tar} {x : Atm} (h : x ∈ tarA t) : x.c = [] := by
  obtain ⟨y, _, h⟩ := List.mem_flatMap.1 h
  obtain ⟨z, _, h⟩ := List.mem_flatMap.1 h
  obtain ⟨m, _, rfl⟩ := List.mem_map.1 h
  rfl
theorem addA_bd {l bs : List Atm} {n : Nat} (h : ∀ x ∈ l, x.c.length ≤ n) (hb : ∀ x ∈ bs, x.c.length ≤ n) : ∀ x ∈ addA l bs, x.c.length ≤ n := fun x hx => (addA_mem.1 hx).elim (h x) (hb x)
theorem rulA_c {r : Rul} {x : Atm} (h : x ∈ rulA r) : x.c.length ≤ r.cond.length := by
  rcases List.mem_append.1 h with h | h
  · rw [tarA_c h]; exact Nat.zero_le _
  · unfold condA at h
    split at h
    · cases h
    · rw [List.mem_singleton.1 h]; exact Nat.le_refl _
theorem polA_c : ∀ {n : Nat} {p : Pol} {x : Atm}, x ∈ polA n p → x.c.length ≤ p.sz
  | n + 1, p, x, h => by
    have e := Pol.sz_eq p
    rcases List.mem_append.1 h with h | h
    · rw [tarA_c h]; exact Nat.zero_le _
    · rcases List.mem_append.1 h with h | h
      · obtain ⟨r, hr, h⟩ := List.mem_flatMap.1 h
        have h1 := rulA_c h
        have h2 := wb (f := rusz) hr
        have h6 : rusz r = txt r.id + tsz r.target + r.cond.length + osz r.obls + qT nsz r.cond := rfl
        omega
      · obtain ⟨k, hk, h⟩ := List.mem_flatMap.1 h
        have h1 := polA_c h
        have h2 := wb (f := Pol.sz) hk
        omega
theorem ofTarget_h (t : Tar) (ht : TarSm t) (l : List Atm) (hl : ∀ x ∈ l, x.c.length ≤ 1000000) (hn : l.length + (tarA t).length ≤ 1000000) : zZ Tryz.prog 71 [.row 1000000, .p (tgtP t)] (rowA 1000000 l) (.row 0) (rowA 0 (addA l (tarA t))) := by
  have lt : (t.map fun x => [anyP x]).length = t.length := by simp
  have ht1 := ht.1
  refine ja (ts := [4]) Tryz.func71 (by kernel_rfl) rfl rfl rfl ?_
  (repeat refine qb ?_); refine qa ?_
  repeat (first | refine zR ?_ | refine zK ?_ | refine zM ?_ | refine zB ?_ | refine zA ?_ | refine zS ?_ | refine zL ?_)
  refine qc ?_
  (repeat refine qb ?_); refine qa ?_
  repeat (first | refine zR ?_ | refine zK ?_ | refine zM ?_ | refine zB ?_ | refine zA ?_ | refine zS ?_ | refine zL ?_)
  refine qc ?_
  (repeat refine qb ?_); refine ql ?_
  refine SW.wk (qq [0, 11, 12, 13] [(1000000, 0)] rfl rfl) ?_
  refine qO (fun m s => ∃ (k : Nat) (kk : Int) (L : List Atm), k ≤ t.length ∧ m = t.length - k ∧ kk = k ∧ L = addA l ((t.take k).flatMap anyA) ∧ s = ⟨37, [(0, .row 0), (11, .p (tgtP t)), (12, .p (pI (t.map fun x => [anyP x]).length)), (13, .p (pI kk))], rowA 0 L⟩) t.length ⟨0, 0, _, Nat.zero_le _, rfl, rfl, rfl, rfl⟩ ?_
  rintro m s ⟨k, _, L, hk, rfl, rfl, hL, rfl⟩
  (repeat refine qb ?_); refine qa ?_
  repeat (first | refine zR ?_ | refine zK ?_ | refine zM ?_ | refine zB ?_ | refine zA ?_ | refine zS ?_ | refine zL ?_)
  refine qc ?_
  (repeat refine qb ?_); refine qf rfl (fun hlt => ?_) (fun hlt => ?_)
  · refine qm ?_
    rw [lt] at hlt
    simp only [decide_eq_true_eq] at hlt
    have hlt' : k < t.length := by omega
    have hxl := ht.2 _ (List.getElem_mem hlt')
    have hA := flat_at anyA hlt'
    have hS := qaM anyA hlt'
    obtain ⟨x, hx⟩ : ∃ x, x = t[k] := ⟨_, rfl⟩
    rw [← hx] at hxl hA hS
    have hx1 := hxl.1
    have hL1 := qaJ ((t.take k).flatMap anyA) l
    have hLb : ∀ x ∈ L, x.c.length ≤ 1000000 := by
      rw [hL]
      refine addA_bd hl fun y hy => ?_
      have : y ∈ tarA t := by
        obtain ⟨z, hz, hy⟩ := List.mem_flatMap.1 hy
        exact List.mem_flatMap.2 ⟨z, List.mem_of_mem_take hz, hy⟩
      rw [tarA_c this]; exact Nat.zero_le _
    rw [← hL] at hL1
    have lx : (x.map fun y => [qaB y]).length = x.length := by simp
    (repeat refine qb ?_); refine ql ?_
    (repeat refine qb ?_); refine qa ?_
    repeat (first | refine zR ?_ | refine zK ?_ | refine zM ?_ | refine zB ?_ | refine zA ?_ | refine zS ?_ | refine zL ?_)
    refine qw qe rfl rfl (by rw [lt]; omega) rfl ?_
    rw [qJ hlt', ← hx]
    repeat (first | refine zR ?_ | refine zK ?_ | refine zM ?_ | refine zB ?_ | refine zA ?_ | refine zS ?_ | refine zL ?_)
    refine qc ?_
    (repeat refine qb ?_); refine qa ?_
    repeat (first | refine zR ?_ | refine zK ?_ | refine zM ?_ | refine zB ?_ | refine zA ?_ | refine zS ?_ | refine zL ?_)
    refine qc ?_
    (repeat refine qb ?_); refine ql ?_
    refine SW.wk (qq [0, 11, 12, 13, 17, 18, 19] [(0, 0)] rfl rfl) ?_
    refine qO (fun m s => ∃ (j : Nat) (jj : Int) (M : List Atm), j ≤ x.length ∧ m = x.length - j ∧ jj = j ∧ M = addA L ((x.take j).flatMap allA) ∧ (∀ x ∈ M, x.c.length ≤ 1000000) ∧ s = ⟨37, [(0, .row 0), (11, .p (tgtP t)), (12, .p (pI (t.map fun x => [anyP x]).length)), (13, .p (pI k)), (17, .p (anyP x)), (18, .p (pI (x.map fun y => [qaB y]).length)), (19, .p (pI jj))], rowA 0 M⟩) x.length ⟨0, 0, _, Nat.zero_le _, rfl, rfl, rfl, hLb, rfl⟩ ?_
    rintro m s ⟨j, _, M, hj, rfl, rfl, hM, hMb, rfl⟩
    (repeat refine qb ?_); refine qa ?_
    repeat (first | refine zR ?_ | refine zK ?_ | refine zM ?_ | refine zB ?_ | refine zA ?_ | refine zS ?_ | refine zL ?_)
    refine qc ?_
    (repeat refine qb ?_); refine qf rfl (fun hlj => ?_) (fun hlj => ?_)
    · refine qm ?_
      rw [lx] at hlj
      simp only [decide_eq_true_eq] at hlj
      have hlj' : j < x.length := by omega
      have hyl := hxl.2 _ (List.getElem_mem hlj')
      have hA2 := flat_at allA hlj'
      have hS2 := qaM allA hlj'
      obtain ⟨y, hy⟩ : ∃ y, y = x[j] := ⟨_, rfl⟩
      rw [← hy] at hyl hA2 hS2
      have hM1 := qaJ ((x.take j).flatMap allA) L
      rw [← hM] at hM1
      have ly : (y.map Mat.pv).length = y.length := by simp
      have ly2 : (allA y).length = y.length := by unfold allA; simp
      (repeat refine qb ?_); refine ql ?_
      (repeat refine qb ?_); refine qa ?_
      repeat (first | refine zR ?_ | refine zK ?_ | refine zM ?_ | refine zB ?_ | refine zA ?_ | refine zS ?_ | refine zL ?_)
      refine qw qe rfl rfl (by rw [lx]; omega) rfl ?_
      rw [qJ hlj', ← hy]
      repeat (first | refine zR ?_ | refine zK ?_ | refine zM ?_ | refine zB ?_ | refine zA ?_ | refine zS ?_ | refine zL ?_)
      refine qc ?_
      (repeat refine qb ?_); refine qa ?_
      repeat (first | refine zR ?_ | refine zK ?_ | refine zM ?_ | refine zB ?_ | refine zA ?_ | refine zS ?_ | refine zL ?_)
      refine qc ?_
      (repeat refine qb ?_); refine ql ?_
      refine SW.wk (qq [0, 11, 12, 13, 17, 18, 19, 23, 24, 25] [(0, 0)] rfl rfl) ?_
      refine qO (fun m s => ∃ (i : Nat) (ii : Int) (N : List Atm), i ≤ y.length ∧ m = y.length - i ∧ ii = i ∧ N = addA M (allA (y.take i)) ∧ (∀ x ∈ N, x.c.length ≤ 1000000) ∧ s = ⟨37, [(0, .row 0), (11, .p (tgtP t)), (12, .p (pI (t.map fun x => [anyP x]).length)), (13, .p (pI k)), (17, .p (anyP x)), (18, .p (pI (x.map fun y => [qaB y]).length)), (19, .p (pI j)), (23, .p (qaB y)), (24, .p (pI (y.map Mat.pv).length)), (25, .p (pI ii))], rowA 0 N⟩) y.length ⟨0, 0, _, Nat.zero_le _, rfl, rfl, rfl, hMb, rfl⟩ ?_
      rintro m s ⟨i, _, N, hi, rfl, rfl, hN, hNb, rfl⟩
      (repeat refine qb ?_); refine qa ?_
      repeat (first | refine zR ?_ | refine zK ?_ | refine zM ?_ | refine zB ?_ | refine zA ?_ | refine zS ?_ | refine zL ?_)
      refine qc ?_
      (repeat refine qb ?_); refine qf rfl (fun hli => ?_) (fun hli => ?_)
      · refine qm ?_
        rw [ly] at hli
        simp only [decide_eq_true_eq] at hli
        have hli' : i < y.length := by omega
        obtain ⟨z, hz⟩ : ∃ z, z = y[i] := ⟨_, rfl⟩
        have hN1 := qaJ (allA (y.take i)) M
        have ly3 : (allA (y.take i)).length = i := by unfold allA; simp; omega
        rw [← hN, ly3] at hN1
        have hta : (tarA t).length = (t.flatMap anyA).length := rfl
        have hxa : (anyA x).length = (x.flatMap allA).length := rfl
        have H := more_h N ⟨z, []⟩ (by omega) hNb (Nat.zero_le _)
        have H' : zZ Tryz.prog 72 [.row 1000000, .p (.agg (atmP z nilV))] (rowA 1000000 N) (.row 0) (rowA 0 (moreA N ⟨z, []⟩)) := HoldsR.cv2 H (CvL.agg (.cons (.refl _) (.cons (.refl _) (.cons (.refl _) (.cons (.refl _) (.cons (.refl _) (.cons (.refl _) (.cons (.refl _) (.cons (.nil 7) .nil)))))))))
        have hNb' := moreA_bd (a := ⟨z, []⟩) hNb (Nat.zero_le _)
        have hNs : moreA N ⟨z, []⟩ = addA M (allA (y.take (i + 1))) := by
          unfold allA
          rw [List.take_succ_eq_append_getElem hli', List.map_append, qaH, hN, ← hz]
          rfl
        (repeat refine qb ?_); refine ql ?_
        (repeat refine qb ?_); refine qa ?_
        repeat (first | refine zR ?_ | refine zK ?_ | refine zM ?_ | refine zB ?_ | refine zA ?_ | refine zS ?_ | refine zL ?_)
        refine qw qe rfl rfl (by rw [ly]; omega) rfl ?_
        rw [qJ hli', ← hz]
        repeat (first | refine zR ?_ | refine zK ?_ | refine zM ?_ | refine zB ?_ | refine zA ?_ | refine zS ?_ | refine zL ?_)
        refine qc ?_
        (repeat refine qb ?_); refine qa ?_
        repeat (first | refine zR ?_ | refine zK ?_ | refine zM ?_ | refine zB ?_ | refine zA ?_ | refine zS ?_ | refine zL ?_)
        refine qn rfl (zr [(0, 1000000)] rfl rfl rfl rfl rfl rfl (H') rfl rfl rfl ?_)
        repeat (first | refine zR ?_ | refine zK ?_ | refine zM ?_ | refine zB ?_ | refine zA ?_ | refine zS ?_ | refine zL ?_)
        refine qc ?_
        (repeat refine qb ?_); refine qa ?_
        repeat (first | refine zR ?_ | refine zK ?_ | refine zM ?_ | refine zB ?_ | refine zA ?_ | refine zS ?_ | refine zL ?_)
        refine qc ?_
        refine ⟨_, _, ?_, qq [0, 11, 12, 13, 17, 18, 19, 23, 24, 25] [(33000, 0)] rfl rfl, i + 1, _, _, hli', rfl, qz hli' (by omega), hNs, hNb', rfl⟩
        omega
      · refine qK ?_
        rw [ly] at hli
        simp only [decide_eq_false_iff_not] at hli
        have hii : i = y.length := by omega
        subst hii
        rw [List.take_length] at hN
        (repeat refine qb ?_); refine qa ?_
        repeat (first | refine zR ?_ | refine zK ?_ | refine zM ?_ | refine zB ?_ | refine zA ?_ | refine zS ?_ | refine zL ?_)
        refine qc ?_
        refine ⟨_, _, ?_, qq [0, 11, 12, 13, 17, 18, 19] [(0, 0)] rfl rfl, j + 1, _, _, hlj', rfl, qz hlj' (by omega), ?_, hNb, rfl⟩
        · omega
        · rw [hN, hM, hS2, qaH]
    · refine qK ?_
      rw [lx] at hlj
      simp only [decide_eq_false_iff_not] at hlj
      have hjj : j = x.length := by omega
      subst hjj
      rw [List.take_length] at hM
      (repeat refine qb ?_); refine qa ?_
      repeat (first | refine zR ?_ | refine zK ?_ | refine zM ?_ | refine zB ?_ | refine zA ?_ | refine zS ?_ | refine zL ?_)
      refine qc ?_
      refine ⟨_, _, ?_, qq [0, 11, 12, 13] [(0, 0)] rfl rfl, k + 1, _, _, hlt', rfl, qz hlt' (by omega), ?_, rfl⟩
      · omega
      · rw [hM, hL, hS, qaH]; rfl
  · refine qK ?_
    rw [lt] at hlt
    simp only [decide_eq_false_iff_not] at hlt
    have hkk : k = t.length := by omega
    subst hkk
    rw [List.take_length] at hL
    rw [hL]
    (repeat refine qb ?_); refine qa ?_
    repeat (first | refine zR ?_ | refine zK ?_ | refine zM ?_ | refine zB ?_ | refine zA ?_ | refine zS ?_ | refine zL ?_)
    refine qc ?_
    (repeat refine qb ?_); refine qk ?_
    exact ⟨Or.inr rfl, _, _, [(0, 0)], Wk.refl _, rfl, rfl, rfl, rfl⟩
theorem sumBy_at {α : Type} (f : α → Nat) {l : List α} {k : Nat} (hk : k < l.length) : qT f (l.take k) + f l[k] ≤ qT f l := by
  have e : l = l.take k ++ (l[k] :: l.drop (k + 1)) := by rw [← List.drop_eq_getElem_cons hk, List.take_append_drop]
  have h : ∀ (a b : List α) (x : α), qT f (a ++ x :: b) = qT f a + (f x + qT f b) := fun a b x => by simp [qT]
  have h2 := h (l.take k) (l.drop (k + 1)) l[k]
  rw [← e] at h2
  omega
theorem rul_eq (L : List Atm) (r : Rul) : addA L (rulA r) = if r.cond = [] then addA L (tarA r.target) else moreA (addA L (tarA r.target)) ⟨zeroM, r.cond⟩ := by
  unfold rulA condA
  rw [qaH]
  split <;> rfl
def VarOk (n : Nat) : Prop := ∀ (p : Pol), PolF n p → p.sz ≤ 100000 → ∀ l : List Atm, (∀ x ∈ l, x.c.length ≤ 1000000) → l.length + p.sz ≤ 500000 → zZ Tryz.prog 54 [.row 1000000, .p (.agg (polP p))] (rowA 1000000 l) (.row 0) (rowA 0 (addA l (polA n p)))
theorem ofPolicy_step (n : Nat) (IH : VarOk n) : VarOk (n + 1) := by
  intro p hf hsz l hl hn
  have eS := Pol.sz_eq p
  obtain ⟨hT, hrn, hkn, _, hrs, hks⟩ := sz_big hsz (Nat.le_refl _)
  have eP : polA (n + 1) p = tarA p.target ++ (p.rules.flatMap rulA ++ p.kids.flatMap (polA n)) := rfl
  have hTl := tarA_len p.target
  have hRl := qaK rulA rusz rulA_len p.rules
  have hkf := hf.2.2
  rw [eP, qaH, qaH, zf]
  clear eP
  obtain ⟨id, set, al, tg, rules, ks, obls⟩ := p
  simp only [Pol.id, Pol.set, Pol.alg, Pol.target, Pol.rules, Pol.kids, Pol.obls] at *
  have lr : ((rules.map zt).length) = rules.length := by simp
  have lk : ((ks.map polP).length) = ks.length := by simp
  refine ja (ts := [4]) Tryz.func54 (by kernel_rfl) rfl rfl rfl ?_
  (repeat refine qb ?_); refine qa ?_
  repeat (first | refine zR ?_ | refine zK ?_ | refine zM ?_ | refine zB ?_ | refine zA ?_ | refine zS ?_ | refine zL ?_)
  refine qc ?_
  (repeat refine qb ?_); refine qa ?_
  repeat (first | refine zR ?_ | refine zK ?_ | refine zM ?_ | refine zB ?_ | refine zA ?_ | refine zS ?_ | refine zL ?_)
  refine qn rfl (zr [(1000000, 1000000)] rfl rfl rfl rfl rfl rfl (ofTarget_h tg hT l hl (by omega)) rfl rfl rfl ?_)
  repeat (first | refine zR ?_ | refine zK ?_ | refine zM ?_ | refine zB ?_ | refine zA ?_ | refine zS ?_ | refine zL ?_)
  refine qc ?_
  have hMb : ∀ x ∈ addA l (tarA tg), x.c.length ≤ 1000000 := addA_bd hl fun x hx => by rw [tarA_c hx]; exact Nat.zero_le _
  have hMl := qaJ (tarA tg) l
  obtain ⟨M, hM⟩ : ∃ M, M = addA l (tarA tg) := ⟨_, rfl⟩
  rw [← hM] at hMb hMl
  rw [← hM]
  (repeat refine qb ?_); refine qa ?_
  repeat (first | refine zR ?_ | refine zK ?_ | refine zM ?_ | refine zB ?_ | refine zA ?_ | refine zS ?_ | refine zL ?_)
  refine qc ?_
  (repeat refine qb ?_); refine ql ?_
  refine SW.wk (qq [0, 3, 14, 15, 16] [(3, 3), (13000, 0)] rfl rfl) ?_
  refine qO (fun m s => ∃ (k : Nat) (kk : Int) (L : List Atm), k ≤ rules.length ∧ m = rules.length - k ∧ kk = k ∧ L = addA M ((rules.take k).flatMap rulA) ∧ (∀ x ∈ L, x.c.length ≤ 1000000) ∧ s = ⟨46, [(0, .row 0), (3, .ptr 3 0), (14, .p (.sl 5 (rules.map zt))), (15, .p (pI (rules.map zt).length)), (16, .p (pI kk))], (3, .cells [.p (pS id), .p (pB set), .p (pI al), .p (tgtP tg), .p (.sl 5 (rules.map zt)), .p (.sl 7 (ks.map polP)), .p (zQ obls)]) :: rowA 0 L⟩) rules.length ⟨0, 0, _, Nat.zero_le _, rfl, rfl, rfl, hMb, rfl⟩ ?_
  rintro m s ⟨k, _, L, hk, rfl, rfl, hL, hLb, rfl⟩
  (repeat refine qb ?_); refine qa ?_
  repeat (first | refine zR ?_ | refine zK ?_ | refine zM ?_ | refine zB ?_ | refine zA ?_ | refine zS ?_ | refine zL ?_)
  refine qc ?_
  (repeat refine qb ?_); refine qf rfl (fun hlt => ?_) (fun hlt => ?_)
  · refine qm ?_
    rw [lr] at hlt
    simp only [decide_eq_true_eq] at hlt
    have hlt' : k < rules.length := by omega
    have hr := hrs _ (List.getElem_mem hlt')
    have hA := flat_at rulA hlt'
    have hS := qaM rulA hlt'
    have hL1 := qaJ ((rules.take k).flatMap rulA) M
    rw [← hL] at hL1
    obtain ⟨r, hx⟩ : ∃ r, r = rules[k] := ⟨_, rfl⟩
    rw [← hx] at hr hA hS
    have hrl : (rulA r).length = (tarA r.target).length + (condA r.cond).length := by unfold rulA; rw [List.length_append]
    have hrc := hr.2.1
    have hE := rul_eq L r
    have hHT := ofTarget_h r.target hr.1 L hLb (by omega)
    have hTb : ∀ x ∈ addA L (tarA r.target), x.c.length ≤ 1000000 := addA_bd hLb fun x hx => by rw [tarA_c hx]; exact Nat.zero_le _
    have hTl2 := qaJ (tarA r.target) L
    have hLs : addA M ((rules.take (k + 1)).flatMap rulA) = addA L (rulA r) := by rw [hS, qaH, hL]
    obtain ⟨rid, rdeny, rtg, rc, ro⟩ := r
    simp only at hE hHT hTb hTl2 hrc hrl
    have lc : ((rc.map Nod.pv).length) = rc.length := by simp
    (repeat refine qb ?_); refine ql ?_
    (repeat refine qb ?_); refine qa ?_
    repeat (first | refine zR ?_ | refine zK ?_ | refine zM ?_ | refine zB ?_ | refine zA ?_ | refine zS ?_ | refine zL ?_)
    refine qw qe rfl rfl (by rw [lr]; omega) rfl ?_
    rw [qJ hlt', ← hx]
    repeat (first | refine zR ?_ | refine zK ?_ | refine zM ?_ | refine zB ?_ | refine zA ?_ | refine zS ?_ | refine zL ?_)
    refine qc ?_
    (repeat refine qb ?_); refine qa ?_
    repeat (first | refine zR ?_ | refine zK ?_ | refine zM ?_ | refine zB ?_ | refine zA ?_ | refine zS ?_ | refine zL ?_)
    refine qn rfl (zr [(0, 1000000)] rfl rfl rfl rfl rfl rfl (hHT) rfl rfl rfl ?_)
    repeat (first | refine zR ?_ | refine zK ?_ | refine zM ?_ | refine zB ?_ | refine zA ?_ | refine zS ?_ | refine zL ?_)
    refine qc ?_
    (repeat refine qb ?_); refine qa ?_
    repeat (first | refine zR ?_ | refine zK ?_ | refine zM ?_ | refine zB ?_ | refine zA ?_ | refine zS ?_ | refine zL ?_)
    refine qc ?_
    rw [lc]
    (repeat refine qb ?_); refine qf rfl (fun hq => ?_) (fun hq => ?_)
    · have hne : rc ≠ [] := by intro e; subst e; simp at hq
      rw [if_neg hne] at hE
      have hMo := more_h (addA L (tarA rtg)) ⟨zeroM, rc⟩ (by omega) hTb (by show rc.length ≤ 1000000; omega)
      have hMob := moreA_bd (a := ⟨zeroM, rc⟩) hTb (by show rc.length ≤ 1000000; omega)
      (repeat refine qb ?_); refine qa ?_
      repeat (first | refine zR ?_ | refine zK ?_ | refine zM ?_ | refine zB ?_ | refine zA ?_ | refine zS ?_ | refine zL ?_)
      refine qn rfl (zr [(24000, 1000000)] rfl rfl rfl rfl rfl rfl (hMo) rfl rfl rfl ?_)
      repeat (first | refine zR ?_ | refine zK ?_ | refine zM ?_ | refine zB ?_ | refine zA ?_ | refine zS ?_ | refine zL ?_)
      refine qc ?_
      (repeat refine qb ?_); refine qa ?_
      repeat (first | refine zR ?_ | refine zK ?_ | refine zM ?_ | refine zB ?_ | refine zA ?_ | refine zS ?_ | refine zL ?_)
      refine qc ?_
      refine ⟨_, _, ?_, qq [0, 3, 14, 15, 16] [(3, 3), (33000, 0)] rfl rfl, k + 1, _, _, hlt', rfl, qz hlt' (by omega), ?_, hMob, rfl⟩
      · omega
      · rw [hLs, hE]
    · have he : rc = [] := by
        refine List.length_eq_zero_iff.1 ?_
        have : ¬ ((rc.length : Int) > 0) := by simpa using hq
        omega
      rw [if_pos he] at hE
      refine qm ?_
      (repeat refine qb ?_); refine qa ?_
      repeat (first | refine zR ?_ | refine zK ?_ | refine zM ?_ | refine zB ?_ | refine zA ?_ | refine zS ?_ | refine zL ?_)
      refine qc ?_
      refine ⟨_, _, ?_, qq [0, 3, 14, 15, 16] [(3, 3), (24000, 0)] rfl rfl, k + 1, _, _, hlt', rfl, qz hlt' (by omega), ?_, hTb, rfl⟩
      · omega
      · rw [hLs, hE]
  · refine qK ?_
    rw [lr] at hlt
    simp only [decide_eq_false_iff_not] at hlt
    have hkk : k = rules.length := by omega
    subst hkk
    rw [List.take_length] at hL
    have hL1 := qaJ (rules.flatMap rulA) M
    rw [← hL] at hL1
    rw [← hL]
    (repeat refine qb ?_); refine qa ?_
    repeat (first | refine zR ?_ | refine zK ?_ | refine zM ?_ | refine zB ?_ | refine zA ?_ | refine zS ?_ | refine zL ?_)
    refine qc ?_
    (repeat refine qb ?_); refine ql ?_
    refine SW.wk (qq [0, 3, 35, 36, 37] [(3, 3), (0, 0)] rfl rfl) ?_
    refine qO (fun m s => ∃ (k : Nat) (kk : Int) (N : List Atm), k ≤ ks.length ∧ m = ks.length - k ∧ kk = k ∧ N = addA L ((ks.take k).flatMap (polA n)) ∧ (∀ x ∈ N, x.c.length ≤ 1000000) ∧ s = ⟨46, [(0, .row 0), (3, .ptr 3 0), (35, .p (.sl 7 (ks.map polP))), (36, .p (pI (ks.map polP).length)), (37, .p (pI kk))], (3, .cells [.p (pS id), .p (pB set), .p (pI al), .p (tgtP tg), .p (.sl 5 (rules.map zt)), .p (.sl 7 (ks.map polP)), .p (zQ obls)]) :: rowA 0 N⟩) ks.length ⟨0, 0, _, Nat.zero_le _, rfl, rfl, rfl, hLb, rfl⟩ ?_
    rintro m s ⟨k, _, N, hk, rfl, rfl, hN, hNb, rfl⟩
    (repeat refine qb ?_); refine qa ?_
    repeat (first | refine zR ?_ | refine zK ?_ | refine zM ?_ | refine zB ?_ | refine zA ?_ | refine zS ?_ | refine zL ?_)
    refine qc ?_
    (repeat refine qb ?_); refine qf rfl (fun hlt => ?_) (fun hlt => ?_)
    · refine qm ?_
      rw [lk] at hlt
      simp only [decide_eq_true_eq] at hlt
      have hlt' : k < ks.length := by omega
      have hN1 := qaJ ((ks.take k).flatMap (polA n)) L
      rw [← hN] at hN1
      have hfl := qaK (polA n) Pol.sz (polA_len n) (ks.take k)
      have hsa := sumBy_at Pol.sz hlt'
      have hS := qaM (polA n) hlt'
      have hksz := hks _ (List.getElem_mem hlt')
      have hkp := hkf _ (List.getElem_mem hlt')
      obtain ⟨q, hq⟩ : ∃ q, q = ks[k] := ⟨_, rfl⟩
      rw [← hq] at hsa hS hksz hkp
      have H := IH q hkp (by omega) N hNb (by omega)
      have hNs : addA N (polA n q) = addA L ((ks.take (k + 1)).flatMap (polA n)) := by rw [hS, qaH, hN]
      have hNb2 : ∀ x ∈ addA N (polA n q), x.c.length ≤ 1000000 := addA_bd hNb fun x hx => by have := polA_c hx; omega
      rw [zf] at H
      (repeat refine qb ?_); refine ql ?_
      (repeat refine qb ?_); refine qa ?_
      repeat (first | refine zR ?_ | refine zK ?_ | refine zM ?_ | refine zB ?_ | refine zA ?_ | refine zS ?_ | refine zL ?_)
      refine qw qe rfl rfl (by rw [lk]; omega) rfl ?_
      rw [qJ hlt', ← hq, zf]
      repeat (first | refine zR ?_ | refine zK ?_ | refine zM ?_ | refine zB ?_ | refine zA ?_ | refine zS ?_ | refine zL ?_)
      refine qc ?_
      (repeat refine qb ?_); refine qa ?_
      repeat (first | refine zR ?_ | refine zK ?_ | refine zM ?_ | refine zB ?_ | refine zA ?_ | refine zS ?_ | refine zL ?_)
      refine qn rfl (zr [(0, 1000000)] rfl rfl rfl rfl rfl rfl (H) rfl rfl rfl ?_)
      repeat (first | refine zR ?_ | refine zK ?_ | refine zM ?_ | refine zB ?_ | refine zA ?_ | refine zS ?_ | refine zL ?_)
      refine qc ?_
      (repeat refine qb ?_); refine qa ?_
      repeat (first | refine zR ?_ | refine zK ?_ | refine zM ?_ | refine zB ?_ | refine zA ?_ | refine zS ?_ | refine zL ?_)
      refine qc ?_
      refine ⟨_, _, ?_, qq [0, 3, 35, 36, 37] [(3, 3), (44000, 0)] rfl rfl, k + 1, _, _, hlt', rfl, qz hlt' (by omega), hNs, hNb2, rfl⟩
      omega
    · refine qK ?_
      rw [lk] at hlt
      simp only [decide_eq_false_iff_not] at hlt
      have hkk : k = ks.length := by omega
      subst hkk
      rw [List.take_length] at hN
      rw [← hN]
      (repeat refine qb ?_); refine qa ?_
      repeat (first | refine zR ?_ | refine zK ?_ | refine zM ?_ | refine zB ?_ | refine zA ?_ | refine zS ?_ | refine zL ?_)
      refine qc ?_
      (repeat refine qb ?_); refine qk ?_
      exact ⟨Or.inr rfl, _, _, [(0, 0)], Wk.refl _, rfl, rfl, rfl, rfl⟩
theorem ofPolicy_all : ∀ n, VarOk n
  | 0 => fun _ h => h.elim
  | n + 1 => ofPolicy_step n (ofPolicy_all n)
theorem nil_bd : ∀ x ∈ ([] : List Atm), x.c.length ≤ 1000000 := fun x hx => (nomatch hx)
theorem ofNil_h (n : Nat) (p : Pol) (hf : PolF (n + 1) p) (hsz : p.sz ≤ 100000) : Holds Tryz.prog 54 [nilV, .agg (polP p)] (.row 0) (rowA 0 (addA [] (polA (n + 1) p))) := by
  have IH := ofPolicy_all n
  have hn : ([] : List Atm).length + p.sz ≤ 500000 := by simp only [List.length_nil]; omega
  have eS := Pol.sz_eq p
  obtain ⟨hT, hrn, hkn, _, hrs, hks⟩ := sz_big hsz (Nat.le_refl _)
  have eP : polA (n + 1) p = tarA p.target ++ (p.rules.flatMap rulA ++ p.kids.flatMap (polA n)) := rfl
  have hTl := tarA_len p.target
  have hRl := qaK rulA rusz rulA_len p.rules
  have hkf := hf.2.2
  rw [eP, qaH, qaH, zf]
  clear eP
  obtain ⟨id, set, al, tg, rules, ks, obls⟩ := p
  simp only [Pol.id, Pol.set, Pol.alg, Pol.target, Pol.rules, Pol.kids, Pol.obls] at *
  have lr : ((rules.map zt).length) = rules.length := by simp
  have lk : ((ks.map polP).length) = ks.length := by simp
  refine qA (ts := [4]) Tryz.func54 (by kernel_rfl) rfl rfl rfl ?_
  refine SW.wk (jP 0 0 76 8 rfl rfl) ?_
  (repeat refine qb ?_); refine qa ?_
  repeat (first | refine zR ?_ | refine zK ?_ | refine zM ?_ | refine zB ?_ | refine zA ?_ | refine zS ?_ | refine zL ?_)
  refine qc ?_
  (repeat refine qb ?_); refine qa ?_
  repeat (first | refine zR ?_ | refine zK ?_ | refine zM ?_ | refine zB ?_ | refine zA ?_ | refine zS ?_ | refine zL ?_)
  refine qn rfl (zr [(0, 1000000)] rfl rfl rfl rfl rfl rfl (ofTarget_h tg hT ([] : List Atm) nil_bd (by omega)) rfl rfl rfl ?_)
  repeat (first | refine zR ?_ | refine zK ?_ | refine zM ?_ | refine zB ?_ | refine zA ?_ | refine zS ?_ | refine zL ?_)
  refine qc ?_
  have hMb : ∀ x ∈ addA ([] : List Atm) (tarA tg), x.c.length ≤ 1000000 := addA_bd nil_bd fun x hx => by rw [tarA_c hx]; exact Nat.zero_le _
  have hMl := qaJ (tarA tg) ([] : List Atm)
  obtain ⟨M, hM⟩ : ∃ M, M = addA ([] : List Atm) (tarA tg) := ⟨_, rfl⟩
  rw [← hM] at hMb hMl
  rw [← hM]
  (repeat refine qb ?_); refine qa ?_
  repeat (first | refine zR ?_ | refine zK ?_ | refine zM ?_ | refine zB ?_ | refine zA ?_ | refine zS ?_ | refine zL ?_)
  refine qc ?_
  (repeat refine qb ?_); refine ql ?_
  refine SW.wk (qq [0, 3, 14, 15, 16] [(3, 3), (13000, 0)] rfl rfl) ?_
  refine qO (fun m s => ∃ (k : Nat) (kk : Int) (L : List Atm), k ≤ rules.length ∧ m = rules.length - k ∧ kk = k ∧ L = addA M ((rules.take k).flatMap rulA) ∧ (∀ x ∈ L, x.c.length ≤ 1000000) ∧ s = ⟨46, [(0, .row 0), (3, .ptr 3 0), (14, .p (.sl 5 (rules.map zt))), (15, .p (pI (rules.map zt).length)), (16, .p (pI kk))], (3, .cells [.p (pS id), .p (pB set), .p (pI al), .p (tgtP tg), .p (.sl 5 (rules.map zt)), .p (.sl 7 (ks.map polP)), .p (zQ obls)]) :: rowA 0 L⟩) rules.length ⟨0, 0, _, Nat.zero_le _, rfl, rfl, rfl, hMb, rfl⟩ ?_
  rintro m s ⟨k, _, L, hk, rfl, rfl, hL, hLb, rfl⟩
  (repeat refine qb ?_); refine qa ?_
  repeat (first | refine zR ?_ | refine zK ?_ | refine zM ?_ | refine zB ?_ | refine zA ?_ | refine zS ?_ | refine zL ?_)
  refine qc ?_
  (repeat refine qb ?_); refine qf rfl (fun hlt => ?_) (fun hlt => ?_)
  · refine qm ?_
    rw [lr] at hlt
    simp only [decide_eq_true_eq] at hlt
    have hlt' : k < rules.length := by omega
    have hr := hrs _ (List.getElem_mem hlt')
    have hA := flat_at rulA hlt'
    have hS := qaM rulA hlt'
    have hL1 := qaJ ((rules.take k).flatMap rulA) M
    rw [← hL] at hL1
    obtain ⟨r, hx⟩ : ∃ r, r = rules[k] := ⟨_, rfl⟩
    rw [← hx] at hr hA hS
    have hrl : (rulA r).length = (tarA r.target).length + (condA r.cond).length := by unfold rulA; rw [List.length_append]
    have hrc := hr.2.1
    have hE := rul_eq L r
    have hHT := ofTarget_h r.target hr.1 L hLb (by omega)
    have hTb : ∀ x ∈ addA L (tarA r.target), x.c.length ≤ 1000000 := addA_bd hLb fun x hx => by rw [tarA_c hx]; exact Nat.zero_le _
    have hTl2 := qaJ (tarA r.target) L
    have hLs : addA M ((rules.take (k + 1)).flatMap rulA) = addA L (rulA r) := by rw [hS, qaH, hL]
    obtain ⟨rid, rdeny, rtg, rc, ro⟩ := r
    simp only at hE hHT hTb hTl2 hrc hrl
    have lc : ((rc.map Nod.pv).length) = rc.length := by simp
    (repeat refine qb ?_); refine ql ?_
    (repeat refine qb ?_); refine qa ?_
    repeat (first | refine zR ?_ | refine zK ?_ | refine zM ?_ | refine zB ?_ | refine zA ?_ | refine zS ?_ | refine zL ?_)
    refine qw qe rfl rfl (by rw [lr]; omega) rfl ?_
    rw [qJ hlt', ← hx]
    repeat (first | refine zR ?_ | refine zK ?_ | refine zM ?_ | refine zB ?_ | refine zA ?_ | refine zS ?_ | refine zL ?_)
    refine qc ?_
    (repeat refine qb ?_); refine qa ?_
    repeat (first | refine zR ?_ | refine zK ?_ | refine zM ?_ | refine zB ?_ | refine zA ?_ | refine zS ?_ | refine zL ?_)
    refine qn rfl (zr [(0, 1000000)] rfl rfl rfl rfl rfl rfl (hHT) rfl rfl rfl ?_)
    repeat (first | refine zR ?_ | refine zK ?_ | refine zM ?_ | refine zB ?_ | refine zA ?_ | refine zS ?_ | refine zL ?_)
    refine qc ?_
    (repeat refine qb ?_); refine qa ?_
    repeat (first | refine zR ?_ | refine zK ?_ | refine zM ?_ | refine zB ?_ | refine zA ?_ | refine zS ?_ | refine zL ?_)
    refine qc ?_
    rw [lc]
    (repeat refine qb ?_); refine qf rfl (fun hq => ?_) (fun hq => ?_)
    · have hne : rc ≠ [] := by intro e; subst e; simp at hq
      rw [if_neg hne] at hE
      have hMo := more_h (addA L (tarA rtg)) ⟨zeroM, rc⟩ (by omega) hTb (by show rc.length ≤ 1000000; omega)
      have hMob := moreA_bd (a := ⟨zeroM, rc⟩) hTb (by show rc.length ≤ 1000000; omega)
      (repeat refine qb ?_); refine qa ?_
      repeat (first | refine zR ?_ | refine zK ?_ | refine zM ?_ | refine zB ?_ | refine zA ?_ | refine zS ?_ | refine zL ?_)
      refine qn rfl (zr [(24000, 1000000)] rfl rfl rfl rfl rfl rfl (hMo) rfl rfl rfl ?_)
      repeat (first | refine zR ?_ | refine zK ?_ | refine zM ?_ | refine zB ?_ | refine zA ?_ | refine zS ?_ | refine zL ?_)
      refine qc ?_
      (repeat refine qb ?_); refine qa ?_
      repeat (first | refine zR ?_ | refine zK ?_ | refine zM ?_ | refine zB ?_ | refine zA ?_ | refine zS ?_ | refine zL ?_)
      refine qc ?_
      refine ⟨_, _, ?_, qq [0, 3, 14, 15, 16] [(3, 3), (33000, 0)] rfl rfl, k + 1, _, _, hlt', rfl, qz hlt' (by omega), ?_, hMob, rfl⟩
      · omega
      · rw [hLs, hE]
    · have he : rc = [] := by
        refine List.length_eq_zero_iff.1 ?_
        have : ¬ ((rc.length : Int) > 0) := by simpa using hq
        omega
      rw [if_pos he] at hE
      refine qm ?_
      (repeat refine qb ?_); refine qa ?_
      repeat (first | refine zR ?_ | refine zK ?_ | refine zM ?_ | refine zB ?_ | refine zA ?_ | refine zS ?_ | refine zL ?_)
      refine qc ?_
      refine ⟨_, _, ?_, qq [0, 3, 14, 15, 16] [(3, 3), (24000, 0)] rfl rfl, k + 1, _, _, hlt', rfl, qz hlt' (by omega), ?_, hTb, rfl⟩
      · omega
      · rw [hLs, hE]
  · refine qK ?_
    rw [lr] at hlt
    simp only [decide_eq_false_iff_not] at hlt
    have hkk : k = rules.length := by omega
    subst hkk
    rw [List.take_length] at hL
    have hL1 := qaJ (rules.flatMap rulA) M
    rw [← hL] at hL1
    rw [← hL]
    (repeat refine qb ?_); refine qa ?_
    repeat (first | refine zR ?_ | refine zK ?_ | refine zM ?_ | refine zB ?_ | refine zA ?_ | refine zS ?_ | refine zL ?_)
    refine qc ?_
    (repeat refine qb ?_); refine ql ?_
    refine SW.wk (qq [0, 3, 35, 36, 37] [(3, 3), (0, 0)] rfl rfl) ?_
    refine qO (fun m s => ∃ (k : Nat) (kk : Int) (N : List Atm), k ≤ ks.length ∧ m = ks.length - k ∧ kk = k ∧ N = addA L ((ks.take k).flatMap (polA n)) ∧ (∀ x ∈ N, x.c.length ≤ 1000000) ∧ s = ⟨46, [(0, .row 0), (3, .ptr 3 0), (35, .p (.sl 7 (ks.map polP))), (36, .p (pI (ks.map polP).length)), (37, .p (pI kk))], (3, .cells [.p (pS id), .p (pB set), .p (pI al), .p (tgtP tg), .p (.sl 5 (rules.map zt)), .p (.sl 7 (ks.map polP)), .p (zQ obls)]) :: rowA 0 N⟩) ks.length ⟨0, 0, _, Nat.zero_le _, rfl, rfl, rfl, hLb, rfl⟩ ?_
    rintro m s ⟨k, _, N, hk, rfl, rfl, hN, hNb, rfl⟩
    (repeat refine qb ?_); refine qa ?_
    repeat (first | refine zR ?_ | refine zK ?_ | refine zM ?_ | refine zB ?_ | refine zA ?_ | refine zS ?_ | refine zL ?_)
    refine qc ?_
    (repeat refine qb ?_); refine qf rfl (fun hlt => ?_) (fun hlt => ?_)
    · refine qm ?_
      rw [lk] at hlt
      simp only [decide_eq_true_eq] at hlt
      have hlt' : k < ks.length := by omega
      have hN1 := qaJ ((ks.take k).flatMap (polA n)) L
      rw [← hN] at hN1
      have hfl := qaK (polA n) Pol.sz (polA_len n) (ks.take k)
      have hsa := sumBy_at Pol.sz hlt'
      have hS := qaM (polA n) hlt'
      have hksz := hks _ (List.getElem_mem hlt')
      have hkp := hkf _ (List.getElem_mem hlt')
      obtain ⟨q, hq⟩ : ∃ q, q = ks[k] := ⟨_, rfl⟩
      rw [← hq] at hsa hS hksz hkp
      have H := IH q hkp (by omega) N hNb (by omega)
      have hNs : addA N (polA n q) = addA L ((ks.take (k + 1)).flatMap (polA n)) := by rw [hS, qaH, hN]
      have hNb2 : ∀ x ∈ addA N (polA n q), x.c.length ≤ 1000000 := addA_bd hNb fun x hx => by have := polA_c hx; omega
      rw [zf] at H
      (repeat refine qb ?_); refine ql ?_
      (repeat refine qb ?_); refine qa ?_
      repeat (first | refine zR ?_ | refine zK ?_ | refine zM ?_ | refine zB ?_ | refine zA ?_ | refine zS ?_ | refine zL ?_)
      refine qw qe rfl rfl (by rw [lk]; omega) rfl ?_
      rw [qJ hlt', ← hq, zf]
      repeat (first | refine zR ?_ | refine zK ?_ | refine zM ?_ | refine zB ?_ | refine zA ?_ | refine zS ?_ | refine zL ?_)
      refine qc ?_
      (repeat refine qb ?_); refine qa ?_
      repeat (first | refine zR ?_ | refine zK ?_ | refine zM ?_ | refine zB ?_ | refine zA ?_ | refine zS ?_ | refine zL ?_)
      refine qn rfl (zr [(0, 1000000)] rfl rfl rfl rfl rfl rfl (H) rfl rfl rfl ?_)
      repeat (first | refine zR ?_ | refine zK ?_ | refine zM ?_ | refine zB ?_ | refine zA ?_ | refine zS ?_ | refine zL ?_)
      refine qc ?_
      (repeat refine qb ?_); refine qa ?_
      repeat (first | refine zR ?_ | refine zK ?_ | refine zM ?_ | refine zB ?_ | refine zA ?_ | refine zS ?_ | refine zL ?_)
      refine qc ?_
      refine ⟨_, _, ?_, qq [0, 3, 35, 36, 37] [(3, 3), (44000, 0)] rfl rfl, k + 1, _, _, hlt', rfl, qz hlt' (by omega), hNs, hNb2, rfl⟩
      omega
    · refine qK ?_
      rw [lk] at hlt
      simp only [decide_eq_false_iff_not] at hlt
      have hkk : k = ks.length := by omega
      subst hkk
      rw [List.take_length] at hN
      rw [← hN]
      (repeat refine qb ?_); refine qa ?_
      repeat (first | refine zR ?_ | refine zK ?_ | refine zM ?_ | refine zB ?_ | refine zA ?_ | refine zS ?_ | refine zL ?_)
      refine qc ?_
      (repeat refine qb ?_); refine qk ?_
      exact ⟨Or.inr rfl, _, _, [(0, 0)], Wk.refl _, rfl, rfl, rfl, rfl⟩
end Go.Proofs.YtppfcacnofjmdaaGreatDoor
namespace Go.Proofs.YtppfcacnofjmdaaGreatDoor
set_option linter.unusedVariables false
set_option linter.unusedSimpArgs false
open Go.RowKit
set_option maxHeartbeats 4000000
theorem polFV_up : ∀ {n : Nat} {p : Pol}, PolF n p → PolF (n + 1) p
  | n + 1, p, h => ⟨h.1, h.2.1, fun k hk => polFV_up (h.2.2 k hk)⟩
theorem polFV_add {n : Nat} {p : Pol} (h : PolF n p) : ∀ m, PolF (n + m) p
  | 0 => h
  | m + 1 => polFV_up (polFV_add h m)
theorem right_polA {p : Pol} (h : zb p = 0) (n : Nat) : polA (n + 4) p = polA 4 p := polA_dp (right_dp h) (by omega)
def qaI (p : Pol) : List Atm := addA [] (polA 4 p)
theorem of_bad {n : Nat} (p : Pol) (hf : PolF n p) (h : zb p ≠ 0) : Holds Tryz.prog 30 [.agg (polP p)] (.tup [.p nilV, .p (pI 1)]) [] := by
  have HR := right_h p (qaF 4 hf)
  rw [zf] at HR ⊢
  refine qA (ts := [2,3]) Tryz.func30 (by kernel_rfl) rfl rfl rfl ?_
  (repeat refine qb ?_); refine qa ?_
  repeat (first | refine zR ?_ | refine zK ?_ | refine zM ?_ | refine zB ?_ | refine zA ?_ | refine zS ?_ | refine zL ?_)
  refine qc ?_
  (repeat refine qb ?_); refine qa ?_
  repeat (first | refine zR ?_ | refine zK ?_ | refine zM ?_ | refine zB ?_ | refine zA ?_ | refine zS ?_ | refine zL ?_)
  refine qn rfl (qg rfl rfl rfl rfl (HR) rfl rfl ?_)
  repeat (first | refine zR ?_ | refine zK ?_ | refine zM ?_ | refine zB ?_ | refine zA ?_ | refine zS ?_ | refine zL ?_)
  rw [show (zb p != 0) = true by simpa using h]
  refine qc ?_
  (repeat refine qb ?_); refine qf rfl (fun hc => ?_) (fun hc => ?_)
  · (repeat refine qb ?_); refine qa ?_
    repeat (first | refine zR ?_ | refine zK ?_ | refine zM ?_ | refine zB ?_ | refine zA ?_ | refine zS ?_ | refine zL ?_)
    refine qc ?_
    (repeat refine qb ?_); refine qk ?_
    exact ⟨Or.inr rfl, _, _, [], Wk.refl _, rfl, rfl, rfl, rfl⟩
  · cases hc
theorem of_many {n : Nat} (p : Pol) (hf : PolF n p) (hsz : p.sz ≤ 100000) (h : zb p = 0) (hl : 64 < (qaI p).length) : Holds Tryz.prog 30 [.agg (polP p)] (.tup [.p nilV, .p (pI 6)]) [] := by
  have HR := right_h p (qaF 4 hf)
  have HO := ofNil_h (n + 3) p (polFV_add hf 4) hsz
  rw [right_polA h] at HO
  change Holds _ _ _ _ (rowA 0 (qaI p)) at HO
  rw [h] at HR
  have la : ((qaI p).map Atm.pv).length = (qaI p).length := by simp
  generalize qaI p = L at *
  rw [zf] at HR HO ⊢
  refine qA (ts := [2,3]) Tryz.func30 (by kernel_rfl) rfl rfl rfl ?_
  (repeat refine qb ?_); refine qa ?_
  repeat (first | refine zR ?_ | refine zK ?_ | refine zM ?_ | refine zB ?_ | refine zA ?_ | refine zS ?_ | refine zL ?_)
  refine qc ?_
  (repeat refine qb ?_); refine qa ?_
  repeat (first | refine zR ?_ | refine zK ?_ | refine zM ?_ | refine zB ?_ | refine zA ?_ | refine zS ?_ | refine zL ?_)
  refine qn rfl (qg rfl rfl rfl rfl (HR) rfl rfl ?_)
  repeat (first | refine zR ?_ | refine zK ?_ | refine zM ?_ | refine zB ?_ | refine zA ?_ | refine zS ?_ | refine zL ?_)
  refine qc ?_
  (repeat refine qb ?_); refine qf rfl (fun hc => ?_) (fun hc => ?_)
  · cases hc
  refine qm ?_
  (repeat refine qb ?_); refine qa ?_
  repeat (first | refine zR ?_ | refine zK ?_ | refine zM ?_ | refine zB ?_ | refine zA ?_ | refine zS ?_ | refine zL ?_)
  refine qn rfl (qD rfl rfl rfl rfl (HO) rfl rfl rfl ?_)
  repeat (first | refine zR ?_ | refine zK ?_ | refine zM ?_ | refine zB ?_ | refine zA ?_ | refine zS ?_ | refine zL ?_)
  refine qc ?_
  (repeat refine qb ?_); refine qa ?_
  repeat (first | refine zR ?_ | refine zK ?_ | refine zM ?_ | refine zB ?_ | refine zA ?_ | refine zS ?_ | refine zL ?_)
  refine qc ?_
  rw [la]
  rw [show decide ((L.length : Int) > 64) = true by simp; omega]
  (repeat refine qb ?_); refine qf rfl (fun hd => ?_) (fun hd => ?_)
  · (repeat refine qb ?_); refine qa ?_
    repeat (first | refine zR ?_ | refine zK ?_ | refine zM ?_ | refine zB ?_ | refine zA ?_ | refine zS ?_ | refine zL ?_)
    refine qc ?_
    (repeat refine qb ?_); refine qk ?_
    exact ⟨Or.inr rfl, _, _, [], Wk.refl _, rfl, rfl, rfl, rfl⟩
  · cases hd
theorem of_ok {n : Nat} (p : Pol) (hf : PolF n p) (hsz : p.sz ≤ 100000) (h : zb p = 0) (hl : (qaI p).length ≤ 64) : Holds Tryz.prog 30 [.agg (polP p)] (.tup [.row 0, .p (pI 0)]) (rowA 0 (qaI p)) := by
  have HR := right_h p (qaF 4 hf)
  have HO := ofNil_h (n + 3) p (polFV_add hf 4) hsz
  rw [right_polA h] at HO
  change Holds _ _ _ _ (rowA 0 (qaI p)) at HO
  rw [h] at HR
  have la : ((qaI p).map Atm.pv).length = (qaI p).length := by simp
  generalize qaI p = L at *
  rw [zf] at HR HO ⊢
  refine qA (ts := [2,3]) Tryz.func30 (by kernel_rfl) rfl rfl rfl ?_
  (repeat refine qb ?_); refine qa ?_
  repeat (first | refine zR ?_ | refine zK ?_ | refine zM ?_ | refine zB ?_ | refine zA ?_ | refine zS ?_ | refine zL ?_)
  refine qc ?_
  (repeat refine qb ?_); refine qa ?_
  repeat (first | refine zR ?_ | refine zK ?_ | refine zM ?_ | refine zB ?_ | refine zA ?_ | refine zS ?_ | refine zL ?_)
  refine qn rfl (qg rfl rfl rfl rfl (HR) rfl rfl ?_)
  repeat (first | refine zR ?_ | refine zK ?_ | refine zM ?_ | refine zB ?_ | refine zA ?_ | refine zS ?_ | refine zL ?_)
  refine qc ?_
  (repeat refine qb ?_); refine qf rfl (fun hc => ?_) (fun hc => ?_)
  · cases hc
  refine qm ?_
  (repeat refine qb ?_); refine qa ?_
  repeat (first | refine zR ?_ | refine zK ?_ | refine zM ?_ | refine zB ?_ | refine zA ?_ | refine zS ?_ | refine zL ?_)
  refine qn rfl (qD rfl rfl rfl rfl (HO) rfl rfl rfl ?_)
  repeat (first | refine zR ?_ | refine zK ?_ | refine zM ?_ | refine zB ?_ | refine zA ?_ | refine zS ?_ | refine zL ?_)
  refine qc ?_
  (repeat refine qb ?_); refine qa ?_
  repeat (first | refine zR ?_ | refine zK ?_ | refine zM ?_ | refine zB ?_ | refine zA ?_ | refine zS ?_ | refine zL ?_)
  refine qc ?_
  rw [la]
  rw [show decide ((L.length : Int) > 64) = false by simp; omega]
  (repeat refine qb ?_); refine qf rfl (fun hd => ?_) (fun hd => ?_)
  · cases hd
  · refine qm ?_
    (repeat refine qb ?_); refine qa ?_
    repeat (first | refine zR ?_ | refine zK ?_ | refine zM ?_ | refine zB ?_ | refine zA ?_ | refine zS ?_ | refine zL ?_)
    refine qc ?_
    (repeat refine qb ?_); refine qk ?_
    exact ⟨Or.inr rfl, _, _, [(10000, 0)], Wk.refl _, rfl, rfl, rfl, rfl⟩
theorem zeroM_fit : zeroM.Fit := ⟨⟨⟨by decide, by decide⟩, by decide⟩, ⟨by decide, by decide⟩, ⟨⟨by decide, by decide⟩, ⟨by decide, by decide⟩, by decide⟩⟩
theorem tarA_fit {t : Tar} (h : TarFit t) : ∀ x ∈ tarA t, x.m.Fit ∧ ∀ y ∈ x.c, y.Fit := fun x hx => by
  obtain ⟨y, hy, hx⟩ := List.mem_flatMap.1 hx
  obtain ⟨z, hz, hx⟩ := List.mem_flatMap.1 hx
  obtain ⟨m, hm, rfl⟩ := List.mem_map.1 hx
  exact ⟨h y hy z hz m hm, fun y hy => (nomatch hy)⟩
theorem polA_fit : ∀ {n : Nat} {p : Pol}, PolF n p → ∀ x ∈ polA n p, x.m.Fit ∧ ∀ y ∈ x.c, y.Fit
  | n + 1, p, h, x, hx => by
    rcases List.mem_append.1 hx with hx | hx
    · exact tarA_fit h.1.tgt x hx
    · rcases List.mem_append.1 hx with hx | hx
      · obtain ⟨r, hr, hx⟩ := List.mem_flatMap.1 hx
        have hR := h.1.rules r hr
        rcases List.mem_append.1 hx with hx | hx
        · exact tarA_fit hR.tgt x hx
        · unfold condA at hx
          split at hx
          · cases hx
          · rw [List.mem_singleton.1 hx]
            exact ⟨zeroM_fit, hR.cond⟩
      · obtain ⟨k, hk, hx⟩ := List.mem_flatMap.1 hx
        exact polA_fit (h.2.2 k hk) x hx
theorem atoms_fit {n : Nat} {p : Pol} (hf : PolF n p) (h : zb p = 0) : ∀ x ∈ qaI p, x.m.Fit ∧ ∀ y ∈ x.c, y.Fit := fun x hx => by
  refine polA_fit (polFV_add hf 4) x ?_
  rw [right_polA h]
  exact (addA_mem.1 hx).elim (fun h => (nomatch h)) id
end Go.Proofs.YtppfcacnofjmdaaGreatDoor
namespace Go.Proofs.YtppfcacnofjmdaaGreatDoor
set_option linter.unusedVariables false
set_option linter.unusedSimpArgs false
open Go.RowKit
set_option maxHeartbeats 4000000
theorem sameObls_h (l : List Obli) (hn : l.length ≤ 1000000) : Holds Tryz.prog 49 [zQ l, zQ l] (.p (pB true)) [] := by
  refine qA (ts := [4]) Tryz.func49 (by kernel_rfl) rfl rfl rfl ?_
  (repeat refine qb ?_); refine qa ?_
  repeat (first | refine zR ?_ | refine zK ?_ | refine zM ?_ | refine zB ?_ | refine zA ?_ | refine zS ?_ | refine zL ?_)
  refine qc ?_
  (repeat refine qb ?_); refine qa ?_
  repeat (first | refine zR ?_ | refine zK ?_ | refine zM ?_ | refine zB ?_ | refine zA ?_ | refine zS ?_ | refine zL ?_)
  refine qc ?_
  (repeat refine qb ?_); refine qf rfl (fun h0 => ?_) (fun h0 => ?_)
  · exfalso
    simp at h0
  refine qm ?_
  (repeat refine qb ?_); refine qa ?_
  repeat (first | refine zR ?_ | refine zK ?_ | refine zM ?_ | refine zB ?_ | refine zA ?_ | refine zS ?_ | refine zL ?_)
  refine qc ?_
  (repeat refine qb ?_); refine ql ?_
  refine SW.wk (qq [0, 1, 4, 5] [] rfl rfl) ?_
  refine qO (fun m s => ∃ (k : Nat) (kk : Int), k ≤ l.length ∧ m = l.length - k ∧ kk = k ∧ s = ⟨26, [(0, .p (zQ l)), (1, .p (zQ l)), (4, .p (pB false)), (5, .p (pI kk))], []⟩) l.length ⟨0, 0, Nat.zero_le _, rfl, rfl, rfl⟩ ?_
  rintro m s ⟨k, _, hk, rfl, rfl, rfl⟩
  (repeat refine qb ?_); refine qa ?_
  repeat (first | refine zR ?_ | refine zK ?_ | refine zM ?_ | refine zB ?_ | refine zA ?_ | refine zS ?_ | refine zL ?_)
  refine qc ?_
  (repeat refine qb ?_); refine qf rfl (fun hlt => ?_) (fun hlt => ?_)
  · refine qm ?_
    simp only [List.length_map, decide_eq_true_eq] at hlt
    have hlt' : k < l.length := by omega
    obtain ⟨x, hx⟩ : ∃ x, x = l[k] := ⟨_, rfl⟩
    (repeat refine qb ?_); refine ql ?_
    (repeat refine qb ?_); refine zl [] [(0, true), (1, true), (2, true), (3, true), (4, true), (5, true), (6, true), (7, true), (8, true)] (by kernel_rfl) (by kernel_rfl) (by kernel_rfl) ?_
    repeat (first | refine yR ?_ | refine yK ?_ | refine yM ?_ | refine yB ?_ | refine yA ?_ | refine yS ?_ | refine yL ?_)
    refine zi qe rfl rfl rfl (by simp only [List.length_map]; omega) rfl ?_
    rw [qJ hlt', ← hx]
    repeat (first | refine yR ?_ | refine yK ?_ | refine yM ?_ | refine yB ?_ | refine yA ?_ | refine yS ?_ | refine yL ?_)
    refine zi qe rfl rfl rfl (by simp only [List.length_map]; omega) rfl ?_
    rw [qJ hlt', ← hx]
    repeat (first | refine yR ?_ | refine yK ?_ | refine yM ?_ | refine yB ?_ | refine yA ?_ | refine yS ?_ | refine yL ?_)
    refine zi qe rfl rfl rfl (rfl) rfl ?_
    repeat (first | refine yR ?_ | refine yK ?_ | refine yM ?_ | refine yB ?_ | refine yA ?_ | refine yS ?_ | refine yL ?_)
    refine qaO ?_
    (repeat refine qb ?_); refine qf rfl (fun hp => ?_) (fun hp => ?_)
    · exfalso
      simp at hp
    refine qm ?_
    (repeat refine qb ?_); refine qa ?_
    repeat (first | refine zR ?_ | refine zK ?_ | refine zM ?_ | refine zB ?_ | refine zA ?_ | refine zS ?_ | refine zL ?_)
    refine qc ?_
    refine ⟨_, _, ?_, qq [0, 1, 4, 5] [] rfl rfl, k + 1, _, hlt', rfl, qz hlt' (by omega), rfl⟩
    omega
  · refine qK ?_
    (repeat refine qb ?_); refine qa ?_
    repeat (first | refine zR ?_ | refine zK ?_ | refine zM ?_ | refine zB ?_ | refine zA ?_ | refine zS ?_ | refine zL ?_)
    refine qc ?_
    (repeat refine qb ?_); refine qk ?_
    exact wS rfl rfl
theorem qav (x : Rs) (hm : x.m ∈ mks) (hl : x.obls.length ≤ 1000000) : Holds Tryz.prog 23 [.agg (rsP x), .agg (rsP x)] (.p (pB true)) [] := by
  have H := sameObls_h x.obls hl
  have hE : mkE x.m x.m = true := by rw [mkE_eq hm hm]; simp
  obtain ⟨m, o⟩ := x
  simp only at H hE ⊢
  refine qA (ts := [4]) Tryz.func23 (by kernel_rfl) rfl rfl rfl ?_
  (repeat refine qb ?_); refine qa ?_
  repeat (first | refine zR ?_ | refine zK ?_ | refine zM ?_ | refine zB ?_ | refine zA ?_ | refine zS ?_ | refine zL ?_)
  refine qc ?_
  (repeat refine qb ?_); refine qa ?_
  repeat (first | refine zR ?_ | refine zK ?_ | refine zM ?_ | refine zB ?_ | refine zA ?_ | refine zS ?_ | refine zL ?_)
  change SWT _ _ _ _ (St.put _ _ (.p (pB (mkE m m))))
  rw [hE]
  repeat (first | refine zR ?_ | refine zK ?_ | refine zM ?_ | refine zB ?_ | refine zA ?_ | refine zS ?_ | refine zL ?_)
  refine qn rfl (qg rfl rfl rfl rfl (H) rfl rfl ?_)
  repeat (first | refine zR ?_ | refine zK ?_ | refine zM ?_ | refine zB ?_ | refine zA ?_ | refine zS ?_ | refine zL ?_)
  refine qc ?_
  (repeat refine qb ?_); refine qk ?_
  exact wS rfl rfl
theorem qaG {p : Pol} {g : List Giv} (h : zb p = 0) : evalS p g = (qF g 4 p, 0) := by unfold evalS; rw [if_pos h]
end Go.Proofs.YtppfcacnofjmdaaGreatDoor
namespace Go.Proofs.YtppfcacnofjmdaaGreatDoor
set_option linter.unusedVariables false
set_option linter.unusedSimpArgs false
open Go.RowKit
set_option maxHeartbeats 4000000
end Go.Proofs.YtppfcacnofjmdaaGreatDoor
namespace Go.Proofs.YtppfcacnofjmdaaGreatDoor
set_option linter.unusedVariables false
set_option linter.unusedSimpArgs false
open Go.RowKit
set_option maxHeartbeats 4000000
theorem decide_obls {g : List Giv} {p : Pol} (h : p.sz ≤ 3000) : (qF g 4 p).obls.length ≤ 1000000 := by have := decideS_len g 4 p; omega
end Go.Proofs.YtppfcacnofjmdaaGreatDoor
namespace Go.Proofs.YtppfcacnofjmdaaGreatDoor
set_option linter.unusedVariables false
set_option linter.unusedSimpArgs false
open Go.RowKit
set_option maxHeartbeats 4000000
set_option maxRecDepth 100000
theorem varsAll_h {n : Nat} (p : Pol) (hf : PolF n p) (a : List Giv) (ha : ∀ x ∈ a, x.Fit) (b : List Giv) (hb : ∀ x ∈ b, x.Fit) : Holds Tryz.prog 11 [.agg (polP p), zP a, zP b] (.p (pB true)) [] := by
  have hS := small_h p hf
  have hB := of_bad p hf
  have hM := fun h => of_many p hf h
  have hO := fun h => of_ok p hf h
  have hE0 := fun h g hG => evPol_h p hf h g hG
  rw [zf] at hS hB hM hO hE0 ⊢
  obtain ⟨id, set, al, tg, rules, ks, obls⟩ := p
  simp only [Pol.id, Pol.set, Pol.alg, Pol.target, Pol.rules, Pol.kids, Pol.obls] at hS hB hM hO hE0 ⊢
  refine qA (ts := [6]) Tryz.func11 (by kernel_rfl) rfl rfl rfl ?_
  (repeat refine qb ?_); refine qa ?_
  repeat (first | refine zR ?_ | refine zK ?_ | refine zM ?_ | refine zB ?_ | refine zA ?_ | refine zS ?_ | refine zL ?_)
  refine qc ?_
  (repeat refine qb ?_); refine qa ?_
  repeat (first | refine zR ?_ | refine zK ?_ | refine zM ?_ | refine zB ?_ | refine zA ?_ | refine zS ?_ | refine zL ?_)
  refine qn rfl (act_call_E rfl rfl rfl rfl (hS) rfl ?_)
  rintro _ ⟨b1, rfl, h1⟩
  cases b1 with
  | false =>
    repeat (first | refine zR ?_ | refine zK ?_ | refine zM ?_ | refine zB ?_ | refine zA ?_ | refine zS ?_ | refine zL ?_)
    refine qc ?_
    (repeat refine qb ?_); refine qf rfl (fun hc => ?_) (fun hc => ?_)
    · (repeat refine qb ?_); refine qa ?_
      repeat (first | refine zR ?_ | refine zK ?_ | refine zM ?_ | refine zB ?_ | refine zA ?_ | refine zS ?_ | refine zL ?_)
      refine qn rfl (qg rfl rfl rfl rfl (qaL) rfl rfl ?_)
      repeat (first | refine zR ?_ | refine zK ?_ | refine zM ?_ | refine zB ?_ | refine zA ?_ | refine zS ?_ | refine zL ?_)
      refine qc ?_
      (repeat refine qb ?_); refine qk ?_
      exact wS rfl rfl
    · cases hc
  | true =>
    repeat (first | refine zR ?_ | refine zK ?_ | refine zM ?_ | refine zB ?_ | refine zA ?_ | refine zS ?_ | refine zL ?_)
    refine qn rfl (act_call_E rfl rfl rfl rfl (few_h a ha) rfl ?_)
    rintro _ ⟨b2, rfl, h2⟩
    cases b2 with
    | false =>
      repeat (first | refine zR ?_ | refine zK ?_ | refine zM ?_ | refine zB ?_ | refine zA ?_ | refine zS ?_ | refine zL ?_)
      refine qc ?_
      (repeat refine qb ?_); refine qf rfl (fun hc => ?_) (fun hc => ?_)
      · (repeat refine qb ?_); refine qa ?_
        repeat (first | refine zR ?_ | refine zK ?_ | refine zM ?_ | refine zB ?_ | refine zA ?_ | refine zS ?_ | refine zL ?_)
        refine qn rfl (qg rfl rfl rfl rfl (qaL) rfl rfl ?_)
        repeat (first | refine zR ?_ | refine zK ?_ | refine zM ?_ | refine zB ?_ | refine zA ?_ | refine zS ?_ | refine zL ?_)
        refine qc ?_
        (repeat refine qb ?_); refine qk ?_
        exact wS rfl rfl
      · cases hc
    | true =>
      repeat (first | refine zR ?_ | refine zK ?_ | refine zM ?_ | refine zB ?_ | refine zA ?_ | refine zS ?_ | refine zL ?_)
      refine qn rfl (act_call_E rfl rfl rfl rfl (few_h b hb) rfl ?_)
      rintro _ ⟨b3, rfl, h3⟩
      cases b3 with
      | false =>
        repeat (first | refine zR ?_ | refine zK ?_ | refine zM ?_ | refine zB ?_ | refine zA ?_ | refine zS ?_ | refine zL ?_)
        refine qc ?_
        (repeat refine qb ?_); refine qf rfl (fun hc => ?_) (fun hc => ?_)
        · (repeat refine qb ?_); refine qa ?_
          repeat (first | refine zR ?_ | refine zK ?_ | refine zM ?_ | refine zB ?_ | refine zA ?_ | refine zS ?_ | refine zL ?_)
          refine qn rfl (qg rfl rfl rfl rfl (qaL) rfl rfl ?_)
          repeat (first | refine zR ?_ | refine zK ?_ | refine zM ?_ | refine zB ?_ | refine zA ?_ | refine zS ?_ | refine zL ?_)
          refine qc ?_
          (repeat refine qb ?_); refine qk ?_
          exact wS rfl rfl
        · cases hc
      | true =>
        repeat (first | refine zR ?_ | refine zK ?_ | refine zM ?_ | refine zB ?_ | refine zA ?_ | refine zS ?_ | refine zL ?_)
        refine qc ?_
        (repeat refine qb ?_); refine qf rfl (fun hc => ?_) (fun hc => ?_)
        · cases hc
        refine qm ?_
        have hsz := h1 rfl
        have hGa := givOk_of ha (h2 rfl)
        have hGb := givOk_of hb (h3 rfl)
        by_cases h0 : zb (.mk id set al tg rules ks obls) = 0
        rotate_left
        · have H := hB h0
          (repeat refine qb ?_); refine qa ?_
          repeat (first | refine zR ?_ | refine zK ?_ | refine zM ?_ | refine zB ?_ | refine zA ?_ | refine zS ?_ | refine zL ?_)
          refine qn rfl (qD rfl rfl rfl rfl (H) rfl rfl rfl ?_)
          repeat (first | refine zR ?_ | refine zK ?_ | refine zM ?_ | refine zB ?_ | refine zA ?_ | refine zS ?_ | refine zL ?_)
          refine qc ?_
          (repeat refine qb ?_); refine qa ?_
          repeat (first | refine zR ?_ | refine zK ?_ | refine zM ?_ | refine zB ?_ | refine zA ?_ | refine zS ?_ | refine zL ?_)
          refine qc ?_
          (repeat refine qb ?_); refine qf rfl (fun hc => ?_) (fun hc => ?_)
          · (repeat refine qb ?_); refine qa ?_
            repeat (first | refine zR ?_ | refine zK ?_ | refine zM ?_ | refine zB ?_ | refine zA ?_ | refine zS ?_ | refine zL ?_)
            refine qn rfl (qg rfl rfl rfl rfl (qaL) rfl rfl ?_)
            repeat (first | refine zR ?_ | refine zK ?_ | refine zM ?_ | refine zB ?_ | refine zA ?_ | refine zS ?_ | refine zL ?_)
            refine qc ?_
            (repeat refine qb ?_); refine qk ?_
            exact wS rfl rfl
          · cases hc
        by_cases hl : (qaI (.mk id set al tg rules ks obls)).length ≤ 64
        rotate_left
        · have H := hM (by omega) h0 (by omega)
          (repeat refine qb ?_); refine qa ?_
          repeat (first | refine zR ?_ | refine zK ?_ | refine zM ?_ | refine zB ?_ | refine zA ?_ | refine zS ?_ | refine zL ?_)
          refine qn rfl (qD rfl rfl rfl rfl (H) rfl rfl rfl ?_)
          repeat (first | refine zR ?_ | refine zK ?_ | refine zM ?_ | refine zB ?_ | refine zA ?_ | refine zS ?_ | refine zL ?_)
          refine qc ?_
          (repeat refine qb ?_); refine qa ?_
          repeat (first | refine zR ?_ | refine zK ?_ | refine zM ?_ | refine zB ?_ | refine zA ?_ | refine zS ?_ | refine zL ?_)
          refine qc ?_
          (repeat refine qb ?_); refine qf rfl (fun hc => ?_) (fun hc => ?_)
          · (repeat refine qb ?_); refine qa ?_
            repeat (first | refine zR ?_ | refine zK ?_ | refine zM ?_ | refine zB ?_ | refine zA ?_ | refine zS ?_ | refine zL ?_)
            refine qn rfl (qg rfl rfl rfl rfl (qaL) rfl rfl ?_)
            repeat (first | refine zR ?_ | refine zK ?_ | refine zM ?_ | refine zB ?_ | refine zA ?_ | refine zS ?_ | refine zL ?_)
            refine qc ?_
            (repeat refine qb ?_); refine qk ?_
            exact wS rfl rfl
          · cases hc
        have H := hO (by omega) h0 hl
        have hEa := hE0 (by omega) a hGa
        have hEb := hE0 (by omega) b hGb
        have hfit := atoms_fit hf h0
        have hal : (∀ x ∈ qaI (.mk id set al tg rules ks obls), askA x a = askA x b) → evalS (.mk id set al tg rules ks obls) a = evalS (.mk id set al tg rules ks obls) b := eval_alike
        have hxl := decide_obls (g := a) hsz
        have hxm := qaa a 4 (.mk id set al tg rules ks obls)
        obtain ⟨L, hL⟩ : ∃ L, L = qaI (.mk id set al tg rules ks obls) := ⟨_, rfl⟩
        rw [← hL] at H hl hfit hal
        have lL : ((L.map Atm.pv).length) = L.length := by simp
        (repeat refine qb ?_); refine qa ?_
        repeat (first | refine zR ?_ | refine zK ?_ | refine zM ?_ | refine zB ?_ | refine zA ?_ | refine zS ?_ | refine zL ?_)
        refine qn rfl (qD rfl rfl rfl rfl (H) rfl rfl rfl ?_)
        repeat (first | refine zR ?_ | refine zK ?_ | refine zM ?_ | refine zB ?_ | refine zA ?_ | refine zS ?_ | refine zL ?_)
        refine qc ?_
        refine SW.wk (zN (k := 32000) rfl) ?_
        (repeat refine qb ?_); refine qa ?_
        repeat (first | refine zR ?_ | refine zK ?_ | refine zM ?_ | refine zB ?_ | refine zA ?_ | refine zS ?_ | refine zL ?_)
        refine qc ?_
        (repeat refine qb ?_); refine qf rfl (fun hc => ?_) (fun hc => ?_)
        · cases hc
        refine qm ?_
        (repeat refine qb ?_); refine qa ?_
        repeat (first | refine zR ?_ | refine zK ?_ | refine zM ?_ | refine zB ?_ | refine zA ?_ | refine zS ?_ | refine zL ?_)
        refine qc ?_
        (repeat refine qb ?_); refine ql ?_
        refine SW.wk (qq [1, 2, 3, 37, 38, 39] [(3, 3)] rfl rfl) ?_
        refine qO (fun m s => ∃ (k : Nat) (kk : Int), k ≤ L.length ∧ m = L.length - k ∧ kk = k ∧ (∀ x ∈ L.take k, askA x a = askA x b) ∧ s = ⟨78, [(1, .p (zP a)), (2, .p (zP b)), (3, .ptr 3 0), (37, .p (atmsP L)), (38, .p (pI (L.map Atm.pv).length)), (39, .p (pI kk))], [(3, .cells [.p (pS id), .p (pB set), .p (pI al), .p (tgtP tg), .p (.sl 5 (rules.map zt)), .p (.sl 7 (ks.map polP)), .p (zQ obls)])]⟩) L.length ⟨0, 0, Nat.zero_le _, rfl, rfl, by simp, rfl⟩ ?_
        rintro m s ⟨k, _, hk, rfl, rfl, hall, rfl⟩
        (repeat refine qb ?_); refine qa ?_
        repeat (first | refine zR ?_ | refine zK ?_ | refine zM ?_ | refine zB ?_ | refine zA ?_ | refine zS ?_ | refine zL ?_)
        refine qc ?_
        (repeat refine qb ?_); refine qf rfl (fun hlt => ?_) (fun hlt => ?_)
        · refine qm ?_
          rw [lL] at hlt
          simp only [decide_eq_true_eq] at hlt
          have hlt' : k < L.length := by omega
          obtain ⟨hm, hc⟩ := hfit _ (List.getElem_mem hlt')
          obtain ⟨x, hx⟩ : ∃ x, x = L[k] := ⟨_, rfl⟩
          rw [← hx] at hm hc
          have HA : Holds Tryz.prog 33 [.agg x.pv, zP a] (.p (pI (askA x a))) [] := ask_h x.m x.c hm hc a hGa
          have HB : Holds Tryz.prog 33 [.agg x.pv, zP b] (.p (pI (askA x b))) [] := ask_h x.m x.c hm hc b hGb
          (repeat refine qb ?_); refine ql ?_
          (repeat refine qb ?_); refine qa ?_
          repeat (first | refine zR ?_ | refine zK ?_ | refine zM ?_ | refine zB ?_ | refine zA ?_ | refine zS ?_ | refine zL ?_)
          refine qw qe rfl rfl (by rw [lL]; omega) rfl ?_
          rw [qJ hlt', ← hx]
          repeat (first | refine zR ?_ | refine zK ?_ | refine zM ?_ | refine zB ?_ | refine zA ?_ | refine zS ?_ | refine zL ?_)
          refine qc ?_
          (repeat refine qb ?_); refine zl [] [(0, true), (1, true), (3, true), (4, true), (2, false), (5, false), (6, true)] (by kernel_rfl) (by kernel_rfl) (by kernel_rfl) ?_
          repeat (first | refine yR ?_ | refine yK ?_ | refine yM ?_ | refine yB ?_ | refine yA ?_ | refine yS ?_ | refine yL ?_)
          refine qak rfl rfl rfl (qg rfl rfl rfl rfl (HA) rfl rfl ?_)
          repeat (first | refine yR ?_ | refine yK ?_ | refine yM ?_ | refine yB ?_ | refine yA ?_ | refine yS ?_ | refine yL ?_)
          repeat (first | refine yR ?_ | refine yK ?_ | refine yM ?_ | refine yB ?_ | refine yA ?_ | refine yS ?_ | refine yL ?_)
          refine qak rfl rfl rfl (qg rfl rfl rfl rfl (HB) rfl rfl ?_)
          repeat (first | refine yR ?_ | refine yK ?_ | refine yM ?_ | refine yB ?_ | refine yA ?_ | refine yS ?_ | refine yL ?_)
          by_cases hq : askA x a = askA x b
          rotate_left
          · rw [show (askA x a != askA x b) = true by simpa using hq]
            repeat (first | refine yR ?_ | refine yK ?_ | refine yM ?_ | refine yB ?_ | refine yA ?_ | refine yS ?_ | refine yL ?_)
            refine qaO ?_
            (repeat refine qb ?_); refine qf rfl (fun hc => ?_) (fun hc => ?_)
            · (repeat refine qb ?_); refine qa ?_
              repeat (first | refine zR ?_ | refine zK ?_ | refine zM ?_ | refine zB ?_ | refine zA ?_ | refine zS ?_ | refine zL ?_)
              refine qn rfl (qg rfl rfl rfl rfl (qaL) rfl rfl ?_)
              repeat (first | refine zR ?_ | refine zK ?_ | refine zM ?_ | refine zB ?_ | refine zA ?_ | refine zS ?_ | refine zL ?_)
              refine qc ?_
              (repeat refine qb ?_); refine qk ?_
              exact wS rfl rfl
            · cases hc
          rw [show (askA x a != askA x b) = false by simpa using hq]
          repeat (first | refine yR ?_ | refine yK ?_ | refine yM ?_ | refine yB ?_ | refine yA ?_ | refine yS ?_ | refine yL ?_)
          refine qaO ?_
          (repeat refine qb ?_); refine qf rfl (fun hc => ?_) (fun hc => ?_)
          · cases hc
          refine qm ?_
          (repeat refine qb ?_); refine qa ?_
          repeat (first | refine zR ?_ | refine zK ?_ | refine zM ?_ | refine zB ?_ | refine zA ?_ | refine zS ?_ | refine zL ?_)
          refine qc ?_
          refine ⟨_, _, ?_, qq [1, 2, 3, 37, 38, 39] [(3, 3)] rfl rfl, k + 1, _, hlt', rfl, qz hlt' (by omega), ?_, rfl⟩
          · omega
          · intro y hy
            rw [List.take_succ_eq_append_getElem hlt', List.mem_append, List.mem_singleton] at hy
            rcases hy with hy | hy
            · exact hall y hy
            · rw [hy, ← hx]; exact hq
        · refine qK ?_
          rw [lL] at hlt
          simp only [decide_eq_false_iff_not] at hlt
          have hkk : k = L.length := by omega
          subst hkk
          rw [List.take_length] at hall
          have he := hal hall
          rw [← he] at hEb
          rw [qaG h0] at hEa hEb
          generalize qF a 4 (.mk id set al tg rules ks obls) = x at *
          (repeat refine qb ?_); refine qa ?_
          repeat (first | refine zR ?_ | refine zK ?_ | refine zM ?_ | refine zB ?_ | refine zA ?_ | refine zS ?_ | refine zL ?_)
          refine qn rfl (qD rfl rfl rfl rfl (hEa) rfl rfl rfl ?_)
          repeat (first | refine zR ?_ | refine zK ?_ | refine zM ?_ | refine zB ?_ | refine zA ?_ | refine zS ?_ | refine zL ?_)
          refine qc ?_
          (repeat refine qb ?_); refine qa ?_
          repeat (first | refine zR ?_ | refine zK ?_ | refine zM ?_ | refine zB ?_ | refine zA ?_ | refine zS ?_ | refine zL ?_)
          refine qn rfl (qD rfl rfl rfl rfl (hEb) rfl rfl rfl ?_)
          repeat (first | refine zR ?_ | refine zK ?_ | refine zM ?_ | refine zB ?_ | refine zA ?_ | refine zS ?_ | refine zL ?_)
          refine qc ?_
          (repeat refine qb ?_); refine qa ?_
          repeat (first | refine zR ?_ | refine zK ?_ | refine zM ?_ | refine zB ?_ | refine zA ?_ | refine zS ?_ | refine zL ?_)
          refine qn rfl (qg rfl rfl rfl rfl (qav x hxm hxl) rfl rfl ?_)
          repeat (first | refine zR ?_ | refine zK ?_ | refine zM ?_ | refine zB ?_ | refine zA ?_ | refine zS ?_ | refine zL ?_)
          repeat (first | refine zR ?_ | refine zK ?_ | refine zM ?_ | refine zB ?_ | refine zA ?_ | refine zS ?_ | refine zL ?_)
          refine qn rfl (qg rfl rfl rfl rfl (qaL) rfl rfl ?_)
          repeat (first | refine zR ?_ | refine zK ?_ | refine zM ?_ | refine zB ?_ | refine zA ?_ | refine zS ?_ | refine zL ?_)
          refine qc ?_
          (repeat refine qb ?_); refine qk ?_
          exact wS rfl rfl
end Go.Proofs.YtppfcacnofjmdaaGreatDoor
namespace Go.Proofs.YtppfcacnofjmdaaGreatDoor
set_option linter.unusedVariables false
set_option linter.unusedSimpArgs false
open Go.RowKit
inductive RelsP (w : World) : List PV → List Value → Prop
  | nil : RelsP w [] []
  | cons {x : PV} {u : Value} {xs : List PV} {us : List Value} (h : RelP (fun _ => True) w x u) (r : RelsP w xs us) : RelsP w (x :: xs) (u :: us)
theorem RelsP.get {w : World} {xs : List PV} {us : List Value} (h : RelsP w xs us) : us.length = xs.length ∧ ∀ (i : Nat) (s : PV) (u : Value), xs[i]? = some s → us[i]? = some u → RelP (fun _ => True) w s u := by
  induction h with
  | nil => exact ⟨rfl, fun i s u h => by simp at h⟩
  | cons h r ih =>
    refine ⟨by simp [ih.1], fun i s u hs hu => ?_⟩
    cases i with
    | zero => simp at hs hu; subst hs; subst hu; exact h
    | succ i => exact ih.2 i s u (by simpa using hs) (by simpa using hu)
theorem law_callsG {P : Program} {f : FuncId} {args : List PV} {us : List Value} {W : World} (hg : GlOk (entry W) fun _ => False) (H : Holds P f args (.p (.v (.bool true))) []) (hr : RelsP W args us) : Calls P f us.toArray W fun e w' => e = .returned (.bool true) ∧ Below W.heap.size W w' := by
  obtain ⟨h1, h2⟩ := hr.get
  refine (H.2 W (fun _ => False) us ⟨fun _ h => h.elim, hg⟩ h1 fun i s u hs hu => (h2 i s u hs hu).weak fun _ _ _ => fun h => h).mono fun e w' ⟨v, γ, he, hb, _, hv⟩ => ?_
  have := hv.v_inv
  subst this
  exact ⟨he, hb⟩
theorem rel_agg {w : World} {cs : List Value} {x : List PV} (h : rPV (fun _ => True) w cs x) : RelP (fun _ => True) w (.agg x) (.agg cs.toArray) := .agg h.1 h.2
end Go.Proofs.YtppfcacnofjmdaaGreatDoor
namespace Go.Proofs.YtppfcacnofjmdaaGreatDoor
set_option linter.unusedSimpArgs false
open Go.ChangeShapes Go.WideShapes Go.ChangeAt Go.RowKit
set_option linter.unusedVariables false
theorem law_liftL {H : Type} {enc : TypeId × Value → H} {C : Checked} {os : Os} {f : FuncId} {fn : Func} {s : ChangeSpec} {bt : TypeId} {laid : List (String × DataW Unit)}
    (own : ownKnob C.prog.godebug = none) (started : os.Started) (noInit : C.prog.inits.idxOf? f = none) (hfn : C.prog.funcs[f]? = some fn)
    (witness : ∃ (w : World) (tape : Tape) (i : Input), w.os = os ∧ (w.forCall tape i).Shaped C.prog ∧ i.vars = [] ∧ Input.okWide C.prog (w.forCall tape i) .any w.heap.size f i ∧
      ((s.pre enc C.prog fn [] false (w.forCall tape i).memory i.args ∧ laidMetH C.prog laid (w.forCall tape i).memory) ∧ sizedMet enc C.prog fn (OpenSpec.ofChange s) false (w.forCall tape i).memory i.args) ∧ ({} : Assume).holds C.prog (lone (Frame.enter C.prog f i.args .normal) [] (w.forCall tape i)))
    (hl : laidOutB C.prog = true) (hts : ∀ t ∈ fn.params.toList, C.prog.readableRec t = true ∧ t < C.prog.types.size) (hvars : s.vars = []) (hvt : s.plain.varTypes C.prog = [])
    (hspec : ∀ (W : World) (args : Array Value) (ds : List (DataW H)) (ps : List MemPlace), DataW.TrodAll enc C.prog W 0 (fun _ => true) true fn.params.toList args.toList ds ps → s.fn H ds = { results := [.lit (.bool true)], args := ds })
    (hres : fn.resultTypes = #[bt]) (hbt : C.prog.underlying bt = some .bool)
    (walk : ∀ (W : World) (base : Nat) (args : Array Value) (ds : List (DataW H)) (ps : List MemPlace), laidMetH C.prog laid W →
      (∀ (j : Nat) t v, fn.params[j]? = some t → args[j]? = some v → Value.okWide C.prog W .any base t v) →
      DataW.TrodAll enc C.prog W 0 (fun _ => true) true fn.params.toList args.toList ds ps →
      (∀ n ∈ DataW.weightsEach C.prog fn.params.toList ds, n ≤ reachBytes) →
      Calls C.prog f args W fun e W' => e = .returned (.bool true) ∧ Below W.heap.size W W') :
    ReturnsInHanded {} C os f .any (fun w args => (s.pre enc C.prog fn [] false w args ∧ laidMetH C.prog laid w) ∧ sizedMet enc C.prog fn (OpenSpec.ofChange s) false w args) (s.post enc C.prog fn false true false false) := by
  refine returnsInHanded_of_change_and (X := fun w _ => laidMetH C.prog laid w) (fun _ _ _ hh h => h.of_heap hh) own started noInit hfn witness ?_
  intro W base args ds gs before hval hW _ hsz hL _
  have hlt : ∀ p ∈ before, p.block < W.heap.size := fun p hp => hW.lt p hp
  have hW0 := hW
  obtain ⟨p, q, hA, hV, rfl, hz, hn⟩ := hW0
  rw [hvars] at hV
  obtain ⟨rfl, rfl⟩ := trodVars_none hV
  have hsp := hspec W args ds p hA
  refine (walk W base args ds p hL hval hA ?_).mono fun e W' ⟨he, hb⟩ => ?_
  · intro n hn
    rw [hvt, List.append_nil, List.append_nil] at hsz
    exact of_decide_eq_true (List.all_eq_true.1 hsz n hn)
  · subst he
    refine ⟨_, rfl, ds, [], p ++ [], [], p, [], hW, ?_, ?_, ?_, World.keptBut_mono (fun x hx => ⟨hx, Or.inr (Or.inl (by simpa using hx))⟩) (hb.frame (· ∈ p ++ [])), fun h => by cases h⟩
    · rw [List.append_nil, hsp, hres]
      exact trodAll_mk1 (shut_bool hbt _)
    · rw [List.append_nil, hsp]
      exact qap hl hb hts (fun x hx => hlt x (by simpa using hx)) (fun x hx => by simpa using hlt x (by simpa using hx)) hA
    · rw [List.append_nil, hsp, hvars]
      rfl
theorem laidMet_tail {P : Program} {x : String × DataW Unit} {l : List (String × DataW Unit)} {W : World} (h : laidMet P (x :: l) W) : laidMet P l W := by
  obtain ⟨ps, ⟨g, t, cs, fuel, p, q, h1, h2, h3, h4, h5, h6⟩, hn, hb⟩ := h
  subst h6
  exact ⟨q, h5, (List.nodup_append.1 hn).2.1, fun b off hm => hb b off (List.mem_append_right _ hm)⟩
theorem block_of_tab {P : Program} {W : World} {name : String} {k : IntKind} {zs : List Int} {g : Nat} (h : Lib.TabIs P W name k zs) (hg : P.globalNamed name = some g) {us : List Value} (hu : us = zs.map fun z => Value.int k z) : g < W.heap.size ∧ ∃ ty m, W.heap[g]? = some (.cells us.toArray ty m) := by
  unfold Lib.TabIs World.var? at h
  rw [hg] at h
  simp only [Option.bind_some] at h
  split at h
  · rename_i cs ty m hb
    cases h
    exact ⟨(Array.getElem?_eq_some_iff.1 hb).1, ty, m, by rw [hb, hu]⟩
  · cases h
end Go.Proofs.YtppfcacnofjmdaaGreatDoor
