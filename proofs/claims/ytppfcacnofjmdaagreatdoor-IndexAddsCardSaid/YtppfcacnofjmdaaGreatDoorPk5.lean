/-
  What the statement leans on, part 5: ExV, PolM, PolP, EvP, PolW, Data, Data2, Data3, Data4, PolF, SzS, Fork, EvH, Nilc, EvJ, EvD, EvM, CopyH, FewH, SmallH, GivO, EvL, EvQ, EvR, IdxH, FnsI, IndRuns, IndexKeys, IndexLoses.
-/
import Derived.Test.YtppfcacnofjmdaaGreatDoorRows
import Derived.Test.YtppfcacnofjmdaaGreatDoorPk1
import Derived.Test.YtppfcacnofjmdaaGreatDoorPk2
import Derived.Test.YtppfcacnofjmdaaGreatDoorPk3
import Derived.Test.YtppfcacnofjmdaaGreatDoorPk4
namespace Go.Proofs.YtppfcacnofjmdaaGreatDoor
set_option linter.unusedVariables false
set_option linter.unusedSimpArgs false
open Go.RowKit
set_option maxHeartbeats 4000000
theorem node_h (n : Nod) (S : List Itm) (lo : Nat) (g : List Giv) (hlo : lo + qL n.op = S.length) (hl : S.length ≤ 1000000) (hS : ∀ x ∈ S, x.Fit) (hgn : g.length ≤ 1000000) (hb : ∀ x ∈ g, x.bag.length ≤ 1000000) (hop : 1 ≤ n.op ∧ n.op ≤ 13) :
    zZ Tryz.prog 75 [.p (.agg n.pv), .view 1000000 5 lo S.length, .p (zP g)] (jz S) (.p (.agg (zc n (S.drop lo) g).pv)) (jz S) := by
  obtain ⟨op, val, attr⟩ := n
  simp only at hop hlo
  rcases (show op = 1 ∨ op = 2 ∨ op = 3 ∨ op = 4 ∨ op = 5 ∨ op = 6 ∨ op = 7 ∨ op = 8 ∨ op = 9 ∨ op = 10 ∨ op = 11 ∨ op = 12 ∨ op = 13 by omega) with rfl | rfl | rfl | rfl | rfl | rfl | rfl | rfl | rfl | rfl | rfl | rfl | rfl
  · exact node_lit val attr S lo g
  · exact node_attr val attr S lo g hgn hb
  · exact node_one_h val attr S lo g hlo hl
  · exact node_size_h val attr S lo g hlo hl
  · exact node_has_h val attr S lo g hlo hl hS
  · exact jE 6 (by omega) val attr S lo g hl (by omega) hS
  · exact jE 7 (by omega) val attr S lo g hl (by omega) hS
  · exact jE 8 (by omega) val attr S lo g hl (by omega) hS
  · exact jE 9 (by omega) val attr S lo g hl (by omega) hS
  · exact jE 10 (by omega) val attr S lo g hl (by omega) hS
  · exact jE 11 (by omega) val attr S lo g hl (by omega) hS
  · exact node_12_h val attr S lo g hl hlo hS
  · exact node_13_h val attr S lo g hl hlo hS
theorem stepS_op {l l' : List Bool} {n : Nod} (h : zy l n = some l') : (1 ≤ n.op ∧ n.op ≤ 13) ∧ qL n.op ≤ l.length := by
  unfold zy at h
  split at h
  · cases h
  · rename_i w hw
    split at h
    · rename_i hc
      have := operandsS_wants hw
      refine ⟨?_, by omega⟩
      unfold zu at hw
      repeat' split at hw
      all_goals first | omega | cases hw
    · cases h
theorem value_h (l : List Nod) (g : List Giv) (hf : ∀ x ∈ l, x.Fit) (hgf : ∀ x ∈ g, x.Fit) (hgn : g.length ≤ 1000000) (hb : ∀ x ∈ g, x.bag.length ≤ 1000000) : Holds Tryz.prog 59 [qar l, zP g] (.tup [.p (.agg (zk l g).1.pv), .p (pI (zk l g).2)]) [] := by
  refine .ofW ?_
  by_cases hl0 : l = []
  · subst hl0
    have e : zk [] g = (noVal, 1) := rfl
    rw [e]
    refine qR (T := TTab) qe Tryz.func59 (by kernel_rfl) rfl rfl rfl ?_
    (repeat refine qb ?_); refine qa ?_
    repeat (first | refine zR ?_ | refine zK ?_ | refine zM ?_ | refine zB ?_ | refine zA ?_ | refine zS ?_ | refine zL ?_)
    refine qc ?_
    (repeat refine qb ?_); refine qa ?_
    repeat (first | refine zR ?_ | refine zK ?_ | refine zM ?_ | refine zB ?_ | refine zA ?_ | refine zS ?_ | refine zL ?_)
    refine qc ?_
    (repeat refine qb ?_); refine qf rfl (fun h => ?_) (fun h => ?_)
    · (repeat refine qb ?_); refine qa ?_
      repeat (first | refine zR ?_ | refine zK ?_ | refine zM ?_ | refine zB ?_ | refine zA ?_ | refine zS ?_ | refine zL ?_)
      refine qc ?_
      (repeat refine qb ?_); refine qk ?_
      exact ⟨Or.inr rfl, _, _, [], _, Wk.refl _, rfl, rfl, .refl _, rfl, rfl⟩
    · cases h
  · have lm : (l.map Nod.pv).length = l.length := by simp
    have hpos : 0 < l.length := List.length_pos_iff.2 hl0
    refine qR (T := TTab) qe Tryz.func59 (by kernel_rfl) rfl rfl rfl ?_
    (repeat refine qb ?_); refine qa ?_
    repeat (first | refine zR ?_ | refine zK ?_ | refine zM ?_ | refine zB ?_ | refine zA ?_ | refine zS ?_ | refine zL ?_)
    refine qc ?_
    (repeat refine qb ?_); refine qa ?_
    repeat (first | refine zR ?_ | refine zK ?_ | refine zM ?_ | refine zB ?_ | refine zA ?_ | refine zS ?_ | refine zL ?_)
    rw [show (((l.map Nod.pv).length : Int) == 0) = false by rw [lm]; simp; exact hl0]
    repeat (first | refine zR ?_ | refine zK ?_ | refine zM ?_ | refine zB ?_ | refine zA ?_ | refine zS ?_ | refine zL ?_)
    refine qn rfl (qg rfl rfl rfl rfl (expr_h l hf) rfl rfl ?_)
    repeat (first | refine zR ?_ | refine zK ?_ | refine zM ?_ | refine zB ?_ | refine zA ?_ | refine zS ?_ | refine zL ?_)
    refine qc ?_
    (repeat refine qb ?_); refine qf rfl (fun h => ?_) (fun h => ?_)
    · have h0 : zo l ≠ 0 := by simpa using h
      have e : zk l g = (noVal, 1) := by unfold zk; rw [if_pos (.inr h0)]
      rw [e]
      (repeat refine qb ?_); refine qa ?_
      repeat (first | refine zR ?_ | refine zK ?_ | refine zM ?_ | refine zB ?_ | refine zA ?_ | refine zS ?_ | refine zL ?_)
      refine qc ?_
      (repeat refine qb ?_); refine qk ?_
      exact ⟨Or.inr rfl, _, _, [], _, Wk.refl _, rfl, rfl, .refl _, rfl, rfl⟩
    · have h0 : zo l = 0 := by simpa using h
      obtain ⟨hst, hl32⟩ := wd h0 hl0
      refine qm ?_
      (repeat refine qb ?_); refine qa ?_
      repeat (first | refine zR ?_ | refine zK ?_ | refine zM ?_ | refine zB ?_ | refine zA ?_ | refine zS ?_ | refine zL ?_)
      refine qc ?_
      (repeat refine qb ?_); refine qa ?_
      repeat (first | refine zR ?_ | refine zK ?_ | refine zM ?_ | refine zB ?_ | refine zA ?_ | refine zS ?_ | refine zL ?_)
      refine qc ?_
      (repeat refine qb ?_); refine ql ?_
      refine SW.wk (jP 6 900 115 5 rfl rfl) ?_
      refine SW.wk (qq [1, 4, 5, 6, 19, 20, 21] [(4, 4), (900, 0)] rfl rfl) ?_
      refine qO (fun m s => ∃ (k : Nat) (kk : Int) (S : List Itm) (made : List Bool), k ≤ l.length ∧ m = l.length - k ∧ kk = k ∧ S = jV g (l.take k) ∧ qW [] (l.take k) = some made ∧ S.length = made.length ∧ made.length ≤ k ∧ (∀ x ∈ S, x.Fit) ∧ s = ⟨51, [(1, .p (zP g)), (4, .ptr 4 0), (5, .p (pI 0)), (6, .row 0), (19, .p (qar l)), (20, .p (pI (l.map Nod.pv).length)), (21, .p (pI kk))], [(4, .cells (noVal.pv.map .p)), (0, .row 115 5 (S.map Itm.pv))]⟩) l.length ⟨0, 0, [], [], Nat.zero_le _, rfl, rfl, rfl, by simp [qW], rfl, Nat.le_refl _, by simp, rfl⟩ ?_
      rintro m s ⟨k, _, S, made, hk, rfl, rfl, hSe, ha, hSl, hml, hS, rfl⟩
      (repeat refine qb ?_); refine qa ?_
      repeat (first | refine zR ?_ | refine zK ?_ | refine zM ?_ | refine zB ?_ | refine zA ?_ | refine zS ?_ | refine zL ?_)
      refine qc ?_
      (repeat refine qb ?_); refine qf rfl (fun hlt => ?_) (fun hlt => ?_)
      · refine qm ?_
        rw [lm] at hlt
        simp only [decide_eq_true_eq] at hlt
        have hlt' : k < l.length := by omega
        have hst2 := stepsS_some hlt' ha
        cases hs : zy made l[k] with
        | none =>
          rw [hs] at hst2
          rw [stepsS_none (k + 1) hst2] at hst
          cases hst
        | some made' =>
          rw [hs] at hst2
          obtain ⟨hop, hopl⟩ := stepS_op hs
          obtain ⟨hSl', _⟩ := stepI_len (g := g) hSl hs
          have lmS : (S.map Itm.pv).length = S.length := by simp
          obtain ⟨left, hleft⟩ : ∃ left : Nat, left + qL l[k].op = S.length := ⟨S.length - qL l[k].op, by omega⟩
          have hml' := stepS_len hs
          (repeat refine qb ?_); refine ql ?_
          (repeat refine qb ?_); refine qa ?_
          repeat (first | refine zR ?_ | refine zK ?_ | refine zM ?_ | refine zB ?_ | refine zA ?_ | refine zS ?_ | refine zL ?_)
          refine qw qe rfl rfl (by rw [lm]; omega) rfl ?_
          rw [qJ hlt']
          repeat (first | refine zR ?_ | refine zK ?_ | refine zM ?_ | refine zB ?_ | refine zA ?_ | refine zS ?_ | refine zL ?_)
          refine qc ?_
          (repeat refine qb ?_); refine qa ?_
          repeat (first | refine zR ?_ | refine zK ?_ | refine zM ?_ | refine zB ?_ | refine zA ?_ | refine zS ?_ | refine zL ?_)
          refine qn rfl (qg rfl rfl rfl rfl (operands_h l[k].op) rfl rfl ?_)
          repeat (first | refine zR ?_ | refine zK ?_ | refine zM ?_ | refine zB ?_ | refine zA ?_ | refine zS ?_ | refine zL ?_)
          rw [show IntKind.i64.wrap (((S.map Itm.pv).length : Int) - (qL l[k].op : Int)) = (left : Int) by rw [lmS, IntWalk.i64_in _ (by omega)]; omega]
          refine qc ?_
          (repeat refine qb ?_); refine zl [0] [(0, true), (1, true), (2, true), (3, true), (4, true), (5, true), (6, true), (7, true), (8, false), (9, false), (10, false), (11, true)] (by kernel_rfl) (by kernel_rfl) (by kernel_rfl) ?_
          repeat (first | refine yR ?_ | refine yK ?_ | refine yM ?_ | refine yB ?_ | refine yA ?_ | refine yS ?_ | refine yL ?_)
          refine zi qe rfl rfl rfl (by rw [lmS]; omega) rfl ?_
          repeat (first | refine yR ?_ | refine yK ?_ | refine yM ?_ | refine yB ?_ | refine yA ?_ | refine yS ?_ | refine yL ?_)
          refine zi qe rfl rfl rfl (by rw [lmS]; omega) rfl ?_
          rw [lmS]
          repeat (first | refine yR ?_ | refine yK ?_ | refine yM ?_ | refine yB ?_ | refine yA ?_ | refine yS ?_ | refine yL ?_)
          refine qak rfl rfl rfl (zr [(0, 1000000)] rfl rfl rfl rfl rfl rfl (node_h l[k] S left g hleft (by omega) hS hgn hb hop) rfl rfl rfl ?_)
          repeat (first | refine yR ?_ | refine yK ?_ | refine yM ?_ | refine yB ?_ | refine yA ?_ | refine yS ?_ | refine yL ?_)
          refine qak rfl rfl rfl (ActOk.shrink 33 999 rfl rfl rfl rfl (qp qe rfl rfl rfl rfl rfl rfl rfl rfl rfl rfl rfl rfl rfl rfl rfl rfl (by simp only [List.length_append, List.length_take, List.length_map]; unfold reachBytes; simp; omega) (by simp only [List.length_append, List.length_take, List.length_map]; simp; omega) ?_))
          repeat (first | refine yR ?_ | refine yK ?_ | refine yM ?_ | refine yB ?_ | refine yA ?_ | refine yS ?_ | refine yL ?_)
          refine swm_nil ?_
          (repeat refine qb ?_); refine qa ?_
          repeat (first | refine zR ?_ | refine zK ?_ | refine zM ?_ | refine zB ?_ | refine zA ?_ | refine zS ?_ | refine zL ?_)
          refine qc ?_
          have hdrop : S.length - qL l[k].op = left := by omega
          refine ⟨_, _, ?_, qq [1, 4, 5, 6, 19, 20, 21] [(4, 4), (41, 0)] rfl rfl, k + 1, _, zJ g S l[k], made', hlt', rfl, qz hlt' (by omega), ?_, hst2, hSl', by omega, ?_, ?_⟩
          · omega
          · rw [hSe]; exact (foldl_take_succ (zJ g) [] l k hlt').symm
          · intro x hx
            unfold zJ at hx
            rcases List.mem_append.1 hx with hx | hx
            · exact hS x (List.mem_of_mem_take hx)
            · rw [List.mem_singleton] at hx
              subst hx
              exact nodeS_fit (hf _ (List.getElem_mem hlt')) (fun x hx => hS x (List.mem_of_mem_drop hx)) hgf hb
          · have e3 : (zJ g S l[k]).map Itm.pv = (S.map Itm.pv).take left ++ [(zc l[k] (S.drop left) g).pv] := by
              unfold zJ
              rw [hdrop, List.map_append, List.map_take]; rfl
            rw [e3]; rfl
      · refine qK ?_
        rw [lm] at hlt
        simp only [decide_eq_false_iff_not] at hlt
        have hkk : k = l.length := by omega
        subst hkk
        rw [List.take_length] at hSe
        obtain ⟨x, hx⟩ := evalI_one (g := g) h0 hl0
        rw [hx] at hSe
        subst hSe
        rw [zp h0 hl0 hx]
        (repeat refine qb ?_); refine zl [4] [(0, true), (1, true), (2, true), (3, true), (4, true), (5, true), (6, true), (7, true), (8, false), (9, true)] (by kernel_rfl) (by kernel_rfl) (by kernel_rfl) ?_
        repeat (first | refine yR ?_ | refine yK ?_ | refine yM ?_ | refine yB ?_ | refine yA ?_ | refine yS ?_ | refine yL ?_)
        refine zi qe rfl rfl rfl (by simp) rfl ?_
        repeat (first | refine yR ?_ | refine yK ?_ | refine yM ?_ | refine yB ?_ | refine yA ?_ | refine yS ?_ | refine yL ?_)
        refine zi qe rfl rfl (za rfl rfl rfl rfl rfl (show ([x].map Itm.pv).getD (Int.toNat 0) [] = x.pv from rfl) rfl) (by simp) rfl ?_
        repeat (first | refine yR ?_ | refine yK ?_ | refine yM ?_ | refine yB ?_ | refine yA ?_ | refine yS ?_ | refine yL ?_)
        refine zi qe rfl rfl rfl (by simp) rfl ?_
        repeat (first | refine yR ?_ | refine yK ?_ | refine yM ?_ | refine yB ?_ | refine yA ?_ | refine yS ?_ | refine yL ?_)
        refine zi qe rfl rfl (za rfl rfl rfl rfl rfl (show ([x].map Itm.pv).getD (Int.toNat 0) [] = x.pv from rfl) rfl) (by simp) rfl ?_
        repeat (first | refine yR ?_ | refine yK ?_ | refine yM ?_ | refine yB ?_ | refine yA ?_ | refine yS ?_ | refine yL ?_)
        refine swm_nil ?_
        (repeat refine qb ?_); refine qk ?_
        exact ⟨Or.inr rfl, _, _, [], _, Wk.refl _, rfl, rfl, .refl _, rfl, rfl⟩
theorem cond_h (l : List Nod) (g : List Giv) (hf : ∀ x ∈ l, x.Fit) (hgf : ∀ x ∈ g, x.Fit) (hgn : g.length ≤ 1000000) (hb : ∀ x ∈ g, x.bag.length ≤ 1000000) : Holds Tryz.prog 34 [qar l, zP g] (.p (pI (qam l g))) [] := by
  by_cases hl0 : l = []
  · subst hl0
    refine qA (ts := [4]) Tryz.func34 (by kernel_rfl) rfl rfl rfl ?_
    (repeat refine qb ?_); refine qa ?_
    repeat (first | refine zR ?_ | refine zK ?_ | refine zM ?_ | refine zB ?_ | refine zA ?_ | refine zS ?_ | refine zL ?_)
    refine qc ?_
    (repeat refine qb ?_); refine qa ?_
    repeat (first | refine zR ?_ | refine zK ?_ | refine zM ?_ | refine zB ?_ | refine zA ?_ | refine zS ?_ | refine zL ?_)
    refine qc ?_
    (repeat refine qb ?_); refine qf rfl (fun h => ?_) (fun h => ?_)
    · (repeat refine qb ?_); refine qa ?_
      repeat (first | refine zR ?_ | refine zK ?_ | refine zM ?_ | refine zB ?_ | refine zA ?_ | refine zS ?_ | refine zL ?_)
      refine qc ?_
      (repeat refine qb ?_); refine qk ?_
      exact zg rfl rfl
    · cases h
  · have lm : (l.map Nod.pv).length = l.length := by simp
    have e : qam l g = ww (zk l g) := by unfold qam; rw [if_neg hl0]
    have H := value_h l g hf hgf hgn hb
    rw [e]
    generalize zk l g = r at *
    refine qA (ts := [4]) Tryz.func34 (by kernel_rfl) rfl rfl rfl ?_
    (repeat refine qb ?_); refine qa ?_
    repeat (first | refine zR ?_ | refine zK ?_ | refine zM ?_ | refine zB ?_ | refine zA ?_ | refine zS ?_ | refine zL ?_)
    refine qc ?_
    (repeat refine qb ?_); refine qa ?_
    repeat (first | refine zR ?_ | refine zK ?_ | refine zM ?_ | refine zB ?_ | refine zA ?_ | refine zS ?_ | refine zL ?_)
    rw [show (((l.map Nod.pv).length : Int) == 0) = false by rw [lm]; simp; exact hl0]
    repeat (first | refine zR ?_ | refine zK ?_ | refine zM ?_ | refine zB ?_ | refine zA ?_ | refine zS ?_ | refine zL ?_)
    refine qc ?_
    (repeat refine qb ?_); refine qf rfl (fun h => ?_) (fun h => ?_)
    · cases h
    · refine qm ?_
      (repeat refine qb ?_); refine qa ?_
      repeat (first | refine zR ?_ | refine zK ?_ | refine zM ?_ | refine zB ?_ | refine zA ?_ | refine zS ?_ | refine zL ?_)
      refine qn rfl (qg rfl rfl rfl rfl (H) rfl rfl ?_)
      repeat (first | refine zR ?_ | refine zK ?_ | refine zM ?_ | refine zB ?_ | refine zA ?_ | refine zS ?_ | refine zL ?_)
      refine qc ?_
      (repeat refine qb ?_); refine qa ?_
      repeat (first | refine zR ?_ | refine zK ?_ | refine zM ?_ | refine zB ?_ | refine zA ?_ | refine zS ?_ | refine zL ?_)
      refine qc ?_
      (repeat refine qb ?_); refine ql ?_
      (repeat refine qb ?_); refine qa ?_
      repeat (first | refine zR ?_ | refine zK ?_ | refine zM ?_ | refine zB ?_ | refine zA ?_ | refine zS ?_ | refine zL ?_)
      refine qn rfl (qg rfl rfl rfl rfl ((is_h ⟨[], r.1, r.2⟩ 1).cv (.cons (CvL.agg (.cons (.nil 3) (.refl _))) (.refl _))) rfl rfl ?_)
      repeat (first | refine zR ?_ | refine zK ?_ | refine zM ?_ | refine zB ?_ | refine zA ?_ | refine zS ?_ | refine zL ?_)
      refine qc ?_
      (repeat refine qb ?_); refine qf rfl (fun h1 => ?_) (fun h1 => ?_)
      · (repeat refine qb ?_); refine qa ?_
        repeat (first | refine zR ?_ | refine zK ?_ | refine zM ?_ | refine zB ?_ | refine zA ?_ | refine zS ?_ | refine zL ?_)
        refine qc ?_
        (repeat refine qb ?_); refine qk ?_
        exact zg rfl (by unfold ww; rw [h1]; rfl)
      · (repeat refine qb ?_); refine qa ?_
        repeat (first | refine zR ?_ | refine zK ?_ | refine zM ?_ | refine zB ?_ | refine zA ?_ | refine zS ?_ | refine zL ?_)
        refine qn rfl (qg rfl rfl rfl rfl ((is_h ⟨[], r.1, r.2⟩ 0).cv (.cons (CvL.agg (.cons (.nil 3) (.refl _))) (.refl _))) rfl rfl ?_)
        repeat (first | refine zR ?_ | refine zK ?_ | refine zM ?_ | refine zB ?_ | refine zA ?_ | refine zS ?_ | refine zL ?_)
        refine qc ?_
        (repeat refine qb ?_); refine qf rfl (fun h2 => ?_) (fun h2 => ?_)
        · (repeat refine qb ?_); refine qa ?_
          repeat (first | refine zR ?_ | refine zK ?_ | refine zM ?_ | refine zB ?_ | refine zA ?_ | refine zS ?_ | refine zL ?_)
          refine qc ?_
          (repeat refine qb ?_); refine qk ?_
          exact zg rfl (by unfold ww; rw [h1, h2]; rfl)
        · refine qm ?_
          (repeat refine qb ?_); refine qa ?_
          repeat (first | refine zR ?_ | refine zK ?_ | refine zM ?_ | refine zB ?_ | refine zA ?_ | refine zS ?_ | refine zL ?_)
          refine qc ?_
          (repeat refine qb ?_); refine qk ?_
          exact zg rfl (by unfold ww; rw [h1, h2]; rfl)
end Go.Proofs.YtppfcacnofjmdaaGreatDoor
namespace Go.Proofs.YtppfcacnofjmdaaGreatDoor
set_option linter.unusedVariables false
set_option linter.unusedSimpArgs false
def Wlk.le (w v : Wlk) : Prop := (∀ s, hasS w.met s = true → hasS v.met s = true) ∧ w.rules ≤ v.rules
theorem Wlk.le_refl (w : Wlk) : w.le w := ⟨fun _ h => h, Int.le_refl _⟩
theorem hasS_snoc (m : List ByteArray) (s t : ByteArray) : hasS (m ++ [s]) t = (hasS m t || decide (t = s)) := by simp [hasS]
theorem Wlk.le_snoc {w v : Wlk} (h : w.le v) (s : ByteArray) {a b : Int} (hab : a ≤ b) : Wlk.le ⟨w.met ++ [s], a⟩ ⟨v.met ++ [s], b⟩ := by
  refine ⟨fun t ht => ?_, hab⟩
  simp only [hasS_snoc, Bool.or_eq_true] at ht ⊢
  exact ht.imp (h.1 t) id
theorem nameOk_le {w v : Wlk} (h : w.le v) {s : ByteArray} (hs : zO v.met s = true) : zO w.met s = true := by
  unfold zO at hs ⊢
  simp only [Bool.and_eq_true, Bool.not_eq_true'] at hs ⊢
  refine ⟨?_, hs.2⟩
  cases hw : hasS w.met s with
  | false => rfl
  | true => rw [h.1 s hw] at hs; cases hs.1
theorem ruleS_le {w v : Wlk} (h : w.le v) {r : Rul} (h0 : (zq v r).1 = 0) : (zq w r).1 = 0 ∧ (zq w r).2.le (zq v r).2 := by
  unfold zq at h0 ⊢
  by_cases hv : zO v.met r.id = true
  · have hw := nameOk_le h hv
    rw [if_pos hv] at h0 ⊢
    rw [if_pos hw]
    have h2 := h.2
    simp only at h0 ⊢
    by_cases h64 : 64 < v.rules + 1
    · rw [if_pos h64] at h0; cases h0
    · rw [if_neg h64] at h0
      rw [if_neg (by omega)]
      exact ⟨h0, Wlk.le_snoc h r.id (by omega)⟩
  · rw [if_neg hv] at h0; cases h0
theorem headS_le {w v : Wlk} (h : w.le v) {p : Pol} (h0 : (zF v p).1 = 0) : (zF w p).1 = 0 ∧ (zF w p).2.le (zF v p).2 := by
  unfold zF at h0 ⊢
  by_cases hv : zO v.met p.id = true
  · have hw := nameOk_le h hv
    simp only [hv, hw, Bool.true_and, nameM, if_true] at h0 ⊢
    exact ⟨h0, Wlk.le_snoc h p.id h.2⟩
  · simp [hv] at h0
theorem seqS_le {α : Type} {f f' : Wlk → α → Int × Wlk} (hf : ∀ w v x, w.le v → (f v x).1 = 0 → (f' w x).1 = 0 ∧ (f' w x).2.le (f v x).2) : ∀ {l : List α} {w v : Wlk}, w.le v → (seqS f v l).1 = 0 → (seqS f' w l).1 = 0 ∧ (seqS f' w l).2.le (seqS f v l).2
  | [], w, v, h, _ => ⟨rfl, h⟩
  | x :: r, w, v, h, h0 => by
    rw [seqS] at h0 ⊢
    rw [seqS]
    by_cases hx : (f v x).1 = 0
    · rw [if_pos hx] at h0 ⊢
      obtain ⟨h1, h2⟩ := hf w v x h hx
      rw [if_pos h1]
      exact seqS_le hf h2 h0
    · rw [if_neg hx] at h0; exact absurd h0 hx
theorem seqS_each {α : Type} {f : Wlk → α → Int × Wlk} {Q : α → Prop} (hf : ∀ w x, (f w x).1 = 0 → Q x) : ∀ {l : List α} {w : Wlk}, (seqS f w l).1 = 0 → ∀ x ∈ l, Q x
  | [], w, _, x, hx => by simp at hx
  | y :: r, w, h0, x, hx => by
    rw [seqS] at h0
    by_cases hy : (f w y).1 = 0
    · rw [if_pos hy] at h0
      rcases List.mem_cons.1 hx with rfl | hx
      · exact hf w _ hy
      · exact seqS_each hf h0 x hx
    · rw [if_neg hy] at h0; exact absurd h0 hy
theorem ruleS_lim {w : Wlk} {r : Rul} (hw : 0 ≤ w.rules ∧ w.rules ≤ 64) (h : (zq w r).1 = 0) : 0 ≤ (zq w r).2.rules ∧ (zq w r).2.rules ≤ 64 := by
  unfold zq at h ⊢
  split at h
  · rename_i hn
    rw [if_pos hn]
    simp only at h ⊢
    split at h
    · cases h
    · omega
  · cases h
theorem jI {α : Type} {f : Wlk → α → Int × Wlk} {P : Wlk → Prop} (hf : ∀ w x, P w → (f w x).1 = 0 → P (f w x).2) : ∀ {l : List α} {w : Wlk}, P w → (seqS f w l).1 = 0 → P (seqS f w l).2
  | [], w, hw, _ => hw
  | x :: r, w, hw, h => by
    rw [seqS] at h ⊢
    by_cases h0 : (f w x).1 = 0
    · rw [if_pos h0] at h ⊢
      exact jI hf (hf w x hw h0) h
    · rw [if_neg h0] at h; exact absurd h h0
abbrev lim (w : Wlk) : Prop := 0 ≤ w.rules ∧ w.rules ≤ 64
theorem polS_lim : ∀ (n : Nat) (w : Wlk) (p : Pol), lim w → (polS n w p).1 = 0 → lim (polS n w p).2
  | 0, w, p, _, h => by cases h
  | n + 1, w, p, hw, h => by
    have h1 : lim (zF w p).2 := hw
    rw [polS] at h ⊢
    split at h
    · rename_i h2
      rw [if_pos h2]
      split at h
      · rename_i h3
        rw [if_pos h3]
        exact jI (P := lim) (fun w x hw h => polS_lim n w x hw h) (jI (P := lim) (fun w x hw h => ruleS_lim hw h) h1 h3) h
      · rename_i h3; exact absurd h h3
    · rename_i h2; exact absurd h h2
end Go.Proofs.YtppfcacnofjmdaaGreatDoor
namespace Go.Proofs.YtppfcacnofjmdaaGreatDoor
set_option linter.unusedVariables false
set_option linter.unusedSimpArgs false
open Go.RowKit
mutual
def Pol.nr : Pol → Nat
  | .mk _ _ _ _ rs ks _ => rs.length + Pol.nrs ks
def Pol.nrs : List Pol → Nat
  | [] => 0
  | k :: ks => k.nr + Pol.nrs ks
end
theorem Pol.nrs_eq : ∀ l : List Pol, Pol.nrs l = qT Pol.nr l
  | [] => rfl
  | k :: ks => by simp [Pol.nrs, qT, Pol.nrs_eq ks]
theorem Pol.nr_eq (p : Pol) : p.nr = p.rules.length + qT Pol.nr p.kids := by
  cases p; rw [← Pol.nrs_eq]; rfl
theorem seqS_count {α : Type} {f : Wlk → α → Int × Wlk} {c : α → Nat} (hf : ∀ w x, (f w x).1 = 0 → (f w x).2.rules = w.rules + c x) : ∀ {l : List α} {w : Wlk}, (seqS f w l).1 = 0 → (seqS f w l).2.rules = w.rules + qT c l
  | [], w, _ => by simp [seqS, qT]
  | x :: r, w, h => by
    rw [seqS] at h ⊢
    by_cases h0 : (f w x).1 = 0
    · rw [if_pos h0] at h ⊢
      rw [seqS_count hf h, hf w x h0]
      simp [qT]; omega
    · rw [if_neg h0] at h; exact absurd h h0
theorem ruleS_count (w : Wlk) (r : Rul) (h : (zq w r).1 = 0) : (zq w r).2.rules = w.rules + (1 : Nat) := by
  unfold zq at h ⊢
  split at h
  · rename_i hn; rw [if_pos hn]; rfl
  · cases h
theorem sumBy_one {α : Type} : ∀ l : List α, qT (fun _ => 1) l = l.length
  | [] => rfl
  | x :: r => by have := sumBy_one r; unfold qT at this ⊢; simp; omega
theorem sumBy_take {α : Type} (f : α → Nat) (l : List α) (k : Nat) : qT f (l.take k) ≤ qT f l := by
  have h : qT f (l.take k ++ l.drop k) = qT f (l.take k) + qT f (l.drop k) := by simp only [qT, List.map_append, List.sum_append]
  rw [List.take_append_drop] at h
  omega
theorem polS_count : ∀ (n : Nat) (w : Wlk) (p : Pol), (polS n w p).1 = 0 → (polS n w p).2.rules = w.rules + p.nr
  | 0, w, p, h => by cases h
  | n + 1, w, p, h => by
    have h1 : (zF w p).2.rules = w.rules := rfl
    rw [polS] at h ⊢
    rw [Pol.nr_eq]
    split at h
    · rename_i h2
      rw [if_pos h2]
      split at h
      · rename_i h3
        rw [if_pos h3, seqS_count (c := Pol.nr) (fun w x h => polS_count n w x h) h, seqS_count (c := fun _ => 1) ruleS_count h3, h1, sumBy_one]
        omega
      · rename_i h3; exact absurd h h3
    · rename_i h2; exact absurd h h2
def Dp : Nat → Pol → Prop
  | 0, _ => False
  | n + 1, p => ∀ k ∈ p.kids, Dp n k
theorem wj {n : Nat} {w : Wlk} {p : Pol} (h : (polS (n + 1) w p).1 = 0) : (zF w p).1 = 0 ∧ (seqS zq (zF w p).2 p.rules).1 = 0 ∧ (seqS (polS n) (seqS zq (zF w p).2 p.rules).2 p.kids).1 = 0 := by
  rw [polS] at h
  split at h
  · rename_i h2
    split at h
    · rename_i h3; exact ⟨h2, h3, h⟩
    · rename_i h3; exact absurd h h3
  · rename_i h2; exact absurd h h2
theorem polS_dp : ∀ (n : Nat) {w : Wlk} {p : Pol}, (polS n w p).1 = 0 → Dp n p
  | 0, w, p, h => by cases h
  | n + 1, w, p, h => seqS_each (fun w x h => polS_dp n h) (wj h).2.2
theorem hasS_ruleS {s : ByteArray} {w : Wlk} {r : Rul} (h : hasS w.met s = true) : hasS (zq w r).2.met s = true := by
  unfold zq
  split
  · show hasS (w.met ++ [r.id]) s = true
    rw [hasS_snoc, h]; rfl
  · exact h
theorem hasS_headS {s : ByteArray} {w : Wlk} {p : Pol} (h : hasS w.met s = true) : hasS (zF w p).2.met s = true := by
  unfold zF nameM
  simp only
  split
  · rw [hasS_snoc, h]; rfl
  · exact h
theorem hasS_polS {s : ByteArray} : ∀ (n : Nat) {w : Wlk} {p : Pol}, hasS w.met s = true → (polS n w p).1 = 0 → hasS (polS n w p).2.met s = true
  | 0, w, p, _, h => by cases h
  | n + 1, w, p, hw, h => by
    obtain ⟨h1, h2, h3⟩ := wj h
    rw [polS, if_pos h1, if_pos h2]
    exact jI (P := fun w => hasS w.met s = true) (fun w x hw h => hasS_polS n hw h) (jI (P := fun w => hasS w.met s = true) (fun w x hw _ => hasS_ruleS hw) (hasS_headS hw) h2) h3
def Pol.putKids (p : Pol) (l : List Pol) : Pol := .mk p.id p.set p.alg p.target p.rules l p.obls
end Go.Proofs.YtppfcacnofjmdaaGreatDoor
namespace Go.Proofs.YtppfcacnofjmdaaGreatDoor
set_option linter.unusedVariables false
set_option linter.unusedSimpArgs false
open Go.RowKit
theorem decideS_dp (g : List Giv) : ∀ {n : Nat} {p : Pol}, Dp n p → ∀ {m : Nat}, n ≤ m → qF g m p = qF g n p
  | n + 1, p, h, m + 1, hm => by
    have e : p.kids.map (qF g m) = p.kids.map (qF g n) := List.map_congr_left fun k hk => decideS_dp g (h k hk) (by omega)
    rw [qF, qF, e]
theorem right_dp {p : Pol} (h : zb p = 0) : Dp 4 p := polS_dp 4 h
end Go.Proofs.YtppfcacnofjmdaaGreatDoor
namespace Go.Proofs.YtppfcacnofjmdaaGreatDoor
set_option linter.unusedVariables false
set_option linter.unusedSimpArgs false
open Go.RowKit
set_option maxHeartbeats 2000000
def ents (m : List ByteArray) : List (Value × PV) := m.map fun s => (.string s, .agg [])
def wlkO (w : Wlk) : List (Nat × Box) := [(1000000, .cells [.row 1000001, .p (pI w.rules)]), (1000001, .mp (ents w.met))]
abbrev wlkR : List (Nat × Nat) := [(1000000, 1000000), (1000001, 1000001)]
theorem ents_ok : ∀ m : List ByteArray, (ents m).all (fun x => kdOk .str x.1) = true
  | [] => rfl
  | s :: m => by
    have := ents_ok m
    simp only [ents, List.map_cons, List.all_cons, Bool.and_eq_true] at this ⊢
    exact ⟨rfl, this⟩
theorem mfind_ents (s : ByteArray) : ∀ m : List ByteArray, mfind (.string s) (ents m) = if hasS m s then some (.agg []) else none
  | [] => rfl
  | t :: m => by
    have ih := mfind_ents s m
    show (bif keyEq (.string s) (.string t) then some (PV.agg []) else mfind (.string s) (ents m)) = _
    rw [ih]
    by_cases e : s = t
    · subst e; simp [keyEq, hasS]
    · have e' : ∀ i : Decidable (s = t), @decide (s = t) i = false := fun i => by
        cases i with
        | isTrue h => exact absurd h e
        | isFalse h => rfl
      rw [show keyEq (.string s) (.string t) = false from e' _]
      unfold hasS
      rw [List.any_cons, e', cond_false, Bool.false_or]
theorem ents_snoc (m : List ByteArray) (s : ByteArray) : ents m ++ [(.string s, .agg [])] = ents (m ++ [s]) := by simp [ents]
theorem wname_h (m : List ByteArray) (n : Int) (s : ByteArray) (hs : s.size ≤ reachBytes) : zZ Tryz.prog 84 [.ptr 1000000 0, .p (pS s)] (wlkO ⟨m, n⟩) (.p (pB (zO m s))) (wlkO ⟨nameM m s, n⟩) := by
  by_cases hm : hasS m s = true
  · have e1 : zO m s = false := by simp [zO, hm]
    have e2 : nameM m s = m := by simp [nameM, e1]
    rw [e1, e2]
    refine ja (ts := [4]) Tryz.func84 (by kernel_rfl) rfl rfl rfl ?_
    (repeat refine qb ?_); refine qa ?_
    repeat (first | refine zR ?_ | refine zK ?_ | refine zM ?_ | refine zB ?_ | refine zA ?_ | refine zS ?_ | refine zL ?_)
    refine qc ?_
    (repeat refine qb ?_); refine qa ?_
    repeat (first | refine zR ?_ | refine zK ?_ | refine zM ?_ | refine zB ?_ | refine zA ?_ | refine zS ?_ | refine zL ?_)
    refine qw qe rfl rfl (ents_ok m) rfl ?_
    rw [mfind_ents, if_pos hm]
    repeat (first | refine zR ?_ | refine zK ?_ | refine zM ?_ | refine zB ?_ | refine zA ?_ | refine zS ?_ | refine zL ?_)
    refine qc ?_
    (repeat refine qb ?_); refine qs (by kernel_rfl) ?_
    repeat (refine qr qe rfl (by exact True.intro) rfl ?_)
    refine zj rfl rfl rfl rfl (name_h s hs) rfl rfl ?_
    repeat (refine qr qe rfl (by exact True.intro) rfl ?_)
    refine qQ ?_
    (repeat refine qb ?_); refine qf rfl (fun h => ?_) (fun h => ?_)
    · (repeat refine qb ?_); refine qa ?_
      repeat (first | refine zR ?_ | refine zK ?_ | refine zM ?_ | refine zB ?_ | refine zA ?_ | refine zS ?_ | refine zL ?_)
      refine qc ?_
      (repeat refine qb ?_); refine qk ?_
      exact ⟨Or.inr rfl, _, _, wlkR, Wk.refl _, rfl, rfl, rfl, rfl⟩
    · cases h
  · refine ja (ts := [4]) Tryz.func84 (by kernel_rfl) rfl rfl rfl ?_
    (repeat refine qb ?_); refine qa ?_
    repeat (first | refine zR ?_ | refine zK ?_ | refine zM ?_ | refine zB ?_ | refine zA ?_ | refine zS ?_ | refine zL ?_)
    refine qc ?_
    (repeat refine qb ?_); refine qa ?_
    repeat (first | refine zR ?_ | refine zK ?_ | refine zM ?_ | refine zB ?_ | refine zA ?_ | refine zS ?_ | refine zL ?_)
    refine qw qe rfl rfl (ents_ok m) rfl ?_
    rw [mfind_ents, if_neg hm]
    repeat (first | refine zR ?_ | refine zK ?_ | refine zM ?_ | refine zB ?_ | refine zA ?_ | refine zS ?_ | refine zL ?_)
    refine qc ?_
    (repeat refine qb ?_); refine qs (by kernel_rfl) ?_
    repeat (refine qr qe rfl (by exact True.intro) rfl ?_)
    refine zj rfl rfl rfl rfl (name_h s hs) rfl rfl ?_
    repeat (refine qr qe rfl (by exact True.intro) rfl ?_)
    refine qQ ?_
    (repeat refine qb ?_); refine qf rfl (fun h => ?_) (fun h => ?_)
    · have e0 : wO s = false := by simpa using h
      have e1 : zO m s = false := by simp [zO, e0]
      have e2 : nameM m s = m := by simp [nameM, e1]
      rw [e1, e2]
      (repeat refine qb ?_); refine qa ?_
      repeat (first | refine zR ?_ | refine zK ?_ | refine zM ?_ | refine zB ?_ | refine zA ?_ | refine zS ?_ | refine zL ?_)
      refine qc ?_
      (repeat refine qb ?_); refine qk ?_
      exact ⟨Or.inr rfl, _, _, wlkR, Wk.refl _, rfl, rfl, rfl, rfl⟩
    · have e0 : wO s = true := by simpa using h
      have e1 : zO m s = true := by simp [zO, e0, hm]
      have e2 : nameM m s = m ++ [s] := by simp [nameM, e1]
      rw [e1, e2]
      refine qm ?_
      (repeat refine qb ?_); refine qa ?_
      repeat (first | refine zR ?_ | refine zK ?_ | refine zM ?_ | refine zB ?_ | refine zA ?_ | refine zS ?_ | refine zL ?_)
      refine qn rfl (act_mapUpdate qe rfl rfl rfl rfl rfl rfl rfl rfl rfl (ents_ok m) (by rw [mfind_ents, if_neg hm]) rfl ?_)
      rw [ents_snoc]
      repeat (first | refine zR ?_ | refine zK ?_ | refine zM ?_ | refine zB ?_ | refine zA ?_ | refine zS ?_ | refine zL ?_)
      refine qc ?_
      (repeat refine qb ?_); refine qa ?_
      repeat (first | refine zR ?_ | refine zK ?_ | refine zM ?_ | refine zB ?_ | refine zA ?_ | refine zS ?_ | refine zL ?_)
      refine qc ?_
      (repeat refine qb ?_); refine qk ?_
      exact ⟨Or.inr rfl, _, _, wlkR, Wk.refl _, rfl, rfl, rfl, rfl⟩
def TarFit (t : Tar) : Prop := ∀ x ∈ t, ∀ y ∈ x, ∀ m ∈ y, m.Fit
structure RulFit (r : Rul) : Prop where
  id : r.id.size ≤ reachBytes
  tgt : TarFit r.target
  cond : ∀ n ∈ r.cond, n.Fit
  obls : ∀ o ∈ r.obls, o.Fit
theorem wrule_h (w : Wlk) (hw : 0 ≤ w.rules ∧ w.rules ≤ 64) (r : Rul) (hr : RulFit r) : zZ Tryz.prog 68 [.ptr 1000000 0, .p (.agg (zt r))] (wlkO w) (.p (pI (zq w r).1)) (wlkO (zq w r).2) := by
  have H := wname_h w.met w.rules r.id hr.id
  cases hn : zO w.met r.id with
  | false =>
    have e : zq w r = (1, w) := by simp [zq, hn]
    have e2 : nameM w.met r.id = w.met := by simp [nameM, hn]
    rw [hn, e2] at H
    rw [e]
    refine ja (ts := [4]) Tryz.func68 (by kernel_rfl) rfl rfl rfl ?_
    (repeat refine qb ?_); refine qa ?_
    repeat (first | refine zR ?_ | refine zK ?_ | refine zM ?_ | refine zB ?_ | refine zA ?_ | refine zS ?_ | refine zL ?_)
    refine qc ?_
    (repeat refine qb ?_); refine qa ?_
    repeat (first | refine zR ?_ | refine zK ?_ | refine zM ?_ | refine zB ?_ | refine zA ?_ | refine zS ?_ | refine zL ?_)
    refine qn rfl (zr wlkR rfl rfl rfl rfl rfl rfl (H) rfl rfl rfl ?_)
    repeat (first | refine zR ?_ | refine zK ?_ | refine zM ?_ | refine zB ?_ | refine zA ?_ | refine zS ?_ | refine zL ?_)
    refine qc ?_
    (repeat refine qb ?_); refine qf rfl (fun h => ?_) (fun h => ?_)
    · (repeat refine qb ?_); refine qa ?_
      repeat (first | refine zR ?_ | refine zK ?_ | refine zM ?_ | refine zB ?_ | refine zA ?_ | refine zS ?_ | refine zL ?_)
      refine qc ?_
      (repeat refine qb ?_); refine qk ?_
      exact ⟨Or.inr rfl, _, _, wlkR, Wk.refl _, rfl, rfl, rfl, rfl⟩
    · cases h
  | true =>
    have e2 : nameM w.met r.id = w.met ++ [r.id] := by simp [nameM, hn]
    rw [hn, e2] at H
    have e : zq w r = (if 64 < w.rules + 1 then 6 else ruleE r, ⟨w.met ++ [r.id], w.rules + 1⟩) := by simp [zq, hn]
    rw [e]
    refine ja (ts := [4]) Tryz.func68 (by kernel_rfl) rfl rfl rfl ?_
    (repeat refine qb ?_); refine qa ?_
    repeat (first | refine zR ?_ | refine zK ?_ | refine zM ?_ | refine zB ?_ | refine zA ?_ | refine zS ?_ | refine zL ?_)
    refine qc ?_
    (repeat refine qb ?_); refine qa ?_
    repeat (first | refine zR ?_ | refine zK ?_ | refine zM ?_ | refine zB ?_ | refine zA ?_ | refine zS ?_ | refine zL ?_)
    refine qn rfl (zr wlkR rfl rfl rfl rfl rfl rfl (H) rfl rfl rfl ?_)
    repeat (first | refine zR ?_ | refine zK ?_ | refine zM ?_ | refine zB ?_ | refine zA ?_ | refine zS ?_ | refine zL ?_)
    refine qc ?_
    (repeat refine qb ?_); refine qf rfl (fun h => ?_) (fun h => ?_)
    · cases h
    · refine qm ?_
      (repeat refine qb ?_); refine qa ?_
      repeat (first | refine zR ?_ | refine zK ?_ | refine zM ?_ | refine zB ?_ | refine zA ?_ | refine zS ?_ | refine zL ?_)
      refine qc ?_
      rw [show IntKind.i64.wrap (w.rules + 1) = w.rules + 1 from IntWalk.i64_in _ (by omega)]
      (repeat refine qb ?_); refine qa ?_
      repeat (first | refine zR ?_ | refine zK ?_ | refine zM ?_ | refine zB ?_ | refine zA ?_ | refine zS ?_ | refine zL ?_)
      refine qc ?_
      (repeat refine qb ?_); refine qf rfl (fun h => ?_) (fun h => ?_)
      · have h1 : 64 < w.rules + 1 := by simp at h; omega
        rw [if_pos h1]
        (repeat refine qb ?_); refine qa ?_
        repeat (first | refine zR ?_ | refine zK ?_ | refine zM ?_ | refine zB ?_ | refine zA ?_ | refine zS ?_ | refine zL ?_)
        refine qc ?_
        (repeat refine qb ?_); refine qk ?_
        exact ⟨Or.inr rfl, _, _, wlkR, Wk.refl _, rfl, rfl, rfl, rfl⟩
      · have h1 : ¬ 64 < w.rules + 1 := by simp at h; omega
        rw [if_neg h1]
        unfold ruleE
        refine qm ?_
        (repeat refine qb ?_); refine qa ?_
        repeat (first | refine zR ?_ | refine zK ?_ | refine zM ?_ | refine zB ?_ | refine zA ?_ | refine zS ?_ | refine zL ?_)
        refine qn rfl (qg rfl rfl rfl rfl (target_h r.target hr.tgt) rfl rfl ?_)
        repeat (first | refine zR ?_ | refine zK ?_ | refine zM ?_ | refine zB ?_ | refine zA ?_ | refine zS ?_ | refine zL ?_)
        refine qc ?_
        (repeat refine qb ?_); refine qa ?_
        repeat (first | refine zR ?_ | refine zK ?_ | refine zM ?_ | refine zB ?_ | refine zA ?_ | refine zS ?_ | refine zL ?_)
        refine qc ?_
        (repeat refine qb ?_); refine qf rfl (fun h => ?_) (fun h => ?_)
        · have h2 : ¬ zI r.target = 0 := by simpa using h
          rw [if_neg h2]
          (repeat refine qb ?_); refine qa ?_
          repeat (first | refine zR ?_ | refine zK ?_ | refine zM ?_ | refine zB ?_ | refine zA ?_ | refine zS ?_ | refine zL ?_)
          refine qc ?_
          (repeat refine qb ?_); refine qk ?_
          exact ⟨Or.inr rfl, _, _, wlkR, Wk.refl _, rfl, rfl, rfl, rfl⟩
        · have h2 : zI r.target = 0 := by simpa using h
          rw [if_pos h2]
          refine qm ?_
          (repeat refine qb ?_); refine qa ?_
          repeat (first | refine zR ?_ | refine zK ?_ | refine zM ?_ | refine zB ?_ | refine zA ?_ | refine zS ?_ | refine zL ?_)
          refine qn rfl (qg rfl rfl rfl rfl (expr_h r.cond hr.cond) rfl rfl ?_)
          repeat (first | refine zR ?_ | refine zK ?_ | refine zM ?_ | refine zB ?_ | refine zA ?_ | refine zS ?_ | refine zL ?_)
          refine qc ?_
          (repeat refine qb ?_); refine qa ?_
          repeat (first | refine zR ?_ | refine zK ?_ | refine zM ?_ | refine zB ?_ | refine zA ?_ | refine zS ?_ | refine zL ?_)
          refine qc ?_
          (repeat refine qb ?_); refine qf rfl (fun h => ?_) (fun h => ?_)
          · have h3 : ¬ zo r.cond = 0 := by simpa using h
            rw [if_neg h3]
            (repeat refine qb ?_); refine qa ?_
            repeat (first | refine zR ?_ | refine zK ?_ | refine zM ?_ | refine zB ?_ | refine zA ?_ | refine zS ?_ | refine zL ?_)
            refine qc ?_
            (repeat refine qb ?_); refine qk ?_
            exact ⟨Or.inr rfl, _, _, wlkR, Wk.refl _, rfl, rfl, rfl, rfl⟩
          · have h3 : zo r.cond = 0 := by simpa using h
            rw [if_pos h3]
            refine qm ?_
            (repeat refine qb ?_); refine qa ?_
            repeat (first | refine zR ?_ | refine zK ?_ | refine zM ?_ | refine zB ?_ | refine zA ?_ | refine zS ?_ | refine zL ?_)
            refine qn rfl (qg rfl rfl rfl rfl (obls_h r.obls hr.obls) rfl rfl ?_)
            repeat (first | refine zR ?_ | refine zK ?_ | refine zM ?_ | refine zB ?_ | refine zA ?_ | refine zS ?_ | refine zL ?_)
            refine qc ?_
            (repeat refine qb ?_); refine qk ?_
            exact ⟨Or.inr rfl, _, _, wlkR, Wk.refl _, rfl, rfl, rfl, rfl⟩
mutual
def polP : Pol → List PV
  | .mk id set alg target rules kids obls => [pS id, pB set, pI alg, tgtP target, .sl 5 (rules.map zt), .sl 7 (polPs kids), zQ obls]
def polPs : List Pol → List (List PV)
  | [] => []
  | k :: r => polP k :: polPs r
end
theorem polPs_eq : ∀ l : List Pol, polPs l = l.map polP
  | [] => rfl
  | k :: r => by rw [polPs, polPs_eq r]; rfl
theorem zf (p : Pol) : polP p = [pS p.id, pB p.set, pI p.alg, tgtP p.target, .sl 5 (p.rules.map zt), .sl 7 (p.kids.map polP), zQ p.obls] := by
  cases p
  rw [polP, polPs_eq]; rfl
structure HeadFit (p : Pol) : Prop where
  id : p.id.size ≤ reachBytes
  tgt : TarFit p.target
  rules : ∀ r ∈ p.rules, RulFit r
  obls : ∀ o ∈ p.obls, o.Fit
  nr : p.rules.length ≤ reachBytes
  nk : p.kids.length ≤ reachBytes
theorem whead_h (w : Wlk) (p : Pol) (hp : HeadFit p) : zZ Tryz.prog 67 [.ptr 1000000 0, .p (.agg (polP p))] (wlkO w) (.p (pI (zF w p).1)) (wlkO (zF w p).2) := by
  have H := wname_h w.met w.rules p.id hp.id
  have l1 : ((p.rules.map zt).length) = p.rules.length := by simp
  have l2 : ((p.kids.map polP).length) = p.kids.length := by simp
  rw [zf]
  unfold zF
  cases hn : zO w.met p.id with
  | false =>
    rw [hn] at H
    simp only [Bool.false_and, Bool.false_eq_true, if_false]
    refine ja (ts := [4]) Tryz.func67 (by kernel_rfl) rfl rfl rfl ?_
    (repeat refine qb ?_); refine qa ?_
    repeat (first | refine zR ?_ | refine zK ?_ | refine zM ?_ | refine zB ?_ | refine zA ?_ | refine zS ?_ | refine zL ?_)
    refine qc ?_
    (repeat refine qb ?_); refine qa ?_
    repeat (first | refine zR ?_ | refine zK ?_ | refine zM ?_ | refine zB ?_ | refine zA ?_ | refine zS ?_ | refine zL ?_)
    refine qn rfl (zr wlkR rfl rfl rfl rfl rfl rfl (H) rfl rfl rfl ?_)
    repeat (first | refine zR ?_ | refine zK ?_ | refine zM ?_ | refine zB ?_ | refine zA ?_ | refine zS ?_ | refine zL ?_)
    refine qc ?_
    (repeat refine qb ?_); refine qf rfl (fun h => ?_) (fun h => ?_)
    · (repeat refine qb ?_); refine qa ?_
      repeat (first | refine zR ?_ | refine zK ?_ | refine zM ?_ | refine zB ?_ | refine zA ?_ | refine zS ?_ | refine zL ?_)
      refine qc ?_
      (repeat refine qb ?_); refine qk ?_
      exact ⟨Or.inr rfl, _, _, wlkR, Wk.refl _, rfl, rfl, rfl, rfl⟩
    · cases h
  | true =>
    rw [hn] at H
    refine ja (ts := [4]) Tryz.func67 (by kernel_rfl) rfl rfl rfl ?_
    (repeat refine qb ?_); refine qa ?_
    repeat (first | refine zR ?_ | refine zK ?_ | refine zM ?_ | refine zB ?_ | refine zA ?_ | refine zS ?_ | refine zL ?_)
    refine qc ?_
    (repeat refine qb ?_); refine qa ?_
    repeat (first | refine zR ?_ | refine zK ?_ | refine zM ?_ | refine zB ?_ | refine zA ?_ | refine zS ?_ | refine zL ?_)
    refine qn rfl (zr wlkR rfl rfl rfl rfl rfl rfl (H) rfl rfl rfl ?_)
    repeat (first | refine zR ?_ | refine zK ?_ | refine zM ?_ | refine zB ?_ | refine zA ?_ | refine zS ?_ | refine zL ?_)
    by_cases h1 : p.alg < 1
    · rw [show decide (p.alg < 1) = true from decide_eq_true h1]
      repeat (first | refine zR ?_ | refine zK ?_ | refine zM ?_ | refine zB ?_ | refine zA ?_ | refine zS ?_ | refine zL ?_)
      refine qc ?_
      (repeat refine qb ?_); refine qf rfl (fun h => ?_) (fun h => ?_)
      · rw [if_neg (by simp; omega)]
        (repeat refine qb ?_); refine qa ?_
        repeat (first | refine zR ?_ | refine zK ?_ | refine zM ?_ | refine zB ?_ | refine zA ?_ | refine zS ?_ | refine zL ?_)
        refine qc ?_
        (repeat refine qb ?_); refine qk ?_
        exact ⟨Or.inr rfl, _, _, wlkR, Wk.refl _, rfl, rfl, rfl, rfl⟩
      · cases h
    · rw [show decide (p.alg < 1) = false from decide_eq_false h1]
      repeat (first | refine zR ?_ | refine zK ?_ | refine zM ?_ | refine zB ?_ | refine zA ?_ | refine zS ?_ | refine zL ?_)
      refine qc ?_
      (repeat refine qb ?_); refine qf rfl (fun h => ?_) (fun h => ?_)
      · have h2 : 6 < p.alg := by simpa using h
        rw [if_neg (by simp; omega)]
        (repeat refine qb ?_); refine qa ?_
        repeat (first | refine zR ?_ | refine zK ?_ | refine zM ?_ | refine zB ?_ | refine zA ?_ | refine zS ?_ | refine zL ?_)
        refine qc ?_
        (repeat refine qb ?_); refine qk ?_
        exact ⟨Or.inr rfl, _, _, wlkR, Wk.refl _, rfl, rfl, rfl, rfl⟩
      · have h2 : ¬ 6 < p.alg := by simpa using h
        rw [if_pos (by simp; omega)]
        unfold headE
        refine qm ?_
        (repeat refine qb ?_); refine qs (by kernel_rfl) ?_
        repeat (refine qr qe rfl (by exact True.intro) rfl ?_)
        refine qQ ?_
        rw [l1, l2]
        (repeat refine qb ?_); refine qf rfl (fun h => ?_) (fun h => ?_)
        · rw [if_pos (by revert h; cases p.set <;> simp)]
          (repeat refine qb ?_); refine qa ?_
          repeat (first | refine zR ?_ | refine zK ?_ | refine zM ?_ | refine zB ?_ | refine zA ?_ | refine zS ?_ | refine zL ?_)
          refine qc ?_
          (repeat refine qb ?_); refine qk ?_
          exact ⟨Or.inr rfl, _, _, wlkR, Wk.refl _, rfl, rfl, rfl, rfl⟩
        · rw [if_neg (by revert h; cases p.set <;> simp)]
          refine qm ?_
          (repeat refine qb ?_); refine qa ?_
          repeat (first | refine zR ?_ | refine zK ?_ | refine zM ?_ | refine zB ?_ | refine zA ?_ | refine zS ?_ | refine zL ?_)
          refine qn rfl (qg rfl rfl rfl rfl (target_h p.target hp.tgt) rfl rfl ?_)
          repeat (first | refine zR ?_ | refine zK ?_ | refine zM ?_ | refine zB ?_ | refine zA ?_ | refine zS ?_ | refine zL ?_)
          refine qc ?_
          (repeat refine qb ?_); refine qa ?_
          repeat (first | refine zR ?_ | refine zK ?_ | refine zM ?_ | refine zB ?_ | refine zA ?_ | refine zS ?_ | refine zL ?_)
          refine qc ?_
          (repeat refine qb ?_); refine qf rfl (fun h => ?_) (fun h => ?_)
          · have h3 : ¬ zI p.target = 0 := by simpa using h
            rw [if_neg h3]
            (repeat refine qb ?_); refine qa ?_
            repeat (first | refine zR ?_ | refine zK ?_ | refine zM ?_ | refine zB ?_ | refine zA ?_ | refine zS ?_ | refine zL ?_)
            refine qc ?_
            (repeat refine qb ?_); refine qk ?_
            exact ⟨Or.inr rfl, _, _, wlkR, Wk.refl _, rfl, rfl, rfl, rfl⟩
          · have h3 : zI p.target = 0 := by simpa using h
            rw [if_pos h3]
            refine qm ?_
            (repeat refine qb ?_); refine qa ?_
            repeat (first | refine zR ?_ | refine zK ?_ | refine zM ?_ | refine zB ?_ | refine zA ?_ | refine zS ?_ | refine zL ?_)
            refine qn rfl (qg rfl rfl rfl rfl (obls_h p.obls hp.obls) rfl rfl ?_)
            repeat (first | refine zR ?_ | refine zK ?_ | refine zM ?_ | refine zB ?_ | refine zA ?_ | refine zS ?_ | refine zL ?_)
            refine qc ?_
            (repeat refine qb ?_); refine qa ?_
            repeat (first | refine zR ?_ | refine zK ?_ | refine zM ?_ | refine zB ?_ | refine zA ?_ | refine zS ?_ | refine zL ?_)
            refine qc ?_
            (repeat refine qb ?_); refine qf rfl (fun h => ?_) (fun h => ?_)
            · have h4 : ¬ oblsS p.obls = 0 := by simpa using h
              rw [if_neg h4]
              (repeat refine qb ?_); refine qa ?_
              repeat (first | refine zR ?_ | refine zK ?_ | refine zM ?_ | refine zB ?_ | refine zA ?_ | refine zS ?_ | refine zL ?_)
              refine qc ?_
              (repeat refine qb ?_); refine qk ?_
              exact ⟨Or.inr rfl, _, _, wlkR, Wk.refl _, rfl, rfl, rfl, rfl⟩
            · have h4 : oblsS p.obls = 0 := by simpa using h
              rw [if_pos h4]
              refine qm ?_
              (repeat refine qb ?_); refine qs (by kernel_rfl) ?_
              repeat (refine qr qe rfl (by exact True.intro) rfl ?_)
              refine qQ ?_
              rw [l1, l2]
              (repeat refine qb ?_); refine qf rfl (fun h => ?_) (fun h => ?_)
              · rw [if_pos (by simp at h; omega)]
                (repeat refine qb ?_); refine qa ?_
                repeat (first | refine zR ?_ | refine zK ?_ | refine zM ?_ | refine zB ?_ | refine zA ?_ | refine zS ?_ | refine zL ?_)
                refine qc ?_
                (repeat refine qb ?_); refine qk ?_
                exact ⟨Or.inr rfl, _, _, wlkR, Wk.refl _, rfl, rfl, rfl, rfl⟩
              · rw [if_neg (by simp at h; omega)]
                refine qm ?_
                (repeat refine qb ?_); refine qa ?_
                repeat (first | refine zR ?_ | refine zK ?_ | refine zM ?_ | refine zB ?_ | refine zA ?_ | refine zS ?_ | refine zL ?_)
                refine qc ?_
                (repeat refine qb ?_); refine qk ?_
                exact ⟨Or.inr rfl, _, _, wlkR, Wk.refl _, rfl, rfl, rfl, rfl⟩
def PolFit : Nat → Pol → Prop
  | 0, _ => True
  | n + 1, p => HeadFit p ∧ ∀ k ∈ p.kids, PolFit n k
theorem wpol_h : ∀ (n : Nat) (hn : n ≤ 4) (w : Wlk) (p : Pol), lim w → PolFit n p → zZ Tryz.prog 44 [.ptr 1000000 0, .p (.agg (polP p)), .p (pI (5 - n))] (wlkO w) (.p (pI (polS n w p).1)) (wlkO (polS n w p).2)
  | 0, _, w, p, _, _ => by
    rw [zf]
    refine ja (ts := [6]) Tryz.func44 (by kernel_rfl) rfl rfl rfl ?_
    (repeat refine qb ?_); refine qa ?_
    repeat (first | refine zR ?_ | refine zK ?_ | refine zM ?_ | refine zB ?_ | refine zA ?_ | refine zS ?_ | refine zL ?_)
    refine qc ?_
    (repeat refine qb ?_); refine qa ?_
    repeat (first | refine zR ?_ | refine zK ?_ | refine zM ?_ | refine zB ?_ | refine zA ?_ | refine zS ?_ | refine zL ?_)
    refine qc ?_
    (repeat refine qb ?_); refine qf rfl (fun h => ?_) (fun h => ?_)
    · (repeat refine qb ?_); refine qa ?_
      repeat (first | refine zR ?_ | refine zK ?_ | refine zM ?_ | refine zB ?_ | refine zA ?_ | refine zS ?_ | refine zL ?_)
      refine qc ?_
      (repeat refine qb ?_); refine qk ?_
      exact ⟨Or.inr rfl, _, _, wlkR, Wk.refl _, rfl, rfl, rfl, rfl⟩
    · cases h
  | n + 1, hn, w, p, hw, hf => by
    have H := whead_h w p hf.1
    have IH := fun w k hw hk => wpol_h n (by omega) w k hw hk
    have l1 : ((p.rules.map zt).length) = p.rules.length := by simp
    have l2 : ((p.kids.map polP).length) = p.kids.length := by simp
    rw [zf] at H ⊢
    rw [polS]
    have hlen := hf.1.nr
    have hlen2 := hf.1.nk
    unfold reachBytes at hlen hlen2
    refine ja (ts := [6]) Tryz.func44 (by kernel_rfl) rfl rfl rfl ?_
    (repeat refine qb ?_); refine qa ?_
    repeat (first | refine zR ?_ | refine zK ?_ | refine zM ?_ | refine zB ?_ | refine zA ?_ | refine zS ?_ | refine zL ?_)
    refine qc ?_
    (repeat refine qb ?_); refine qa ?_
    repeat (first | refine zR ?_ | refine zK ?_ | refine zM ?_ | refine zB ?_ | refine zA ?_ | refine zS ?_ | refine zL ?_)
    refine qc ?_
    (repeat refine qb ?_); refine qf rfl (fun h => ?_) (fun h => ?_)
    · exfalso
      simp at h
      omega
    · refine qm ?_
      (repeat refine qb ?_); refine qa ?_
      repeat (first | refine zR ?_ | refine zK ?_ | refine zM ?_ | refine zB ?_ | refine zA ?_ | refine zS ?_ | refine zL ?_)
      refine qn rfl (zr wlkR rfl rfl rfl rfl rfl rfl (H) rfl rfl rfl ?_)
      repeat (first | refine zR ?_ | refine zK ?_ | refine zM ?_ | refine zB ?_ | refine zA ?_ | refine zS ?_ | refine zL ?_)
      refine qc ?_
      (repeat refine qb ?_); refine qa ?_
      repeat (first | refine zR ?_ | refine zK ?_ | refine zM ?_ | refine zB ?_ | refine zA ?_ | refine zS ?_ | refine zL ?_)
      refine qc ?_
      (repeat refine qb ?_); refine qf rfl (fun h => ?_) (fun h => ?_)
      · have h1 : ¬ (zF w p).1 = 0 := by simpa using h
        rw [if_neg h1]
        (repeat refine qb ?_); refine qa ?_
        repeat (first | refine zR ?_ | refine zK ?_ | refine zM ?_ | refine zB ?_ | refine zA ?_ | refine zS ?_ | refine zL ?_)
        refine qc ?_
        (repeat refine qb ?_); refine qk ?_
        exact ⟨Or.inr rfl, _, _, wlkR, Wk.refl _, rfl, rfl, rfl, rfl⟩
      · have h1 : (zF w p).1 = 0 := by simpa using h
        rw [if_pos h1]
        have hw1 : lim (zF w p).2 := hw
        generalize (zF w p).2 = w1 at *
        refine qm ?_
        (repeat refine qb ?_); refine qa ?_
        repeat (first | refine zR ?_ | refine zK ?_ | refine zM ?_ | refine zB ?_ | refine zA ?_ | refine zS ?_ | refine zL ?_)
        refine qc ?_
        (repeat refine qb ?_); refine ql ?_
        refine SW.wk (qq [0, 2, 4, 23, 24, 25] [(1000000, 1000000), (1000001, 1000001), (4, 4)] rfl rfl) ?_
        refine qO (fun m s => ∃ (k : Nat) (kk : Int) (wk : Wlk), k ≤ p.rules.length ∧ m = p.rules.length - k ∧ kk = k ∧ (seqS zq w1 (p.rules.take k)).1 = 0 ∧ wk = (seqS zq w1 (p.rules.take k)).2 ∧
          s = ⟨52, [(0, .ptr 1000000 0), (2, .p (pI (5 - (n + 1 : Nat)))), (4, .ptr 4 0), (23, .p (.sl 5 (p.rules.map zt))), (24, .p (pI p.rules.length)), (25, .p (pI kk))], wlkO wk ++ [(4, .cells ([pS p.id, pB p.set, pI p.alg, tgtP p.target, .sl 5 (p.rules.map zt), .sl 7 (p.kids.map polP), zQ p.obls].map .p))]⟩) p.rules.length ⟨0, 0, w1, Nat.zero_le _, rfl, rfl, rfl, rfl, by rw [← l1]; rfl⟩ ?_
        rintro m s ⟨k, _, wk, hk, rfl, rfl, ha, hwk, rfl⟩
        have hlk : lim wk := by rw [hwk]; exact jI (P := lim) (fun w x hw h => ruleS_lim hw h) hw1 ha
        (repeat refine qb ?_); refine qa ?_
        repeat (first | refine zR ?_ | refine zK ?_ | refine zM ?_ | refine zB ?_ | refine zA ?_ | refine zS ?_ | refine zL ?_)
        refine qc ?_
        (repeat refine qb ?_); refine qf rfl (fun hlt => ?_) (fun hlt => ?_)
        · refine qm ?_
          simp only [decide_eq_true_eq] at hlt
          have hlt' : k < p.rules.length := by omega
          have hst := seqS_some hlt' ha
          rw [← hwk] at hst
          (repeat refine qb ?_); refine ql ?_
          (repeat refine qb ?_); refine qa ?_
          repeat (first | refine zR ?_ | refine zK ?_ | refine zM ?_ | refine zB ?_ | refine zA ?_ | refine zS ?_ | refine zL ?_)
          refine qw qe rfl rfl (by rw [l1]; omega) rfl ?_
          rw [qJ hlt']
          repeat (first | refine zR ?_ | refine zK ?_ | refine zM ?_ | refine zB ?_ | refine zA ?_ | refine zS ?_ | refine zL ?_)
          refine qc ?_
          have H2 := wrule_h wk hlk p.rules[k] (hf.1.rules _ (List.getElem_mem hlt'))
          (repeat refine qb ?_); refine qa ?_
          repeat (first | refine zR ?_ | refine zK ?_ | refine zM ?_ | refine zB ?_ | refine zA ?_ | refine zS ?_ | refine zL ?_)
          refine qn rfl (zr wlkR rfl rfl rfl rfl rfl rfl (H2) rfl rfl rfl ?_)
          repeat (first | refine zR ?_ | refine zK ?_ | refine zM ?_ | refine zB ?_ | refine zA ?_ | refine zS ?_ | refine zL ?_)
          refine qc ?_
          (repeat refine qb ?_); refine qa ?_
          repeat (first | refine zR ?_ | refine zK ?_ | refine zM ?_ | refine zB ?_ | refine zA ?_ | refine zS ?_ | refine zL ?_)
          refine qc ?_
          (repeat refine qb ?_); refine qf rfl (fun h => ?_) (fun h => ?_)
          · have h2 : ¬ (zq wk p.rules[k]).1 = 0 := by simpa using h
            have e : seqS zq w1 p.rules = zq wk p.rules[k] := by rw [seqS_stop (k + 1) (by rw [hst]; exact h2), hst]
            rw [e, if_neg h2]
            (repeat refine qb ?_); refine qa ?_
            repeat (first | refine zR ?_ | refine zK ?_ | refine zM ?_ | refine zB ?_ | refine zA ?_ | refine zS ?_ | refine zL ?_)
            refine qc ?_
            (repeat refine qb ?_); refine qk ?_
            exact ⟨Or.inr rfl, _, _, wlkR, Wk.refl _, rfl, rfl, rfl, rfl⟩
          · have h2 : (zq wk p.rules[k]).1 = 0 := by simpa using h
            refine qm ?_
            (repeat refine qb ?_); refine qa ?_
            repeat (first | refine zR ?_ | refine zK ?_ | refine zM ?_ | refine zB ?_ | refine zA ?_ | refine zS ?_ | refine zL ?_)
            refine qc ?_
            refine ⟨_, _, ?_, qq [0, 2, 4, 23, 24, 25] [(1000000, 1000000), (1000001, 1000001), (4, 4)] rfl rfl, k + 1, _, _, hlt', rfl, qz hlt' (by omega), by rw [hst]; exact h2, by rw [hst], rfl⟩
            omega
        · refine qK ?_
          simp only [decide_eq_false_iff_not] at hlt
          have hkk : k = p.rules.length := by omega
          subst hkk
          rw [List.take_length] at ha hwk
          rw [if_pos ha, ← hwk]
          clear hwk
          (repeat refine qb ?_); refine qa ?_
          repeat (first | refine zR ?_ | refine zK ?_ | refine zM ?_ | refine zB ?_ | refine zA ?_ | refine zS ?_ | refine zL ?_)
          refine qc ?_
          (repeat refine qb ?_); refine ql ?_
          refine SW.wk (qq [0, 2, 37, 38, 39] [(1000000, 1000000), (1000001, 1000001)] rfl rfl) ?_
          refine qO (fun m s => ∃ (k : Nat) (kk : Int) (w2 : Wlk), k ≤ p.kids.length ∧ m = p.kids.length - k ∧ kk = k ∧ (seqS (polS n) wk (p.kids.take k)).1 = 0 ∧ w2 = (seqS (polS n) wk (p.kids.take k)).2 ∧
            s = ⟨52, [(0, .ptr 1000000 0), (2, .p (pI (5 - (n + 1 : Nat)))), (37, .p (.sl 7 (p.kids.map polP))), (38, .p (pI p.kids.length)), (39, .p (pI kk))], wlkO w2⟩) p.kids.length ⟨0, 0, wk, Nat.zero_le _, rfl, rfl, rfl, rfl, by rw [← l2]; rfl⟩ ?_
          rintro m s ⟨k, _, w2, hk, rfl, rfl, ha, hwk, rfl⟩
          have hl2 : lim w2 := by rw [hwk]; exact jI (P := lim) (fun w x hw h => polS_lim n w x hw h) hlk ha
          (repeat refine qb ?_); refine qa ?_
          repeat (first | refine zR ?_ | refine zK ?_ | refine zM ?_ | refine zB ?_ | refine zA ?_ | refine zS ?_ | refine zL ?_)
          refine qc ?_
          (repeat refine qb ?_); refine qf rfl (fun hlt => ?_) (fun hlt => ?_)
          · refine qm ?_
            simp only [decide_eq_true_eq] at hlt
            have hlt' : k < p.kids.length := by omega
            have hst := seqS_some hlt' ha
            rw [← hwk] at hst
            (repeat refine qb ?_); refine ql ?_
            (repeat refine qb ?_); refine qa ?_
            repeat (first | refine zR ?_ | refine zK ?_ | refine zM ?_ | refine zB ?_ | refine zA ?_ | refine zS ?_ | refine zL ?_)
            refine qw qe rfl rfl (by rw [l2]; omega) rfl ?_
            rw [qJ hlt', zf]
            repeat (first | refine zR ?_ | refine zK ?_ | refine zM ?_ | refine zB ?_ | refine zA ?_ | refine zS ?_ | refine zL ?_)
            refine qc ?_
            have H2 := IH w2 p.kids[k] hl2 (hf.2 _ (List.getElem_mem hlt'))
            rw [zf] at H2
            (repeat refine qb ?_); refine qa ?_
            repeat (first | refine zR ?_ | refine zK ?_ | refine zM ?_ | refine zB ?_ | refine zA ?_ | refine zS ?_ | refine zL ?_)
            rw [show IntKind.i64.wrap ((5 : Int) - (n + 1 : Nat) + 1) = 5 - (n : Int) by rw [IntWalk.i64_in _ (by omega)]; omega]
            refine qn rfl (zr wlkR rfl rfl rfl rfl rfl rfl (H2) rfl rfl rfl ?_)
            repeat (first | refine zR ?_ | refine zK ?_ | refine zM ?_ | refine zB ?_ | refine zA ?_ | refine zS ?_ | refine zL ?_)
            refine qc ?_
            (repeat refine qb ?_); refine qa ?_
            repeat (first | refine zR ?_ | refine zK ?_ | refine zM ?_ | refine zB ?_ | refine zA ?_ | refine zS ?_ | refine zL ?_)
            refine qc ?_
            (repeat refine qb ?_); refine qf rfl (fun h => ?_) (fun h => ?_)
            · have h2 : ¬ (polS n w2 p.kids[k]).1 = 0 := by simpa using h
              have e : seqS (polS n) wk p.kids = polS n w2 p.kids[k] := by rw [seqS_stop (k + 1) (by rw [hst]; exact h2), hst]
              rw [e]
              (repeat refine qb ?_); refine qa ?_
              repeat (first | refine zR ?_ | refine zK ?_ | refine zM ?_ | refine zB ?_ | refine zA ?_ | refine zS ?_ | refine zL ?_)
              refine qc ?_
              (repeat refine qb ?_); refine qk ?_
              exact ⟨Or.inr rfl, _, _, wlkR, Wk.refl _, rfl, rfl, rfl, rfl⟩
            · have h2 : (polS n w2 p.kids[k]).1 = 0 := by simpa using h
              refine qm ?_
              (repeat refine qb ?_); refine qa ?_
              repeat (first | refine zR ?_ | refine zK ?_ | refine zM ?_ | refine zB ?_ | refine zA ?_ | refine zS ?_ | refine zL ?_)
              refine qc ?_
              refine ⟨_, _, ?_, qq [0, 2, 37, 38, 39] [(1000000, 1000000), (1000001, 1000001)] rfl rfl, k + 1, _, _, hlt', rfl, qz hlt' (by omega), by rw [hst]; exact h2, by rw [hst], rfl⟩
              omega
          · refine qK ?_
            simp only [decide_eq_false_iff_not] at hlt
            have hkk : k = p.kids.length := by omega
            subst hkk
            rw [List.take_length] at ha hwk
            rw [ha, ← hwk]
            (repeat refine qb ?_); refine qa ?_
            repeat (first | refine zR ?_ | refine zK ?_ | refine zM ?_ | refine zB ?_ | refine zA ?_ | refine zS ?_ | refine zL ?_)
            refine qc ?_
            (repeat refine qb ?_); refine qk ?_
            exact ⟨Or.inr rfl, _, _, wlkR, Wk.refl _, rfl, rfl, rfl, rfl⟩
theorem right_h (p : Pol) (hf : PolFit 4 p) : Holds Tryz.prog 17 [.agg (polP p)] (.p (pI (zb p))) [] := by
  have H := wpol_h 4 (Nat.le_refl _) ⟨[], 0⟩ p ⟨Int.le_refl _, by decide⟩ hf
  rw [zf] at H ⊢
  refine qA (ts := [2]) Tryz.func17 (by kernel_rfl) rfl rfl rfl ?_
  (repeat refine qb ?_); refine qa ?_
  repeat (first | refine zR ?_ | refine zK ?_ | refine zM ?_ | refine zB ?_ | refine zA ?_ | refine zS ?_ | refine zL ?_)
  refine qc ?_
  (repeat refine qb ?_); refine qa ?_
  repeat (first | refine zR ?_ | refine zK ?_ | refine zM ?_ | refine zB ?_ | refine zA ?_ | refine zS ?_ | refine zL ?_)
  refine qc ?_
  (repeat refine qb ?_); refine qa ?_
  repeat (first | refine zR ?_ | refine zK ?_ | refine zM ?_ | refine zB ?_ | refine zA ?_ | refine zS ?_ | refine zL ?_)
  refine qn rfl (zr [(6, 1000000), (4, 1000001)] rfl rfl rfl rfl rfl rfl (H) rfl rfl rfl ?_)
  repeat (first | refine zR ?_ | refine zK ?_ | refine zM ?_ | refine zB ?_ | refine zA ?_ | refine zS ?_ | refine zL ?_)
  refine qc ?_
  (repeat refine qb ?_); refine qk ?_
  exact ⟨Or.inr rfl, _, _, [], Wk.refl _, rfl, rfl, rfl, rfl⟩
end Go.Proofs.YtppfcacnofjmdaaGreatDoor
namespace Go.Proofs.YtppfcacnofjmdaaGreatDoor
set_option linter.unusedVariables false
set_option linter.unusedSimpArgs false
open Go.RowKit
theorem opens_tint : Opens Tryz.prog 3 1 rInt := opens_int Tryz.underlying3 (by kernel_rfl)
theorem opens_tstr : Opens Tryz.prog 9 1 rStr := opens_str Tryz.underlying9 (by kernel_rfl)
theorem opens_tbool : Opens Tryz.prog 4 1 rBool := opens_bool Tryz.underlying4 (by kernel_rfl)
set_option maxRecDepth 100000 in
theorem opens_val : Opens Tryz.prog 52 3 rVal := by
  refine ⟨by kernel_rfl, fun H enc w fuel cs x h hw => ?_⟩
  obtain ⟨hlen, m, _, hf⟩ := jl Tryz.underlying52 h hw
  have hc : Tryz.prog.cellsOf 52 = 3 := by kernel_rfl
  rw [hc] at hlen
  match cs, hlen with
  | [c0, c1, c2], _ =>
    obtain ⟨k, hk⟩ := opens_tint.field (off := 0) (hf 0 _ rfl)
    obtain ⟨n, hn⟩ := opens_tint.field (off := 1) (hf 1 _ rfl)
    obtain ⟨s, hs⟩ := opens_tstr.field (off := 2) (hf 2 _ rfl)
    simp only [rInt, rStr, List.drop_succ_cons, List.drop_zero, List.take_succ_cons, List.take_zero, List.cons.injEq, and_true] at hk hn hs
    obtain ⟨rfl, hk⟩ := hk
    obtain ⟨rfl, hn⟩ := hn
    obtain ⟨rfl, hs⟩ := hs
    exact ⟨⟨k, n, s⟩, rfl, hk, hn, hs⟩
theorem opens_vals : Opens Tryz.prog 86 1 (rSl rVal 3) := wK Tryz.underlying86 (by kernel_rfl) (by decide +kernel) (by omega) opens_val
end Go.Proofs.YtppfcacnofjmdaaGreatDoor
namespace Go.Proofs.YtppfcacnofjmdaaGreatDoor
set_option linter.unusedVariables false
set_option linter.unusedSimpArgs false
open Go.RowKit
set_option maxRecDepth 100000 in
theorem opens_atr : Opens Tryz.prog 54 3 rAtr := by
  refine ⟨by kernel_rfl, fun H enc w fuel cs x h hw => ?_⟩
  obtain ⟨hlen, m, _, hf⟩ := jl Tryz.underlying54 h hw
  have hc : Tryz.prog.cellsOf 54 = 3 := by kernel_rfl
  rw [hc] at hlen
  match cs, hlen with
  | [c0, c1, c2], _ =>
    obtain ⟨k, hk⟩ := opens_tint.field (off := 0) (hf 0 _ rfl)
    obtain ⟨n, hn⟩ := opens_tstr.field (off := 1) (hf 1 _ rfl)
    obtain ⟨s, hs⟩ := opens_tbool.field (off := 2) (hf 2 _ rfl)
    simp only [rInt, rStr, rBool, List.drop_succ_cons, List.drop_zero, List.take_succ_cons, List.take_zero, List.cons.injEq, and_true] at hk hn hs
    obtain ⟨rfl, hk⟩ := hk
    obtain ⟨rfl, hn⟩ := hn
    obtain rfl := hs
    exact ⟨⟨k, n, s⟩, rfl, hk, hn⟩
set_option maxRecDepth 100000 in
theorem opens_mat : Opens Tryz.prog 62 7 rMat := by
  refine ⟨by kernel_rfl, fun H enc w fuel cs x h hw => ?_⟩
  obtain ⟨hlen, m, _, hf⟩ := jl Tryz.underlying62 h hw
  have hc : Tryz.prog.cellsOf 62 = 7 := by kernel_rfl
  rw [hc] at hlen
  match cs, hlen with
  | [c0, c1, c2, c3, c4, c5, c6], _ =>
    obtain ⟨a, ha⟩ := opens_atr.field (off := 0) (hf 0 _ rfl)
    obtain ⟨o, ho⟩ := opens_tint.field (off := 3) (hf 1 _ rfl)
    obtain ⟨v, hv⟩ := opens_val.field (off := 4) (hf 2 _ rfl)
    simp only [rInt, rAtr, rVal, Atr.cells, Val.cells, List.drop_succ_cons, List.drop_zero, List.take_succ_cons, List.take_zero, List.cons.injEq, and_true] at ha ho hv
    obtain ⟨⟨rfl, rfl, rfl⟩, ha⟩ := ha
    obtain ⟨rfl, ho⟩ := ho
    obtain ⟨⟨rfl, rfl, rfl⟩, hv⟩ := hv
    exact ⟨⟨a, o, v⟩, rfl, ha, ho, hv⟩
set_option maxRecDepth 100000 in
theorem opens_giv : Opens Tryz.prog 88 3 rGiv := by
  refine ⟨by kernel_rfl, fun H enc w fuel cs x h hw => ?_⟩
  obtain ⟨hlen, m, _, hf⟩ := jl Tryz.underlying88 h hw
  have hc : Tryz.prog.cellsOf 88 = 3 := by kernel_rfl
  rw [hc] at hlen
  match cs, hlen with
  | [c0, c1, c2], _ =>
    obtain ⟨k, hk⟩ := opens_tint.field (off := 0) (hf 0 _ rfl)
    obtain ⟨n, hn⟩ := opens_tstr.field (off := 1) (hf 1 _ rfl)
    obtain ⟨s, hs⟩ := opens_vals.field (off := 2) (hf 2 _ rfl)
    simp only [rInt, rStr, rSl, List.drop_succ_cons, List.drop_zero, List.take_succ_cons, List.take_zero, List.cons.injEq, and_true] at hk hn hs
    obtain ⟨rfl, hk⟩ := hk
    obtain ⟨rfl, hn⟩ := hn
    obtain ⟨A, c, rfl, h1, h2, h3⟩ := hs
    exact ⟨⟨k, n, s⟩, A, c, rfl, hk, hn, h1, h2, h3⟩
theorem opens_givs : Opens Tryz.prog 29 1 (rSl rGiv 3) := wK Tryz.underlying29 (by kernel_rfl) (by decide +kernel) (by omega) opens_giv
theorem opens_mats : Opens Tryz.prog 63 1 (rSl rMat 7) := wK Tryz.underlying63 (by kernel_rfl) (by decide +kernel) (by omega) opens_mat
theorem opens_matss : Opens Tryz.prog 64 1 (rSl (rSl rMat 7) 1) := wK Tryz.underlying64 (by kernel_rfl) (by decide +kernel) (by omega) opens_mats
theorem opens_tar : Opens Tryz.prog 23 1 (rSl (rSl (rSl rMat 7) 1) 1) := wK Tryz.underlying23 (by kernel_rfl) (by decide +kernel) (by omega) opens_matss
end Go.Proofs.YtppfcacnofjmdaaGreatDoor
namespace Go.Proofs.YtppfcacnofjmdaaGreatDoor
set_option linter.unusedVariables false
set_option linter.unusedSimpArgs false
open Go.RowKit
set_option maxRecDepth 100000 in
theorem opens_obl : Opens Tryz.prog 43 3 rObl := by
  refine ⟨by kernel_rfl, fun H enc w fuel cs x h hw => ?_⟩
  obtain ⟨hlen, m, _, hf⟩ := jl Tryz.underlying43 h hw
  have hc : Tryz.prog.cellsOf 43 = 3 := by kernel_rfl
  rw [hc] at hlen
  match cs, hlen with
  | [c0, c1, c2], _ =>
    obtain ⟨k, hk⟩ := opens_tint.field (off := 0) (hf 0 _ rfl)
    obtain ⟨n, hn⟩ := opens_tint.field (off := 1) (hf 1 _ rfl)
    obtain ⟨s, hs⟩ := opens_tstr.field (off := 2) (hf 2 _ rfl)
    simp only [rInt, rStr, List.drop_succ_cons, List.drop_zero, List.take_succ_cons, List.take_zero, List.cons.injEq, and_true] at hk hn hs
    obtain ⟨rfl, hk⟩ := hk
    obtain ⟨rfl, hn⟩ := hn
    obtain ⟨rfl, hs⟩ := hs
    exact ⟨⟨k, n, s⟩, rfl, hk, hn, hs⟩
set_option maxRecDepth 100000 in
theorem opens_nod : Opens Tryz.prog 56 7 rNod := by
  refine ⟨by kernel_rfl, fun H enc w fuel cs x h hw => ?_⟩
  obtain ⟨hlen, m, _, hf⟩ := jl Tryz.underlying56 h hw
  have hc : Tryz.prog.cellsOf 56 = 7 := by kernel_rfl
  rw [hc] at hlen
  match cs, hlen with
  | [c0, c1, c2, c3, c4, c5, c6], _ =>
    obtain ⟨o, ho⟩ := opens_tint.field (off := 0) (hf 0 _ rfl)
    obtain ⟨v, hv⟩ := opens_val.field (off := 1) (hf 1 _ rfl)
    obtain ⟨a, ha⟩ := opens_atr.field (off := 4) (hf 2 _ rfl)
    simp only [rInt, rAtr, rVal, Atr.cells, Val.cells, List.drop_succ_cons, List.drop_zero, List.take_succ_cons, List.take_zero, List.cons.injEq, and_true] at ha ho hv
    obtain ⟨⟨rfl, rfl, rfl⟩, ha⟩ := ha
    obtain ⟨rfl, ho⟩ := ho
    obtain ⟨⟨rfl, rfl, rfl⟩, hv⟩ := hv
    exact ⟨⟨o, v, a⟩, rfl, ho, hv, ha⟩
theorem opens_obls : Opens Tryz.prog 26 1 (rSl rObl 3) := wK Tryz.underlying26 (by kernel_rfl) (by decide +kernel) (by omega) opens_obl
theorem opens_nods : Opens Tryz.prog 50 1 (rSl rNod 7) := wK Tryz.underlying50 (by kernel_rfl) (by decide +kernel) (by omega) opens_nod
theorem obl_pv {w : World} {cs : List Value} {x : Obli} (h : rObl w cs x) : rPV (fun _ => True) w cs x.pv := by
  rw [h.1]; exact plain_rPV (xs := [.int .i64 x.on, .int .i64 x.kind, .string x.arg]) (by simp [plain])
theorem nod_pv {w : World} {cs : List Value} {x : Nod} (h : rNod w cs x) : rPV (fun _ => True) w cs x.pv := by
  rw [h.1]; exact plain_rPV (xs := [.int .i64 x.op, .int .i64 x.val.kind, .int .i64 x.val.n, .string x.val.s, .int .i64 x.attr.cat, .string x.attr.name, .bool x.attr.must]) (by simp [plain])
end Go.Proofs.YtppfcacnofjmdaaGreatDoor
namespace Go.Proofs.YtppfcacnofjmdaaGreatDoor
set_option linter.unusedVariables false
set_option linter.unusedSimpArgs false
open Go.RowKit
theorem SlV.rel {α : Type} {R : Rp α} {f : α → List PV} {z : Nat} {w : World} {v : Value} {l : List α} (h : SlV R z w v l) (hz : ∀ x, (f x).length = z ∧ (f x).all oneP = true) (hf : ∀ x ∈ l, ∀ cs, R w cs x → rPV (fun _ => True) w cs (f x)) : RelP (fun _ => True) w (.sl z (l.map f)) v := by
  obtain ⟨A, c, rfl, h1, h2, h3⟩ := h
  exact rel_sl h3 h1 h2 hz hf
theorem SlV.fit {α : Type} {R : Rp α} {size : Nat} {w : World} {v : Value} {l : List α} {F : α → Prop} (h : SlV R size w v l) (hR : ∀ cs x, R w cs x → F x) : (∀ x ∈ l, F x) ∧ l.length ≤ reachBytes := by
  obtain ⟨A, c, rfl, h1, h2, h3⟩ := h
  exact ⟨h3.fit hR, h2.1⟩
theorem jf {ok : Nat → Prop} {w : World} {c : Value} {cs : List Value} {p : PV} {ps : List PV} (h : RelP ok w p c) (t : rPV ok w cs ps) : rPV ok w (c :: cs) (p :: ps) := by
  refine ⟨by simp [t.1], fun j s u hs hu => ?_⟩
  cases j with
  | zero => simp at hs hu; subst hs; subst hu; exact h
  | succ j => exact t.2 j s u (by simpa using hs) (by simpa using hu)
theorem rPV_nil {ok : Nat → Prop} {w : World} : rPV ok w [] [] := ⟨rfl, fun j s u hs _ => by simp at hs⟩
set_option maxRecDepth 100000 in
theorem opens_rul : Opens Tryz.prog 59 5 rRul := by
  refine ⟨by kernel_rfl, fun H enc w fuel cs x h hw => ?_⟩
  obtain ⟨hlen, m, _, hf⟩ := jl Tryz.underlying59 h hw
  have hc : Tryz.prog.cellsOf 59 = 5 := by kernel_rfl
  rw [hc] at hlen
  match cs, hlen with
  | [c0, c1, c2, c3, c4], _ =>
    obtain ⟨o, ho⟩ := opens_tstr.field (off := 0) (hf 0 _ rfl)
    obtain ⟨b, hb⟩ := opens_tbool.field (off := 1) (hf 1 _ rfl)
    obtain ⟨t, h2⟩ := opens_tar.field (off := 2) (hf 2 _ rfl)
    obtain ⟨n, h3⟩ := opens_nods.field (off := 3) (hf 3 _ rfl)
    obtain ⟨l, h4⟩ := opens_obls.field (off := 4) (hf 4 _ rfl)
    simp only [rStr, rBool, List.drop_succ_cons, List.drop_zero, List.take_succ_cons, List.take_zero, List.cons.injEq, and_true] at ho hb h2 h3 h4
    obtain ⟨rfl, ho⟩ := ho
    subst hb
    exact ⟨⟨o, b, t, n, l⟩, c2, c3, c4, rfl, ho, .of h2, .of h3, .of h4⟩
theorem opens_ruls : Opens Tryz.prog 24 1 (rSl rRul 5) := wK Tryz.underlying24 (by kernel_rfl) (by decide +kernel) (by omega) opens_rul
theorem tar_pv {w : World} {v : Value} {t : Tar} (h : SlV rTar' 1 w v t) : RelP (fun _ => True) w (tgtP t) v := by
  obtain ⟨A, c, rfl, h1, h2, h3⟩ := h
  exact tgt_rel h3 h1 h2
theorem rul_pv {w : World} {cs : List Value} {x : Rul} (h : rRul w cs x) : rPV (fun _ => True) w cs (zt x) := by
  obtain ⟨c2, c3, c4, rfl, _, h2, h3, h4⟩ := h
  exact jf (.v rfl) (jf (.v rfl) (jf (tar_pv h2) (jf (h3.rel (fun x => ⟨rfl, rfl⟩) fun x _ cs h => nod_pv h) (jf (h4.rel (fun x => ⟨rfl, rfl⟩) fun x _ cs h => obl_pv h) rPV_nil))))
theorem rul_fit {w : World} {cs : List Value} {x : Rul} (h : rRul w cs x) : RulFit x := by
  obtain ⟨c2, c3, c4, rfl, h1, ⟨A, c, rfl, _, _, h2⟩, h3, h4⟩ := h
  exact ⟨h1, tgt_fit h2, (h3.fit fun _ _ h => h.2).1, (h4.fit fun _ _ h => h.2).1⟩
def rPolX : Rp Pol := fun w cs p => ∃ n, rPolN n w cs p
def OpensS {α : Type} (P : Program) (t : TypeId) (size : Nat) (R : Rp α) (s : Nat) : Prop :=
  P.cellsOf t = size ∧ ∀ (H : Type) (enc : TypeId × Value → H) (w : World) (fuel : Nat) (cs : List Value) (x : DataW H × List MemPlace), SizeOf.sizeOf x.1 < s →
    DataW.trod enc P w 0 (fun _ => true) true fuel t cs = some x → (∀ n ∈ x.1.weights P t, n ≤ reachBytes) → ∃ y, R w cs y
theorem sl_openS {α : Type} {P : Program} {t e : TypeId} {size s : Nat} {R : Rp α} (ht : P.underlying t = some (.slice e)) (hb : 1 ≤ P.bytesOf e) (hs : 1 ≤ size) (he : OpensS P e size R s)
    {H : Type} {enc : TypeId × Value → H} {w : World} {fuel : Nat} {cs : List Value} {x : DataW H × List MemPlace} (hx : SizeOf.sizeOf x.1 ≤ s) (h : DataW.trod enc P w 0 (fun _ => true) true fuel t cs = some x) (hw : ∀ n ∈ x.1.weights P t, n ≤ reachBytes) : ∃ y, rSl R size w cs y := by
  rcases Go.Deep.open_slice ht h with ⟨rfl, _⟩ | ⟨a, len, cap, m, n, D, Pl, rfl, _, hlc, hcm, hm, rfl, hel⟩
  · exact ⟨[], none, 0, rfl, Nat.le_refl _, ⟨Nat.zero_le _, Nat.zero_le _⟩, SlAt.nil⟩
  · simp only [if_true] at hm
    subst hm
    have hcap : m ≤ reachBytes := by
      have h1 := hw ((((List.range len).map D).length + ((List.range (m - len)).map fun j => D (len + j)).length) * P.bytesOf e) (by simp [DataW.weights, ht])
      simp only [List.length_map, List.length_range] at h1
      have h2 : len + (m - len) = m := by omega
      rw [h2] at h1
      exact Nat.le_trans (Nat.le_mul_of_pos_right m hb) h1
    have hcap' : m ≤ maxLen := by unfold maxLen; unfold reachBytes at hcap; omega
    have hsz : ∀ i, i < m → SizeOf.sizeOf (D i) < s := fun i hi => by
      simp only [DataW.slice.sizeOf_spec] at hx
      rcases Nat.lt_or_ge i len with hil | hil
      · have : D i ∈ (List.range len).map D := List.mem_map.2 ⟨i, List.mem_range.2 hil, rfl⟩
        have := List.sizeOf_lt_of_mem this
        omega
      · have : D i ∈ (List.range (m - len)).map fun j => D (len + j) := List.mem_map.2 ⟨i - len, List.mem_range.2 (by omega), by rw [show len + (i - len) = i by omega]⟩
        have := List.sizeOf_lt_of_mem this
        omega
    have hcell : ∀ i, i < m → ∃ cs', cs'.length = size ∧ (∀ j u, cs'[j]? = some u → w.cell? ((a.add (i * size)).add j) = some u) ∧ ∃ y, R w cs' y := fun i hi => by
      obtain ⟨cs', h1, h2⟩ := hel i hi
      rw [he.1] at h1
      obtain ⟨_, h3, h4⟩ := World.cells?_some h1
      refine ⟨cs', h3, fun j u hj => ?_, ?_⟩
      · have : j < size := by rw [← h3]; exact (List.getElem?_eq_some_iff.1 hj).1
        rw [h4 j this, hj]
      · refine he.2 H enc w n cs' _ (hsz i hi) h2 fun k hk => hw k ?_
        simp only [DataW.weights, ht, List.mem_cons, List.mem_append]
        rcases Nat.lt_or_ge i len with hil | hil
        · exact Or.inr (Or.inl (jc (List.mem_map.2 ⟨i, List.mem_range.2 hil, rfl⟩) k hk))
        · refine Or.inr (Or.inr (jc (d := D i) (List.mem_map.2 ⟨i - len, List.mem_range.2 (by omega), ?_⟩) k hk))
          rw [show len + (i - len) = i by omega]
    rcases Nat.eq_zero_or_pos len with h0 | hpos
    · subst h0
      exact ⟨[], some a, m, rfl, Nat.zero_le _, ⟨Nat.zero_le _, hcap'⟩, SlAt.nil⟩
    · have hsp : a.spot = none ∧ a.block < w.heap.size := by
        obtain ⟨cs', h1, h2, _⟩ := hcell 0 (by omega)
        obtain ⟨u, hu⟩ : ∃ u, cs'[0]? = some u := ⟨cs'[0]'(by omega), List.getElem?_eq_getElem _⟩
        have h3 := h2 0 u hu
        simp only [Nat.zero_mul, Addr.add, if_true] at h3
        exact ⟨(lt_of_cell h3).2, (lt_of_cell h3).1⟩
      obtain ⟨b, o, sp⟩ := a
      obtain ⟨rfl, hlt⟩ := hsp
      have hadd : ∀ o k : Nat, (⟨b, o, none⟩ : Addr).add k = ⟨b, o + k, none⟩ := fun o k => by
        unfold Addr.add; split
        · simp [*]
        · rfl
      have hex : ∀ i : Nat, ∃ y : α, i < m → ∃ cs', cs'.length = size ∧ CellsAt w b (o + i * size) cs' ∧ R w cs' y := fun i => by
        by_cases hi : i < m
        · obtain ⟨cs', h1, h2, y, hy⟩ := hcell i hi
          refine ⟨y, fun _ => ⟨cs', h1, fun j u hj => ?_, hy⟩⟩
          have := h2 j u hj
          rw [hadd, hadd] at this
          exact this
        · obtain ⟨_, _, _, y, _⟩ := hcell 0 (by omega)
          exact ⟨y, fun h => absurd h hi⟩
      obtain ⟨f, hf⟩ := Classical.axiomOfChoice hex
      refine ⟨(List.range len).map f, some ⟨b, o, none⟩, m, by simp, by simpa using hlc, ⟨by simp; omega, hcap'⟩, fun _ => ⟨b, o, rfl, hlt, fun i hi => ?_⟩⟩
      have hi' : i < len := by simpa using hi
      obtain ⟨cs', h1, h2, h3⟩ := hf i (by omega)
      exact ⟨cs', h1, h2, by simpa using h3⟩
theorem struct_openS {H : Type} {enc : TypeId × Value → H} {P : Program} {w : World} {fuel : Nat} {t : TypeId} {fs : Array Field} {cs : List Value} {x : DataW H × List MemPlace} (ht : P.underlying t = some (.struct fs))
    (h : DataW.trod enc P w 0 (fun _ => true) true fuel t cs = some x) (hw : ∀ n ∈ x.1.weights P t, n ≤ reachBytes) :
    cs.length = P.cellsOf t ∧ ∃ m, ∀ (i : Nat) (f : Field), fs[i]? = some f → ∃ y, DataW.trod enc P w 0 (fun _ => true) true m f.type ((cs.drop f.offset).take (P.cellsOf f.type)) = some y ∧ (∀ n ∈ y.1.weights P f.type, n ≤ reachBytes) ∧ SizeOf.sizeOf y.1 < SizeOf.sizeOf x.1 := by
  obtain ⟨xs, n, hn, hx, hlen, hxl, hf⟩ := DataW.trod_struct ht h
  refine ⟨hlen, n, fun i f hi => ?_⟩
  have hil : i < fs.size := (Array.getElem?_eq_some_iff.1 hi).1
  have hy : xs[i]? = some (xs[i]'(by omega)) := List.getElem?_eq_getElem (by omega)
  refine ⟨_, (hf i f hi).trans hy, fun k hk => hw k ?_, ?_⟩
  · subst hx
    simp only [DataW.weights, ht]
    refine DataW.weights_mem_each (j := i) (t := f.type) (d := (xs[i]'(by omega)).1) ?_ ?_ k hk
    · rw [List.getElem?_map, Array.getElem?_toList, hi]; rfl
    · rw [List.getElem?_map, hy]; rfl
  · subst hx
    have h1 : (xs[i]'(by omega)).1 ∈ xs.map (·.1) := List.mem_map.2 ⟨_, List.getElem_mem _, rfl⟩
    have h2 := List.sizeOf_lt_of_mem h1
    simp only [DataW.agg.sizeOf_spec]
    omega
theorem hd3 {α : Type} {P : α → Prop} {Q R : α → Prop} (h : ∃ y, P y ∧ Q y ∧ R y) : ∃ y, P y ∧ Q y := by
  obtain ⟨y, a, b, _⟩ := h; exact ⟨y, a, b⟩
set_option maxRecDepth 100000 in
theorem opens_polS : ∀ s, OpensS Tryz.prog 28 7 (rPolN s) s := by
  intro s
  induction s with
  | zero => exact ⟨by kernel_rfl, fun H enc w fuel cs x hx => absurd hx (Nat.not_lt_zero _)⟩
  | succ s ih =>
    refine ⟨by kernel_rfl, fun H enc w fuel cs x hx h hw => ?_⟩
    obtain ⟨hlen, m, hf⟩ := struct_openS Tryz.underlying28 h hw
    have hc : Tryz.prog.cellsOf 28 = 7 := by kernel_rfl
    rw [hc] at hlen
    match cs, hlen with
    | [c0, c1, c2, c3, c4, c5, c6], _ =>
      obtain ⟨o, ho⟩ := opens_tstr.field (off := 0) (hd3 (hf 0 _ rfl))
      obtain ⟨b, hb⟩ := opens_tbool.field (off := 1) (hd3 (hf 1 _ rfl))
      obtain ⟨n, hn⟩ := opens_tint.field (off := 2) (hd3 (hf 2 _ rfl))
      obtain ⟨t, h3⟩ := opens_tar.field (off := 3) (hd3 (hf 3 _ rfl))
      obtain ⟨r, h4⟩ := opens_ruls.field (off := 4) (hd3 (hf 4 _ rfl))
      obtain ⟨l, h6⟩ := opens_obls.field (off := 6) (hd3 (hf 6 _ rfl))
      obtain ⟨y, h5, hy1, hy2⟩ := hf 5 _ rfl
      obtain ⟨k, h5⟩ := sl_openS Tryz.underlying25 (by decide +kernel) (by omega) ih (by omega) h5 hy1
      have hc1 : Tryz.prog.cellsOf 25 = 1 := by kernel_rfl
      simp only [rStr, rBool, rInt, hc1, List.drop_succ_cons, List.drop_zero, List.take_succ_cons, List.take_zero, List.cons.injEq, and_true] at ho hb hn h3 h4 h5 h6
      obtain ⟨rfl, ho⟩ := ho
      subst hb
      obtain ⟨rfl, hn⟩ := hn
      exact ⟨.mk o b n t r k l, c3, c4, c5, c6, rfl, ho, hn, .of h3, .of h4, .of h5, .of h6⟩
theorem opens_pol : Opens Tryz.prog 28 7 rPolX := ⟨(opens_polS 0).1, fun H enc w fuel cs x h hw => by
  obtain ⟨p, hp⟩ := (opens_polS (SizeOf.sizeOf x.1 + 1)).2 H enc w fuel cs x (Nat.lt_succ_self _) h hw
  exact ⟨p, _, hp⟩⟩
theorem polP_shape (x : Pol) : (polP x).length = 7 ∧ (polP x).all oneP = true := by rw [zf]; exact ⟨rfl, rfl⟩
theorem pol_pv : ∀ (n : Nat) {w : World} {cs : List Value} {p : Pol}, rPolN n w cs p → rPV (fun _ => True) w cs (polP p)
  | n + 1, w, cs, p, ⟨c3, c4, c5, c6, he, _, _, h3, h4, h5, h6⟩ => by
    subst he
    rw [zf]
    exact jf (.v rfl) (jf (.v rfl) (jf (.v rfl) (jf (tar_pv h3) (jf (h4.rel (fun x => ⟨rfl, rfl⟩) fun x _ cs h => rul_pv h)
      (jf (h5.rel polP_shape fun x _ cs h => pol_pv n h) (jf (h6.rel (fun x => ⟨rfl, rfl⟩) fun x _ cs h => obl_pv h) rPV_nil))))))
theorem pol_fit : ∀ (m : Nat) {n : Nat} {w : World} {cs : List Value} {p : Pol}, rPolN n w cs p → PolFit m p
  | 0, _, _, _, _, _ => trivial
  | m + 1, n + 1, w, cs, p, ⟨c3, c4, c5, c6, he, hid, _, ⟨A, c, ha, _, _, h3⟩, h4, h5, h6⟩ => by
    have k4 := h4.fit (F := RulFit) fun _ _ h => rul_fit h
    have k5 := h5.fit (F := PolFit m) fun _ _ h => pol_fit m h
    have k6 := h6.fit (F := Obli.Fit) fun _ _ h => h.2
    exact ⟨⟨hid, tgt_fit h3, k4.1, k6.1, k4.2, k5.2⟩, k5.1⟩
end Go.Proofs.YtppfcacnofjmdaaGreatDoor
namespace Go.Proofs.YtppfcacnofjmdaaGreatDoor
set_option linter.unusedVariables false
set_option linter.unusedSimpArgs false
open Go.RowKit
def PolF : Nat → Pol → Prop
  | 0, _ => False
  | n + 1, p => HeadFit p ∧ R64 p.alg ∧ ∀ k ∈ p.kids, PolF n k
theorem qaF : ∀ (m : Nat) {n : Nat} {p : Pol}, PolF n p → PolFit m p
  | 0, _, _, _ => True.intro
  | m + 1, n + 1, p, h => ⟨h.1, fun k hk => qaF m (h.2.2 k hk)⟩
theorem polF_of : ∀ {n : Nat} {w : World} {cs : List Value} {p : Pol}, rPolN n w cs p → PolF n p
  | n + 1, w, cs, p, h => by
    have h1 := pol_fit 1 h
    obtain ⟨c3, c4, c5, c6, he, hid, ha, _, _, h5, _⟩ := h
    exact ⟨h1.1, ha, (h5.fit (F := PolF n) fun _ _ h => polF_of h).1⟩
end Go.Proofs.YtppfcacnofjmdaaGreatDoor
namespace Go.Proofs.YtppfcacnofjmdaaGreatDoor
set_option linter.unusedVariables false
set_option linter.unusedSimpArgs false
open Go.RowKit
theorem SWT.wk {P : Program} {ops l : List Oper} {Q : St → Prop} {st st' : St} (h : Wk st st') (h' : SWT P ops l Q st') : SWT P ops l Q st := fun w0 Sx γ a w QQ hI hQ => by
  obtain ⟨γ', hI'⟩ := h w0 Sx γ a w hI
  exact h' w0 Sx γ' a w QQ hI' hQ
def TarL (t : Tar) : Prop := t.length ≤ 3000 ∧ ∀ x ∈ t, x.length ≤ 3000 ∧ ∀ y ∈ x, y.length ≤ 3000
theorem xsz_le {t : Tar} {x : List (List Mat)} (h : x ∈ t) : xsz x ≤ tsz t := by
  have := wb (f := xsz) h
  unfold tsz; omega
theorem len_sumBy {α : Type} (f : α → Nat) (h : ∀ x, 1 ≤ f x) : ∀ l : List α, l.length ≤ qT f l
  | [] => Nat.zero_le _
  | x :: r => by
    have h1 := len_sumBy f h r
    have h2 := h x
    simp only [qT, List.map_cons, List.sum_cons, List.length_cons] at h1 ⊢
    omega
theorem tarL_of {t : Tar} {n : Nat} (h : tsz t ≤ n) (hn : n ≤ 3000) : TarL t := by
  refine ⟨by unfold tsz at h; omega, fun x hx => ?_⟩
  have h1 := xsz_le hx
  refine ⟨by unfold xsz at h1; omega, fun y hy => ?_⟩
  have h4 : asz y ≤ xsz x := by have := wb (f := asz) hy; unfold xsz; omega
  unfold asz at h4
  omega
theorem sz_facts {p : Pol} {n : Nat} (h : p.sz ≤ n) (hn : n ≤ 3000) : TarL p.target ∧ p.rules.length ≤ 3000 ∧ p.kids.length ≤ 3000 ∧ p.obls.length ≤ 3000 ∧ (∀ r ∈ p.rules, TarL r.target ∧ r.cond.length ≤ 3000 ∧ r.obls.length ≤ 3000) ∧ ∀ k ∈ p.kids, k.sz ≤ n := by
  have h1 := Pol.sz_eq p
  have h2 := len_sumBy Pol.sz (fun p => by rw [Pol.sz_eq]; omega) p.kids
  have h3 : p.obls.length ≤ osz p.obls := by unfold osz; omega
  refine ⟨tarL_of (n := n) (by omega) hn, by omega, by omega, by omega, fun r hr => ?_, fun k hk => ?_⟩
  · have h4 := wb (f := rusz) hr
    have h5 : r.obls.length ≤ osz r.obls := by unfold osz; omega
    have h6 : rusz r = txt r.id + tsz r.target + r.cond.length + osz r.obls + qT nsz r.cond := rfl
    exact ⟨tarL_of (n := n) (by omega) hn, by omega, by omega⟩
  · have := wb (f := Pol.sz) hk
    omega
end Go.Proofs.YtppfcacnofjmdaaGreatDoor
namespace Go.Proofs.YtppfcacnofjmdaaGreatDoor
set_option linter.unusedVariables false
set_option linter.unusedSimpArgs false
open Go.RowKit
def SWB (P : Program) (ops : List Oper) (κ : Kap) (ls : Array Bool) (fuel : Nat) (Q : St → Prop) (st : St) : Prop := ∀ (w0 : Base) (Sx : Nat → Prop) (γ : Nat → Value) (a : Act) (w : World) (QQ : Exit → Act → World → Prop), Sim w0 Sx γ st a w →
  (∀ st' γ' a' w', Sim w0 Sx γ' st' a' w' → Q st' → QQ .normal a' w') → wpAnyP P ops.toArray (NoPanic QQ) fuel (pendOf γ st.own w κ) ls a w
def SWBo (P : Program) (ops : List Oper) (κ : Kap) (ls : Array Bool) (fuel : Nat) (Q : St → Prop) (st : St) (i : Nat) : Prop := ∀ (w0 : Base) (Sx : Nat → Prop) (γ : Nat → Value) (a : Act) (w : World) (QQ : Exit → Act → World → Prop), Sim w0 Sx γ st a w →
  (∀ st' γ' a' w', Sim w0 Sx γ' st' a' w' → Q st' → QQ .normal a' w') → wpOp P ops.toArray (NoPanic QQ) i (fun a' w' => (∀ p ∈ alive ops.toArray i (pendOf γ st.own w κ), p.2 w') ∧ wpAnyP P ops.toArray (NoPanic QQ) fuel (alive ops.toArray i (pendOf γ st.own w κ)) (ls.setIfInBounds i true) a' w') a w
section
variable {P : Program} {ops : List Oper} {κ : Kap} {ls : Array Bool} {fuel : Nat} {st : St} {Q : St → Prop} {i j : Nat} {o : Oper}
theorem zd (hr : Region.ready .any ops.toArray ls = []) (h : Q st) : SWB P ops κ ls fuel Q st := fun _ _ γ a w _ hI hQ => by
  cases fuel with
  | zero => exact ⟨hr, hQ st γ a w hI h⟩
  | succ f => exact ⟨fun _ => hQ st γ a w hI h, fun i hi => by rw [hr] at hi; cases hi⟩
theorem qo (i : Nat) (hr : Region.ready .any ops.toArray ls = [i]) (h : SWBo P ops κ ls fuel Q st i) : SWB P ops κ ls (fuel + 1) Q st := fun w0 Sx γ a w QQ hI hQ =>
  ⟨fun h0 => (by rw [hr] at h0; cases h0), fun k hk => by
    rw [hr] at hk
    obtain rfl : k = i := by simpa using hk
    exact h w0 Sx γ a w QQ hI hQ⟩
theorem zE (i j : Nat) (hr : Region.ready .any ops.toArray ls = [i, j]) (h : SWBo P ops κ ls fuel Q st i) (h2 : SWBo P ops κ ls fuel Q st j) : SWB P ops κ ls (fuel + 1) Q st := fun w0 Sx γ a w QQ hI hQ =>
  ⟨fun h0 => (by rw [hr] at h0; cases h0), fun k hk => by
    rw [hr] at hk
    have hk : k = i ∨ k = j := by simpa using hk
    rcases hk with rfl | rfl
    · exact h w0 Sx γ a w QQ hI hQ
    · exact h2 w0 Sx γ a w QQ hI hQ⟩
theorem swb_fork3 (i j k : Nat) (hr : Region.ready .any ops.toArray ls = [i, j, k]) (h : SWBo P ops κ ls fuel Q st i) (h2 : SWBo P ops κ ls fuel Q st j) (h3 : SWBo P ops κ ls fuel Q st k) : SWB P ops κ ls (fuel + 1) Q st := fun w0 Sx γ a w QQ hI hQ =>
  ⟨fun h0 => (by rw [hr] at h0; cases h0), fun m hk => by
    rw [hr] at hk
    have hk : m = i ∨ m = j ∨ m = k := by simpa using hk
    rcases hk with rfl | rfl | rfl
    · exact h w0 Sx γ a w QQ hI hQ
    · exact h2 w0 Sx γ a w QQ hI hQ
    · exact h3 w0 Sx γ a w QQ hI hQ⟩
theorem qy {K : List Nat} {s : SV} (hB : (Region.free .any ops.toArray ls i && (Region.ready .any ops.toArray ls).contains i) = true) (hs : Region.noSelect ops.toArray = true) (hi : nthO ops i = some o) (hw : zw ops st o = some true) (hr : RdO P K st o s) (hd : zn st o.dst = true)
    (h : SWB P ops ((i, K) :: κ) (ls.setIfInBounds i true) fuel Q (st.put o.dst s)) : SWB P ops κ ls (fuel + 1) Q st := fun w0 Sx γ a w QQ hI hQ => by
  obtain ⟨v, h1, h2⟩ := hr w0 Sx γ a w hI
  have hrest := h w0 Sx γ _ w QQ (hI.put (dst := o.dst) hd h1) hQ
  simp only [wP] at hrest
  rw [Bool.and_eq_true] at hB
  have hio := (qZ ops i).trans hi
  exact wpAnyP_first hio (Region.noSelect_spec hs) (fun _ _ _ h => h) fuel _ ls a w (Region.free_spec hio hB.1) (by simpa using hB.2) (Or.inl ⟨zD hI hw, h2⟩) (SameOn.refl _ _) wC hrest
theorem qd {Ws : List Nat} (hi : nthO ops i = some o) (hw : zw ops st o = some true) (hK : (kapB o κ).all (fun p => Ws.all fun j => p.2.contains j) = true) (h : ActOk P Ws o st (SWB P ops (kapB o κ) (ls.setIfInBounds i true) fuel Q)) : SWBo P ops κ ls fuel Q st i := fun w0 Sx γ a w QQ hI hQ => by
  have hsub : ∀ p ∈ kapB o κ, ∀ j ∈ Ws, j ∈ p.2 := fun p hp j hj => by simpa using List.all_eq_true.1 (List.all_eq_true.1 hK p hp) j hj
  have hio := (qZ ops i).trans hi
  unfold wpOp
  rw [hio]
  simp only [zD hI hw, if_true]
  refine Or.inl ?_
  have := h w0 Sx γ a w (NoPanic QQ) hI
  have mono : ∀ {a' w'}, (∃ γ' st', SWB P ops (kapB o κ) (ls.setIfInBounds i true) fuel Q st' ∧ Sim w0 Sx γ' st' a' w' ∧ SameOn (vis Ws γ st.own) w w' ∧ ∀ K : List Nat, (∀ i ∈ Ws, i ∈ K) → ∀ b, b < w.heap.size → vis K γ st.own b → vis K γ' st'.own b) →
      (∀ p ∈ alive ops.toArray i (pendOf γ st.own w κ), p.2 w') ∧ wpAnyP P ops.toArray (NoPanic QQ) fuel (alive ops.toArray i (pendOf γ st.own w κ)) (ls.setIfInBounds i true) a' w' := fun {a' w'} ⟨γ', st', h1, h2, h3, h4⟩ => by
    have hc : Covers (alive ops.toArray i (pendOf γ st.own w κ)) (pendOf γ' st'.own w' (kapB o κ)) := fun p hp => by
      obtain ⟨hp1, hp2⟩ := mem_alive.1 hp
      obtain ⟨q, hq, rfl⟩ := List.mem_map.1 hp1
      have hq' : q ∈ kapB o κ := List.mem_filter.2 ⟨hq, by rw [hp2 o hio]; rfl⟩
      have hs := hsub q hq'
      refine .inr ⟨_, List.mem_map.2 ⟨q, hq', rfl⟩, rfl, fun x hx => ⟨Nat.le_trans h3.size hx.size, fun b hb hv => ?_⟩⟩
      have e1 := h3.block b hb (fun j bx hj hjW hjb => hv j bx hj (by simpa using hs j (by simpa using hjW)) hjb)
      have e2 := hx.block b (Nat.lt_of_lt_of_le hb h3.size) (h4 q.2 hs b hb hv)
      exact e2.trans e1
    exact ⟨hc.at wC, jC _ hc _ _ _ (h1 w0 Sx γ' a' w' QQ h2 hQ)⟩
  unfold Oper.wp at this ⊢
  generalize (execOp a.eval o).run P w = res at *
  cases res with
  | ok n w' =>
    cases n <;> simp only [Oper.upon] at this ⊢ <;> first
      | exact mono this
      | exact this
      | exact Calls.mono this (fun e w'' he => by cases e <;> first | exact mono he | exact he)
      | exact Rows.mono this (fun _ _ he => mono he)
  | halt x w' => cases x <;> simp only [Oper.upon] at this ⊢ <;> exact this
theorem zH {id : Nat} {l : List Oper} {QS : SEx → St → Prop} (n : Nat) (hn : l.length = n) (hm : P.follows .mixedOrders = true) (h : SWB P l [] (Array.replicate n false) n (QS .normal) st) : SW P (.region id l.toArray true) QS st := fun w0 Sx γ a w QQ hI hQ => by
  refine wp_region_noPanic (wp_region_any hm (wZ _ [] _ _ _ ?_))
  have h1 := h w0 Sx γ a w.drew QQ hI.drew fun s' γ' a' w' hI' hq => hQ .normal s' γ' a' w' hI' hq
  have e : l.toArray.size = n := by simpa using hn
  rw [e]
  exact h1
end
end Go.Proofs.YtppfcacnofjmdaaGreatDoor
namespace Go.Proofs.YtppfcacnofjmdaaGreatDoor
set_option linter.unusedVariables false
set_option linter.unusedSimpArgs false
open Go.RowKit
set_option maxHeartbeats 4000000
def rsP (x : Rs) : List PV := [mkP x.m, zQ x.obls]
def rssP (l : List Rs) : PV := .sl 2 (l.map rsP)
theorem dutiesS_take {l : List Obli} {m : Mk} {k : Nat} (h : k < l.length) : jm (l.take (k + 1)) m = if dutyS m l[k] then jm (l.take k) m ++ [l[k]] else jm (l.take k) m := by
  unfold jm
  rw [List.take_succ_eq_append_getElem h, List.filter_append]
  cases hd : dutyS m l[k] <;> simp [hd]
theorem wq (l : List Obli) (m : Mk) : (jm l m).length ≤ l.length := List.length_filter_le _ _
theorem duties_h (l : List Obli) (hn : l.length ≤ 1000000) (m : Mk) (hm : m ∈ mks) : Holds Tryz.prog 70 [zQ l, mkP m] (.p (zQ (jm l m))) [] := by
  have lm : (l.map Obli.pv).length = l.length := by simp
  refine .ofW ?_
  refine qR (T := TTab) qe Tryz.func70 (by kernel_rfl) rfl rfl rfl ?_
  (repeat refine qb ?_); refine qa ?_
  repeat (first | refine zR ?_ | refine zK ?_ | refine zM ?_ | refine zB ?_ | refine zA ?_ | refine zS ?_ | refine zL ?_)
  refine qc ?_
  (repeat refine qb ?_); refine qa ?_
  repeat (first | refine zR ?_ | refine zK ?_ | refine zM ?_ | refine zB ?_ | refine zA ?_ | refine zS ?_ | refine zL ?_)
  refine qc ?_
  (repeat refine qb ?_); refine qa ?_
  repeat (first | refine zR ?_ | refine zK ?_ | refine zM ?_ | refine zB ?_ | refine zA ?_ | refine zS ?_ | refine zL ?_)
  refine qc ?_
  (repeat refine qb ?_); refine ql ?_
  refine SW.wk (jP 5 900 43 3 rfl rfl) ?_
  refine SW.wk (qq [1, 5, 8, 9, 10] [(900, 0)] rfl rfl) ?_
  refine qO (fun n s => ∃ (k : Nat) (kk : Int) (L : List Obli), k ≤ l.length ∧ n = l.length - k ∧ kk = k ∧ L = jm (l.take k) m ∧ s = ⟨36, [(1, .p (mkP m)), (5, .row 0), (8, .p (zQ l)), (9, .p (pI (l.map Obli.pv).length)), (10, .p (pI kk))], [(0, .row 43 3 (L.map Obli.pv))]⟩) l.length ⟨0, 0, [], Nat.zero_le _, rfl, rfl, rfl, rfl⟩ ?_
  rintro n s ⟨k, _, L, hk, rfl, rfl, hL, rfl⟩
  (repeat refine qb ?_); refine qa ?_
  repeat (first | refine zR ?_ | refine zK ?_ | refine zM ?_ | refine zB ?_ | refine zA ?_ | refine zS ?_ | refine zL ?_)
  refine qc ?_
  (repeat refine qb ?_); refine qf rfl (fun hlt => ?_) (fun hlt => ?_)
  · refine qm ?_
    rw [lm] at hlt
    simp only [decide_eq_true_eq] at hlt
    have hlt' : k < l.length := by omega
    have hs := dutiesS_take (m := m) hlt'
    have hLl : L.length ≤ k := by rw [hL]; have := wq (l.take k) m; simp at this; omega
    (repeat refine qb ?_); refine ql ?_
    (repeat refine qb ?_); refine qa ?_
    repeat (first | refine zR ?_ | refine zK ?_ | refine zM ?_ | refine zB ?_ | refine zA ?_ | refine zS ?_ | refine zL ?_)
    refine qw qe rfl rfl (by rw [lm]; omega) rfl ?_
    rw [qJ hlt']
    repeat (first | refine zR ?_ | refine zK ?_ | refine zM ?_ | refine zB ?_ | refine zA ?_ | refine zS ?_ | refine zL ?_)
    refine qc ?_
    have hd : dutyS m l[k] = bif (l[k].on == 1) && mkE m (2, 0) then true else (l[k].on == 2) && mkE m (0, 2) := by
      rw [mkE_eq hm (by simp [mks]), mkE_eq hm (by simp [mks])]
      unfold dutyS
      rw [Bool.eq_iff_iff]
      simp
    (repeat refine qb ?_); refine qs (by kernel_rfl) ?_
    repeat (refine qr qe rfl (by exact True.intro) rfl ?_)
    refine qQ ?_
    (repeat refine qb ?_); refine qf rfl (fun hc => ?_) (fun hc => ?_)
    · have hd' : dutyS m l[k] = true := by
        rw [hd]
        revert hc
        unfold mkE
        cases (l[k].on == 1) <;> cases (l[k].on == 2) <;> simp [hb]
      rw [hd', if_pos rfl] at hs
      (repeat refine qb ?_); refine qa ?_
      repeat (first | refine zR ?_ | refine zK ?_ | refine zM ?_ | refine zB ?_ | refine zA ?_ | refine zS ?_ | refine zL ?_)
      refine qn rfl (qp qe rfl rfl rfl rfl rfl rfl rfl rfl rfl rfl rfl rfl rfl rfl rfl rfl (by simp only [List.length_append, List.length_map, List.length_take, List.length_cons, List.length_nil]; unfold reachBytes; omega) (by simp only [List.length_append, List.length_map, List.length_take, List.length_cons, List.length_nil]; omega) ?_)
      repeat (first | refine zR ?_ | refine zK ?_ | refine zM ?_ | refine zB ?_ | refine zA ?_ | refine zS ?_ | refine zL ?_)
      refine qc ?_
      (repeat refine qb ?_); refine qa ?_
      repeat (first | refine zR ?_ | refine zK ?_ | refine zM ?_ | refine zB ?_ | refine zA ?_ | refine zS ?_ | refine zL ?_)
      refine qc ?_
      refine ⟨_, _, ?_, qq [1, 5, 8, 9, 10] [(33, 0)] rfl rfl, k + 1, _, jm (l.take (k + 1)) m, hlt', rfl, qz hlt' (by omega), rfl, ?_⟩
      · omega
      · rw [hs, ← hL, List.map_append]; rfl
    · have hd' : dutyS m l[k] = false := by
        rw [hd]
        revert hc
        unfold mkE
        cases (l[k].on == 1) <;> cases (l[k].on == 2) <;> simp [hb]
      rw [hd', if_neg (by simp)] at hs
      refine qm ?_
      (repeat refine qb ?_); refine qa ?_
      repeat (first | refine zR ?_ | refine zK ?_ | refine zM ?_ | refine zB ?_ | refine zA ?_ | refine zS ?_ | refine zL ?_)
      refine qc ?_
      refine ⟨_, _, ?_, qq [1, 5, 8, 9, 10] [(0, 0)] rfl rfl, k + 1, _, L, hlt', rfl, qz hlt' (by omega), by rw [hs]; exact hL, rfl⟩
      omega
  · refine qK ?_
    rw [lm] at hlt
    simp only [decide_eq_false_iff_not] at hlt
    have hkk : k = l.length := by omega
    subst hkk
    rw [List.take_length] at hL
    subst hL
    (repeat refine qb ?_); refine qa ?_
    repeat (first | refine zR ?_ | refine zK ?_ | refine zM ?_ | refine zB ?_ | refine zA ?_ | refine zS ?_ | refine zL ?_)
    refine qc ?_
    (repeat refine qb ?_); refine qk ?_
    exact ⟨Or.inr rfl, _, _, [], _, zN (k := 0) rfl, rfl, rfl, .refl _, rfl, rfl⟩
theorem effect_h (r : Rul) (t c : Int) (ho : r.obls.length ≤ 1000000) : Holds Tryz.prog 51 [.agg (zt r), pI t, pI c] (.p (.agg (rsP (jW r t c)))) [] := by
  obtain ⟨id, deny, tg, cond, obls⟩ := r
  unfold jW effM
  simp only at ho ⊢
  refine .ofW ?_
  cases deny with
  | true =>
    rw [if_pos rfl]
    refine qR (T := TTab) qe Tryz.func51 (by kernel_rfl) rfl rfl rfl ?_
    (repeat refine qb ?_); refine qa ?_
    repeat (first | refine zR ?_ | refine zK ?_ | refine zM ?_ | refine zB ?_ | refine zA ?_ | refine zS ?_ | refine zL ?_)
    refine qc ?_
    (repeat refine qb ?_); refine qa ?_
    repeat (first | refine zR ?_ | refine zK ?_ | refine zM ?_ | refine zB ?_ | refine zA ?_ | refine zS ?_ | refine zL ?_)
    refine qc ?_
    (repeat refine qb ?_); refine qa ?_
    repeat (first | refine zR ?_ | refine zK ?_ | refine zM ?_ | refine zB ?_ | refine zA ?_ | refine zS ?_ | refine zL ?_)
    refine qc ?_
    (repeat refine qb ?_); refine qf rfl (fun hd => ?_) (fun hd => ?_)
    · (repeat refine qb ?_); refine qa ?_
      repeat (first | refine zR ?_ | refine zK ?_ | refine zM ?_ | refine zB ?_ | refine zA ?_ | refine zS ?_ | refine zL ?_)
      refine qc ?_
      (repeat refine qb ?_); refine ql ?_
      (repeat refine qb ?_); refine qs (by kernel_rfl) ?_
      repeat (refine qr qe rfl (by exact True.intro) rfl ?_)
      refine qQ ?_
      (repeat refine qb ?_); refine qf rfl (fun h0 => ?_) (fun h0 => ?_)
      · have h0' : t = 0 ∨ (t = 2 ∧ c = 0) := by
          revert h0
          by_cases a : t = 0 <;> by_cases b : t = 2 <;> by_cases d : c = 0 <;> simp [a, b, d]
        rw [if_pos h0']
        (repeat refine qb ?_); refine qa ?_
        repeat (first | refine zR ?_ | refine zK ?_ | refine zM ?_ | refine zB ?_ | refine zA ?_ | refine zS ?_ | refine zL ?_)
        refine qc ?_
        (repeat refine qb ?_); refine qk ?_
        exact ⟨Or.inr rfl, _, _, [], _, Wk.refl _, rfl, rfl, .p (CvL.agg (.cons (.refl _) (.cons (.nil 3) .nil))), rfl, rfl⟩
      · have h0' : ¬ (t = 0 ∨ (t = 2 ∧ c = 0)) := by
          revert h0
          by_cases a : t = 0 <;> by_cases b : t = 2 <;> by_cases d : c = 0 <;> simp [a, b, d]
        rw [if_neg h0']
        (repeat refine qb ?_); refine qs (by kernel_rfl) ?_
        repeat (refine qr qe rfl (by exact True.intro) rfl ?_)
        refine qQ ?_
        (repeat refine qb ?_); refine qf rfl (fun h1 => ?_) (fun h1 => ?_)
        · have h1' : t = 1 ∨ c = 1 := by
            revert h1
            by_cases a : t = 1 <;> by_cases d : c = 1 <;> simp [a, d]
          rw [if_pos h1']
          (repeat refine qb ?_); refine qa ?_
          repeat (first | refine zR ?_ | refine zK ?_ | refine zM ?_ | refine zB ?_ | refine zA ?_ | refine zS ?_ | refine zL ?_)
          refine qn rfl (qg rfl rfl rfl rfl (qas (0, 2) (by simp [mks])) rfl rfl ?_)
          repeat (first | refine zR ?_ | refine zK ?_ | refine zM ?_ | refine zB ?_ | refine zA ?_ | refine zS ?_ | refine zL ?_)
          refine qc ?_
          (repeat refine qb ?_); refine qk ?_
          exact ⟨Or.inr rfl, _, _, [], _, Wk.refl _, rfl, rfl, .p (CvL.agg (.cons (.refl _) (.cons (.nil 3) .nil))), rfl, rfl⟩
        · have h1' : ¬ (t = 1 ∨ c = 1) := by
            revert h1
            by_cases a : t = 1 <;> by_cases d : c = 1 <;> simp [a, d]
          rw [if_neg h1']
          refine qm ?_
          (repeat refine qb ?_); refine qa ?_
          repeat (first | refine zR ?_ | refine zK ?_ | refine zM ?_ | refine zB ?_ | refine zA ?_ | refine zS ?_ | refine zL ?_)
          refine qn rfl (qD rfl rfl rfl rfl (duties_h obls ho (0, 2) (by simp [mks])) rfl rfl rfl ?_)
          repeat (first | refine zR ?_ | refine zK ?_ | refine zM ?_ | refine zB ?_ | refine zA ?_ | refine zS ?_ | refine zL ?_)
          refine qc ?_
          (repeat refine qb ?_); refine qk ?_
          exact ⟨Or.inr rfl, _, _, [], _, Wk.refl _, rfl, rfl, .refl _, rfl, rfl⟩
    · cases hd
  | false =>
    simp only [Bool.false_eq_true, if_false]
    refine qR (T := TTab) qe Tryz.func51 (by kernel_rfl) rfl rfl rfl ?_
    (repeat refine qb ?_); refine qa ?_
    repeat (first | refine zR ?_ | refine zK ?_ | refine zM ?_ | refine zB ?_ | refine zA ?_ | refine zS ?_ | refine zL ?_)
    refine qc ?_
    (repeat refine qb ?_); refine qa ?_
    repeat (first | refine zR ?_ | refine zK ?_ | refine zM ?_ | refine zB ?_ | refine zA ?_ | refine zS ?_ | refine zL ?_)
    refine qc ?_
    (repeat refine qb ?_); refine qa ?_
    repeat (first | refine zR ?_ | refine zK ?_ | refine zM ?_ | refine zB ?_ | refine zA ?_ | refine zS ?_ | refine zL ?_)
    refine qc ?_
    (repeat refine qb ?_); refine qf rfl (fun hd => ?_) (fun hd => ?_)
    · cases hd
    · refine qm ?_
      (repeat refine qb ?_); refine ql ?_
      (repeat refine qb ?_); refine qs (by kernel_rfl) ?_
      repeat (refine qr qe rfl (by exact True.intro) rfl ?_)
      refine qQ ?_
      (repeat refine qb ?_); refine qf rfl (fun h0 => ?_) (fun h0 => ?_)
      · have h0' : t = 0 ∨ (t = 2 ∧ c = 0) := by
          revert h0
          by_cases a : t = 0 <;> by_cases b : t = 2 <;> by_cases d : c = 0 <;> simp [a, b, d]
        rw [if_pos h0']
        (repeat refine qb ?_); refine qa ?_
        repeat (first | refine zR ?_ | refine zK ?_ | refine zM ?_ | refine zB ?_ | refine zA ?_ | refine zS ?_ | refine zL ?_)
        refine qc ?_
        (repeat refine qb ?_); refine qk ?_
        exact ⟨Or.inr rfl, _, _, [], _, Wk.refl _, rfl, rfl, .p (CvL.agg (.cons (.refl _) (.cons (.nil 3) .nil))), rfl, rfl⟩
      · have h0' : ¬ (t = 0 ∨ (t = 2 ∧ c = 0)) := by
          revert h0
          by_cases a : t = 0 <;> by_cases b : t = 2 <;> by_cases d : c = 0 <;> simp [a, b, d]
        rw [if_neg h0']
        (repeat refine qb ?_); refine qs (by kernel_rfl) ?_
        repeat (refine qr qe rfl (by exact True.intro) rfl ?_)
        refine qQ ?_
        (repeat refine qb ?_); refine qf rfl (fun h1 => ?_) (fun h1 => ?_)
        · have h1' : t = 1 ∨ c = 1 := by
            revert h1
            by_cases a : t = 1 <;> by_cases d : c = 1 <;> simp [a, d]
          rw [if_pos h1']
          (repeat refine qb ?_); refine qa ?_
          repeat (first | refine zR ?_ | refine zK ?_ | refine zM ?_ | refine zB ?_ | refine zA ?_ | refine zS ?_ | refine zL ?_)
          refine qn rfl (qg rfl rfl rfl rfl (qas (2, 0) (by simp [mks])) rfl rfl ?_)
          repeat (first | refine zR ?_ | refine zK ?_ | refine zM ?_ | refine zB ?_ | refine zA ?_ | refine zS ?_ | refine zL ?_)
          refine qc ?_
          (repeat refine qb ?_); refine qk ?_
          exact ⟨Or.inr rfl, _, _, [], _, Wk.refl _, rfl, rfl, .p (CvL.agg (.cons (.refl _) (.cons (.nil 3) .nil))), rfl, rfl⟩
        · have h1' : ¬ (t = 1 ∨ c = 1) := by
            revert h1
            by_cases a : t = 1 <;> by_cases d : c = 1 <;> simp [a, d]
          rw [if_neg h1']
          refine qm ?_
          (repeat refine qb ?_); refine qa ?_
          repeat (first | refine zR ?_ | refine zK ?_ | refine zM ?_ | refine zB ?_ | refine zA ?_ | refine zS ?_ | refine zL ?_)
          refine qn rfl (qD rfl rfl rfl rfl (duties_h obls ho (2, 0) (by simp [mks])) rfl rfl rfl ?_)
          repeat (first | refine zR ?_ | refine zK ?_ | refine zM ?_ | refine zB ?_ | refine zA ?_ | refine zS ?_ | refine zL ?_)
          refine qc ?_
          (repeat refine qb ?_); refine qk ?_
          exact ⟨Or.inr rfl, _, _, [], _, Wk.refl _, rfl, rfl, .refl _, rfl, rfl⟩
theorem ruleR_h (r : Rul) (g : List Giv) (hr : RulFit r) (ht : TarSm r.target) (ho : r.obls.length ≤ 1000000) (hf : ∀ x ∈ g, x.Fit) (hn : g.length ≤ 1000000) (hb : ∀ x ∈ g, x.bag.length ≤ 1000000) : Holds Tryz.prog 27 [.agg (zt r), zP g] (.p (.agg (rsP (qaw g r)))) [] := by
  have H1 := metT_h r.target g hr.tgt ht hf hn hb
  have H2 := cond_h r.cond g hr.cond hf hn hb
  have H3 := effect_h r (metT r.target g) (qam r.cond g) ho
  obtain ⟨id, deny, tg, cond, obls⟩ := r
  unfold qaw
  simp only at H1 H2 H3 ⊢
  generalize metT tg g = t at *
  generalize qam cond g = c at *
  refine .ofW ?_
  refine qR (T := TTab) qe Tryz.func27 (by kernel_rfl) rfl rfl rfl ?_
  (repeat refine qb ?_); refine qa ?_
  repeat (first | refine zR ?_ | refine zK ?_ | refine zM ?_ | refine zB ?_ | refine zA ?_ | refine zS ?_ | refine zL ?_)
  refine qc ?_
  (repeat refine qb ?_); refine zl [4] [(0, true), (1, true), (2, true), (3, true), (5, true), (6, true), (7, true), (4, false), (8, false), (9, false), (10, false)] (by kernel_rfl) (by kernel_rfl) (by kernel_rfl) ?_
  repeat (first | refine yR ?_ | refine yK ?_ | refine yM ?_ | refine yB ?_ | refine yA ?_ | refine yS ?_ | refine yL ?_)
  refine qak rfl rfl rfl (qg rfl rfl rfl rfl (H1) rfl rfl ?_)
  repeat (first | refine yR ?_ | refine yK ?_ | refine yM ?_ | refine yB ?_ | refine yA ?_ | refine yS ?_ | refine yL ?_)
  refine qak rfl rfl rfl (qg rfl rfl rfl rfl (H2) rfl rfl ?_)
  repeat (first | refine yR ?_ | refine yK ?_ | refine yM ?_ | refine yB ?_ | refine yA ?_ | refine yS ?_ | refine yL ?_)
  refine qak rfl rfl rfl (qD rfl rfl rfl rfl (H3) rfl rfl rfl ?_)
  repeat (first | refine yR ?_ | refine yK ?_ | refine yM ?_ | refine yB ?_ | refine yA ?_ | refine yS ?_ | refine yL ?_)
  refine swm_nil ?_
  (repeat refine qb ?_); refine qk ?_
  exact ⟨Or.inr rfl, _, _, [], _, Wk.refl _, rfl, rfl, .refl _, rfl, rfl⟩
end Go.Proofs.YtppfcacnofjmdaaGreatDoor
namespace Go.Proofs.YtppfcacnofjmdaaGreatDoor
set_option linter.unusedVariables false
set_option linter.unusedSimpArgs false
open Go.RowKit
theorem wk_nilc {st : St} (j i d : Nat) (e : TypeId) (z : Nat) {cs : List SV} (hj : lk j st.own = some (.cells cs)) (hi : cs[i]? = some (.p (.v (.slice none 0 0)))) (hd : lk d st.own = none) (hdl : Nat.blt d 1000000 = true := by rfl) :
    Wk st ⟨st.n, st.fr, setB j (.cells (cs.set i (.row d))) ((d, .row e z []) :: st.own)⟩ := fun w0 Sx γ a w hI => by
  have hbx : BoxOk w0 Sx (upd γ d (.slice none 0 0)) ((d, .row e z []) :: st.own) w d (.row e z []) := by
    refine .row ?_ (by simp) (Nat.zero_le _) (fun b hb => by simp [upd, qV] at hb)
    rw [show upd γ d (.slice none 0 0) d = .slice none 0 0 from if_pos rfl]
    exact rowO_nil
  obtain ⟨h1, h2, h3, _⟩ := hI.heap.add (Below.refl _ w) hd (by simpa [Nat.blt, Nat.lt_iff_add_one_le] using hdl) (g := .slice none 0 0) (fun b hb => by cases hb) hbx
  have hdj : j ≠ d := fun h => by subst h; rw [hj] at hd; cases hd
  have hI1 : Sim w0 Sx (upd γ d (.slice none 0 0)) ⟨st.n, st.fr, (d, .row e z []) :: st.own⟩ a w := by
    refine ⟨hI.below, hI.size, hI.defers, fun k s hk => ?_, h1⟩
    have hr := hI.fr k s hk
    refine hr.keep2 (Nat.le_refl _) (fun b hb hok => ⟨rfl, h2 b hb hok⟩) fun i hi => h3 i fun e => ?_
    subst e
    rw [hr.live (jU hd)] at hi; cases hi
  have hj1 : lk j ((d, Box.row e z []) :: st.own) = some (.cells cs) := by rw [qE, if_neg hdj]; exact hj
  cases hI1.heap.box j _ hj1 with
  | @cells _ us ty b hg hB hh hl h hone =>
    have := hI1.setBox (bx' := .cells (cs.set i (.row d))) hj1 (b := b) (by rw [hg]; rfl) (Below.refl 0 w) (fun _ _ => rfl) (fun own' e1 e2 e3 => .cells (us := us) hg hB hh (by simpa using hl) (fun k s u hs hu => by
      by_cases hk : k = i
      · subst hk
        have hkl : k < cs.length := (List.getElem?_eq_some_iff.1 hi).1
        rw [List.getElem?_set_self hkl] at hs
        cases hs
        have h0 := (h k _ u hi hu).v_inv
        rw [h0]
        exact e3 (.row (by unfold hp; rw [qE, if_pos rfl]; simp [upd]))
      · rw [List.getElem?_set_ne (Ne.symm hk)] at hs
        exact e3 (h k s u hs hu)) hone)
    exact ⟨_, this.1⟩
end Go.Proofs.YtppfcacnofjmdaaGreatDoor
namespace Go.Proofs.YtppfcacnofjmdaaGreatDoor
set_option linter.unusedVariables false
set_option linter.unusedSimpArgs false
open Go.RowKit
set_option maxHeartbeats 4000000
def oblN (l : List Rs) : Nat := qT (fun x => x.obls.length) l
theorem oblN_take {l : List Rs} {k : Nat} (h : k < l.length) : oblN (l.take (k + 1)) = oblN (l.take k) + l[k].obls.length := zG h
theorem oblN_le (l : List Rs) (k : Nat) : oblN (l.take k) ≤ oblN l := sumBy_take _ l k
theorem rs_app (M : Mk) (a b : List Obli) : rsP ⟨M, a ++ b⟩ = [mkP M, .sl 3 (a.map Obli.pv ++ b.map Obli.pv)] := by
  unfold rsP
  simp only
  rw [show zQ (a ++ b) = .sl 3 ((a ++ b).map Obli.pv) from rfl, List.map_append]
def joinX (alg : Int) (obls : List Obli) (M : Mk) (t : Int) (parts : List Rs) : Rs :=
  if t = 0 then ⟨(0, 0), []⟩ else if t = 1 then ⟨qat M, []⟩
  else if M ≠ (2, 0) ∧ M ≠ (0, 2) then ⟨M, []⟩ else ⟨M, wF alg M parts ++ jm obls M⟩
theorem join_h (p : Pol) (t : Int) (parts : List Rs) (hn : parts.length ≤ 1000000) (hm : ∀ x ∈ parts, x.m ∈ mks) (ho : oblN parts ≤ 500000) (hp : p.obls.length ≤ 500000) : Holds Tryz.prog 69 [.agg (polP p), pI t, rssP parts] (.p (.agg (rsP (wM p t parts)))) [] := by
  obtain ⟨id, set, alg, tg, rules, kids, obls⟩ := p
  have lp : (parts.map rsP).length = parts.length := by simp
  replace hp : obls.length ≤ 500000 := hp
  have hM : allM alg (parts.map Rs.m) ∈ mks := allM_mem fun m h => by
    obtain ⟨x, hx, rfl⟩ := List.mem_map.1 h
    exact hm x hx
  have HC := combAll_h alg (parts.map Rs.m) (by simpa using hn) (fun m h => by
    obtain ⟨x, hx, rfl⟩ := List.mem_map.1 h
    exact hm x hx)
  rw [show wM (.mk id set alg tg rules kids obls) t parts = joinX alg obls (allM alg (parts.map Rs.m)) t parts from rfl, zf]
  simp only [Pol.id, Pol.set, Pol.alg, Pol.target, Pol.rules, Pol.kids, Pol.obls]
  obtain ⟨M, hMe⟩ : ∃ M, M = allM alg (parts.map Rs.m) := ⟨_, rfl⟩
  rw [← hMe] at hM HC ⊢
  clear hMe
  unfold joinX
  refine .ofW ?_
  refine qR (T := TTab) qe Tryz.func69 (by kernel_rfl) rfl rfl rfl ?_
  (repeat refine qb ?_); refine qa ?_
  repeat (first | refine zR ?_ | refine zK ?_ | refine zM ?_ | refine zB ?_ | refine zA ?_ | refine zS ?_ | refine zL ?_)
  refine qc ?_
  (repeat refine qb ?_); refine qa ?_
  repeat (first | refine zR ?_ | refine zK ?_ | refine zM ?_ | refine zB ?_ | refine zA ?_ | refine zS ?_ | refine zL ?_)
  refine qc ?_
  (repeat refine qb ?_); refine qa ?_
  repeat (first | refine zR ?_ | refine zK ?_ | refine zM ?_ | refine zB ?_ | refine zA ?_ | refine zS ?_ | refine zL ?_)
  refine qc ?_
  (repeat refine qb ?_); refine ql ?_
  refine SW.wk (jP 7 900 36 1 rfl rfl) ?_
  refine SW.wk (qq [1, 2, 3, 6, 7, 15, 16, 17] [(3, 3), (6, 6), (900, 0)] rfl rfl) ?_
  refine qO (fun n s => ∃ (k : Nat) (kk : Int), k ≤ parts.length ∧ n = parts.length - k ∧ kk = k ∧ s = ⟨84, [(1, .p (pI t)), (2, .p (rssP parts)), (3, .ptr 3 0), (6, .ptr 6 0), (7, .row 0), (15, .p (rssP parts)), (16, .p (pI (parts.map rsP).length)), (17, .p (pI kk))], [(3, .cells [.p (pS id), .p (pB set), .p (pI alg), .p (tgtP tg), .p (.sl 5 (rules.map zt)), .p (.sl 7 (kids.map polP)), .p (zQ obls)]), (6, .cells [.p (.v (.complex .f64 0 0)), .p nilV]), (0, .row 36 1 (((parts.take k).map Rs.m).map fun m => [mkP m]))]⟩) parts.length ⟨0, 0, Nat.zero_le _, rfl, rfl, rfl⟩ ?_
  rintro n s ⟨k, _, hk, rfl, rfl, rfl⟩
  (repeat refine qb ?_); refine qa ?_
  repeat (first | refine zR ?_ | refine zK ?_ | refine zM ?_ | refine zB ?_ | refine zA ?_ | refine zS ?_ | refine zL ?_)
  refine qc ?_
  (repeat refine qb ?_); refine qf rfl (fun hlt => ?_) (fun hlt => ?_)
  · refine qm ?_
    rw [lp] at hlt
    simp only [decide_eq_true_eq] at hlt
    have hlt' : k < parts.length := by omega
    obtain ⟨x, hx⟩ : ∃ x, x = parts[k] := ⟨_, rfl⟩
    (repeat refine qb ?_); refine ql ?_
    (repeat refine qb ?_); refine qa ?_
    repeat (first | refine zR ?_ | refine zK ?_ | refine zM ?_ | refine zB ?_ | refine zA ?_ | refine zS ?_ | refine zL ?_)
    refine qw qe rfl rfl (by rw [lp]; omega) rfl ?_
    rw [qJ hlt', ← hx]
    repeat (first | refine zR ?_ | refine zK ?_ | refine zM ?_ | refine zB ?_ | refine zA ?_ | refine zS ?_ | refine zL ?_)
    refine qc ?_
    (repeat refine qb ?_); refine qa ?_
    repeat (first | refine zR ?_ | refine zK ?_ | refine zM ?_ | refine zB ?_ | refine zA ?_ | refine zS ?_ | refine zL ?_)
    refine qn rfl (qp qe rfl rfl rfl rfl rfl rfl rfl rfl rfl rfl rfl rfl rfl rfl rfl rfl (by simp only [List.length_append, List.length_map, List.length_take, List.length_cons, List.length_nil]; unfold reachBytes; omega) (by simp only [List.length_append, List.length_map, List.length_take, List.length_cons, List.length_nil]; omega) ?_)
    repeat (first | refine zR ?_ | refine zK ?_ | refine zM ?_ | refine zB ?_ | refine zA ?_ | refine zS ?_ | refine zL ?_)
    refine qc ?_
    (repeat refine qb ?_); refine qa ?_
    repeat (first | refine zR ?_ | refine zK ?_ | refine zM ?_ | refine zB ?_ | refine zA ?_ | refine zS ?_ | refine zL ?_)
    refine qc ?_
    refine ⟨_, _, ?_, qq [1, 2, 3, 6, 7, 15, 16, 17] [(3, 3), (6, 6), (25, 0)] rfl rfl, k + 1, _, hlt', rfl, qz hlt' (by omega), ?_⟩
    · omega
    · rw [List.take_succ_eq_append_getElem hlt', ← hx, List.map_append, List.map_append]; rfl
  · refine qK ?_
    rw [lp] at hlt
    simp only [decide_eq_false_iff_not] at hlt
    have hkk : k = parts.length := by omega
    subst hkk
    rw [List.take_length]
    (repeat refine qb ?_); refine qa ?_
    repeat (first | refine zR ?_ | refine zK ?_ | refine zM ?_ | refine zB ?_ | refine zA ?_ | refine zS ?_ | refine zL ?_)
    refine qn rfl (qg rfl rfl rfl rfl (HC) rfl rfl ?_)
    repeat (first | refine zR ?_ | refine zK ?_ | refine zM ?_ | refine zB ?_ | refine zA ?_ | refine zS ?_ | refine zL ?_)
    refine qc ?_
    (repeat refine qb ?_); refine ql ?_
    (repeat refine qb ?_); refine qa ?_
    repeat (first | refine zR ?_ | refine zK ?_ | refine zM ?_ | refine zB ?_ | refine zA ?_ | refine zS ?_ | refine zL ?_)
    refine qc ?_
    (repeat refine qb ?_); refine qf rfl (fun c0 => ?_) (fun c0 => ?_)
    · have e : t = 0 := by simpa using c0
      rw [if_pos e]
      (repeat refine qb ?_); refine qa ?_
      repeat (first | refine zR ?_ | refine zK ?_ | refine zM ?_ | refine zB ?_ | refine zA ?_ | refine zS ?_ | refine zL ?_)
      refine qc ?_
      (repeat refine qb ?_); refine qk ?_
      exact ⟨Or.inr rfl, _, _, [], _, Wk.refl _, rfl, rfl, .p (CvL.agg (.cons (.refl _) (.cons (.nil 3) .nil))), rfl, rfl⟩
    have n0 : ¬ t = 0 := by simpa using c0
    rw [if_neg n0]
    (repeat refine qb ?_); refine qa ?_
    repeat (first | refine zR ?_ | refine zK ?_ | refine zM ?_ | refine zB ?_ | refine zA ?_ | refine zS ?_ | refine zL ?_)
    refine qc ?_
    (repeat refine qb ?_); refine qf rfl (fun c1 => ?_) (fun c1 => ?_)
    · have e : t = 1 := by simpa using c1
      rw [if_pos e]
      (repeat refine qb ?_); refine qa ?_
      repeat (first | refine zR ?_ | refine zK ?_ | refine zM ?_ | refine zB ?_ | refine zA ?_ | refine zS ?_ | refine zL ?_)
      refine qn rfl (qg rfl rfl rfl rfl (qas M hM) rfl rfl ?_)
      repeat (first | refine zR ?_ | refine zK ?_ | refine zM ?_ | refine zB ?_ | refine zA ?_ | refine zS ?_ | refine zL ?_)
      refine qc ?_
      (repeat refine qb ?_); refine qk ?_
      exact ⟨Or.inr rfl, _, _, [], _, Wk.refl _, rfl, rfl, .p (CvL.agg (.cons (.refl _) (.cons (.nil 3) .nil))), rfl, rfl⟩
    have n1 : ¬ t = 1 := by simpa using c1
    rw [if_neg n1]
    have hP : mkE M (2, 0) = decide (M = (2, 0)) := mkE_eq hM (by simp [mks])
    have hD : mkE M (0, 2) = decide (M = (0, 2)) := mkE_eq hM (by simp [mks])
    (repeat refine qb ?_); refine qs (by kernel_rfl) ?_
    repeat (refine qr qe rfl (by exact True.intro) rfl ?_)
    refine qQ ?_
    (repeat refine qb ?_); refine qf rfl (fun c2 => ?_) (fun c2 => ?_)
    · have e : M ≠ (2, 0) ∧ M ≠ (0, 2) := by
        change (bif !mkE M (2, 0) then !mkE M (0, 2) else false) = true at c2
        rw [hP, hD] at c2
        revert c2
        by_cases a : M = (2, 0) <;> by_cases b : M = (0, 2) <;> simp [a, b]
      rw [if_pos e]
      (repeat refine qb ?_); refine qa ?_
      repeat (first | refine zR ?_ | refine zK ?_ | refine zM ?_ | refine zB ?_ | refine zA ?_ | refine zS ?_ | refine zL ?_)
      refine qc ?_
      (repeat refine qb ?_); refine qk ?_
      exact ⟨Or.inr rfl, _, _, [], _, Wk.refl _, rfl, rfl, .p (CvL.agg (.cons (.refl _) (.cons (.nil 3) .nil))), rfl, rfl⟩
    have e : ¬ (M ≠ (2, 0) ∧ M ≠ (0, 2)) := by
      change (bif !mkE M (2, 0) then !mkE M (0, 2) else false) = false at c2
      rw [hP, hD] at c2
      revert c2
      by_cases a : M = (2, 0) <;> by_cases b : M = (0, 2) <;> simp [a, b]
    rw [if_neg e]
    refine qm ?_
    (repeat refine qb ?_); refine qa ?_
    repeat (first | refine zR ?_ | refine zK ?_ | refine zM ?_ | refine zB ?_ | refine zA ?_ | refine zS ?_ | refine zL ?_)
    refine qc ?_
    (repeat refine qb ?_); refine qa ?_
    repeat (first | refine zR ?_ | refine zK ?_ | refine zM ?_ | refine zB ?_ | refine zA ?_ | refine zS ?_ | refine zL ?_)
    refine qc ?_
    (repeat refine qb ?_); refine ql ?_
    refine SW.wk (wk_nilc 12 1 900 43 3 rfl rfl rfl) ?_
    refine SW.wk (qq [3, 6, 10, 12, 55, 56, 57] [(3, 3), (6, 6), (12, 12), (900, 0)] rfl rfl) ?_
    refine qO (fun n s => ∃ (k : Nat) (kk : Int) (acc : List Obli), k ≤ parts.length ∧ n = parts.length - k ∧ kk = k ∧ acc.length ≤ oblN (parts.take k) ∧ wF alg M parts = acc ++ wF alg M (parts.drop k) ∧ s = ⟨84, [(3, .ptr 3 0), (6, .ptr 6 0), (10, .p (mkP M)), (12, .ptr 12 0), (55, .p (rssP parts)), (56, .p (pI (parts.map rsP).length)), (57, .p (pI kk))], [(3, .cells [.p (pS id), .p (pB set), .p (pI alg), .p (tgtP tg), .p (.sl 5 (rules.map zt)), .p (.sl 7 (kids.map polP)), .p (zQ obls)]), (6, .cells [.p (.v (.complex .f64 0 0)), .p nilV]), (12, .cells [.p (mkP M), .row 0]), (0, .row 43 3 (acc.map Obli.pv))]⟩) parts.length ⟨0, 0, [], Nat.zero_le _, rfl, rfl, Nat.zero_le _, rfl, rfl⟩ ?_
    rintro n s ⟨k, _, acc, hk, rfl, rfl, hacc, hfin, rfl⟩
    have htk := oblN_le parts k
    (repeat refine qb ?_); refine qa ?_
    repeat (first | refine zR ?_ | refine zK ?_ | refine zM ?_ | refine zB ?_ | refine zA ?_ | refine zS ?_ | refine zL ?_)
    refine qc ?_
    (repeat refine qb ?_); refine qf rfl (fun hlt => ?_) (fun hlt => ?_)
    · refine qm ?_
      rw [lp] at hlt
      simp only [decide_eq_true_eq] at hlt
      have hlt' : k < parts.length := by omega
      have hs := oblN_take hlt'
      have htk2 := oblN_le parts (k + 1)
      have hxm := hm _ (List.getElem_mem hlt')
      rw [List.drop_eq_getElem_cons hlt', wF] at hfin
      (repeat refine qb ?_); refine ql ?_
      (repeat refine qb ?_); refine qa ?_
      repeat (first | refine zR ?_ | refine zK ?_ | refine zM ?_ | refine zB ?_ | refine zA ?_ | refine zS ?_ | refine zL ?_)
      refine qw qe rfl rfl (by rw [lp]; omega) rfl ?_
      rw [qJ hlt']
      repeat (first | refine zR ?_ | refine zK ?_ | refine zM ?_ | refine zB ?_ | refine zA ?_ | refine zS ?_ | refine zL ?_)
      refine qc ?_
      generalize parts[k] = x at *
      have hE : mkE x.m M = decide (x.m = M) := mkE_eq hxm hM
      (repeat refine qb ?_); refine qa ?_
      repeat (first | refine zR ?_ | refine zK ?_ | refine zM ?_ | refine zB ?_ | refine zA ?_ | refine zS ?_ | refine zL ?_)
      refine qc ?_
      (repeat refine qb ?_); refine qf rfl (fun cx => ?_) (fun cx => ?_)
      · have e : ¬ x.m = M := by
          change (!mkE x.m M) = true at cx
          rw [hE] at cx
          simpa using cx
        rw [if_neg e] at hfin
        refine qK ?_
        (repeat refine qb ?_); refine qa ?_
        repeat (first | refine zR ?_ | refine zK ?_ | refine zM ?_ | refine zB ?_ | refine zA ?_ | refine zS ?_ | refine zL ?_)
        refine qc ?_
        refine ⟨_, _, ?_, qq [3, 6, 10, 12, 55, 56, 57] [(3, 3), (6, 6), (12, 12), (0, 0)] rfl rfl, k + 1, _, acc, hlt', rfl, qz hlt' (by omega), by omega, hfin, rfl⟩
        omega
      · have e : x.m = M := by
          change (!mkE x.m M) = false at cx
          rw [hE] at cx
          simpa using cx
        rw [if_pos e] at hfin
        refine qm ?_
        (repeat refine qb ?_); refine qa ?_
        repeat (first | refine zR ?_ | refine zK ?_ | refine zM ?_ | refine zB ?_ | refine zA ?_ | refine zS ?_ | refine zL ?_)
        refine qn rfl (qp qe rfl rfl rfl rfl rfl rfl rfl rfl rfl rfl rfl rfl rfl rfl rfl rfl (by simp only [List.length_append, List.length_map, List.length_take, List.length_cons, List.length_nil]; unfold reachBytes; omega) (by simp only [List.length_append, List.length_map, List.length_take, List.length_cons, List.length_nil]; omega) ?_)
        repeat (first | refine zR ?_ | refine zK ?_ | refine zM ?_ | refine zB ?_ | refine zA ?_ | refine zS ?_ | refine zL ?_)
        refine qc ?_
        (repeat refine qb ?_); refine qa ?_
        repeat (first | refine zR ?_ | refine zK ?_ | refine zM ?_ | refine zB ?_ | refine zA ?_ | refine zS ?_ | refine zL ?_)
        refine qc ?_
        (repeat refine qb ?_); refine qf rfl (fun c3 => ?_) (fun c3 => ?_)
        · have e3 : alg = 3 := by simpa using c3
          rw [if_pos e3] at hfin
          refine qK ?_
          obtain ⟨acc2, ha2⟩ : ∃ acc2, acc2 = acc ++ x.obls := ⟨_, rfl⟩
          have hl2 : acc2.length = acc.length + x.obls.length := by rw [ha2, List.length_append]
          rw [← ha2] at hfin
          refine SW.wk (qq [3, 6, 10, 12] [(3, 3), (6, 6), (12, 12), (69, 69)] rfl rfl) ?_
          have eL : acc.map Obli.pv ++ x.obls.map Obli.pv = acc2.map Obli.pv := by rw [ha2, List.map_append]
          change SW _ _ _ ⟨84, [(3, .ptr 3 0), (6, .ptr 6 0), (10, .p (mkP M)), (12, .ptr 12 0)], [(3, .cells [.p (pS id), .p (pB set), .p (pI alg), .p (tgtP tg), .p (.sl 5 (rules.map zt)), .p (.sl 7 (kids.map polP)), .p (zQ obls)]), (6, .cells [.p (.v (.complex .f64 0 0)), .p nilV]), (12, .cells [.p (mkP M), .row 69]), (69, .row 43 3 (acc.map Obli.pv ++ x.obls.map Obli.pv))]⟩
          rw [eL]
          have hacc2 : acc2.length ≤ 1000000 := by omega
          have hdl := wq obls M
          (repeat refine qb ?_); refine zH 9 rfl (by kernel_rfl) ?_
          refine qy (i := 0) (K := [12, 69]) (by kernel_rfl) (by kernel_rfl) rfl rfl (qi qe rfl (by exact True.intro)) rfl ?_
          refine qy (i := 1) (K := []) (by kernel_rfl) (by kernel_rfl) rfl rfl (qi qe rfl (by exact True.intro)) rfl ?_
          refine qy (i := 2) (K := [12, 69]) (by kernel_rfl) (by kernel_rfl) rfl rfl (qi qe rfl (by exact True.intro)) rfl ?_
          refine qy (i := 3) (K := [12, 69]) (by kernel_rfl) (by kernel_rfl) rfl rfl (qi qe rfl (by exact True.intro)) rfl ?_
          refine qy (i := 4) (K := [12, 69]) (by kernel_rfl) (by kernel_rfl) rfl rfl (qi qe rfl (by exact True.intro)) rfl ?_
          refine qo 5 (by kernel_rfl) ?_
          refine qd rfl rfl rfl (qD rfl rfl rfl rfl ((duties_h obls (by omega) M hM)) rfl rfl rfl ?_)
          refine qo 6 (by kernel_rfl) ?_
          refine qd rfl rfl rfl (qp qe rfl rfl rfl rfl rfl rfl rfl rfl rfl rfl rfl rfl rfl rfl rfl rfl (by simp only [List.length_append, List.length_map, List.length_take, List.length_cons, List.length_nil]; unfold reachBytes; omega) (by simp only [List.length_append, List.length_map, List.length_take, List.length_cons, List.length_nil]; omega) ?_)
          refine qy (i := 7) (K := [12, 69]) (by kernel_rfl) (by kernel_rfl) rfl rfl (qi qe rfl (by exact True.intro)) rfl ?_
          refine qo 8 (by kernel_rfl) ?_
          first | refine qd rfl rfl rfl (aM (h := ?_)) | refine qd rfl rfl rfl (aB (h := ?_)) | refine qd rfl rfl rfl (aA (h := ?_)) | refine qd rfl rfl rfl (aS (h := ?_)) | refine qd rfl rfl rfl (aL (h := ?_)) | refine qd rfl rfl rfl (qv (K := []) (qi qe rfl (by exact True.intro)) rfl ?_)
          refine zd (by kernel_rfl) ?_
          refine SW.wk (qq [3, 6, 12] [(3, 3), (6, 6), (12, 12), (81, 81)] rfl rfl) ?_
          refine ?fk22_223
          rotate_left
          (repeat refine qb ?_); refine qa ?_
          repeat (first | refine zR ?_ | refine zK ?_ | refine zM ?_ | refine zB ?_ | refine zA ?_ | refine zS ?_ | refine zL ?_)
          refine qc ?_
          (repeat refine qb ?_); refine qk ?_
          rw [hfin, rs_app]
          exact ⟨Or.inr rfl, _, _, [], _, zN (k := 81) rfl, rfl, rfl, .refl _, rfl, rfl⟩
        · have e3 : ¬ alg = 3 := by simpa using c3
          rw [if_neg e3] at hfin
          refine qm ?_
          (repeat refine qb ?_); refine qa ?_
          repeat (first | refine zR ?_ | refine zK ?_ | refine zM ?_ | refine zB ?_ | refine zA ?_ | refine zS ?_ | refine zL ?_)
          refine qc ?_
          refine ⟨_, _, ?_, qq [3, 6, 10, 12, 55, 56, 57] [(3, 3), (6, 6), (12, 12), (69, 0)] rfl rfl, k + 1, _, acc ++ x.obls, hlt', rfl, qz hlt' (by omega), by rw [List.length_append]; omega, by rw [List.append_assoc]; exact hfin, ?_⟩
          · omega
          · rw [List.map_append]; rfl
    · refine qK ?_
      rw [lp] at hlt
      simp only [decide_eq_false_iff_not] at hlt
      have hkk : k = parts.length := by omega
      subst hkk
      rw [List.drop_length, wF, List.append_nil] at hfin
      obtain ⟨acc2, ha2⟩ : ∃ acc2, acc2 = acc := ⟨_, rfl⟩
      rw [← ha2] at hfin hacc ⊢
      have hacc2 : acc2.length ≤ 1000000 := by omega
      have hdl := wq obls M
      (repeat refine qb ?_); refine zH 9 rfl (by kernel_rfl) ?_
      refine qy (i := 0) (K := [12, 0]) (by kernel_rfl) (by kernel_rfl) rfl rfl (qi qe rfl (by exact True.intro)) rfl ?_
      refine qy (i := 1) (K := []) (by kernel_rfl) (by kernel_rfl) rfl rfl (qi qe rfl (by exact True.intro)) rfl ?_
      refine qy (i := 2) (K := [12, 0]) (by kernel_rfl) (by kernel_rfl) rfl rfl (qi qe rfl (by exact True.intro)) rfl ?_
      refine qy (i := 3) (K := [12, 0]) (by kernel_rfl) (by kernel_rfl) rfl rfl (qi qe rfl (by exact True.intro)) rfl ?_
      refine qy (i := 4) (K := [12, 0]) (by kernel_rfl) (by kernel_rfl) rfl rfl (qi qe rfl (by exact True.intro)) rfl ?_
      refine qo 5 (by kernel_rfl) ?_
      refine qd rfl rfl rfl (qD rfl rfl rfl rfl ((duties_h obls (by omega) M hM)) rfl rfl rfl ?_)
      refine qo 6 (by kernel_rfl) ?_
      refine qd rfl rfl rfl (qp qe rfl rfl rfl rfl rfl rfl rfl rfl rfl rfl rfl rfl rfl rfl rfl rfl (by simp only [List.length_append, List.length_map, List.length_take, List.length_cons, List.length_nil]; unfold reachBytes; omega) (by simp only [List.length_append, List.length_map, List.length_take, List.length_cons, List.length_nil]; omega) ?_)
      refine qy (i := 7) (K := [12, 0]) (by kernel_rfl) (by kernel_rfl) rfl rfl (qi qe rfl (by exact True.intro)) rfl ?_
      refine qo 8 (by kernel_rfl) ?_
      first | refine qd rfl rfl rfl (aM (h := ?_)) | refine qd rfl rfl rfl (aB (h := ?_)) | refine qd rfl rfl rfl (aA (h := ?_)) | refine qd rfl rfl rfl (aS (h := ?_)) | refine qd rfl rfl rfl (aL (h := ?_)) | refine qd rfl rfl rfl (qv (K := []) (qi qe rfl (by exact True.intro)) rfl ?_)
      refine zd (by kernel_rfl) ?_
      refine SW.wk (qq [3, 6, 12] [(3, 3), (6, 6), (12, 12), (81, 81)] rfl rfl) ?_
      refine ?fk22_265
      rotate_left
      (repeat refine qb ?_); refine qa ?_
      repeat (first | refine zR ?_ | refine zK ?_ | refine zM ?_ | refine zB ?_ | refine zA ?_ | refine zS ?_ | refine zL ?_)
      refine qc ?_
      (repeat refine qb ?_); refine qk ?_
      rw [hfin, rs_app]
      exact ⟨Or.inr rfl, _, _, [], _, zN (k := 81) rfl, rfl, rfl, .refl _, rfl, rfl⟩
end Go.Proofs.YtppfcacnofjmdaaGreatDoor
namespace Go.Proofs.YtppfcacnofjmdaaGreatDoor
set_option linter.unusedVariables false
set_option linter.unusedSimpArgs false
open Go.RowKit
set_option maxHeartbeats 4000000
theorem partsO_len (alg : Int) (m : Mk) : ∀ l : List Rs, (wF alg m l).length ≤ oblN l
  | [] => Nat.le_refl _
  | x :: l => by
    have ih := partsO_len alg m l
    have e : oblN (x :: l) = x.obls.length + oblN l := by unfold oblN qT; rw [List.map_cons, List.sum_cons]
    rw [wF, e]
    split
    · split
      · omega
      · rw [List.length_append]; omega
    · omega
theorem oblN_append (a b : List Rs) : oblN (a ++ b) = oblN a + oblN b := by unfold oblN qT; rw [List.map_append, List.sum_append]
theorem oblN_map {α : Type} {f : α → Rs} {c : α → Nat} (h : ∀ x, (f x).obls.length ≤ c x) : ∀ l : List α, oblN (l.map f) ≤ qT c l
  | [] => Nat.le_refl _
  | x :: l => by
    have ih := oblN_map h l
    have h1 := h x
    unfold oblN qT at ih ⊢
    rw [List.map_cons, List.map_cons, List.sum_cons, List.map_cons, List.sum_cons]
    omega
theorem effectS_len (r : Rul) (t c : Int) : (jW r t c).obls.length ≤ r.obls.length := by
  unfold jW
  repeat' split
  · exact Nat.zero_le _
  · exact Nat.zero_le _
  · exact wq _ _
theorem ruleR_len (g : List Giv) (r : Rul) : (qaw g r).obls.length ≤ rusz r := by
  have h1 := effectS_len r (metT r.target g) (qam r.cond g)
  have h2 : r.obls.length ≤ osz r.obls := by unfold osz; omega
  have h3 : rusz r = txt r.id + tsz r.target + r.cond.length + osz r.obls + qT nsz r.cond := rfl
  unfold qaw
  omega
theorem parts_len (g : List Giv) (n : Nat) (h : ∀ p, (qF g n p).obls.length ≤ p.sz) (p : Pol) : oblN (p.rules.map (qaw g) ++ p.kids.map (qF g n)) + p.obls.length ≤ p.sz := by
  have h1 := Pol.sz_eq p
  have h2 := oblN_map (ruleR_len g) p.rules
  have h3 := oblN_map h p.kids
  have h4 : p.obls.length ≤ osz p.obls := by unfold osz; omega
  rw [oblN_append]
  omega
theorem decideS_len (g : List Giv) : ∀ (n : Nat) (p : Pol), (qF g n p).obls.length ≤ p.sz
  | 0, p => Nat.zero_le _
  | n + 1, p => by
    have h1 := parts_len g n (decideS_len g n) p
    rw [qF]
    split
    · exact Nat.zero_le _
    · unfold wM
      repeat' split
      · exact Nat.zero_le _
      · exact Nat.zero_le _
      · exact Nat.zero_le _
      · have h2 := partsO_len p.alg (allM p.alg ((p.rules.map (qaw g) ++ p.kids.map (qF g n)).map Rs.m)) (p.rules.map (qaw g) ++ p.kids.map (qF g n))
        have h3 := wq p.obls (allM p.alg ((p.rules.map (qaw g) ++ p.kids.map (qF g n)).map Rs.m))
        simp only [List.length_append]
        omega
theorem tarSm_sz {t : Tar} {n : Nat} (h : tsz t ≤ n) (hn : n ≤ 100000) : TarSm t := by
  refine ⟨by unfold tsz at h; omega, fun x hx => ?_⟩
  have h1 := xsz_le hx
  refine ⟨by unfold xsz at h1; omega, fun y hy => ?_⟩
  have h4 : asz y ≤ xsz x := by have := wb (f := asz) hy; unfold xsz; omega
  unfold asz at h4
  omega
theorem sz_big {p : Pol} {n : Nat} (h : p.sz ≤ n) (hn : n ≤ 100000) : TarSm p.target ∧ p.rules.length ≤ 100000 ∧ p.kids.length ≤ 100000 ∧ p.obls.length ≤ 100000 ∧ (∀ r ∈ p.rules, TarSm r.target ∧ r.cond.length ≤ 100000 ∧ r.obls.length ≤ 100000) ∧ ∀ k ∈ p.kids, k.sz ≤ n := by
  have h1 := Pol.sz_eq p
  have h2 := len_sumBy Pol.sz (fun p => by rw [Pol.sz_eq]; omega) p.kids
  have h3 : p.obls.length ≤ osz p.obls := by unfold osz; omega
  refine ⟨tarSm_sz (n := n) (by omega) hn, by omega, by omega, by omega, fun r hr => ?_, fun k hk => ?_⟩
  · have h4 := wb (f := rusz) hr
    have h5 : r.obls.length ≤ osz r.obls := by unfold osz; omega
    have h6 : rusz r = txt r.id + tsz r.target + r.cond.length + osz r.obls + qT nsz r.cond := rfl
    exact ⟨tarSm_sz (n := n) (by omega) hn, by omega, by omega⟩
  · have := wb (f := Pol.sz) hk
    omega
def DecOk (g : List Giv) (n : Nat) : Prop := ∀ (p : Pol), PolF n p → p.sz ≤ 100000 → Holds Tryz.prog 47 [.agg (polP p), zP g] (.p (.agg (rsP (qF g n p)))) []
theorem dec_step {g : List Giv} (hg : GivOk g) (n : Nat) (IH : DecOk g n) : DecOk g (n + 1) := by
  intro p hf hsz
  obtain ⟨ht, hr, hk, ho, hru, hks⟩ := sz_big hsz (Nat.le_refl _)
  have hpl := parts_len g n (decideS_len g n) p
  have HK := fun k (hk : k ∈ p.kids) => IH k (hf.2.2 k hk) (hks k hk)
  have HM := metT_h p.target g hf.1.tgt ht hg.fit hg.len hg.bags
  have HR := fun r (hr : r ∈ p.rules) => ruleR_h r g (hf.1.rules r hr) (hru r hr).1 (by have := (hru r hr).2.2; omega) hg.fit hg.len hg.bags
  have HJ := join_h p (metT p.target g) (p.rules.map (qaw g) ++ p.kids.map (qF g n)) (by simp; omega) (fun x hx => by
    rcases List.mem_append.1 hx with hx | hx
    · obtain ⟨r, _, rfl⟩ := List.mem_map.1 hx; exact qan _ _ _
    · obtain ⟨k, _, rfl⟩ := List.mem_map.1 hx; exact qaa g n k) (by omega) (by omega)
  have eD : qF g (n + 1) p = if metT p.target g = 0 then noRs else wM p (metT p.target g) (p.rules.map (qaw g) ++ p.kids.map (qF g n)) := rfl
  rw [eD]
  clear eD
  rw [zf] at HJ ⊢
  generalize metT p.target g = t at *
  obtain ⟨id, set, alg, tg, rules, kids, obls⟩ := p
  simp only [Pol.id, Pol.set, Pol.alg, Pol.target, Pol.rules, Pol.kids, Pol.obls] at *
  have l1 : ((rules.map zt).length) = rules.length := by simp
  have l2 : ((kids.map polP).length) = kids.length := by simp
  refine .ofW ?_
  refine qR (T := TTab) qe Tryz.func47 (by kernel_rfl) rfl rfl rfl ?_
  (repeat refine qb ?_); refine qa ?_
  repeat (first | refine zR ?_ | refine zK ?_ | refine zM ?_ | refine zB ?_ | refine zA ?_ | refine zS ?_ | refine zL ?_)
  refine qc ?_
  (repeat refine qb ?_); refine qa ?_
  repeat (first | refine zR ?_ | refine zK ?_ | refine zM ?_ | refine zB ?_ | refine zA ?_ | refine zS ?_ | refine zL ?_)
  refine qn rfl (qg rfl rfl rfl rfl (HM) rfl rfl ?_)
  repeat (first | refine zR ?_ | refine zK ?_ | refine zM ?_ | refine zB ?_ | refine zA ?_ | refine zS ?_ | refine zL ?_)
  refine qc ?_
  (repeat refine qb ?_); refine qa ?_
  repeat (first | refine zR ?_ | refine zK ?_ | refine zM ?_ | refine zB ?_ | refine zA ?_ | refine zS ?_ | refine zL ?_)
  refine qc ?_
  (repeat refine qb ?_); refine qf rfl (fun h0 => ?_) (fun h0 => ?_)
  · have e : t = 0 := by simpa using h0
    rw [if_pos e]
    (repeat refine qb ?_); refine qa ?_
    repeat (first | refine zR ?_ | refine zK ?_ | refine zM ?_ | refine zB ?_ | refine zA ?_ | refine zS ?_ | refine zL ?_)
    refine qc ?_
    (repeat refine qb ?_); refine qk ?_
    exact ⟨Or.inr rfl, _, _, [], _, Wk.refl _, rfl, rfl, .p (CvL.agg (.cons (.refl _) (.cons (.nil 3) .nil))), rfl, rfl⟩
  have n0 : ¬ t = 0 := by simpa using h0
  rw [if_neg n0]
  refine qm ?_
  (repeat refine qb ?_); refine qa ?_
  repeat (first | refine zR ?_ | refine zK ?_ | refine zM ?_ | refine zB ?_ | refine zA ?_ | refine zS ?_ | refine zL ?_)
  refine qc ?_
  (repeat refine qb ?_); refine qa ?_
  repeat (first | refine zR ?_ | refine zK ?_ | refine zM ?_ | refine zB ?_ | refine zA ?_ | refine zS ?_ | refine zL ?_)
  refine qc ?_
  (repeat refine qb ?_); refine ql ?_
  refine SW.wk (jP 6 900 38 2 rfl rfl) ?_
  refine SW.wk (qq [1, 2, 4, 5, 6, 19, 20, 21] [(2, 2), (4, 4), (900, 0)] rfl rfl) ?_
  refine qO (fun m s => ∃ (k : Nat) (kk : Int), k ≤ rules.length ∧ m = rules.length - k ∧ kk = k ∧ s = ⟨50, [(1, .p (zP g)), (2, .ptr 2 0), (4, .ptr 4 0), (5, .p (pI t)), (6, .row 0), (19, .p (.sl 5 (rules.map zt))), (20, .p (pI (rules.map zt).length)), (21, .p (pI kk))], [(2, .cells [.p (pS id), .p (pB set), .p (pI alg), .p (tgtP tg), .p (.sl 5 (rules.map zt)), .p (.sl 7 (kids.map polP)), .p (zQ obls)]), (4, .cells [.p (.v (.complex .f64 0 0)), .p nilV]), (0, .row 38 2 (((rules.take k).map (qaw g)).map rsP))]⟩) rules.length ⟨0, 0, Nat.zero_le _, rfl, rfl, rfl⟩ ?_
  rintro m s ⟨k, _, hk', rfl, rfl, rfl⟩
  (repeat refine qb ?_); refine qa ?_
  repeat (first | refine zR ?_ | refine zK ?_ | refine zM ?_ | refine zB ?_ | refine zA ?_ | refine zS ?_ | refine zL ?_)
  refine qc ?_
  (repeat refine qb ?_); refine qf rfl (fun hlt => ?_) (fun hlt => ?_)
  · refine qm ?_
    rw [l1] at hlt
    simp only [decide_eq_true_eq] at hlt
    have hlt' : k < rules.length := by omega
    have H := HR _ (List.getElem_mem hlt')
    obtain ⟨x, hx⟩ : ∃ x, x = rules[k] := ⟨_, rfl⟩
    rw [← hx] at H
    (repeat refine qb ?_); refine ql ?_
    (repeat refine qb ?_); refine qa ?_
    repeat (first | refine zR ?_ | refine zK ?_ | refine zM ?_ | refine zB ?_ | refine zA ?_ | refine zS ?_ | refine zL ?_)
    refine qw qe rfl rfl (by rw [l1]; omega) rfl ?_
    rw [qJ hlt', ← hx]
    repeat (first | refine zR ?_ | refine zK ?_ | refine zM ?_ | refine zB ?_ | refine zA ?_ | refine zS ?_ | refine zL ?_)
    refine qc ?_
    (repeat refine qb ?_); refine qa ?_
    repeat (first | refine zR ?_ | refine zK ?_ | refine zM ?_ | refine zB ?_ | refine zA ?_ | refine zS ?_ | refine zL ?_)
    refine qn rfl (qD rfl rfl rfl rfl (H) rfl rfl rfl ?_)
    repeat (first | refine zR ?_ | refine zK ?_ | refine zM ?_ | refine zB ?_ | refine zA ?_ | refine zS ?_ | refine zL ?_)
    refine qn rfl (qp qe rfl rfl rfl rfl rfl rfl rfl rfl rfl rfl rfl rfl rfl rfl rfl rfl (by simp only [List.length_append, List.length_map, List.length_take, List.length_cons, List.length_nil]; unfold reachBytes; omega) (by simp only [List.length_append, List.length_map, List.length_take, List.length_cons, List.length_nil]; omega) ?_)
    repeat (first | refine zR ?_ | refine zK ?_ | refine zM ?_ | refine zB ?_ | refine zA ?_ | refine zS ?_ | refine zL ?_)
    refine qc ?_
    (repeat refine qb ?_); refine qa ?_
    repeat (first | refine zR ?_ | refine zK ?_ | refine zM ?_ | refine zB ?_ | refine zA ?_ | refine zS ?_ | refine zL ?_)
    refine qc ?_
    refine ⟨_, _, ?_, qq [1, 2, 4, 5, 6, 19, 20, 21] [(2, 2), (4, 4), (30, 0)] rfl rfl, k + 1, _, hlt', rfl, qz hlt' (by omega), ?_⟩
    · omega
    · rw [List.take_succ_eq_append_getElem hlt', ← hx, List.map_append, List.map_append]; rfl
  · refine qK ?_
    rw [l1] at hlt
    simp only [decide_eq_false_iff_not] at hlt
    have hkk : k = rules.length := by omega
    subst hkk
    rw [List.take_length]
    (repeat refine qb ?_); refine qa ?_
    repeat (first | refine zR ?_ | refine zK ?_ | refine zM ?_ | refine zB ?_ | refine zA ?_ | refine zS ?_ | refine zL ?_)
    refine qc ?_
    (repeat refine qb ?_); refine ql ?_
    refine SW.wk (qq [1, 2, 4, 5, 6, 33, 34, 35] [(2, 2), (4, 4), (0, 0)] rfl rfl) ?_
    refine qO (fun m s => ∃ (k : Nat) (kk : Int) (L : List Rs), k ≤ kids.length ∧ m = kids.length - k ∧ kk = k ∧ L = rules.map (qaw g) ++ (kids.take k).map (qF g n) ∧ s = ⟨50, [(1, .p (zP g)), (2, .ptr 2 0), (4, .ptr 4 0), (5, .p (pI t)), (6, .row 0), (33, .p (.sl 7 (kids.map polP))), (34, .p (pI (kids.map polP).length)), (35, .p (pI kk))], [(2, .cells [.p (pS id), .p (pB set), .p (pI alg), .p (tgtP tg), .p (.sl 5 (rules.map zt)), .p (.sl 7 (kids.map polP)), .p (zQ obls)]), (4, .cells [.p (.v (.complex .f64 0 0)), .p nilV]), (0, .row 38 2 (L.map rsP))]⟩) kids.length ⟨0, 0, rules.map (qaw g), Nat.zero_le _, rfl, rfl, by simp, rfl⟩ ?_
    rintro m s ⟨k, _, L, hk', rfl, rfl, hL, rfl⟩
    have hLl : L.length = rules.length + min k kids.length := by rw [hL]; simp
    (repeat refine qb ?_); refine qa ?_
    repeat (first | refine zR ?_ | refine zK ?_ | refine zM ?_ | refine zB ?_ | refine zA ?_ | refine zS ?_ | refine zL ?_)
    refine qc ?_
    (repeat refine qb ?_); refine qf rfl (fun hlt => ?_) (fun hlt => ?_)
    · refine qm ?_
      rw [l2] at hlt
      simp only [decide_eq_true_eq] at hlt
      have hlt' : k < kids.length := by omega
      have H := HK _ (List.getElem_mem hlt')
      obtain ⟨x, hx⟩ : ∃ x, x = kids[k] := ⟨_, rfl⟩
      rw [← hx, zf] at H
      (repeat refine qb ?_); refine ql ?_
      (repeat refine qb ?_); refine qa ?_
      repeat (first | refine zR ?_ | refine zK ?_ | refine zM ?_ | refine zB ?_ | refine zA ?_ | refine zS ?_ | refine zL ?_)
      refine qw qe rfl rfl (by rw [l2]; omega) rfl ?_
      rw [qJ hlt', ← hx, zf]
      repeat (first | refine zR ?_ | refine zK ?_ | refine zM ?_ | refine zB ?_ | refine zA ?_ | refine zS ?_ | refine zL ?_)
      refine qc ?_
      (repeat refine qb ?_); refine qa ?_
      repeat (first | refine zR ?_ | refine zK ?_ | refine zM ?_ | refine zB ?_ | refine zA ?_ | refine zS ?_ | refine zL ?_)
      refine qn rfl (qD rfl rfl rfl rfl (H) rfl rfl rfl ?_)
      repeat (first | refine zR ?_ | refine zK ?_ | refine zM ?_ | refine zB ?_ | refine zA ?_ | refine zS ?_ | refine zL ?_)
      refine qn rfl (qp qe rfl rfl rfl rfl rfl rfl rfl rfl rfl rfl rfl rfl rfl rfl rfl rfl (by simp only [List.length_append, List.length_map, List.length_take, List.length_cons, List.length_nil]; unfold reachBytes; omega) (by simp only [List.length_append, List.length_map, List.length_take, List.length_cons, List.length_nil]; omega) ?_)
      repeat (first | refine zR ?_ | refine zK ?_ | refine zM ?_ | refine zB ?_ | refine zA ?_ | refine zS ?_ | refine zL ?_)
      refine qc ?_
      (repeat refine qb ?_); refine qa ?_
      repeat (first | refine zR ?_ | refine zK ?_ | refine zM ?_ | refine zB ?_ | refine zA ?_ | refine zS ?_ | refine zL ?_)
      refine qc ?_
      refine ⟨_, _, ?_, qq [1, 2, 4, 5, 6, 33, 34, 35] [(2, 2), (4, 4), (44, 0)] rfl rfl, k + 1, _, L ++ [qF g n x], hlt', rfl, qz hlt' (by omega), ?_, ?_⟩
      · omega
      · rw [hL, List.append_assoc, List.take_succ_eq_append_getElem hlt', List.map_append, ← hx]; rfl
      · rw [List.map_append]; rfl
    · refine qK ?_
      rw [l2] at hlt
      simp only [decide_eq_false_iff_not] at hlt
      have hkk : k = kids.length := by omega
      subst hkk
      rw [List.take_length] at hL
      rw [← hL] at HJ ⊢
      refine SW.wk (zN (k := 0) rfl) ?_
      (repeat refine qb ?_); refine qa ?_
      repeat (first | refine zR ?_ | refine zK ?_ | refine zM ?_ | refine zB ?_ | refine zA ?_ | refine zS ?_ | refine zL ?_)
      refine qn rfl (qD rfl rfl rfl rfl (HJ) rfl rfl rfl ?_)
      repeat (first | refine zR ?_ | refine zK ?_ | refine zM ?_ | refine zB ?_ | refine zA ?_ | refine zS ?_ | refine zL ?_)
      refine qc ?_
      (repeat refine qb ?_); refine qk ?_
      exact ⟨Or.inr rfl, _, _, [], _, Wk.refl _, rfl, rfl, .refl _, rfl, rfl⟩
theorem dec_all {g : List Giv} (hg : GivOk g) : ∀ n, DecOk g n
  | 0 => fun _ h => h.elim
  | n + 1 => dec_step hg n (dec_all hg n)
theorem polF_dp : ∀ {n : Nat} {p : Pol}, PolF n p → Dp n p
  | n + 1, p, h => fun k hk => polF_dp (h.2.2 k hk)
theorem decideS_any (g : List Giv) {n m : Nat} {p : Pol} (hn : Dp n p) (hm : Dp m p) : qF g n p = qF g m p := by
  rcases Nat.le_total n m with h | h
  · exact (decideS_dp g hn h).symm
  · exact decideS_dp g hm h
theorem evPol_h {n : Nat} (p : Pol) (hf : PolF n p) (hsz : p.sz ≤ 100000) (g : List Giv) (hg : GivOk g) : Holds Tryz.prog 19 [.agg (polP p), zP g] (.tup [.p (.agg (rsP (evalS p g).1)), .p (pI (evalS p g).2)]) [] := by
  have HR := right_h p (qaF 4 hf)
  have HD := dec_all hg n p hf hsz
  unfold evalS
  by_cases h : zb p = 0
  · rw [if_pos h]
    rw [decideS_any g (polF_dp hf) (right_dp h)] at HD
    rw [h] at HR
    generalize qF g 4 p = x at *
    rw [zf] at HR HD ⊢
    refine .ofW ?_
    refine qR (T := TTab) qe Tryz.func19 (by kernel_rfl) rfl rfl rfl ?_
    (repeat refine qb ?_); refine qa ?_
    repeat (first | refine zR ?_ | refine zK ?_ | refine zM ?_ | refine zB ?_ | refine zA ?_ | refine zS ?_ | refine zL ?_)
    refine qc ?_
    (repeat refine qb ?_); refine qa ?_
    repeat (first | refine zR ?_ | refine zK ?_ | refine zM ?_ | refine zB ?_ | refine zA ?_ | refine zS ?_ | refine zL ?_)
    refine qn rfl (qg rfl rfl rfl rfl (HR) rfl rfl ?_)
    repeat (first | refine zR ?_ | refine zK ?_ | refine zM ?_ | refine zB ?_ | refine zA ?_ | refine zS ?_ | refine zL ?_)
    refine qc ?_
    (repeat refine qb ?_); refine qf rfl (fun hc => ?_) (fun hc => ?_)
    · cases hc
    refine qm ?_
    (repeat refine qb ?_); refine qa ?_
    repeat (first | refine zR ?_ | refine zK ?_ | refine zM ?_ | refine zB ?_ | refine zA ?_ | refine zS ?_ | refine zL ?_)
    refine qn rfl (qD rfl rfl rfl rfl (HD) rfl rfl rfl ?_)
    repeat (first | refine zR ?_ | refine zK ?_ | refine zM ?_ | refine zB ?_ | refine zA ?_ | refine zS ?_ | refine zL ?_)
    refine qc ?_
    (repeat refine qb ?_); refine qk ?_
    exact ⟨Or.inr rfl, _, _, [], _, Wk.refl _, rfl, rfl, .refl _, rfl, rfl⟩
  · rw [if_neg h]
    rw [zf] at HR ⊢
    refine .ofW ?_
    refine qR (T := TTab) qe Tryz.func19 (by kernel_rfl) rfl rfl rfl ?_
    (repeat refine qb ?_); refine qa ?_
    repeat (first | refine zR ?_ | refine zK ?_ | refine zM ?_ | refine zB ?_ | refine zA ?_ | refine zS ?_ | refine zL ?_)
    refine qc ?_
    (repeat refine qb ?_); refine qa ?_
    repeat (first | refine zR ?_ | refine zK ?_ | refine zM ?_ | refine zB ?_ | refine zA ?_ | refine zS ?_ | refine zL ?_)
    refine qn rfl (qg rfl rfl rfl rfl (HR) rfl rfl ?_)
    repeat (first | refine zR ?_ | refine zK ?_ | refine zM ?_ | refine zB ?_ | refine zA ?_ | refine zS ?_ | refine zL ?_)
    rw [show (zb p != 0) = true by simpa using h]
    refine qc ?_
    (repeat refine qb ?_); refine qf rfl (fun hc => ?_) (fun hc => ?_)
    · (repeat refine qb ?_); refine qa ?_
      repeat (first | refine zR ?_ | refine zK ?_ | refine zM ?_ | refine zB ?_ | refine zA ?_ | refine zS ?_ | refine zL ?_)
      refine qc ?_
      (repeat refine qb ?_); refine qk ?_
      exact ⟨Or.inr rfl, _, _, [], _, Wk.refl _, rfl, rfl, .two (CvL.agg (.cons (.refl _) (.cons (.nil 3) .nil))) (.refl _), rfl, rfl⟩
    · cases hc
end Go.Proofs.YtppfcacnofjmdaaGreatDoor
namespace Go.Proofs.YtppfcacnofjmdaaGreatDoor
set_option linter.unusedVariables false
set_option linter.unusedSimpArgs false
open Go.RowKit
set_option maxHeartbeats 4000000
theorem sameObls_h (l : List Obli) (hn : l.length ≤ 1000000) : Holds Tryz.prog 49 [zQ l, zQ l] (.p (pB true)) [] := by
  refine qA (ts := [4]) Tryz.func49 (by kernel_rfl) rfl rfl rfl ?_
  (repeat refine qb ?_); refine qa ?_
  repeat (first | refine zR ?_ | refine zK ?_ | refine zM ?_ | refine zB ?_ | refine zA ?_ | refine zS ?_ | refine zL ?_)
  refine qc ?_
  (repeat refine qb ?_); refine qa ?_
  repeat (first | refine zR ?_ | refine zK ?_ | refine zM ?_ | refine zB ?_ | refine zA ?_ | refine zS ?_ | refine zL ?_)
  refine qc ?_
  (repeat refine qb ?_); refine qf rfl (fun h0 => ?_) (fun h0 => ?_)
  · exfalso
    simp at h0
  refine qm ?_
  (repeat refine qb ?_); refine qa ?_
  repeat (first | refine zR ?_ | refine zK ?_ | refine zM ?_ | refine zB ?_ | refine zA ?_ | refine zS ?_ | refine zL ?_)
  refine qc ?_
  (repeat refine qb ?_); refine ql ?_
  refine SW.wk (qq [0, 1, 4, 5] [] rfl rfl) ?_
  refine qO (fun m s => ∃ (k : Nat) (kk : Int), k ≤ l.length ∧ m = l.length - k ∧ kk = k ∧ s = ⟨26, [(0, .p (zQ l)), (1, .p (zQ l)), (4, .p (pB false)), (5, .p (pI kk))], []⟩) l.length ⟨0, 0, Nat.zero_le _, rfl, rfl, rfl⟩ ?_
  rintro m s ⟨k, _, hk, rfl, rfl, rfl⟩
  (repeat refine qb ?_); refine qa ?_
  repeat (first | refine zR ?_ | refine zK ?_ | refine zM ?_ | refine zB ?_ | refine zA ?_ | refine zS ?_ | refine zL ?_)
  refine qc ?_
  (repeat refine qb ?_); refine qf rfl (fun hlt => ?_) (fun hlt => ?_)
  · refine qm ?_
    simp only [List.length_map, decide_eq_true_eq] at hlt
    have hlt' : k < l.length := by omega
    obtain ⟨x, hx⟩ : ∃ x, x = l[k] := ⟨_, rfl⟩
    (repeat refine qb ?_); refine ql ?_
    (repeat refine qb ?_); refine zl [] [(0, true), (1, true), (2, true), (3, true), (4, true), (5, true), (6, true), (7, true), (8, true)] (by kernel_rfl) (by kernel_rfl) (by kernel_rfl) ?_
    repeat (first | refine yR ?_ | refine yK ?_ | refine yM ?_ | refine yB ?_ | refine yA ?_ | refine yS ?_ | refine yL ?_)
    refine zi qe rfl rfl rfl (by simp only [List.length_map]; omega) rfl ?_
    rw [qJ hlt', ← hx]
    repeat (first | refine yR ?_ | refine yK ?_ | refine yM ?_ | refine yB ?_ | refine yA ?_ | refine yS ?_ | refine yL ?_)
    refine zi qe rfl rfl rfl (by simp only [List.length_map]; omega) rfl ?_
    rw [qJ hlt', ← hx]
    repeat (first | refine yR ?_ | refine yK ?_ | refine yM ?_ | refine yB ?_ | refine yA ?_ | refine yS ?_ | refine yL ?_)
    refine zi qe rfl rfl rfl (rfl) rfl ?_
    repeat (first | refine yR ?_ | refine yK ?_ | refine yM ?_ | refine yB ?_ | refine yA ?_ | refine yS ?_ | refine yL ?_)
    refine swm_nil ?_
    (repeat refine qb ?_); refine qf rfl (fun hp => ?_) (fun hp => ?_)
    · exfalso
      simp at hp
    refine qm ?_
    (repeat refine qb ?_); refine qa ?_
    repeat (first | refine zR ?_ | refine zK ?_ | refine zM ?_ | refine zB ?_ | refine zA ?_ | refine zS ?_ | refine zL ?_)
    refine qc ?_
    refine ⟨_, _, ?_, qq [0, 1, 4, 5] [] rfl rfl, k + 1, _, hlt', rfl, qz hlt' (by omega), rfl⟩
    omega
  · refine qK ?_
    (repeat refine qb ?_); refine qa ?_
    repeat (first | refine zR ?_ | refine zK ?_ | refine zM ?_ | refine zB ?_ | refine zA ?_ | refine zS ?_ | refine zL ?_)
    refine qc ?_
    (repeat refine qb ?_); refine qk ?_
    exact wS rfl rfl
theorem qav (x : Rs) (hm : x.m ∈ mks) (hl : x.obls.length ≤ 1000000) : Holds Tryz.prog 23 [.agg (rsP x), .agg (rsP x)] (.p (pB true)) [] := by
  have H := sameObls_h x.obls hl
  have hE : mkE x.m x.m = true := by rw [mkE_eq hm hm]; simp
  obtain ⟨m, o⟩ := x
  simp only at H hE ⊢
  refine qA (ts := [4]) Tryz.func23 (by kernel_rfl) rfl rfl rfl ?_
  (repeat refine qb ?_); refine qa ?_
  repeat (first | refine zR ?_ | refine zK ?_ | refine zM ?_ | refine zB ?_ | refine zA ?_ | refine zS ?_ | refine zL ?_)
  refine qc ?_
  (repeat refine qb ?_); refine qa ?_
  repeat (first | refine zR ?_ | refine zK ?_ | refine zM ?_ | refine zB ?_ | refine zA ?_ | refine zS ?_ | refine zL ?_)
  change SWT _ _ _ _ (St.put _ _ (.p (pB (mkE m m))))
  rw [hE]
  repeat (first | refine zR ?_ | refine zK ?_ | refine zM ?_ | refine zB ?_ | refine zA ?_ | refine zS ?_ | refine zL ?_)
  refine qn rfl (qg rfl rfl rfl rfl (H) rfl rfl ?_)
  repeat (first | refine zR ?_ | refine zK ?_ | refine zM ?_ | refine zB ?_ | refine zA ?_ | refine zS ?_ | refine zL ?_)
  refine qc ?_
  (repeat refine qb ?_); refine qk ?_
  exact wS rfl rfl
theorem qaG {p : Pol} {g : List Giv} (h : zb p = 0) : evalS p g = (qF g 4 p, 0) := by unfold evalS; rw [if_pos h]
end Go.Proofs.YtppfcacnofjmdaaGreatDoor
namespace Go.Proofs.YtppfcacnofjmdaaGreatDoor
set_option linter.unusedVariables false
set_option linter.unusedSimpArgs false
open Go.RowKit
set_option maxHeartbeats 4000000
theorem ktarget_h (t : Tar) (h : TarL t) : Holds Tryz.prog 50 [tgtP t] (.row 0) [(0, .row 64 1 (t.map fun x => [anyP x]))] := by
  have lm : (t.map fun x => [anyP x]).length = t.length := by simp
  have h1 := h.1
  refine qA (ts := [2]) Tryz.func50 (by kernel_rfl) rfl rfl rfl ?_
  (repeat refine qb ?_); refine qa ?_
  repeat (first | refine zR ?_ | refine zK ?_ | refine zM ?_ | refine zB ?_ | refine zA ?_ | refine zS ?_ | refine zL ?_)
  refine qc ?_
  (repeat refine qb ?_); refine qa ?_
  repeat (first | refine zR ?_ | refine zK ?_ | refine zM ?_ | refine zB ?_ | refine zA ?_ | refine zS ?_ | refine zL ?_)
  refine qc ?_
  (repeat refine qb ?_); refine qa ?_
  repeat (first | refine zR ?_ | refine zK ?_ | refine zM ?_ | refine zB ?_ | refine zA ?_ | refine zS ?_ | refine zL ?_)
  refine qc ?_
  (repeat refine qb ?_); refine ql ?_
  refine SW.wk (jP 3 900 64 1 rfl rfl) ?_
  refine SW.wk (qq [3, 9, 10, 11] [(900, 0)] rfl rfl) ?_
  refine qO (fun m s => ∃ (k : Nat) (kk : Int), k ≤ t.length ∧ m = t.length - k ∧ kk = k ∧ s = ⟨34, [(3, .row 0), (9, .p (tgtP t)), (10, .p (pI (t.map fun x => [anyP x]).length)), (11, .p (pI kk))], [(0, .row 64 1 ((t.take k).map fun x => [anyP x]))]⟩) t.length ⟨0, 0, Nat.zero_le _, rfl, rfl, rfl⟩ ?_
  rintro m s ⟨k, _, hk, rfl, rfl, rfl⟩
  (repeat refine qb ?_); refine qa ?_
  repeat (first | refine zR ?_ | refine zK ?_ | refine zM ?_ | refine zB ?_ | refine zA ?_ | refine zS ?_ | refine zL ?_)
  refine qc ?_
  (repeat refine qb ?_); refine qf rfl (fun hlt => ?_) (fun hlt => ?_)
  · refine qm ?_
    rw [lm] at hlt
    simp only [decide_eq_true_eq] at hlt
    have hlt' : k < t.length := by omega
    (repeat refine qb ?_); refine ql ?_
    (repeat refine qb ?_); refine qa ?_
    repeat (first | refine zR ?_ | refine zK ?_ | refine zM ?_ | refine zB ?_ | refine zA ?_ | refine zS ?_ | refine zL ?_)
    refine qw qe rfl rfl (by rw [lm]; omega) rfl ?_
    rw [qJ hlt']
    repeat (first | refine zR ?_ | refine zK ?_ | refine zM ?_ | refine zB ?_ | refine zA ?_ | refine zS ?_ | refine zL ?_)
    refine qc ?_
    obtain ⟨x, hx⟩ : ∃ x, x = t[k] := ⟨_, rfl⟩
    have hxl := h.2 _ (List.getElem_mem hlt')
    rw [← hx] at hxl ⊢
    have hxl1 := hxl.1
    have lx : (x.map fun y => [qaB y]).length = x.length := by simp
    (repeat refine qb ?_); refine qa ?_
    repeat (first | refine zR ?_ | refine zK ?_ | refine zM ?_ | refine zB ?_ | refine zA ?_ | refine zS ?_ | refine zL ?_)
    refine qc ?_
    (repeat refine qb ?_); refine qa ?_
    repeat (first | refine zR ?_ | refine zK ?_ | refine zM ?_ | refine zB ?_ | refine zA ?_ | refine zS ?_ | refine zL ?_)
    refine qc ?_
    (repeat refine qb ?_); refine ql ?_
    refine SW.wk (jP 6 900 63 1 rfl rfl) ?_
    refine SW.wk (qq [3, 6, 9, 10, 11, 15, 16, 17] [(0, 0), (900, 1)] rfl rfl) ?_
    refine qO (fun m s => ∃ (j : Nat) (jj : Int), j ≤ x.length ∧ m = x.length - j ∧ jj = j ∧ s = ⟨34, [(3, .row 0), (6, .row 1), (9, .p (tgtP t)), (10, .p (pI (t.map fun x => [anyP x]).length)), (11, .p (pI k)), (15, .p (anyP x)), (16, .p (pI (x.map fun y => [qaB y]).length)), (17, .p (pI jj))], [(0, .row 64 1 ((t.take k).map fun x => [anyP x])), (1, .row 63 1 ((x.take j).map fun y => [qaB y]))]⟩) x.length ⟨0, 0, Nat.zero_le _, rfl, rfl, rfl⟩ ?_
    rintro m s ⟨j, _, hj, rfl, rfl, rfl⟩
    (repeat refine qb ?_); refine qa ?_
    repeat (first | refine zR ?_ | refine zK ?_ | refine zM ?_ | refine zB ?_ | refine zA ?_ | refine zS ?_ | refine zL ?_)
    refine qc ?_
    (repeat refine qb ?_); refine qf rfl (fun hlj => ?_) (fun hlj => ?_)
    · refine qm ?_
      rw [lx] at hlj
      simp only [decide_eq_true_eq] at hlj
      have hlj' : j < x.length := by omega
      (repeat refine qb ?_); refine ql ?_
      (repeat refine qb ?_); refine qa ?_
      repeat (first | refine zR ?_ | refine zK ?_ | refine zM ?_ | refine zB ?_ | refine zA ?_ | refine zS ?_ | refine zL ?_)
      refine qw qe rfl rfl (by rw [lx]; omega) rfl ?_
      rw [qJ hlj']
      repeat (first | refine zR ?_ | refine zK ?_ | refine zM ?_ | refine zB ?_ | refine zA ?_ | refine zS ?_ | refine zL ?_)
      refine qc ?_
      have hyl := hxl.2 _ (List.getElem_mem hlj')
      (repeat refine qb ?_); refine qa ?_
      repeat (first | refine zR ?_ | refine zK ?_ | refine zM ?_ | refine zB ?_ | refine zA ?_ | refine zS ?_ | refine zL ?_)
      refine qn rfl (qp qe rfl rfl rfl rfl rfl rfl rfl rfl rfl rfl rfl rfl rfl rfl rfl rfl (by simp only [List.length_append, List.length_map, List.length_take, List.length_cons, List.length_nil]; unfold reachBytes; omega) (by simp only [List.length_append, List.length_map, List.length_take, List.length_cons, List.length_nil]; omega) ?_)
      refine SWT.wk (zN (k := 24) rfl) ?_
      repeat (first | refine zR ?_ | refine zK ?_ | refine zM ?_ | refine zB ?_ | refine zA ?_ | refine zS ?_ | refine zL ?_)
      refine qn rfl (qp qe rfl rfl rfl rfl rfl rfl rfl rfl rfl rfl rfl rfl rfl rfl rfl rfl (by simp only [List.length_append, List.length_map, List.length_take, List.length_cons, List.length_nil]; unfold reachBytes; omega) (by simp only [List.length_append, List.length_map, List.length_take, List.length_cons, List.length_nil]; omega) ?_)
      repeat (first | refine zR ?_ | refine zK ?_ | refine zM ?_ | refine zB ?_ | refine zA ?_ | refine zS ?_ | refine zL ?_)
      refine qc ?_
      (repeat refine qb ?_); refine qa ?_
      repeat (first | refine zR ?_ | refine zK ?_ | refine zM ?_ | refine zB ?_ | refine zA ?_ | refine zS ?_ | refine zL ?_)
      refine qc ?_
      refine ⟨_, _, ?_, qq [3, 6, 9, 10, 11, 15, 16, 17] [(0, 0), (26, 1)] rfl rfl, j + 1, _, hlj', rfl, qz hlj' (by omega), ?_⟩
      · omega
      · rw [List.take_succ_eq_append_getElem hlj', List.map_append]; rfl
    · refine qK ?_
      rw [lx] at hlj
      simp only [decide_eq_false_iff_not] at hlj
      have hjj : j = x.length := by omega
      subst hjj
      rw [List.take_length]
      (repeat refine qb ?_); refine qa ?_
      repeat (first | refine zR ?_ | refine zK ?_ | refine zM ?_ | refine zB ?_ | refine zA ?_ | refine zS ?_ | refine zL ?_)
      refine SWT.wk (zN (k := 1) rfl) ?_
      repeat (first | refine zR ?_ | refine zK ?_ | refine zM ?_ | refine zB ?_ | refine zA ?_ | refine zS ?_ | refine zL ?_)
      refine qn rfl (qp qe rfl rfl rfl rfl rfl rfl rfl rfl rfl rfl rfl rfl rfl rfl rfl rfl (by simp only [List.length_append, List.length_map, List.length_take, List.length_cons, List.length_nil]; unfold reachBytes; omega) (by simp only [List.length_append, List.length_map, List.length_take, List.length_cons, List.length_nil]; omega) ?_)
      repeat (first | refine zR ?_ | refine zK ?_ | refine zM ?_ | refine zB ?_ | refine zA ?_ | refine zS ?_ | refine zL ?_)
      refine qc ?_
      (repeat refine qb ?_); refine qa ?_
      repeat (first | refine zR ?_ | refine zK ?_ | refine zM ?_ | refine zB ?_ | refine zA ?_ | refine zS ?_ | refine zL ?_)
      refine qc ?_
      refine ⟨_, _, ?_, qq [3, 9, 10, 11] [(31, 0)] rfl rfl, k + 1, _, hlt', rfl, qz hlt' (by omega), ?_⟩
      · omega
      · rw [List.take_succ_eq_append_getElem hlt', List.map_append, hx]; rfl
  · refine qK ?_
    rw [lm] at hlt
    simp only [decide_eq_false_iff_not] at hlt
    have hkk : k = t.length := by omega
    subst hkk
    rw [List.take_length]
    (repeat refine qb ?_); refine qa ?_
    repeat (first | refine zR ?_ | refine zK ?_ | refine zM ?_ | refine zB ?_ | refine zA ?_ | refine zS ?_ | refine zL ?_)
    refine qc ?_
    (repeat refine qb ?_); refine qk ?_
    exact ⟨Or.inr rfl, _, _, [(0, 0)], Wk.refl _, rfl, rfl, rfl, rfl⟩
def copyR (p : Pol) : SV := .agg [.p (pS p.id), .p (pB p.set), .p (pI p.alg), .p (tgtP p.target), .row 0, .row 1, .p (zQ p.obls)]
def copyO (p : Pol) : List (Nat × Box) := [(0, .row 59 5 (p.rules.map zt)), (1, .row 28 7 (p.kids.map polP))]
def CopyOk (n : Nat) : Prop := ∀ (p : Pol), PolF n p → p.sz ≤ 3000 → Holds Tryz.prog 26 [.agg (polP p)] (copyR p) (copyO p)
theorem copy_step (n : Nat) (hn : CopyOk n) : CopyOk (n + 1) := by
    intro p hf hsz
    obtain ⟨ht, hr, hk, ho, hru, hks⟩ := sz_facts hsz (Nat.le_refl _)
    have IH := fun k (hk : k ∈ p.kids) => hn k (hf.2.2 k hk) (hks k hk)
    have HT := ktarget_h p.target ht
    have l1 : ((p.rules.map zt).length) = p.rules.length := by simp
    have l2 : ((p.kids.map polP).length) = p.kids.length := by simp
    have lo : (p.obls.map Obli.pv).length = p.obls.length := by simp
    rw [zf]
    refine .ofW ?_
    refine qR (T := TTab) qe Tryz.func26 (by kernel_rfl) rfl rfl rfl ?_
    (repeat refine qb ?_); refine qa ?_
    repeat (first | refine zR ?_ | refine zK ?_ | refine zM ?_ | refine zB ?_ | refine zA ?_ | refine zS ?_ | refine zL ?_)
    refine qc ?_
    (repeat refine qb ?_); refine zH 11 rfl (by kernel_rfl) ?_
    refine qy (i := 0) (K := [12]) (by kernel_rfl) (by kernel_rfl) rfl rfl (qi qe rfl (by exact True.intro)) rfl ?_
    refine qy (i := 1) (K := [12]) (by kernel_rfl) (by kernel_rfl) rfl rfl (qi qe rfl (by exact True.intro)) rfl ?_
    refine qy (i := 4) (K := [12]) (by kernel_rfl) (by kernel_rfl) rfl rfl (qi qe rfl (by exact True.intro)) rfl ?_
    refine qy (i := 5) (K := [12]) (by kernel_rfl) (by kernel_rfl) rfl rfl (qi qe rfl (by exact True.intro)) rfl ?_
    refine zE 2 3 (by kernel_rfl) ?_ ?_
    refine qd rfl rfl rfl (qD rfl rfl rfl rfl (HT) rfl rfl rfl ?_)
    refine qy (i := 7) (K := [12]) (by kernel_rfl) (by kernel_rfl) rfl rfl (qi qe rfl (by exact True.intro)) rfl ?_
    refine qo 3 (by kernel_rfl) ?_
    first | refine qd rfl rfl rfl (aM (h := ?_)) | refine qd rfl rfl rfl (aB (h := ?_)) | refine qd rfl rfl rfl (aA (h := ?_)) | refine qd rfl rfl rfl (aS (h := ?_)) | refine qd rfl rfl rfl (aL (h := ?_)) | refine qd rfl rfl rfl (qv (K := []) (qi qe rfl (by exact True.intro)) rfl ?_)
    refine qo 6 (by kernel_rfl) ?_
    refine qd rfl rfl rfl (qp qe rfl rfl rfl rfl rfl rfl rfl rfl rfl rfl rfl rfl rfl rfl rfl rfl (by simp only [List.length_append, List.length_map, List.length_take, List.length_cons, List.length_nil]; unfold reachBytes; omega) (by simp only [List.length_append, List.length_map, List.length_take, List.length_cons, List.length_nil]; omega) ?_)
    refine qo 8 (by kernel_rfl) ?_
    first | refine qd rfl rfl rfl (aM (h := ?_)) | refine qd rfl rfl rfl (aB (h := ?_)) | refine qd rfl rfl rfl (aA (h := ?_)) | refine qd rfl rfl rfl (aS (h := ?_)) | refine qd rfl rfl rfl (aL (h := ?_)) | refine qd rfl rfl rfl (qv (K := []) (qi qe rfl (by exact True.intro)) rfl ?_)
    refine qy (i := 9) (K := [12]) (by kernel_rfl) (by kernel_rfl) rfl rfl (qi qe rfl (by exact True.intro)) rfl ?_
    refine qo 10 (by kernel_rfl) ?_
    first | refine qd rfl rfl rfl (aM (h := ?_)) | refine qd rfl rfl rfl (aB (h := ?_)) | refine qd rfl rfl rfl (aA (h := ?_)) | refine qd rfl rfl rfl (aS (h := ?_)) | refine qd rfl rfl rfl (aL (h := ?_)) | refine qd rfl rfl rfl (qv (K := []) (qi qe rfl (by exact True.intro)) rfl ?_)
    refine zd (by kernel_rfl) ?_
    refine SW.wk (qq [1, 2] [(1, 1), (2, 2), (12000, 12000), (15, 15)] rfl rfl) ?_
    refine ?fk1_140
    rotate_left
    first | refine qd rfl rfl rfl (aM (h := ?_)) | refine qd rfl rfl rfl (aB (h := ?_)) | refine qd rfl rfl rfl (aA (h := ?_)) | refine qd rfl rfl rfl (aS (h := ?_)) | refine qd rfl rfl rfl (aL (h := ?_)) | refine qd rfl rfl rfl (qv (K := []) (qi qe rfl (by exact True.intro)) rfl ?_)
    refine qo 2 (by kernel_rfl) ?_
    refine qd rfl rfl rfl (qD rfl rfl rfl rfl (HT) rfl rfl rfl ?_)
    refine qy (i := 7) (K := [12]) (by kernel_rfl) (by kernel_rfl) rfl rfl (qi qe rfl (by exact True.intro)) rfl ?_
    refine qo 6 (by kernel_rfl) ?_
    refine qd rfl rfl rfl (qp qe rfl rfl rfl rfl rfl rfl rfl rfl rfl rfl rfl rfl rfl rfl rfl rfl (by simp only [List.length_append, List.length_map, List.length_take, List.length_cons, List.length_nil]; unfold reachBytes; omega) (by simp only [List.length_append, List.length_map, List.length_take, List.length_cons, List.length_nil]; omega) ?_)
    refine qo 8 (by kernel_rfl) ?_
    first | refine qd rfl rfl rfl (aM (h := ?_)) | refine qd rfl rfl rfl (aB (h := ?_)) | refine qd rfl rfl rfl (aA (h := ?_)) | refine qd rfl rfl rfl (aS (h := ?_)) | refine qd rfl rfl rfl (aL (h := ?_)) | refine qd rfl rfl rfl (qv (K := []) (qi qe rfl (by exact True.intro)) rfl ?_)
    refine qy (i := 9) (K := [12]) (by kernel_rfl) (by kernel_rfl) rfl rfl (qi qe rfl (by exact True.intro)) rfl ?_
    refine qo 10 (by kernel_rfl) ?_
    first | refine qd rfl rfl rfl (aM (h := ?_)) | refine qd rfl rfl rfl (aB (h := ?_)) | refine qd rfl rfl rfl (aA (h := ?_)) | refine qd rfl rfl rfl (aS (h := ?_)) | refine qd rfl rfl rfl (aL (h := ?_)) | refine qd rfl rfl rfl (qv (K := []) (qi qe rfl (by exact True.intro)) rfl ?_)
    refine zd (by kernel_rfl) ?_
    refine SW.wk (qq [1, 2] [(1, 1), (2, 2), (12000, 12000), (15, 15)] rfl rfl) ?_
    exact ?fk1_140
    refine SW.wk ((zN (k := 12000) rfl).trans (zN (k := 15) rfl)) ?_
    refine SW.wk (qq [1, 2] [(1, 1), (2, 2)] rfl rfl) ?_
    change SW _ _ _ ⟨62, [(1, .ptr 1 0), (2, .ptr 2 0)], [(1, .cells [.p (pS p.id), .p (pB p.set), .p (pI p.alg), .p (tgtP p.target), .p (.sl 5 (p.rules.map zt)), .p (.sl 7 (p.kids.map polP)), .p (zQ p.obls)]), (2, .cells [.p (pS ⟨#[]⟩), .p (pB false), .p (pI 0), .p nilV, .p nilV, .p nilV, .p nilV])]⟩
    (repeat refine qb ?_); refine qa ?_
    repeat (first | refine zR ?_ | refine zK ?_ | refine zM ?_ | refine zB ?_ | refine zA ?_ | refine zS ?_ | refine zL ?_)
    refine qc ?_
    (repeat refine qb ?_); refine qa ?_
    repeat (first | refine zR ?_ | refine zK ?_ | refine zM ?_ | refine zB ?_ | refine zA ?_ | refine zS ?_ | refine zL ?_)
    refine qc ?_
    (repeat refine qb ?_); refine ql ?_
    refine SW.wk (jP 3 900 59 5 rfl rfl) ?_
    refine SW.wk (qq [1, 2, 3, 19, 20, 21] [(1, 1), (2, 2), (900, 0)] rfl rfl) ?_
    refine qO (fun m s => ∃ (k : Nat) (kk : Int), k ≤ p.rules.length ∧ m = p.rules.length - k ∧ kk = k ∧ s = ⟨62, [(1, .ptr 1 0), (2, .ptr 2 0), (3, .row 0), (19, .p (.sl 5 (p.rules.map zt))), (20, .p (pI (p.rules.map zt).length)), (21, .p (pI kk))], [(1, .cells [.p (pS p.id), .p (pB p.set), .p (pI p.alg), .p (tgtP p.target), .p (.sl 5 (p.rules.map zt)), .p (.sl 7 (p.kids.map polP)), .p (zQ p.obls)]), (2, .cells [.p (pS ⟨#[]⟩), .p (pB false), .p (pI 0), .p nilV, .p nilV, .p nilV, .p nilV]), (0, .row 59 5 ((p.rules.take k).map zt))]⟩) p.rules.length ⟨0, 0, Nat.zero_le _, rfl, rfl, rfl⟩ ?_
    rintro m s ⟨k, _, hk', rfl, rfl, rfl⟩
    (repeat refine qb ?_); refine qa ?_
    repeat (first | refine zR ?_ | refine zK ?_ | refine zM ?_ | refine zB ?_ | refine zA ?_ | refine zS ?_ | refine zL ?_)
    refine qc ?_
    (repeat refine qb ?_); refine qf rfl (fun hlt => ?_) (fun hlt => ?_)
    · refine qm ?_
      rw [l1] at hlt
      simp only [decide_eq_true_eq] at hlt
      have hlt' : k < p.rules.length := by omega
      obtain ⟨x, hx⟩ : ∃ x, x = p.rules[k] := ⟨_, rfl⟩
      obtain ⟨tx, cx, ox⟩ := hru _ (List.getElem_mem hlt')
      rw [← hx] at tx cx ox
      have HT2 := ktarget_h x.target tx
      (repeat refine qb ?_); refine ql ?_
      (repeat refine qb ?_); refine qa ?_
      repeat (first | refine zR ?_ | refine zK ?_ | refine zM ?_ | refine zB ?_ | refine zA ?_ | refine zS ?_ | refine zL ?_)
      refine qw qe rfl rfl (by rw [l1]; omega) rfl ?_
      rw [qJ hlt', ← hx]
      repeat (first | refine zR ?_ | refine zK ?_ | refine zM ?_ | refine zB ?_ | refine zA ?_ | refine zS ?_ | refine zL ?_)
      refine qc ?_
      (repeat refine qb ?_); refine zH 17 rfl (by kernel_rfl) ?_
      refine qy (i := 0) (K := [28, 32]) (by kernel_rfl) (by kernel_rfl) rfl rfl (qi qe rfl (by exact True.intro)) rfl ?_
      refine qy (i := 1) (K := [28, 32]) (by kernel_rfl) (by kernel_rfl) rfl rfl (qi qe rfl (by exact True.intro)) rfl ?_
      refine qy (i := 4) (K := [28, 32]) (by kernel_rfl) (by kernel_rfl) rfl rfl (qi qe rfl (by exact True.intro)) rfl ?_
      refine qy (i := 5) (K := [28, 32]) (by kernel_rfl) (by kernel_rfl) rfl rfl (qi qe rfl (by exact True.intro)) rfl ?_
      refine qy (i := 8) (K := [28, 32]) (by kernel_rfl) (by kernel_rfl) rfl rfl (qi qe rfl (by exact True.intro)) rfl ?_
      refine qy (i := 9) (K := [28, 32]) (by kernel_rfl) (by kernel_rfl) rfl rfl (qi qe rfl (by exact True.intro)) rfl ?_
      refine swb_fork3 2 3 7 (by kernel_rfl) ?_ ?_ ?_
      refine qd rfl rfl rfl (qD rfl rfl rfl rfl (HT2) rfl rfl rfl ?_)
      refine qy (i := 11) (K := [28, 32]) (by kernel_rfl) (by kernel_rfl) rfl rfl (qi qe rfl (by exact True.intro)) rfl ?_
      refine zE 3 7 (by kernel_rfl) ?_ ?_
      first | refine qd rfl rfl rfl (aM (h := ?_)) | refine qd rfl rfl rfl (aB (h := ?_)) | refine qd rfl rfl rfl (aA (h := ?_)) | refine qd rfl rfl rfl (aS (h := ?_)) | refine qd rfl rfl rfl (aL (h := ?_)) | refine qd rfl rfl rfl (qv (K := []) (qi qe rfl (by exact True.intro)) rfl ?_)
      refine zE 6 7 (by kernel_rfl) ?_ ?_
      refine qd rfl rfl rfl (qp qe rfl rfl rfl rfl rfl rfl rfl rfl rfl rfl rfl rfl rfl rfl rfl rfl (by simp only [List.length_append, List.length_map, List.length_take, List.length_cons, List.length_nil]; unfold reachBytes; omega) (by simp only [List.length_append, List.length_map, List.length_take, List.length_cons, List.length_nil]; omega) ?_)
      refine qo 7 (by kernel_rfl) ?_
      first | refine qd rfl rfl rfl (aM (h := ?_)) | refine qd rfl rfl rfl (aB (h := ?_)) | refine qd rfl rfl rfl (aA (h := ?_)) | refine qd rfl rfl rfl (aS (h := ?_)) | refine qd rfl rfl rfl (aL (h := ?_)) | refine qd rfl rfl rfl (qv (K := []) (qi qe rfl (by exact True.intro)) rfl ?_)
      refine qo 10 (by kernel_rfl) ?_
      refine qd rfl rfl rfl (qp qe rfl rfl rfl rfl rfl rfl rfl rfl rfl rfl rfl rfl rfl rfl rfl rfl (by simp only [List.length_append, List.length_map, List.length_take, List.length_cons, List.length_nil]; unfold reachBytes; omega) (by simp only [List.length_append, List.length_map, List.length_take, List.length_cons, List.length_nil]; omega) ?_)
      refine qo 12 (by kernel_rfl) ?_
      first | refine qd rfl rfl rfl (aM (h := ?_)) | refine qd rfl rfl rfl (aB (h := ?_)) | refine qd rfl rfl rfl (aA (h := ?_)) | refine qd rfl rfl rfl (aS (h := ?_)) | refine qd rfl rfl rfl (aL (h := ?_)) | refine qd rfl rfl rfl (qv (K := []) (qi qe rfl (by exact True.intro)) rfl ?_)
      refine qy (i := 13) (K := [28, 32]) (by kernel_rfl) (by kernel_rfl) rfl rfl (qi qe rfl (by exact True.intro)) rfl ?_
      refine qo 14 (by kernel_rfl) ?_
      first | refine qd rfl rfl rfl (aM (h := ?_)) | refine qd rfl rfl rfl (aB (h := ?_)) | refine qd rfl rfl rfl (aA (h := ?_)) | refine qd rfl rfl rfl (aS (h := ?_)) | refine qd rfl rfl rfl (aL (h := ?_)) | refine qd rfl rfl rfl (qv (K := []) (qi qe rfl (by exact True.intro)) rfl ?_)
      refine qy (i := 15) (K := [28, 32]) (by kernel_rfl) (by kernel_rfl) rfl rfl (qi qe rfl (by exact True.intro)) rfl ?_
      refine qo 16 (by kernel_rfl) ?_
      first | refine qd rfl rfl rfl (aM (h := ?_)) | refine qd rfl rfl rfl (aB (h := ?_)) | refine qd rfl rfl rfl (aA (h := ?_)) | refine qd rfl rfl rfl (aS (h := ?_)) | refine qd rfl rfl rfl (aL (h := ?_)) | refine qd rfl rfl rfl (qv (K := []) (qi qe rfl (by exact True.intro)) rfl ?_)
      refine zd (by kernel_rfl) ?_
      refine SW.wk (qq [1, 2, 3, 5, 19, 20, 21] [(1, 1), (2, 2), (0, 0), (5, 5), (28000, 28000), (31, 31), (35, 35)] rfl rfl) ?_
      refine ?fk6_208
      rotate_left
      first | refine qd rfl rfl rfl (aM (h := ?_)) | refine qd rfl rfl rfl (aB (h := ?_)) | refine qd rfl rfl rfl (aA (h := ?_)) | refine qd rfl rfl rfl (aS (h := ?_)) | refine qd rfl rfl rfl (aL (h := ?_)) | refine qd rfl rfl rfl (qv (K := []) (qi qe rfl (by exact True.intro)) rfl ?_)
      refine qo 6 (by kernel_rfl) ?_
      refine qd rfl rfl rfl (qp qe rfl rfl rfl rfl rfl rfl rfl rfl rfl rfl rfl rfl rfl rfl rfl rfl (by simp only [List.length_append, List.length_map, List.length_take, List.length_cons, List.length_nil]; unfold reachBytes; omega) (by simp only [List.length_append, List.length_map, List.length_take, List.length_cons, List.length_nil]; omega) ?_)
      refine qo 10 (by kernel_rfl) ?_
      refine qd rfl rfl rfl (qp qe rfl rfl rfl rfl rfl rfl rfl rfl rfl rfl rfl rfl rfl rfl rfl rfl (by simp only [List.length_append, List.length_map, List.length_take, List.length_cons, List.length_nil]; unfold reachBytes; omega) (by simp only [List.length_append, List.length_map, List.length_take, List.length_cons, List.length_nil]; omega) ?_)
      refine qo 12 (by kernel_rfl) ?_
      first | refine qd rfl rfl rfl (aM (h := ?_)) | refine qd rfl rfl rfl (aB (h := ?_)) | refine qd rfl rfl rfl (aA (h := ?_)) | refine qd rfl rfl rfl (aS (h := ?_)) | refine qd rfl rfl rfl (aL (h := ?_)) | refine qd rfl rfl rfl (qv (K := []) (qi qe rfl (by exact True.intro)) rfl ?_)
      refine qy (i := 13) (K := [28, 32]) (by kernel_rfl) (by kernel_rfl) rfl rfl (qi qe rfl (by exact True.intro)) rfl ?_
      refine qo 14 (by kernel_rfl) ?_
      first | refine qd rfl rfl rfl (aM (h := ?_)) | refine qd rfl rfl rfl (aB (h := ?_)) | refine qd rfl rfl rfl (aA (h := ?_)) | refine qd rfl rfl rfl (aS (h := ?_)) | refine qd rfl rfl rfl (aL (h := ?_)) | refine qd rfl rfl rfl (qv (K := []) (qi qe rfl (by exact True.intro)) rfl ?_)
      refine qy (i := 15) (K := [28, 32]) (by kernel_rfl) (by kernel_rfl) rfl rfl (qi qe rfl (by exact True.intro)) rfl ?_
      refine qo 16 (by kernel_rfl) ?_
      first | refine qd rfl rfl rfl (aM (h := ?_)) | refine qd rfl rfl rfl (aB (h := ?_)) | refine qd rfl rfl rfl (aA (h := ?_)) | refine qd rfl rfl rfl (aS (h := ?_)) | refine qd rfl rfl rfl (aL (h := ?_)) | refine qd rfl rfl rfl (qv (K := []) (qi qe rfl (by exact True.intro)) rfl ?_)
      refine zd (by kernel_rfl) ?_
      refine SW.wk (qq [1, 2, 3, 5, 19, 20, 21] [(1, 1), (2, 2), (0, 0), (5, 5), (28000, 28000), (31, 31), (35, 35)] rfl rfl) ?_
      exact ?fk6_208
      first | refine qd rfl rfl rfl (aM (h := ?_)) | refine qd rfl rfl rfl (aB (h := ?_)) | refine qd rfl rfl rfl (aA (h := ?_)) | refine qd rfl rfl rfl (aS (h := ?_)) | refine qd rfl rfl rfl (aL (h := ?_)) | refine qd rfl rfl rfl (qv (K := []) (qi qe rfl (by exact True.intro)) rfl ?_)
      refine qo 3 (by kernel_rfl) ?_
      first | refine qd rfl rfl rfl (aM (h := ?_)) | refine qd rfl rfl rfl (aB (h := ?_)) | refine qd rfl rfl rfl (aA (h := ?_)) | refine qd rfl rfl rfl (aS (h := ?_)) | refine qd rfl rfl rfl (aL (h := ?_)) | refine qd rfl rfl rfl (qv (K := []) (qi qe rfl (by exact True.intro)) rfl ?_)
      refine qo 6 (by kernel_rfl) ?_
      refine qd rfl rfl rfl (qp qe rfl rfl rfl rfl rfl rfl rfl rfl rfl rfl rfl rfl rfl rfl rfl rfl (by simp only [List.length_append, List.length_map, List.length_take, List.length_cons, List.length_nil]; unfold reachBytes; omega) (by simp only [List.length_append, List.length_map, List.length_take, List.length_cons, List.length_nil]; omega) ?_)
      refine qo 10 (by kernel_rfl) ?_
      refine qd rfl rfl rfl (qp qe rfl rfl rfl rfl rfl rfl rfl rfl rfl rfl rfl rfl rfl rfl rfl rfl (by simp only [List.length_append, List.length_map, List.length_take, List.length_cons, List.length_nil]; unfold reachBytes; omega) (by simp only [List.length_append, List.length_map, List.length_take, List.length_cons, List.length_nil]; omega) ?_)
      refine qo 12 (by kernel_rfl) ?_
      first | refine qd rfl rfl rfl (aM (h := ?_)) | refine qd rfl rfl rfl (aB (h := ?_)) | refine qd rfl rfl rfl (aA (h := ?_)) | refine qd rfl rfl rfl (aS (h := ?_)) | refine qd rfl rfl rfl (aL (h := ?_)) | refine qd rfl rfl rfl (qv (K := []) (qi qe rfl (by exact True.intro)) rfl ?_)
      refine qy (i := 13) (K := [28, 32]) (by kernel_rfl) (by kernel_rfl) rfl rfl (qi qe rfl (by exact True.intro)) rfl ?_
      refine qo 14 (by kernel_rfl) ?_
      first | refine qd rfl rfl rfl (aM (h := ?_)) | refine qd rfl rfl rfl (aB (h := ?_)) | refine qd rfl rfl rfl (aA (h := ?_)) | refine qd rfl rfl rfl (aS (h := ?_)) | refine qd rfl rfl rfl (aL (h := ?_)) | refine qd rfl rfl rfl (qv (K := []) (qi qe rfl (by exact True.intro)) rfl ?_)
      refine qy (i := 15) (K := [28, 32]) (by kernel_rfl) (by kernel_rfl) rfl rfl (qi qe rfl (by exact True.intro)) rfl ?_
      refine qo 16 (by kernel_rfl) ?_
      first | refine qd rfl rfl rfl (aM (h := ?_)) | refine qd rfl rfl rfl (aB (h := ?_)) | refine qd rfl rfl rfl (aA (h := ?_)) | refine qd rfl rfl rfl (aS (h := ?_)) | refine qd rfl rfl rfl (aL (h := ?_)) | refine qd rfl rfl rfl (qv (K := []) (qi qe rfl (by exact True.intro)) rfl ?_)
      refine zd (by kernel_rfl) ?_
      refine SW.wk (qq [1, 2, 3, 5, 19, 20, 21] [(1, 1), (2, 2), (0, 0), (5, 5), (28000, 28000), (31, 31), (35, 35)] rfl rfl) ?_
      exact ?fk6_208
      first | refine qd rfl rfl rfl (aM (h := ?_)) | refine qd rfl rfl rfl (aB (h := ?_)) | refine qd rfl rfl rfl (aA (h := ?_)) | refine qd rfl rfl rfl (aS (h := ?_)) | refine qd rfl rfl rfl (aL (h := ?_)) | refine qd rfl rfl rfl (qv (K := []) (qi qe rfl (by exact True.intro)) rfl ?_)
      refine zE 2 7 (by kernel_rfl) ?_ ?_
      refine qd rfl rfl rfl (qD rfl rfl rfl rfl (HT2) rfl rfl rfl ?_)
      refine qy (i := 11) (K := [28, 32]) (by kernel_rfl) (by kernel_rfl) rfl rfl (qi qe rfl (by exact True.intro)) rfl ?_
      refine zE 6 7 (by kernel_rfl) ?_ ?_
      refine qd rfl rfl rfl (qp qe rfl rfl rfl rfl rfl rfl rfl rfl rfl rfl rfl rfl rfl rfl rfl rfl (by simp only [List.length_append, List.length_map, List.length_take, List.length_cons, List.length_nil]; unfold reachBytes; omega) (by simp only [List.length_append, List.length_map, List.length_take, List.length_cons, List.length_nil]; omega) ?_)
      refine qo 7 (by kernel_rfl) ?_
      first | refine qd rfl rfl rfl (aM (h := ?_)) | refine qd rfl rfl rfl (aB (h := ?_)) | refine qd rfl rfl rfl (aA (h := ?_)) | refine qd rfl rfl rfl (aS (h := ?_)) | refine qd rfl rfl rfl (aL (h := ?_)) | refine qd rfl rfl rfl (qv (K := []) (qi qe rfl (by exact True.intro)) rfl ?_)
      refine qo 10 (by kernel_rfl) ?_
      refine qd rfl rfl rfl (qp qe rfl rfl rfl rfl rfl rfl rfl rfl rfl rfl rfl rfl rfl rfl rfl rfl (by simp only [List.length_append, List.length_map, List.length_take, List.length_cons, List.length_nil]; unfold reachBytes; omega) (by simp only [List.length_append, List.length_map, List.length_take, List.length_cons, List.length_nil]; omega) ?_)
      refine qo 12 (by kernel_rfl) ?_
      first | refine qd rfl rfl rfl (aM (h := ?_)) | refine qd rfl rfl rfl (aB (h := ?_)) | refine qd rfl rfl rfl (aA (h := ?_)) | refine qd rfl rfl rfl (aS (h := ?_)) | refine qd rfl rfl rfl (aL (h := ?_)) | refine qd rfl rfl rfl (qv (K := []) (qi qe rfl (by exact True.intro)) rfl ?_)
      refine qy (i := 13) (K := [28, 32]) (by kernel_rfl) (by kernel_rfl) rfl rfl (qi qe rfl (by exact True.intro)) rfl ?_
      refine qo 14 (by kernel_rfl) ?_
      first | refine qd rfl rfl rfl (aM (h := ?_)) | refine qd rfl rfl rfl (aB (h := ?_)) | refine qd rfl rfl rfl (aA (h := ?_)) | refine qd rfl rfl rfl (aS (h := ?_)) | refine qd rfl rfl rfl (aL (h := ?_)) | refine qd rfl rfl rfl (qv (K := []) (qi qe rfl (by exact True.intro)) rfl ?_)
      refine qy (i := 15) (K := [28, 32]) (by kernel_rfl) (by kernel_rfl) rfl rfl (qi qe rfl (by exact True.intro)) rfl ?_
      refine qo 16 (by kernel_rfl) ?_
      first | refine qd rfl rfl rfl (aM (h := ?_)) | refine qd rfl rfl rfl (aB (h := ?_)) | refine qd rfl rfl rfl (aA (h := ?_)) | refine qd rfl rfl rfl (aS (h := ?_)) | refine qd rfl rfl rfl (aL (h := ?_)) | refine qd rfl rfl rfl (qv (K := []) (qi qe rfl (by exact True.intro)) rfl ?_)
      refine zd (by kernel_rfl) ?_
      refine SW.wk (qq [1, 2, 3, 5, 19, 20, 21] [(1, 1), (2, 2), (0, 0), (5, 5), (28000, 28000), (31, 31), (35, 35)] rfl rfl) ?_
      exact ?fk6_208
      first | refine qd rfl rfl rfl (aM (h := ?_)) | refine qd rfl rfl rfl (aB (h := ?_)) | refine qd rfl rfl rfl (aA (h := ?_)) | refine qd rfl rfl rfl (aS (h := ?_)) | refine qd rfl rfl rfl (aL (h := ?_)) | refine qd rfl rfl rfl (qv (K := []) (qi qe rfl (by exact True.intro)) rfl ?_)
      refine qo 6 (by kernel_rfl) ?_
      refine qd rfl rfl rfl (qp qe rfl rfl rfl rfl rfl rfl rfl rfl rfl rfl rfl rfl rfl rfl rfl rfl (by simp only [List.length_append, List.length_map, List.length_take, List.length_cons, List.length_nil]; unfold reachBytes; omega) (by simp only [List.length_append, List.length_map, List.length_take, List.length_cons, List.length_nil]; omega) ?_)
      refine qo 10 (by kernel_rfl) ?_
      refine qd rfl rfl rfl (qp qe rfl rfl rfl rfl rfl rfl rfl rfl rfl rfl rfl rfl rfl rfl rfl rfl (by simp only [List.length_append, List.length_map, List.length_take, List.length_cons, List.length_nil]; unfold reachBytes; omega) (by simp only [List.length_append, List.length_map, List.length_take, List.length_cons, List.length_nil]; omega) ?_)
      refine qo 12 (by kernel_rfl) ?_
      first | refine qd rfl rfl rfl (aM (h := ?_)) | refine qd rfl rfl rfl (aB (h := ?_)) | refine qd rfl rfl rfl (aA (h := ?_)) | refine qd rfl rfl rfl (aS (h := ?_)) | refine qd rfl rfl rfl (aL (h := ?_)) | refine qd rfl rfl rfl (qv (K := []) (qi qe rfl (by exact True.intro)) rfl ?_)
      refine qy (i := 13) (K := [28, 32]) (by kernel_rfl) (by kernel_rfl) rfl rfl (qi qe rfl (by exact True.intro)) rfl ?_
      refine qo 14 (by kernel_rfl) ?_
      first | refine qd rfl rfl rfl (aM (h := ?_)) | refine qd rfl rfl rfl (aB (h := ?_)) | refine qd rfl rfl rfl (aA (h := ?_)) | refine qd rfl rfl rfl (aS (h := ?_)) | refine qd rfl rfl rfl (aL (h := ?_)) | refine qd rfl rfl rfl (qv (K := []) (qi qe rfl (by exact True.intro)) rfl ?_)
      refine qy (i := 15) (K := [28, 32]) (by kernel_rfl) (by kernel_rfl) rfl rfl (qi qe rfl (by exact True.intro)) rfl ?_
      refine qo 16 (by kernel_rfl) ?_
      first | refine qd rfl rfl rfl (aM (h := ?_)) | refine qd rfl rfl rfl (aB (h := ?_)) | refine qd rfl rfl rfl (aA (h := ?_)) | refine qd rfl rfl rfl (aS (h := ?_)) | refine qd rfl rfl rfl (aL (h := ?_)) | refine qd rfl rfl rfl (qv (K := []) (qi qe rfl (by exact True.intro)) rfl ?_)
      refine zd (by kernel_rfl) ?_
      refine SW.wk (qq [1, 2, 3, 5, 19, 20, 21] [(1, 1), (2, 2), (0, 0), (5, 5), (28000, 28000), (31, 31), (35, 35)] rfl rfl) ?_
      exact ?fk6_208
      first | refine qd rfl rfl rfl (aM (h := ?_)) | refine qd rfl rfl rfl (aB (h := ?_)) | refine qd rfl rfl rfl (aA (h := ?_)) | refine qd rfl rfl rfl (aS (h := ?_)) | refine qd rfl rfl rfl (aL (h := ?_)) | refine qd rfl rfl rfl (qv (K := []) (qi qe rfl (by exact True.intro)) rfl ?_)
      refine qo 2 (by kernel_rfl) ?_
      refine qd rfl rfl rfl (qD rfl rfl rfl rfl (HT2) rfl rfl rfl ?_)
      refine qy (i := 11) (K := [28, 32]) (by kernel_rfl) (by kernel_rfl) rfl rfl (qi qe rfl (by exact True.intro)) rfl ?_
      refine qo 6 (by kernel_rfl) ?_
      refine qd rfl rfl rfl (qp qe rfl rfl rfl rfl rfl rfl rfl rfl rfl rfl rfl rfl rfl rfl rfl rfl (by simp only [List.length_append, List.length_map, List.length_take, List.length_cons, List.length_nil]; unfold reachBytes; omega) (by simp only [List.length_append, List.length_map, List.length_take, List.length_cons, List.length_nil]; omega) ?_)
      refine qo 10 (by kernel_rfl) ?_
      refine qd rfl rfl rfl (qp qe rfl rfl rfl rfl rfl rfl rfl rfl rfl rfl rfl rfl rfl rfl rfl rfl (by simp only [List.length_append, List.length_map, List.length_take, List.length_cons, List.length_nil]; unfold reachBytes; omega) (by simp only [List.length_append, List.length_map, List.length_take, List.length_cons, List.length_nil]; omega) ?_)
      refine qo 12 (by kernel_rfl) ?_
      first | refine qd rfl rfl rfl (aM (h := ?_)) | refine qd rfl rfl rfl (aB (h := ?_)) | refine qd rfl rfl rfl (aA (h := ?_)) | refine qd rfl rfl rfl (aS (h := ?_)) | refine qd rfl rfl rfl (aL (h := ?_)) | refine qd rfl rfl rfl (qv (K := []) (qi qe rfl (by exact True.intro)) rfl ?_)
      refine qy (i := 13) (K := [28, 32]) (by kernel_rfl) (by kernel_rfl) rfl rfl (qi qe rfl (by exact True.intro)) rfl ?_
      refine qo 14 (by kernel_rfl) ?_
      first | refine qd rfl rfl rfl (aM (h := ?_)) | refine qd rfl rfl rfl (aB (h := ?_)) | refine qd rfl rfl rfl (aA (h := ?_)) | refine qd rfl rfl rfl (aS (h := ?_)) | refine qd rfl rfl rfl (aL (h := ?_)) | refine qd rfl rfl rfl (qv (K := []) (qi qe rfl (by exact True.intro)) rfl ?_)
      refine qy (i := 15) (K := [28, 32]) (by kernel_rfl) (by kernel_rfl) rfl rfl (qi qe rfl (by exact True.intro)) rfl ?_
      refine qo 16 (by kernel_rfl) ?_
      first | refine qd rfl rfl rfl (aM (h := ?_)) | refine qd rfl rfl rfl (aB (h := ?_)) | refine qd rfl rfl rfl (aA (h := ?_)) | refine qd rfl rfl rfl (aS (h := ?_)) | refine qd rfl rfl rfl (aL (h := ?_)) | refine qd rfl rfl rfl (qv (K := []) (qi qe rfl (by exact True.intro)) rfl ?_)
      refine zd (by kernel_rfl) ?_
      refine SW.wk (qq [1, 2, 3, 5, 19, 20, 21] [(1, 1), (2, 2), (0, 0), (5, 5), (28000, 28000), (31, 31), (35, 35)] rfl rfl) ?_
      exact ?fk6_208
      first | refine qd rfl rfl rfl (aM (h := ?_)) | refine qd rfl rfl rfl (aB (h := ?_)) | refine qd rfl rfl rfl (aA (h := ?_)) | refine qd rfl rfl rfl (aS (h := ?_)) | refine qd rfl rfl rfl (aL (h := ?_)) | refine qd rfl rfl rfl (qv (K := []) (qi qe rfl (by exact True.intro)) rfl ?_)
      refine zE 2 3 (by kernel_rfl) ?_ ?_
      refine qd rfl rfl rfl (qD rfl rfl rfl rfl (HT2) rfl rfl rfl ?_)
      refine qy (i := 11) (K := [28, 32]) (by kernel_rfl) (by kernel_rfl) rfl rfl (qi qe rfl (by exact True.intro)) rfl ?_
      refine qo 3 (by kernel_rfl) ?_
      first | refine qd rfl rfl rfl (aM (h := ?_)) | refine qd rfl rfl rfl (aB (h := ?_)) | refine qd rfl rfl rfl (aA (h := ?_)) | refine qd rfl rfl rfl (aS (h := ?_)) | refine qd rfl rfl rfl (aL (h := ?_)) | refine qd rfl rfl rfl (qv (K := []) (qi qe rfl (by exact True.intro)) rfl ?_)
      refine qo 6 (by kernel_rfl) ?_
      refine qd rfl rfl rfl (qp qe rfl rfl rfl rfl rfl rfl rfl rfl rfl rfl rfl rfl rfl rfl rfl rfl (by simp only [List.length_append, List.length_map, List.length_take, List.length_cons, List.length_nil]; unfold reachBytes; omega) (by simp only [List.length_append, List.length_map, List.length_take, List.length_cons, List.length_nil]; omega) ?_)
      refine qo 10 (by kernel_rfl) ?_
      refine qd rfl rfl rfl (qp qe rfl rfl rfl rfl rfl rfl rfl rfl rfl rfl rfl rfl rfl rfl rfl rfl (by simp only [List.length_append, List.length_map, List.length_take, List.length_cons, List.length_nil]; unfold reachBytes; omega) (by simp only [List.length_append, List.length_map, List.length_take, List.length_cons, List.length_nil]; omega) ?_)
      refine qo 12 (by kernel_rfl) ?_
      first | refine qd rfl rfl rfl (aM (h := ?_)) | refine qd rfl rfl rfl (aB (h := ?_)) | refine qd rfl rfl rfl (aA (h := ?_)) | refine qd rfl rfl rfl (aS (h := ?_)) | refine qd rfl rfl rfl (aL (h := ?_)) | refine qd rfl rfl rfl (qv (K := []) (qi qe rfl (by exact True.intro)) rfl ?_)
      refine qy (i := 13) (K := [28, 32]) (by kernel_rfl) (by kernel_rfl) rfl rfl (qi qe rfl (by exact True.intro)) rfl ?_
      refine qo 14 (by kernel_rfl) ?_
      first | refine qd rfl rfl rfl (aM (h := ?_)) | refine qd rfl rfl rfl (aB (h := ?_)) | refine qd rfl rfl rfl (aA (h := ?_)) | refine qd rfl rfl rfl (aS (h := ?_)) | refine qd rfl rfl rfl (aL (h := ?_)) | refine qd rfl rfl rfl (qv (K := []) (qi qe rfl (by exact True.intro)) rfl ?_)
      refine qy (i := 15) (K := [28, 32]) (by kernel_rfl) (by kernel_rfl) rfl rfl (qi qe rfl (by exact True.intro)) rfl ?_
      refine qo 16 (by kernel_rfl) ?_
      first | refine qd rfl rfl rfl (aM (h := ?_)) | refine qd rfl rfl rfl (aB (h := ?_)) | refine qd rfl rfl rfl (aA (h := ?_)) | refine qd rfl rfl rfl (aS (h := ?_)) | refine qd rfl rfl rfl (aL (h := ?_)) | refine qd rfl rfl rfl (qv (K := []) (qi qe rfl (by exact True.intro)) rfl ?_)
      refine zd (by kernel_rfl) ?_
      refine SW.wk (qq [1, 2, 3, 5, 19, 20, 21] [(1, 1), (2, 2), (0, 0), (5, 5), (28000, 28000), (31, 31), (35, 35)] rfl rfl) ?_
      exact ?fk6_208
      first | refine qd rfl rfl rfl (aM (h := ?_)) | refine qd rfl rfl rfl (aB (h := ?_)) | refine qd rfl rfl rfl (aA (h := ?_)) | refine qd rfl rfl rfl (aS (h := ?_)) | refine qd rfl rfl rfl (aL (h := ?_)) | refine qd rfl rfl rfl (qv (K := []) (qi qe rfl (by exact True.intro)) rfl ?_)
      refine qo 2 (by kernel_rfl) ?_
      refine qd rfl rfl rfl (qD rfl rfl rfl rfl (HT2) rfl rfl rfl ?_)
      refine qy (i := 11) (K := [28, 32]) (by kernel_rfl) (by kernel_rfl) rfl rfl (qi qe rfl (by exact True.intro)) rfl ?_
      refine qo 6 (by kernel_rfl) ?_
      refine qd rfl rfl rfl (qp qe rfl rfl rfl rfl rfl rfl rfl rfl rfl rfl rfl rfl rfl rfl rfl rfl (by simp only [List.length_append, List.length_map, List.length_take, List.length_cons, List.length_nil]; unfold reachBytes; omega) (by simp only [List.length_append, List.length_map, List.length_take, List.length_cons, List.length_nil]; omega) ?_)
      refine qo 10 (by kernel_rfl) ?_
      refine qd rfl rfl rfl (qp qe rfl rfl rfl rfl rfl rfl rfl rfl rfl rfl rfl rfl rfl rfl rfl rfl (by simp only [List.length_append, List.length_map, List.length_take, List.length_cons, List.length_nil]; unfold reachBytes; omega) (by simp only [List.length_append, List.length_map, List.length_take, List.length_cons, List.length_nil]; omega) ?_)
      refine qo 12 (by kernel_rfl) ?_
      first | refine qd rfl rfl rfl (aM (h := ?_)) | refine qd rfl rfl rfl (aB (h := ?_)) | refine qd rfl rfl rfl (aA (h := ?_)) | refine qd rfl rfl rfl (aS (h := ?_)) | refine qd rfl rfl rfl (aL (h := ?_)) | refine qd rfl rfl rfl (qv (K := []) (qi qe rfl (by exact True.intro)) rfl ?_)
      refine qy (i := 13) (K := [28, 32]) (by kernel_rfl) (by kernel_rfl) rfl rfl (qi qe rfl (by exact True.intro)) rfl ?_
      refine qo 14 (by kernel_rfl) ?_
      first | refine qd rfl rfl rfl (aM (h := ?_)) | refine qd rfl rfl rfl (aB (h := ?_)) | refine qd rfl rfl rfl (aA (h := ?_)) | refine qd rfl rfl rfl (aS (h := ?_)) | refine qd rfl rfl rfl (aL (h := ?_)) | refine qd rfl rfl rfl (qv (K := []) (qi qe rfl (by exact True.intro)) rfl ?_)
      refine qy (i := 15) (K := [28, 32]) (by kernel_rfl) (by kernel_rfl) rfl rfl (qi qe rfl (by exact True.intro)) rfl ?_
      refine qo 16 (by kernel_rfl) ?_
      first | refine qd rfl rfl rfl (aM (h := ?_)) | refine qd rfl rfl rfl (aB (h := ?_)) | refine qd rfl rfl rfl (aA (h := ?_)) | refine qd rfl rfl rfl (aS (h := ?_)) | refine qd rfl rfl rfl (aL (h := ?_)) | refine qd rfl rfl rfl (qv (K := []) (qi qe rfl (by exact True.intro)) rfl ?_)
      refine zd (by kernel_rfl) ?_
      refine SW.wk (qq [1, 2, 3, 5, 19, 20, 21] [(1, 1), (2, 2), (0, 0), (5, 5), (28000, 28000), (31, 31), (35, 35)] rfl rfl) ?_
      exact ?fk6_208
      refine SW.wk ((zN (k := 28000) rfl).trans ((zN (k := 31) rfl).trans (zN (k := 35) rfl))) ?_
      refine SW.wk (qq [1, 2, 3, 5, 19, 20, 21] [(1, 1), (2, 2), (0, 0), (5, 5)] rfl rfl) ?_
      change SW _ _ _ ⟨62, [(1, .ptr 1 0), (2, .ptr 2 0), (3, .row 0), (5, .ptr 5 0), (19, .p (.sl 5 (p.rules.map zt))), (20, .p (pI (p.rules.map zt).length)), (21, .p (pI k))], [(1, .cells [.p (pS p.id), .p (pB p.set), .p (pI p.alg), .p (tgtP p.target), .p (.sl 5 (p.rules.map zt)), .p (.sl 7 (p.kids.map polP)), .p (zQ p.obls)]), (2, .cells [.p (pS ⟨#[]⟩), .p (pB false), .p (pI 0), .p nilV, .p nilV, .p nilV, .p nilV]), (0, .row 59 5 ((p.rules.take k).map zt)), (5, .cells ((zt x).map .p))]⟩
      (repeat refine qb ?_); refine qa ?_
      repeat (first | refine zR ?_ | refine zK ?_ | refine zM ?_ | refine zB ?_ | refine zA ?_ | refine zS ?_ | refine zL ?_)
      refine qn rfl (qp qe rfl rfl rfl rfl rfl rfl rfl rfl rfl rfl rfl rfl rfl rfl rfl rfl (by simp only [List.length_append, List.length_map, List.length_take, List.length_cons, List.length_nil]; unfold reachBytes; omega) (by simp only [List.length_append, List.length_map, List.length_take, List.length_cons, List.length_nil]; omega) ?_)
      repeat (first | refine zR ?_ | refine zK ?_ | refine zM ?_ | refine zB ?_ | refine zA ?_ | refine zS ?_ | refine zL ?_)
      refine qc ?_
      (repeat refine qb ?_); refine qa ?_
      repeat (first | refine zR ?_ | refine zK ?_ | refine zM ?_ | refine zB ?_ | refine zA ?_ | refine zS ?_ | refine zL ?_)
      refine qc ?_
      refine ⟨_, _, ?_, qq [1, 2, 3, 19, 20, 21] [(1, 1), (2, 2), (42, 0)] rfl rfl, k + 1, _, hlt', rfl, qz hlt' (by omega), ?_⟩
      · omega
      · rw [List.take_succ_eq_append_getElem hlt', List.map_append, ← hx]; rfl
    · refine qK ?_
      rw [l1] at hlt
      simp only [decide_eq_false_iff_not] at hlt
      have hkk : k = p.rules.length := by omega
      subst hkk
      rw [List.take_length]
      (repeat refine qb ?_); refine qa ?_
      repeat (first | refine zR ?_ | refine zK ?_ | refine zM ?_ | refine zB ?_ | refine zA ?_ | refine zS ?_ | refine zL ?_)
      refine qc ?_
      (repeat refine qb ?_); refine qa ?_
      repeat (first | refine zR ?_ | refine zK ?_ | refine zM ?_ | refine zB ?_ | refine zA ?_ | refine zS ?_ | refine zL ?_)
      refine qc ?_
      (repeat refine qb ?_); refine ql ?_
      refine SW.wk (jP 6 900 28 7 rfl rfl) ?_
      refine SW.wk (qq [1, 2, 3, 6, 45, 46, 47] [(1, 1), (2, 2), (0, 0), (900, 3)] rfl rfl) ?_
      refine qO (fun m s => ∃ (k : Nat) (kk : Int), k ≤ p.kids.length ∧ m = p.kids.length - k ∧ kk = k ∧ s = ⟨62, [(1, .ptr 1 0), (2, .ptr 2 0), (3, .row 0), (6, .row 3), (45, .p (.sl 7 (p.kids.map polP))), (46, .p (pI (p.kids.map polP).length)), (47, .p (pI kk))], [(1, .cells [.p (pS p.id), .p (pB p.set), .p (pI p.alg), .p (tgtP p.target), .p (.sl 5 (p.rules.map zt)), .p (.sl 7 (p.kids.map polP)), .p (zQ p.obls)]), (2, .cells [.p (pS ⟨#[]⟩), .p (pB false), .p (pI 0), .p nilV, .p nilV, .p nilV, .p nilV]), (0, .row 59 5 (p.rules.map zt)), (3, .row 28 7 ((p.kids.take k).map polP))]⟩) p.kids.length ⟨0, 0, Nat.zero_le _, rfl, rfl, rfl⟩ ?_
      rintro m s ⟨k, _, hk', rfl, rfl, rfl⟩
      (repeat refine qb ?_); refine qa ?_
      repeat (first | refine zR ?_ | refine zK ?_ | refine zM ?_ | refine zB ?_ | refine zA ?_ | refine zS ?_ | refine zL ?_)
      refine qc ?_
      (repeat refine qb ?_); refine qf rfl (fun hlt => ?_) (fun hlt => ?_)
      · refine qm ?_
        rw [l2] at hlt
        simp only [decide_eq_true_eq] at hlt
        have hlt' : k < p.kids.length := by omega
        have H2 := IH _ (List.getElem_mem hlt')
        obtain ⟨x, hx⟩ : ∃ x, x = p.kids[k] := ⟨_, rfl⟩
        rw [← hx, zf] at H2
        (repeat refine qb ?_); refine ql ?_
        (repeat refine qb ?_); refine qa ?_
        repeat (first | refine zR ?_ | refine zK ?_ | refine zM ?_ | refine zB ?_ | refine zA ?_ | refine zS ?_ | refine zL ?_)
        refine qw qe rfl rfl (by rw [l2]; omega) rfl ?_
        rw [qJ hlt', ← hx, zf x]
        repeat (first | refine zR ?_ | refine zK ?_ | refine zM ?_ | refine zB ?_ | refine zA ?_ | refine zS ?_ | refine zL ?_)
        refine qc ?_
        (repeat refine qb ?_); refine qa ?_
        repeat (first | refine zR ?_ | refine zK ?_ | refine zM ?_ | refine zB ?_ | refine zA ?_ | refine zS ?_ | refine zL ?_)
        refine qn rfl (qD rfl rfl rfl rfl (H2) rfl rfl rfl ?_)
        repeat (first | refine zR ?_ | refine zK ?_ | refine zM ?_ | refine zB ?_ | refine zA ?_ | refine zS ?_ | refine zL ?_)
        refine SWT.wk ((zN (k := 54000) rfl).trans (zN (k := 54001) rfl)) ?_
        repeat (first | refine zR ?_ | refine zK ?_ | refine zM ?_ | refine zB ?_ | refine zA ?_ | refine zS ?_ | refine zL ?_)
        refine qn rfl (qp qe rfl rfl rfl rfl rfl rfl rfl rfl rfl rfl rfl rfl rfl rfl rfl rfl (by simp only [List.length_append, List.length_map, List.length_take, List.length_cons, List.length_nil]; unfold reachBytes; omega) (by simp only [List.length_append, List.length_map, List.length_take, List.length_cons, List.length_nil]; omega) ?_)
        repeat (first | refine zR ?_ | refine zK ?_ | refine zM ?_ | refine zB ?_ | refine zA ?_ | refine zS ?_ | refine zL ?_)
        refine qc ?_
        (repeat refine qb ?_); refine qa ?_
        repeat (first | refine zR ?_ | refine zK ?_ | refine zM ?_ | refine zB ?_ | refine zA ?_ | refine zS ?_ | refine zL ?_)
        refine qc ?_
        refine ⟨_, _, ?_, qq [1, 2, 3, 6, 45, 46, 47] [(1, 1), (2, 2), (0, 0), (55, 3)] rfl rfl, k + 1, _, hlt', rfl, qz hlt' (by omega), ?_⟩
        · omega
        · have e : (p.kids.take (k + 1)).map polP = (p.kids.take k).map polP ++ [[pS x.id, pB x.set, pI x.alg, tgtP x.target, .sl 5 (x.rules.map zt), .sl 7 (x.kids.map polP), zQ x.obls]] := by
            rw [List.take_succ_eq_append_getElem hlt', List.map_append, ← hx]
            exact congrArg (fun q => (p.kids.take k).map polP ++ [q]) (zf x)
          rw [e]; rfl
      · refine qK ?_
        rw [l2] at hlt
        simp only [decide_eq_false_iff_not] at hlt
        have hkk : k = p.kids.length := by omega
        subst hkk
        rw [List.take_length]
        (repeat refine qb ?_); refine qa ?_
        repeat (first | refine zR ?_ | refine zK ?_ | refine zM ?_ | refine zB ?_ | refine zA ?_ | refine zS ?_ | refine zL ?_)
        refine qc ?_
        (repeat refine qb ?_); refine qa ?_
        repeat (first | refine zR ?_ | refine zK ?_ | refine zM ?_ | refine zB ?_ | refine zA ?_ | refine zS ?_ | refine zL ?_)
        refine qc ?_
        (repeat refine qb ?_); refine qk ?_
        exact ⟨Or.inr rfl, _, _, [(0, 0), (3, 1)], _, Wk.refl _, rfl, rfl, .refl _, rfl, rfl⟩
theorem copy_h : ∀ (n : Nat), CopyOk n
  | 0 => fun _ h => h.elim
  | n + 1 => copy_step n (copy_h n)
end Go.Proofs.YtppfcacnofjmdaaGreatDoor
namespace Go.Proofs.YtppfcacnofjmdaaGreatDoor
set_option linter.unusedVariables false
set_option linter.unusedSimpArgs false
open Go.RowKit
def Upto (k m : Nat) (r : SV) : Prop := ∃ b : Bool, r = .p (pB b) ∧ (b = true → k ≤ m)
theorem upto_ok {k m : Nat} {w : World} {e : Ending} {w' : World} (h : upTo k m w e w') : ∃ r, Upto k m r ∧ flatS r = true ∧ e = .returned (valS r) ∧ Below w.heap.size w w' ∧ RelS (fun _ => True) (fun _ => none) w' r (valS r) := by
  rcases h with ⟨rfl, hb⟩ | ⟨rfl, hk, hb⟩
  · exact ⟨.p (pB false), ⟨false, rfl, fun h => by cases h⟩, rfl, rfl, hb, .p (.v rfl)⟩
  · exact ⟨.p (pB true), ⟨true, rfl, fun _ => hk.out⟩, rfl, rfl, hb, .p (.v rfl)⟩
theorem few_h (l : List Giv) (hf : ∀ x ∈ l, x.Fit) : HoldsE Tryz.prog 16 [zP l] (Upto (fsz l) 1200) :=
  .of_calls Tryz.func16 (by kernel_rfl) rfl fun w vs hl hr => by
    obtain ⟨u, rfl⟩ := one_arg hl
    obtain ⟨A, c, rfl, h1, h2, h3⟩ := givs_typed (hr 0 _ u rfl rfl) hf
    exact (few_any l A c w h2.1 h3).mono fun e w' h => upto_ok h
theorem few_len {l : List Giv} (h : fsz l ≤ 1200) : l.length ≤ 600 ∧ ∀ g ∈ l, g.bag.length ≤ 1200 := by
  refine ⟨by unfold fsz at h; omega, fun g hg => ?_⟩
  have h2 : gsz g ≤ fsz l := by have := wb (f := gsz) hg; unfold fsz; omega
  have h3 : g.bag.length ≤ gsz g := by unfold gsz; omega
  omega
end Go.Proofs.YtppfcacnofjmdaaGreatDoor
namespace Go.Proofs.YtppfcacnofjmdaaGreatDoor
set_option linter.unusedVariables false
set_option linter.unusedSimpArgs false
open Go.RowKit
theorem nod_back {ok : Nat → Prop} {w : World} {cs : List Value} {x : Nod} (h : rPV ok w cs x.pv) (hf : x.Fit) : rNod w cs x :=
  ⟨rPV_plain (xs := [.int .i64 x.op, .int .i64 x.val.kind, .int .i64 x.val.n, .string x.val.s, .int .i64 x.attr.cat, .string x.attr.name, .bool x.attr.must]) h, hf⟩
theorem obl_back {ok : Nat → Prop} {w : World} {cs : List Value} {x : Obli} (h : rPV ok w cs x.pv) (hf : x.Fit) : rObl w cs x :=
  ⟨rPV_plain (xs := [.int .i64 x.on, .int .i64 x.kind, .string x.arg]) h, hf⟩
theorem slv_back {α : Type} {R : Rp α} {f : α → List PV} {z : Nat} {ok : Nat → Prop} {w : World} {u : Value} {l : List α} (h : RelP ok w (.sl z (l.map f)) u) (hf : ∀ x ∈ l, ∀ cs, rPV ok w cs (f x) → R w cs x) : SlV R z w u l := by
  obtain ⟨A, c, rfl, h1, h2, h3⟩ := sl_typed h hf
  exact ⟨A, c, rfl, h1, h2, h3⟩
theorem tar_back {ok : Nat → Prop} {w : World} {u : Value} {t : Tar} (h : RelP ok w (tgtP t) u) (hf : TarFit t) : SlV rTar' 1 w u t := by
  obtain ⟨A, c, rfl, h1, h2, h3⟩ := tgt_typed h hf
  exact ⟨A, c, rfl, h1, h2, h3⟩
theorem rul_back {ok : Nat → Prop} {w : World} {cs : List Value} {x : Rul} (h : rPV ok w cs (zt x)) (hf : RulFit x) : rRul w cs x := by
  have hl : cs.length = 5 := h.1
  match cs, hl with
  | [c0, c1, c2, c3, c4], _ =>
    have e0 := zX (h.2 0 _ c0 rfl rfl) rfl
    have e1 := zX (h.2 1 _ c1 rfl rfl) rfl
    subst e0 e1
    exact ⟨c2, c3, c4, rfl, hf.id, tar_back (h.2 2 _ c2 rfl rfl) hf.tgt, slv_back (h.2 3 _ c3 rfl rfl) (fun x hx cs hcs => nod_back hcs (hf.cond x hx)), slv_back (h.2 4 _ c4 rfl rfl) (fun x hx cs hcs => obl_back hcs (hf.obls x hx))⟩
theorem pol_back : ∀ {n : Nat} {ok : Nat → Prop} {w : World} {cs : List Value} {p : Pol}, rPV ok w cs (polP p) → PolF n p → rPolN n w cs p
  | n + 1, ok, w, cs, p, h, hf => by
    rw [zf] at h
    have hl : cs.length = 7 := h.1
    match cs, hl with
    | [c0, c1, c2, c3, c4, c5, c6], _ =>
      have e0 := zX (h.2 0 _ c0 rfl rfl) rfl
      have e1 := zX (h.2 1 _ c1 rfl rfl) rfl
      have e2 := zX (h.2 2 _ c2 rfl rfl) rfl
      subst e0 e1 e2
      exact ⟨c3, c4, c5, c6, rfl, hf.1.id, hf.2.1, tar_back (h.2 3 _ c3 rfl rfl) hf.1.tgt, slv_back (h.2 4 _ c4 rfl rfl) (fun x hx cs hcs => rul_back hcs (hf.1.rules x hx)),
        slv_back (h.2 5 _ c5 rfl rfl) (fun x hx cs hcs => pol_back hcs (hf.2.2 x hx)), slv_back (h.2 6 _ c6 rfl rfl) (fun x hx cs hcs => obl_back hcs (hf.1.obls x hx))⟩
theorem small_h {n : Nat} (p : Pol) (hf : PolF n p) : HoldsE Tryz.prog 15 [.agg (polP p)] (Upto p.sz 3000) :=
  .of_calls Tryz.func15 (by kernel_rfl) rfl fun w vs hl hr => by
    obtain ⟨u, rfl⟩ := one_arg hl
    have h := hr 0 _ u rfl rfl
    cases h with
    | @agg _ us hl2 hr2 =>
      have hp := pol_back ⟨hl2, hr2⟩ hf
      match n, hf, hp with
      | n + 1, _, ⟨c3, c4, c5, c6, he, h1⟩ =>
        subst he
        exact (small_any (n + 1) p w c3 c4 c5 c6 ⟨c3, c4, c5, c6, rfl, h1⟩).mono fun e w' h => upto_ok h
end Go.Proofs.YtppfcacnofjmdaaGreatDoor
namespace Go.Proofs.YtppfcacnofjmdaaGreatDoor
set_option linter.unusedVariables false
set_option linter.unusedSimpArgs false
open Go.RowKit
theorem givOk_of {g : List Giv} (hg : ∀ x ∈ g, x.Fit) (h : fsz g ≤ 1200) : GivOk g := by
  obtain ⟨g1, g2⟩ := few_len h
  exact ⟨hg, by omega, fun x hx => by have := g2 x hx; omega⟩
end Go.Proofs.YtppfcacnofjmdaaGreatDoor
namespace Go.Proofs.YtppfcacnofjmdaaGreatDoor
set_option linter.unusedVariables false
set_option linter.unusedSimpArgs false
open Go.RowKit
set_option maxHeartbeats 4000000
theorem decide_obls {g : List Giv} {p : Pol} (h : p.sz ≤ 3000) : (qF g 4 p).obls.length ≤ 1000000 := by have := decideS_len g 4 p; omega
end Go.Proofs.YtppfcacnofjmdaaGreatDoor
namespace Go.Proofs.YtppfcacnofjmdaaGreatDoor
set_option linter.unusedVariables false
set_option linter.unusedSimpArgs false
open Go.RowKit
theorem joinM_zero (a : Mk) : qaA (0, 0) a = a := by unfold qaA; simp
theorem joinM_assoc (a b c : Mk) : qaA (qaA a b) c = qaA a (qaA b c) := by unfold qaA; simp [Nat.max_assoc]
theorem joinL_foldl : ∀ (l : List Mk) (a : Mk), l.foldl qaA a = qaA a (qaC l)
  | [], a => by unfold qaC qaA; simp
  | x :: l, a => by
    have e : qaC (x :: l) = qaA x (qaC l) := by
      unfold qaC
      rw [List.foldl_cons, joinL_foldl l (qaA (0, 0) x), joinM_zero]; rfl
    rw [List.foldl_cons, joinL_foldl l (qaA a x), e, joinM_assoc]
end Go.Proofs.YtppfcacnofjmdaaGreatDoor
namespace Go.Proofs.YtppfcacnofjmdaaGreatDoor
set_option linter.unusedVariables false
set_option linter.unusedSimpArgs false
open Go.RowKit
def keyM (l : List Mat) : Option Mat := l.find? (fun m => decide (m.op = 1) && !m.attr.must)
def keyS : Tar → Option Mat
  | [] => none
  | x :: t => if x.length = 1 then (match keyM (x.getD 0 []) with | some m => some m | none => keyS t) else keyS t
theorem fold_zero {α : Type} {f : α → Int} (hf : ∀ x, 0 ≤ f x) : ∀ {l : List α} {o : Int}, 0 ≤ o → (o = 0 ∨ ∃ x ∈ l, f x = 0) → l.foldl (fun o x => min o (f x)) o = 0
  | [], o, _, h => by
    rcases h with h | ⟨x, hx, _⟩
    · exact h
    · cases hx
  | y :: l, o, ho, h => by
    rw [List.foldl_cons]
    have hy := hf y
    refine fold_zero hf (by omega) ?_
    rcases h with h | ⟨x, hx, h0⟩
    · exact .inl (by omega)
    · rcases List.mem_cons.1 hx with rfl | hx
      · exact .inl (by omega)
      · exact .inr ⟨x, hx, h0⟩
theorem allTT_zero {l : List Mat} {g : List Giv} {m : Mat} (hm : m ∈ l) (h : qax m g = 0) : allTT l g = 0 := fold_zero (fun m => (matchT_range m g).1) (by omega) (.inr ⟨m, hm, h⟩)
theorem metT_zero {t : Tar} {g : List Giv} {x : List (List Mat)} (hx : x ∈ t) (h : anyTT x g = 0) : metT t g = 0 := fold_zero (fun m => (anyTT_range m g).1) (by omega) (.inr ⟨x, hx, h⟩)
theorem anyTT_one (y : List Mat) (g : List Giv) : anyTT [y] g = allTT y g := by
  have := allTT_range y g
  show max 0 (allTT y g) = _
  omega
theorem keyS_of : ∀ {t : Tar} {m : Mat}, keyS t = some m → m.op = 1 ∧ m.attr.must = false ∧ ∃ x ∈ t, ∃ y, x = [y] ∧ m ∈ y
  | [], m, h => by cases h
  | x :: t, m, h => by
    have up : keyS t = some m → m.op = 1 ∧ m.attr.must = false ∧ ∃ z ∈ x :: t, ∃ y, z = [y] ∧ m ∈ y := fun h => by
      obtain ⟨h1, h2, z, hz, h3⟩ := keyS_of h
      exact ⟨h1, h2, z, List.mem_cons_of_mem _ hz, h3⟩
    rw [keyS] at h
    split at h
    · rename_i hl
      obtain ⟨y, rfl⟩ := List.length_eq_one_iff.1 hl
      cases hk : keyM (([y] : List (List Mat)).getD 0 []) with
      | none => rw [hk] at h; exact up h
      | some m' =>
        rw [hk] at h
        cases h
        have h1 := List.find?_some hk
        have h2 := List.mem_of_find?_eq_some hk
        simp only [Bool.and_eq_true, decide_eq_true_eq, Bool.not_eq_true'] at h1
        exact ⟨h1.1, h1.2, [y], by simp, y, rfl, h2⟩
    · exact up h
theorem key_met {t : Tar} {m : Mat} (h : keyS t = some m) {g : List Giv} (h0 : qax m g = 0) : metT t g = 0 := by
  obtain ⟨_, _, x, hx, y, rfl, hm⟩ := keyS_of h
  exact metT_zero hx (by rw [anyTT_one]; exact allTT_zero hm h0)
def qaz (g : List Giv) (k : Pol) : Bool := match keyS k.target with
  | none => true
  | some m => decide (qax m g ≠ 0)
theorem pick_na {g : List Giv} {k : Pol} (h : qaz g k = false) (n : Nat) : qF g n k = noRs := by
  cases n with
  | zero => rfl
  | succ n =>
    unfold qaz at h
    split at h
    · cases h
    · rename_i m hm
      have h0 : qax m g = 0 := by simpa using h
      rw [qF, if_pos (key_met hm h0)]
def skipM (l : List Mk) : List Mk := l.filter fun m => decide (m ≠ (0, 0))
def skipR (l : List Rs) : List Rs := l.filter fun x => decide (x.m ≠ (0, 0))
theorem skip_map (l : List Rs) : (skipR l).map Rs.m = skipM (l.map Rs.m) := by
  unfold skipR skipM
  rw [List.filter_map]; rfl
theorem joinL_cons (x : Mk) (l : List Mk) : qaC (x :: l) = qaA x (qaC l) := by
  unfold qaC
  rw [List.foldl_cons, joinL_foldl l (qaA (0, 0) x), joinM_zero]; rfl
theorem skipM_cons (m : Mk) (l : List Mk) : skipM (m :: l) = if m = (0, 0) then skipM l else m :: skipM l := by
  unfold skipM
  rw [List.filter_cons]
  by_cases h : m = (0, 0) <;> simp [h]
theorem joinL_skip : ∀ l : List Mk, qaC (skipM l) = qaC l
  | [] => rfl
  | m :: l => by
    rw [skipM_cons, joinL_cons]
    split
    · rename_i h; rw [h, joinM_zero]; exact joinL_skip l
    · rw [joinL_cons, joinL_skip l]
theorem firstM_skip : ∀ l : List Mk, wy (skipM l) = wy l
  | [] => rfl
  | m :: l => by
    rw [skipM_cons, wy]
    split
    · exact firstM_skip l
    · rename_i h; rw [wy, if_neg h]
theorem onlyM_skip : ∀ (l : List Mk) (j : Mk), onlyM j (skipM l) = onlyM j l
  | [], j => rfl
  | m :: l, j => by
    rw [skipM_cons, onlyM]
    split
    · rename_i h
      rw [h, onlyM_skip l j, if_pos (by rfl)]
      have : stepJ j (0, 0) = j := by
        unfold stepJ
        split
        · rename_i h; exact h.symm
        · simp
      rw [this]
    · rw [onlyM]
      split
      · rw [onlyM_skip l]
      · rfl
theorem unlessM_skip (l : List Mk) {a b : Mk} (hb : b ≠ (0, 0)) : zY (skipM l) a b = zY l a b := by
  have : b ∈ skipM l ↔ b ∈ l := by
    unfold skipM
    rw [List.mem_filter]
    simp [hb]
  unfold zY
  by_cases h : b ∈ l
  · rw [if_pos h, if_pos (this.2 h)]
  · rw [if_neg h, if_neg (fun h1 => h (this.1 h1))]
theorem allM_skip (alg : Int) (l : List Mk) : allM alg (skipM l) = allM alg l := by
  unfold allM
  rw [joinL_skip, firstM_skip, onlyM_skip, unlessM_skip l (by decide), unlessM_skip l (by decide)]
theorem partsO_skip {alg : Int} {m : Mk} (hm : m ≠ (0, 0)) : ∀ l : List Rs, wF alg m (skipR l) = wF alg m l
  | [] => rfl
  | x :: l => by
    have ih := partsO_skip hm (alg := alg) l
    unfold skipR at ih ⊢
    rw [List.filter_cons, wF]
    by_cases h : x.m = (0, 0)
    · rw [if_neg (by simp [h]), if_neg (by rw [h]; exact fun e => hm e.symm)]
      exact ih
    · rw [if_pos (by simp [h]), wF, ih]
theorem joinR_skip (p : Pol) (t : Int) (l : List Rs) : wM p t (skipR l) = wM p t l := by
  unfold wM
  rw [skip_map, allM_skip]
  by_cases hm : allM p.alg (l.map Rs.m) = (0, 0)
  · rw [hm]; simp
  · rw [partsO_skip hm]
theorem skip_filter (g : List Giv) (n : Nat) : ∀ l : List Pol, skipR ((l.filter (qaz g)).map (qF g n)) = skipR (l.map (qF g n))
  | [] => rfl
  | k :: l => by
    have ih := skip_filter g n l
    unfold skipR at ih ⊢
    rw [List.filter_cons, List.map_cons, List.filter_cons]
    by_cases h : qaz g k = true
    · rw [if_pos h, List.map_cons, List.filter_cons, ih]
    · have h' : qaz g k = false := by simpa using h
      rw [if_neg h, pick_na h' n, if_neg (by simp [noRs])]
      exact ih
theorem decide_pick (g : List Giv) (n : Nat) (p : Pol) : qF g n (p.putKids (p.kids.filter (qaz g))) = qF g n p := by
  cases n with
  | zero => rfl
  | succ n =>
    rw [qF, qF]
    show (if metT p.target g = 0 then noRs else wM (p.putKids _) (metT p.target g) (p.rules.map (qaw g) ++ (p.kids.filter (qaz g)).map (qF g n))) = _
    split
    · rfl
    · have e : ∀ l, wM (p.putKids (p.kids.filter (qaz g))) (metT p.target g) l = wM p (metT p.target g) l := fun l => rfl
      rw [e, ← joinR_skip, ← joinR_skip p _ (p.rules.map (qaw g) ++ p.kids.map (qF g n))]
      congr 1
      have := skip_filter g n p.kids
      unfold skipR at this ⊢
      rw [List.filter_append, List.filter_append, this]
inductive SubL {α : Type} (R : α → α → Prop) : List α → List α → Prop
  | nil : SubL R [] []
  | skip {a b : List α} {x : α} (h : SubL R a b) : SubL R a (x :: b)
  | keep {a b : List α} {x y : α} (hr : R y x) (h : SubL R a b) : SubL R (y :: a) (x :: b)
theorem SubL.len {α : Type} {R : α → α → Prop} {a b : List α} (h : SubL R a b) : a.length ≤ b.length := by
  induction h with
  | nil => exact Nat.le_refl _
  | skip h ih => simp; omega
  | keep hr h ih => simp; omega
def SubP : Nat → Pol → Pol → Prop
  | 0, _, _ => True
  | n + 1, q, p => q.id = p.id ∧ q.set = p.set ∧ q.alg = p.alg ∧ q.target = p.target ∧ q.rules = p.rules ∧ q.obls = p.obls ∧ SubL (SubP n) q.kids p.kids
theorem SubP.refl : ∀ (n : Nat) (p : Pol), SubP n p p
  | 0, _ => True.intro
  | n + 1, p => ⟨rfl, rfl, rfl, rfl, rfl, rfl, by
    have : ∀ l : List Pol, SubL (SubP n) l l := fun l => by
      induction l with
      | nil => exact .nil
      | cons x l ih => exact .keep (SubP.refl n x) ih
    exact this _⟩
theorem headE_sub {p q : Pol} (h : headE p = 0) (h1 : q.set = p.set) (h2 : q.kids.length ≤ p.kids.length) (h3 : q.target = p.target) (h4 : q.obls = p.obls) (h5 : q.rules = p.rules) (h6 : q.alg = p.alg) : headE q = 0 := by
  unfold headE at h ⊢
  rw [h1, h3, h4, h5, h6]
  split at h
  · cases h
  · rename_i hc
    have hc' : ¬ (p.set && decide (0 < p.rules.length) || !p.set && (decide (0 < q.kids.length) || decide (p.alg = 4))) = true := by
      intro h
      refine hc ?_
      simp only [Bool.or_eq_true, Bool.and_eq_true, decide_eq_true_eq, Bool.not_eq_true'] at h ⊢
      rcases h with ⟨a, b⟩ | ⟨a, b | b⟩
      · exact .inl ⟨a, b⟩
      · exact .inr ⟨a, .inl (by omega)⟩
      · exact .inr ⟨a, .inr b⟩
    rw [if_neg hc']
    split at h
    · rename_i ht
      rw [if_pos ht]
      split at h
      · rename_i ho
        rw [if_pos ho]
        split at h
        · cases h
        · rename_i hm
          rw [if_neg (by omega)]
      · rename_i ho; rw [if_neg ho]; exact h
    · rename_i ht; rw [if_neg ht]; exact h
theorem polS_grow {n : Nat} {v : Wlk} {p : Pol} (h : (polS n v p).1 = 0) : v.le (polS n v p).2 :=
  ⟨fun s hs => hasS_polS n hs h, by have := polS_count n v p h; omega⟩
theorem Wlk.le_trans {a b c : Wlk} (h : a.le b) (h' : b.le c) : a.le c := ⟨fun s hs => h'.1 s (h.1 s hs), Int.le_trans h.2 h'.2⟩
theorem polS_sub : ∀ (n : Nat) {p q : Pol} {w v : Wlk}, SubP n q p → w.le v → (polS n v p).1 = 0 → (polS n w q).1 = 0 ∧ (polS n w q).2.le (polS n v p).2
  | 0, p, q, w, v, _, _, h => by cases h
  | n + 1, p, q, w, v, ⟨e1, e2, e3, e4, e5, e6, hk⟩, hl, h => by
    obtain ⟨h1, h2, h3⟩ := wj h
    obtain ⟨g1, g2⟩ := headS_le hl h1
    have hq : zF w q = zF w p := by
      have a1 : (zF w p).1 = 0 := g1
      unfold zF at a1 ⊢
      rw [e1, e3]
      split at a1
      · rename_i hc
        simp only at a1
        rw [if_pos hc, headE_sub a1 e2 hk.len e4 e6 e5 e3]
        simp only [if_pos hc, a1]
      · cases a1
    obtain ⟨r1, r2⟩ := seqS_le (f := zq) (f' := zq) (fun w v x hl h => ruleS_le hl h) g2 h2
    have key : ∀ {a b : List Pol}, SubL (SubP n) a b → ∀ {w v : Wlk}, w.le v → (seqS (polS n) v b).1 = 0 → (seqS (polS n) w a).1 = 0 ∧ (seqS (polS n) w a).2.le (seqS (polS n) v b).2 := by
      intro a b hs
      induction hs with
      | nil => exact fun hl _ => ⟨rfl, hl⟩
      | @skip a b x hs ih =>
        intro w v hl h
        by_cases h0 : (polS n v x).1 = 0
        · have eb : seqS (polS n) v (x :: b) = seqS (polS n) (polS n v x).2 b := by rw [seqS, if_pos h0]
          rw [eb] at h ⊢
          exact ih (Wlk.le_trans hl (polS_grow h0)) h
        · rw [seqS, if_neg h0] at h; exact absurd h h0
      | @keep a b x y hr hs ih =>
        intro w v hl h
        by_cases h0 : (polS n v x).1 = 0
        · have eb : seqS (polS n) v (x :: b) = seqS (polS n) (polS n v x).2 b := by rw [seqS, if_pos h0]
          rw [eb] at h ⊢
          obtain ⟨p1, p2⟩ := polS_sub n hr hl h0
          have ea : seqS (polS n) w (y :: a) = seqS (polS n) (polS n w y).2 a := by rw [seqS, if_pos p1]
          rw [ea]
          exact ih p2 h
        · rw [seqS, if_neg h0] at h; exact absurd h h0
    obtain ⟨k1, k2⟩ := key hk r2 h3
    have eq1 : polS (n + 1) w q = seqS (polS n) (seqS zq (zF w p).2 p.rules).2 q.kids := by rw [polS, hq, e5, if_pos g1, if_pos r1]
    have eq2 : polS (n + 1) v p = seqS (polS n) (seqS zq (zF v p).2 p.rules).2 p.kids := by rw [polS, if_pos h1, if_pos h2]
    rw [eq1, eq2]
    exact ⟨k1, k2⟩
theorem right_sub {p q : Pol} (h : zb p = 0) (hs : SubP 4 q p) : zb q = 0 := (polS_sub 4 hs (Wlk.le_refl _) h).1
def qaE (g : List Giv) : Nat → Pol → Pol
  | 0, p => p
  | n + 1, p => p.putKids ((p.kids.filter (qaz g)).map (qaE g n))
theorem sub_picked (g : List Giv) : ∀ (n : Nat) (p : Pol), SubP n (qaE g n p) p
  | 0, _ => True.intro
  | n + 1, p => ⟨rfl, rfl, rfl, rfl, rfl, rfl, by
    have : ∀ l : List Pol, SubL (SubP n) ((l.filter (qaz g)).map (qaE g n)) l := fun l => by
      induction l with
      | nil => exact .nil
      | cons x l ih =>
        rw [List.filter_cons]
        split
        · rw [List.map_cons]; exact .keep (sub_picked g n x) ih
        · exact .skip ih
    exact this _⟩
theorem decide_picked (g : List Giv) : ∀ (n m : Nat) (p : Pol), qF g m (qaE g n p) = qF g m p
  | 0, m, p => rfl
  | n + 1, 0, p => rfl
  | n + 1, m + 1, p => by
    rw [← decide_pick g (m + 1) p]
    have e : ((p.kids.filter (qaz g)).map (qaE g n)).map (qF g m) = (p.kids.filter (qaz g)).map (qF g m) := by
      rw [List.map_map]
      exact List.map_congr_left fun k _ => decide_picked g n m k
    rw [qF, qF]
    show (if metT p.target g = 0 then noRs else wM (p.putKids _) (metT p.target g) (p.rules.map (qaw g) ++ ((p.kids.filter (qaz g)).map (qaE g n)).map (qF g m))) = (if metT p.target g = 0 then noRs else wM (p.putKids _) (metT p.target g) (p.rules.map (qaw g) ++ (p.kids.filter (qaz g)).map (qF g m)))
    rw [e]; rfl
end Go.Proofs.YtppfcacnofjmdaaGreatDoor
namespace Go.Proofs.YtppfcacnofjmdaaGreatDoor
set_option linter.unusedVariables false
set_option linter.unusedSimpArgs false
open Go.RowKit
set_option maxHeartbeats 4000000
def m0 : Mat := ⟨⟨0, ⟨#[]⟩, false⟩, 0, ⟨0, 0, ⟨#[]⟩⟩⟩
def keyR (t : Tar) : Mat × Bool := match keyS t with
  | some m => (m, true)
  | none => (m0, false)
theorem keyR_nil : keyR [] = (m0, false) := rfl
theorem keyR_skip {x : List (List Mat)} {t : Tar} (h : x.length ≠ 1) : keyR (x :: t) = keyR t := by
  unfold keyR
  rw [keyS, if_neg h]
theorem keyR_none {y : List Mat} {t : Tar} (h : keyM y = none) : keyR ([y] :: t) = keyR t := by
  have e : keyS ([y] :: t) = match keyM y with | some m => some m | none => keyS t := by rw [keyS, if_pos (show [y].length = 1 from rfl)]; rfl
  unfold keyR
  rw [e, h]
theorem keyR_some {y : List Mat} {t : Tar} {m : Mat} (h : keyM y = some m) : keyR ([y] :: t) = (m, true) := by
  have e : keyS ([y] :: t) = match keyM y with | some m => some m | none => keyS t := by rw [keyS, if_pos (show [y].length = 1 from rfl)]; rfl
  unfold keyR
  rw [e, h]
def isKey (m : Mat) : Bool := decide (m.op = 1) && !m.attr.must
theorem keyM_cons (m : Mat) (y : List Mat) : keyM (m :: y) = if isKey m then some m else keyM y := by
  unfold keyM isKey
  rw [List.find?_cons]
  split <;> simp_all
theorem key_h (t : Tar) (hl : TarSm t) : Holds Tryz.prog 36 [tgtP t] (.tup [.p (.agg (keyR t).1.pv), .p (pB (keyR t).2)]) [] := by
  have lt : (t.map fun x => [anyP x]).length = t.length := by simp
  have ht0 := hl.1
  refine .ofW ?_
  refine qR (T := TTab) qe Tryz.func36 (by kernel_rfl) rfl rfl rfl ?_
  (repeat refine qb ?_); refine qa ?_
  repeat (first | refine zR ?_ | refine zK ?_ | refine zM ?_ | refine zB ?_ | refine zA ?_ | refine zS ?_ | refine zL ?_)
  refine qc ?_
  (repeat refine qb ?_); refine qa ?_
  repeat (first | refine zR ?_ | refine zK ?_ | refine zM ?_ | refine zB ?_ | refine zA ?_ | refine zS ?_ | refine zL ?_)
  refine qc ?_
  (repeat refine qb ?_); refine ql ?_
  refine SW.wk (qq [2, 3, 8, 9, 10] [(2, 2)] rfl rfl) ?_
  refine qO (fun n s => ∃ (k : Nat) (kk : Int), k ≤ t.length ∧ n = t.length - k ∧ kk = k ∧ keyR t = keyR (t.drop k) ∧ s = ⟨38, [(2, .ptr 2 0), (3, .p (pB false)), (8, .p (tgtP t)), (9, .p (pI (t.map fun x => [anyP x]).length)), (10, .p (pI kk))], [(2, .cells (m0.pv.map .p))]⟩) t.length ⟨0, 0, Nat.zero_le _, rfl, rfl, rfl, rfl⟩ ?_
  rintro n s ⟨k, _, hk, rfl, rfl, ha, rfl⟩
  (repeat refine qb ?_); refine qa ?_
  repeat (first | refine zR ?_ | refine zK ?_ | refine zM ?_ | refine zB ?_ | refine zA ?_ | refine zS ?_ | refine zL ?_)
  refine qc ?_
  (repeat refine qb ?_); refine qf rfl (fun hlt => ?_) (fun hlt => ?_)
  · refine qm ?_
    rw [lt] at hlt
    simp only [decide_eq_true_eq] at hlt
    have hlt' : k < t.length := by omega
    have hxl := hl.2 _ (List.getElem_mem hlt')
    rw [List.drop_eq_getElem_cons hlt'] at ha
    (repeat refine qb ?_); refine ql ?_
    (repeat refine qb ?_); refine qa ?_
    repeat (first | refine zR ?_ | refine zK ?_ | refine zM ?_ | refine zB ?_ | refine zA ?_ | refine zS ?_ | refine zL ?_)
    refine qw qe rfl rfl (by rw [lt]; omega) rfl ?_
    rw [qJ hlt']
    repeat (first | refine zR ?_ | refine zK ?_ | refine zM ?_ | refine zB ?_ | refine zA ?_ | refine zS ?_ | refine zL ?_)
    refine qc ?_
    generalize t[k] = x at *
    have lx : (x.map fun y => [qaB y]).length = x.length := by simp
    (repeat refine qb ?_); refine qa ?_
    repeat (first | refine zR ?_ | refine zK ?_ | refine zM ?_ | refine zB ?_ | refine zA ?_ | refine zS ?_ | refine zL ?_)
    refine qc ?_
    rw [lx]
    by_cases h1 : x.length = 1
    · rw [show ((x.length : Int) != 1) = false by simp [h1]]
      obtain ⟨y, rfl⟩ := List.length_eq_one_iff.1 h1
      have hyl := hxl.2 y (by simp)
      have ly : (y.map Mat.pv).length = y.length := by simp
      (repeat refine qb ?_); refine qf rfl (fun hc => ?_) (fun hc => ?_)
      · cases hc
      refine qm ?_
      (repeat refine qb ?_); refine qa ?_
      repeat (first | refine zR ?_ | refine zK ?_ | refine zM ?_ | refine zB ?_ | refine zA ?_ | refine zS ?_ | refine zL ?_)
      refine qw qe rfl rfl (by simp) rfl ?_
      repeat (first | refine zR ?_ | refine zK ?_ | refine zM ?_ | refine zB ?_ | refine zA ?_ | refine zS ?_ | refine zL ?_)
      refine qc ?_
      (repeat refine qb ?_); refine ql ?_
      refine SW.wk (qq [2, 3, 8, 9, 10, 19, 20, 21] [(2, 2)] rfl rfl) ?_
      change SW _ _ _ ⟨38, [(2, .ptr 2 0), (3, .p (pB false)), (8, .p (tgtP t)), (9, .p (pI (t.map fun x => [anyP x]).length)), (10, .p (pI k)), (19, .p (qaB y)), (20, .p (pI (y.map Mat.pv).length)), (21, .p (pI 0))], [(2, .cells (m0.pv.map .p))]⟩
      refine qO (fun n s => ∃ (j : Nat) (jj : Int), j ≤ y.length ∧ n = y.length - j ∧ jj = j ∧ keyM y = keyM (y.drop j) ∧ s = ⟨38, [(2, .ptr 2 0), (3, .p (pB false)), (8, .p (tgtP t)), (9, .p (pI (t.map fun x => [anyP x]).length)), (10, .p (pI k)), (19, .p (qaB y)), (20, .p (pI (y.map Mat.pv).length)), (21, .p (pI jj))], [(2, .cells (m0.pv.map .p))]⟩) y.length ⟨0, 0, Nat.zero_le _, rfl, rfl, rfl, rfl⟩ ?_
      rintro n s ⟨j, _, hj, rfl, rfl, hb, rfl⟩
      (repeat refine qb ?_); refine qa ?_
      repeat (first | refine zR ?_ | refine zK ?_ | refine zM ?_ | refine zB ?_ | refine zA ?_ | refine zS ?_ | refine zL ?_)
      refine qc ?_
      (repeat refine qb ?_); refine qf rfl (fun hlj => ?_) (fun hlj => ?_)
      · refine qm ?_
        rw [ly] at hlj
        simp only [decide_eq_true_eq] at hlj
        have hlj' : j < y.length := by omega
        rw [List.drop_eq_getElem_cons hlj', keyM_cons] at hb
        (repeat refine qb ?_); refine ql ?_
        (repeat refine qb ?_); refine qa ?_
        repeat (first | refine zR ?_ | refine zK ?_ | refine zM ?_ | refine zB ?_ | refine zA ?_ | refine zS ?_ | refine zL ?_)
        refine qw qe rfl rfl (by rw [ly]; omega) rfl ?_
        rw [qJ hlj']
        repeat (first | refine zR ?_ | refine zK ?_ | refine zM ?_ | refine zB ?_ | refine zA ?_ | refine zS ?_ | refine zL ?_)
        refine qc ?_
        generalize y[j] = m at *
        obtain ⟨⟨ac, an, am⟩, mo, ⟨vk, vn, vs⟩⟩ := m
        (repeat refine qb ?_); refine qs (by kernel_rfl) ?_
        repeat (refine qr qe rfl (by exact True.intro) rfl ?_)
        refine qQ ?_
        (repeat refine qb ?_); refine qf rfl (fun hq => ?_) (fun hq => ?_)
        · have hq' : isKey ⟨⟨ac, an, am⟩, mo, ⟨vk, vn, vs⟩⟩ = true := by
            unfold isKey
            revert hq
            by_cases h : mo = 1 <;> cases am <;> simp [h]
          rw [hq', if_pos rfl] at hb
          rw [keyR_some hb] at ha
          rw [ha]
          (repeat refine qb ?_); refine qa ?_
          repeat (first | refine zR ?_ | refine zK ?_ | refine zM ?_ | refine zB ?_ | refine zA ?_ | refine zS ?_ | refine zL ?_)
          refine qc ?_
          (repeat refine qb ?_); refine qk ?_
          exact ⟨Or.inr rfl, _, _, [], _, Wk.refl _, rfl, rfl, .refl _, rfl, rfl⟩
        · have hq' : isKey ⟨⟨ac, an, am⟩, mo, ⟨vk, vn, vs⟩⟩ = false := by
            unfold isKey
            revert hq
            by_cases h : mo = 1 <;> cases am <;> simp [h]
          rw [hq', if_neg (by simp)] at hb
          refine qm ?_
          (repeat refine qb ?_); refine qa ?_
          repeat (first | refine zR ?_ | refine zK ?_ | refine zM ?_ | refine zB ?_ | refine zA ?_ | refine zS ?_ | refine zL ?_)
          refine qc ?_
          refine ⟨_, _, ?_, qq [2, 3, 8, 9, 10, 19, 20, 21] [(2, 2)] rfl rfl, j + 1, _, hlj', rfl, qz hlj' (by omega), hb, rfl⟩
          omega
      · refine qK ?_
        rw [ly] at hlj
        simp only [decide_eq_false_iff_not] at hlj
        have hjj : j = y.length := by omega
        subst hjj
        rw [List.drop_length] at hb
        rw [keyR_none hb] at ha
        (repeat refine qb ?_); refine qa ?_
        repeat (first | refine zR ?_ | refine zK ?_ | refine zM ?_ | refine zB ?_ | refine zA ?_ | refine zS ?_ | refine zL ?_)
        refine qc ?_
        refine ⟨_, _, ?_, qq [2, 3, 8, 9, 10] [(2, 2)] rfl rfl, k + 1, _, hlt', rfl, qz hlt' (by omega), ha, rfl⟩
        omega
    · rw [show ((x.length : Int) != 1) = true by simp; omega]
      rw [keyR_skip h1] at ha
      (repeat refine qb ?_); refine qf rfl (fun hc => ?_) (fun hc => ?_)
      · refine qK ?_
        (repeat refine qb ?_); refine qa ?_
        repeat (first | refine zR ?_ | refine zK ?_ | refine zM ?_ | refine zB ?_ | refine zA ?_ | refine zS ?_ | refine zL ?_)
        refine qc ?_
        refine ⟨_, _, ?_, qq [2, 3, 8, 9, 10] [(2, 2)] rfl rfl, k + 1, _, hlt', rfl, qz hlt' (by omega), ha, rfl⟩
        omega
      · cases hc
  · refine qK ?_
    rw [lt] at hlt
    simp only [decide_eq_false_iff_not] at hlt
    have hkk : k = t.length := by omega
    subst hkk
    rw [List.drop_length, keyR_nil] at ha
    rw [ha]
    (repeat refine qb ?_); refine qa ?_
    repeat (first | refine zR ?_ | refine zK ?_ | refine zM ?_ | refine zB ?_ | refine zA ?_ | refine zS ?_ | refine zL ?_)
    refine qc ?_
    (repeat refine qb ?_); refine qk ?_
    exact ⟨Or.inr rfl, _, _, [], _, Wk.refl _, rfl, rfl, .refl _, rfl, rfl⟩
def pickF (g : List Giv) (ks : List Pol) (i : Nat) : Bool := match ks[i]? with
  | some k => qaz g k
  | none => false
def qB (g : List Giv) (ks : List Pol) (n : Nat) : List Nat := (List.range n).filter (pickF g ks)
theorem pickF_at {g : List Giv} {ks : List Pol} {k : Nat} (h : k < ks.length) : pickF g ks k = qaz g ks[k] := by
  unfold pickF
  rw [List.getElem?_eq_getElem h]
theorem pickN_succ (g : List Giv) (ks : List Pol) (k : Nat) : qB g ks (k + 1) = if pickF g ks k then qB g ks k ++ [k] else qB g ks k := by
  unfold qB
  rw [List.range_succ, List.filter_append]
  cases h : pickF g ks k <;> simp [h]
theorem pickN_len (g : List Giv) (ks : List Pol) (n : Nat) : (qB g ks n).length ≤ n := by
  have := List.length_filter_le (pickF g ks) (List.range n)
  rw [List.length_range] at this
  exact this
theorem pick_key (g : List Giv) (k : Pol) : qaz g k = (!(keyR k.target).2 || decide (qax (keyR k.target).1 g ≠ 0)) := by
  unfold qaz keyR
  cases keyS k.target with
  | none => rfl
  | some m => simp
def natsP (l : List Nat) : List (List PV) := l.map fun (i : Nat) => [pI (i : Int)]
theorem keyR_fit {t : Tar} (ht : TarFit t) : (keyR t).1.Fit := by
  unfold keyR
  cases h : keyS t with
  | none => exact ⟨⟨⟨by decide, by decide⟩, by decide⟩, ⟨by decide, by decide⟩, ⟨⟨by decide, by decide⟩, ⟨by decide, by decide⟩, by decide⟩⟩
  | some m =>
    obtain ⟨_, _, x, hx, y, rfl, hm⟩ := keyS_of h
    exact ht _ hx _ (by simp) _ hm
theorem pick_h (ks : List Pol) (g : List Giv) (hg : GivOk g) (hn : ks.length ≤ 1000000) (hf : ∀ k ∈ ks, TarFit k.target ∧ TarSm k.target) : Holds Tryz.prog 38 [.sl 7 (ks.map polP), zP g] (.row 0) [(0, .row 3 1 (natsP (qB g ks ks.length)))] := by
  have l2 : ((ks.map polP).length) = ks.length := by simp
  refine qA (ts := [4]) Tryz.func38 (by kernel_rfl) rfl rfl rfl ?_
  (repeat refine qb ?_); refine qa ?_
  repeat (first | refine zR ?_ | refine zK ?_ | refine zM ?_ | refine zB ?_ | refine zA ?_ | refine zS ?_ | refine zL ?_)
  refine qc ?_
  (repeat refine qb ?_); refine qa ?_
  repeat (first | refine zR ?_ | refine zK ?_ | refine zM ?_ | refine zB ?_ | refine zA ?_ | refine zS ?_ | refine zL ?_)
  refine qc ?_
  (repeat refine qb ?_); refine qa ?_
  repeat (first | refine zR ?_ | refine zK ?_ | refine zM ?_ | refine zB ?_ | refine zA ?_ | refine zS ?_ | refine zL ?_)
  refine qc ?_
  (repeat refine qb ?_); refine ql ?_
  refine SW.wk (jP 5 900 3 1 rfl rfl) ?_
  refine SW.wk (qq [1, 5, 10, 11, 12] [(900, 0)] rfl rfl) ?_
  refine qO (fun m s => ∃ (k : Nat) (kk : Int), k ≤ ks.length ∧ m = ks.length - k ∧ kk = k ∧ s = ⟨37, [(1, .p (zP g)), (5, .row 0), (10, .p (.sl 7 (ks.map polP))), (11, .p (pI (ks.map polP).length)), (12, .p (pI kk))], [(0, .row 3 1 (natsP (qB g ks k)))]⟩) ks.length ⟨0, 0, Nat.zero_le _, rfl, rfl, rfl⟩ ?_
  rintro m s ⟨k, _, hk', rfl, rfl, rfl⟩
  have hpl := pickN_len g ks k
  (repeat refine qb ?_); refine qa ?_
  repeat (first | refine zR ?_ | refine zK ?_ | refine zM ?_ | refine zB ?_ | refine zA ?_ | refine zS ?_ | refine zL ?_)
  refine qc ?_
  (repeat refine qb ?_); refine qf rfl (fun hlt => ?_) (fun hlt => ?_)
  · refine qm ?_
    rw [l2] at hlt
    simp only [decide_eq_true_eq] at hlt
    have hlt' : k < ks.length := by omega
    obtain ⟨ht, hts⟩ := hf _ (List.getElem_mem hlt')
    have hK := key_h ks[k].target hts
    have hM := match2_h (keyR ks[k].target).1 g (keyR_fit ht) hg.fit hg.len hg.bags
    have hP := pick_key g ks[k]
    have hsucc := pickN_succ g ks k
    rw [pickF_at hlt'] at hsucc
    obtain ⟨x, hx⟩ : ∃ x, x = ks[k] := ⟨_, rfl⟩
    rw [← hx] at hK hM hP hsucc
    (repeat refine qb ?_); refine ql ?_
    (repeat refine qb ?_); refine qa ?_
    repeat (first | refine zR ?_ | refine zK ?_ | refine zM ?_ | refine zB ?_ | refine zA ?_ | refine zS ?_ | refine zL ?_)
    refine qw qe rfl rfl (by rw [l2]; omega) rfl ?_
    rw [qJ hlt', ← hx, zf]
    repeat (first | refine zR ?_ | refine zK ?_ | refine zM ?_ | refine zB ?_ | refine zA ?_ | refine zS ?_ | refine zL ?_)
    refine qc ?_
    (repeat refine qb ?_); refine qa ?_
    repeat (first | refine zR ?_ | refine zK ?_ | refine zM ?_ | refine zB ?_ | refine zA ?_ | refine zS ?_ | refine zL ?_)
    refine qn rfl (qD rfl rfl rfl rfl (hK) rfl rfl rfl ?_)
    repeat (first | refine zR ?_ | refine zK ?_ | refine zM ?_ | refine zB ?_ | refine zA ?_ | refine zS ?_ | refine zL ?_)
    refine qc ?_
    generalize keyR x.target = r at *
    obtain ⟨m, b⟩ := r
    simp only at hM hP
    cases b with
    | false =>
      rw [show (!false || decide (qax m g ≠ 0)) = true from rfl] at hP
      rw [hP, if_pos rfl] at hsucc
      (repeat refine qb ?_); refine qa ?_
      repeat (first | refine zR ?_ | refine zK ?_ | refine zM ?_ | refine zB ?_ | refine zA ?_ | refine zS ?_ | refine zL ?_)
      refine qc ?_
      (repeat refine qb ?_); refine qf rfl (fun hq => ?_) (fun hq => ?_)
      · (repeat refine qb ?_); refine qa ?_
        repeat (first | refine zR ?_ | refine zK ?_ | refine zM ?_ | refine zB ?_ | refine zA ?_ | refine zS ?_ | refine zL ?_)
        refine qn rfl (qp qe rfl rfl rfl rfl rfl rfl rfl rfl rfl rfl rfl rfl rfl rfl rfl rfl (by simp only [natsP, List.length_append, List.length_map, List.length_take, List.length_cons, List.length_nil]; unfold reachBytes; omega) (by simp only [natsP, List.length_append, List.length_map, List.length_take, List.length_cons, List.length_nil]; omega) ?_)
        repeat (first | refine zR ?_ | refine zK ?_ | refine zM ?_ | refine zB ?_ | refine zA ?_ | refine zS ?_ | refine zL ?_)
        refine qc ?_
        (repeat refine qb ?_); refine qa ?_
        repeat (first | refine zR ?_ | refine zK ?_ | refine zM ?_ | refine zB ?_ | refine zA ?_ | refine zS ?_ | refine zL ?_)
        refine qc ?_
        refine ⟨_, _, ?_, qq [1, 5, 10, 11, 12] [(34, 0)] rfl rfl, k + 1, _, hlt', rfl, qz hlt' (by omega), ?_⟩
        · omega
        · rw [hsucc]; unfold natsP; rw [List.map_append]; rfl
      · cases hq
    | true =>
      rw [show (!true || decide (qax m g ≠ 0)) = decide (qax m g ≠ 0) from rfl] at hP
      (repeat refine qb ?_); refine qa ?_
      repeat (first | refine zR ?_ | refine zK ?_ | refine zM ?_ | refine zB ?_ | refine zA ?_ | refine zS ?_ | refine zL ?_)
      refine qn rfl (qg rfl rfl rfl rfl (hM) rfl rfl ?_)
      repeat (first | refine zR ?_ | refine zK ?_ | refine zM ?_ | refine zB ?_ | refine zA ?_ | refine zS ?_ | refine zL ?_)
      refine qc ?_
      (repeat refine qb ?_); refine qf rfl (fun hq => ?_) (fun hq => ?_)
      · have h0 : qax m g ≠ 0 := by simpa using hq
        rw [hP, decide_eq_true h0, if_pos rfl] at hsucc
        (repeat refine qb ?_); refine qa ?_
        repeat (first | refine zR ?_ | refine zK ?_ | refine zM ?_ | refine zB ?_ | refine zA ?_ | refine zS ?_ | refine zL ?_)
        refine qn rfl (qp qe rfl rfl rfl rfl rfl rfl rfl rfl rfl rfl rfl rfl rfl rfl rfl rfl (by simp only [natsP, List.length_append, List.length_map, List.length_take, List.length_cons, List.length_nil]; unfold reachBytes; omega) (by simp only [natsP, List.length_append, List.length_map, List.length_take, List.length_cons, List.length_nil]; omega) ?_)
        repeat (first | refine zR ?_ | refine zK ?_ | refine zM ?_ | refine zB ?_ | refine zA ?_ | refine zS ?_ | refine zL ?_)
        refine qc ?_
        (repeat refine qb ?_); refine qa ?_
        repeat (first | refine zR ?_ | refine zK ?_ | refine zM ?_ | refine zB ?_ | refine zA ?_ | refine zS ?_ | refine zL ?_)
        refine qc ?_
        refine ⟨_, _, ?_, qq [1, 5, 10, 11, 12] [(34, 0)] rfl rfl, k + 1, _, hlt', rfl, qz hlt' (by omega), ?_⟩
        · omega
        · rw [hsucc]; unfold natsP; rw [List.map_append]; rfl
      · have h0 : ¬ qax m g ≠ 0 := by simpa using hq
        rw [hP, decide_eq_false h0, if_neg (by simp)] at hsucc
        refine qm ?_
        (repeat refine qb ?_); refine qa ?_
        repeat (first | refine zR ?_ | refine zK ?_ | refine zM ?_ | refine zB ?_ | refine zA ?_ | refine zS ?_ | refine zL ?_)
        refine qc ?_
        refine ⟨_, _, ?_, qq [1, 5, 10, 11, 12] [(0, 0)] rfl rfl, k + 1, _, hlt', rfl, qz hlt' (by omega), by rw [hsucc]; rfl⟩
        omega
  · refine qK ?_
    rw [l2] at hlt
    simp only [decide_eq_false_iff_not] at hlt
    have hkk : k = ks.length := by omega
    subst hkk
    (repeat refine qb ?_); refine qa ?_
    repeat (first | refine zR ?_ | refine zK ?_ | refine zM ?_ | refine zB ?_ | refine zA ?_ | refine zS ?_ | refine zL ?_)
    refine qc ?_
    (repeat refine qb ?_); refine qk ?_
    exact ⟨Or.inr rfl, _, _, [(0, 0)], Wk.refl _, rfl, rfl, rfl, rfl⟩
end Go.Proofs.YtppfcacnofjmdaaGreatDoor
namespace Go.Proofs.YtppfcacnofjmdaaGreatDoor
open Go.RowKit
noncomputable def fnsi35 : FnI := ⟨29, Tryz.f35.body.getD .skip, [.tmp 0], []⟩
theorem fnsi35_ok : FnOk Tryz.prog 35 fnsi35 := ⟨_, Tryz.func35, by kernel_rfl, by kernel_rfl, by kernel_rfl, by kernel_rfl, by kernel_rfl, by kernel_rfl⟩
noncomputable def fnsi36 : FnI := ⟨38, Tryz.f36.body.getD .skip, [.cell 2 62, .tmp 3], []⟩
theorem fnsi36_ok : FnOk Tryz.prog 36 fnsi36 := ⟨_, Tryz.func36, by kernel_rfl, by kernel_rfl, by kernel_rfl, by kernel_rfl, by kernel_rfl, by kernel_rfl⟩
noncomputable def fnsi61 : FnI := ⟨61, Tryz.f61.body.getD .skip, [.cell 2 28, .tmp 3, .tmp 4], [(11, [(0, true), (1, true), (2, true), (3, true), (4, true), (5, true), (6, true), (7, true), (8, true), (9, false), (10, false), (11, false)])]⟩
theorem fnsi61_ok : FnOk Tryz.prog 61 fnsi61 := ⟨_, Tryz.func61, by kernel_rfl, by kernel_rfl, by kernel_rfl, by kernel_rfl, by kernel_rfl, by kernel_rfl⟩
noncomputable def fnsi80 : FnI := ⟨19, Tryz.f80.body.getD .skip, [], []⟩
theorem fnsi80_ok : FnOk Tryz.prog 80 fnsi80 := ⟨_, Tryz.func80, by kernel_rfl, by kernel_rfl, by kernel_rfl, by kernel_rfl, by kernel_rfl, by kernel_rfl⟩
noncomputable def fnsi17 : FnI := ⟨10, Tryz.f17.body.getD .skip, [.tmp 2], []⟩
theorem fnsi17_ok : FnOk Tryz.prog 17 fnsi17 := ⟨_, Tryz.func17, by kernel_rfl, by kernel_rfl, by kernel_rfl, by kernel_rfl, by kernel_rfl, by kernel_rfl⟩
noncomputable def fnsi44 : FnI := ⟨52, Tryz.f44.body.getD .skip, [.tmp 6], []⟩
theorem fnsi44_ok : FnOk Tryz.prog 44 fnsi44 := ⟨_, Tryz.func44, by kernel_rfl, by kernel_rfl, by kernel_rfl, by kernel_rfl, by kernel_rfl, by kernel_rfl⟩
noncomputable def fnsi68 : FnI := ⟨39, Tryz.f68.body.getD .skip, [.tmp 4], []⟩
theorem fnsi68_ok : FnOk Tryz.prog 68 fnsi68 := ⟨_, Tryz.func68, by kernel_rfl, by kernel_rfl, by kernel_rfl, by kernel_rfl, by kernel_rfl, by kernel_rfl⟩
noncomputable def fnsi86 : FnI := ⟨39, Tryz.f86.body.getD .skip, [.tmp 2], []⟩
theorem fnsi86_ok : FnOk Tryz.prog 86 fnsi86 := ⟨_, Tryz.func86, by kernel_rfl, by kernel_rfl, by kernel_rfl, by kernel_rfl, by kernel_rfl, by kernel_rfl⟩
noncomputable def fnsi105 : FnI := ⟨49, Tryz.f105.body.getD .skip, [.tmp 2], []⟩
theorem fnsi105_ok : FnOk Tryz.prog 105 fnsi105 := ⟨_, Tryz.func105, by kernel_rfl, by kernel_rfl, by kernel_rfl, by kernel_rfl, by kernel_rfl, by kernel_rfl⟩
noncomputable def fnsi73 : FnI := ⟨38, Tryz.f73.body.getD .skip, [.tmp 2], []⟩
theorem fnsi73_ok : FnOk Tryz.prog 73 fnsi73 := ⟨_, Tryz.func73, by kernel_rfl, by kernel_rfl, by kernel_rfl, by kernel_rfl, by kernel_rfl, by kernel_rfl⟩
noncomputable def fnsi89 : FnI := ⟨60, Tryz.f89.body.getD .skip, [.tmp 4, .tmp 5], [(11, [(0, true), (1, true), (2, true), (3, false), (4, false), (5, false), (6, false), (7, false), (8, false), (9, false)])]⟩
theorem fnsi89_ok : FnOk Tryz.prog 89 fnsi89 := ⟨_, Tryz.func89, by kernel_rfl, by kernel_rfl, by kernel_rfl, by kernel_rfl, by kernel_rfl, by kernel_rfl⟩
noncomputable def fnsi114 : FnI := ⟨37, Tryz.f114.body.getD .skip, [.tmp 2], []⟩
theorem fnsi114_ok : FnOk Tryz.prog 114 fnsi114 := ⟨_, Tryz.func114, by kernel_rfl, by kernel_rfl, by kernel_rfl, by kernel_rfl, by kernel_rfl, by kernel_rfl⟩
noncomputable def fnsi143 : FnI := ⟨16, Tryz.f143.body.getD .skip, [.tmp 2], []⟩
theorem fnsi143_ok : FnOk Tryz.prog 143 fnsi143 := ⟨_, Tryz.func143, by kernel_rfl, by kernel_rfl, by kernel_rfl, by kernel_rfl, by kernel_rfl, by kernel_rfl⟩
noncomputable def fnsi103 : FnI := ⟨61, Tryz.f103.body.getD .skip, [.tmp 2], []⟩
theorem fnsi103_ok : FnOk Tryz.prog 103 fnsi103 := ⟨_, Tryz.func103, by kernel_rfl, by kernel_rfl, by kernel_rfl, by kernel_rfl, by kernel_rfl, by kernel_rfl⟩
noncomputable def fnsi113 : FnI := ⟨35, Tryz.f113.body.getD .skip, [.tmp 2, .tmp 3], []⟩
theorem fnsi113_ok : FnOk Tryz.prog 113 fnsi113 := ⟨_, Tryz.func113, by kernel_rfl, by kernel_rfl, by kernel_rfl, by kernel_rfl, by kernel_rfl, by kernel_rfl⟩
noncomputable def fnsi85 : FnI := ⟨21, Tryz.f85.body.getD .skip, [.tmp 2], []⟩
theorem fnsi85_ok : FnOk Tryz.prog 85 fnsi85 := ⟨_, Tryz.func85, by kernel_rfl, by kernel_rfl, by kernel_rfl, by kernel_rfl, by kernel_rfl, by kernel_rfl⟩
noncomputable def fnsi106 : FnI := ⟨25, Tryz.f106.body.getD .skip, [.tmp 2], []⟩
theorem fnsi106_ok : FnOk Tryz.prog 106 fnsi106 := ⟨_, Tryz.func106, by kernel_rfl, by kernel_rfl, by kernel_rfl, by kernel_rfl, by kernel_rfl, by kernel_rfl⟩
noncomputable def fnsi135 : FnI := ⟨22, Tryz.f135.body.getD .skip, [.tmp 2], []⟩
theorem fnsi135_ok : FnOk Tryz.prog 135 fnsi135 := ⟨_, Tryz.func135, by kernel_rfl, by kernel_rfl, by kernel_rfl, by kernel_rfl, by kernel_rfl, by kernel_rfl⟩
noncomputable def fnsi153 : FnI := ⟨21, Tryz.f153.body.getD .skip, [.tmp 2], []⟩
theorem fnsi153_ok : FnOk Tryz.prog 153 fnsi153 := ⟨_, Tryz.func153, by kernel_rfl, by kernel_rfl, by kernel_rfl, by kernel_rfl, by kernel_rfl, by kernel_rfl⟩
noncomputable def fnsi134 : FnI := ⟨9, Tryz.f134.body.getD .skip, [.tmp 2], []⟩
theorem fnsi134_ok : FnOk Tryz.prog 134 fnsi134 := ⟨_, Tryz.func134, by kernel_rfl, by kernel_rfl, by kernel_rfl, by kernel_rfl, by kernel_rfl, by kernel_rfl⟩
noncomputable def fnsi84 : FnI := ⟨28, Tryz.f84.body.getD .skip, [.tmp 4], []⟩
theorem fnsi84_ok : FnOk Tryz.prog 84 fnsi84 := ⟨_, Tryz.func84, by kernel_rfl, by kernel_rfl, by kernel_rfl, by kernel_rfl, by kernel_rfl, by kernel_rfl⟩
noncomputable def fnsi67 : FnI := ⟨68, Tryz.f67.body.getD .skip, [.tmp 4], []⟩
theorem fnsi67_ok : FnOk Tryz.prog 67 fnsi67 := ⟨_, Tryz.func67, by kernel_rfl, by kernel_rfl, by kernel_rfl, by kernel_rfl, by kernel_rfl, by kernel_rfl⟩
noncomputable def fnsi79 : FnI := ⟨7, Tryz.f79.body.getD .skip, [], []⟩
theorem fnsi79_ok : FnOk Tryz.prog 79 fnsi79 := ⟨_, Tryz.func79, by kernel_rfl, by kernel_rfl, by kernel_rfl, by kernel_rfl, by kernel_rfl, by kernel_rfl⟩
noncomputable def fnsi78 : FnI := ⟨13, Tryz.f78.body.getD .skip, [.cell 2 143], [(1, [(0, true), (1, true), (2, true), (3, true), (4, false), (5, false), (6, false), (7, false), (8, false), (9, false), (10, false)])]⟩
theorem fnsi78_ok : FnOk Tryz.prog 78 fnsi78 := ⟨_, Tryz.func78, by kernel_rfl, by kernel_rfl, by kernel_rfl, by kernel_rfl, by kernel_rfl, by kernel_rfl⟩
noncomputable def fnsi77 : FnI := ⟨39, Tryz.f77.body.getD .skip, [.cell 4 28], []⟩
theorem fnsi77_ok : FnOk Tryz.prog 77 fnsi77 := ⟨_, Tryz.func77, by kernel_rfl, by kernel_rfl, by kernel_rfl, by kernel_rfl, by kernel_rfl, by kernel_rfl⟩
noncomputable def fnsi100 : FnI := ⟨28, Tryz.f100.body.getD .skip, [.tmp 2], []⟩
theorem fnsi100_ok : FnOk Tryz.prog 100 fnsi100 := ⟨_, Tryz.func100, by kernel_rfl, by kernel_rfl, by kernel_rfl, by kernel_rfl, by kernel_rfl, by kernel_rfl⟩
noncomputable def fnsi131 : FnI := ⟨10, Tryz.f131.body.getD .skip, [], []⟩
theorem fnsi131_ok : FnOk Tryz.prog 131 fnsi131 := ⟨_, Tryz.func131, by kernel_rfl, by kernel_rfl, by kernel_rfl, by kernel_rfl, by kernel_rfl, by kernel_rfl⟩
noncomputable def fnsi95 : FnI := ⟨25, Tryz.f95.body.getD .skip, [.tmp 2], []⟩
theorem fnsi95_ok : FnOk Tryz.prog 95 fnsi95 := ⟨_, Tryz.func95, by kernel_rfl, by kernel_rfl, by kernel_rfl, by kernel_rfl, by kernel_rfl, by kernel_rfl⟩
noncomputable def fnsi94 : FnI := ⟨28, Tryz.f94.body.getD .skip, [.tmp 4], []⟩
theorem fnsi94_ok : FnOk Tryz.prog 94 fnsi94 := ⟨_, Tryz.func94, by kernel_rfl, by kernel_rfl, by kernel_rfl, by kernel_rfl, by kernel_rfl, by kernel_rfl⟩
noncomputable def fnsi129 : FnI := ⟨18, Tryz.f129.body.getD .skip, [.tmp 4], []⟩
theorem fnsi129_ok : FnOk Tryz.prog 129 fnsi129 := ⟨_, Tryz.func129, by kernel_rfl, by kernel_rfl, by kernel_rfl, by kernel_rfl, by kernel_rfl, by kernel_rfl⟩
noncomputable def fnsi132 : FnI := ⟨29, Tryz.f132.body.getD .skip, [.tmp 4], []⟩
theorem fnsi132_ok : FnOk Tryz.prog 132 fnsi132 := ⟨_, Tryz.func132, by kernel_rfl, by kernel_rfl, by kernel_rfl, by kernel_rfl, by kernel_rfl, by kernel_rfl⟩
noncomputable def fnsi128 : FnI := ⟨19, Tryz.f128.body.getD .skip, [.tmp 4], []⟩
theorem fnsi128_ok : FnOk Tryz.prog 128 fnsi128 := ⟨_, Tryz.func128, by kernel_rfl, by kernel_rfl, by kernel_rfl, by kernel_rfl, by kernel_rfl, by kernel_rfl⟩
noncomputable def fnsi99 : FnI := ⟨51, Tryz.f99.body.getD .skip, [.tmp 2], []⟩
theorem fnsi99_ok : FnOk Tryz.prog 99 fnsi99 := ⟨_, Tryz.func99, by kernel_rfl, by kernel_rfl, by kernel_rfl, by kernel_rfl, by kernel_rfl, by kernel_rfl⟩
noncomputable def fnsi133 : FnI := ⟨23, Tryz.f133.body.getD .skip, [.cell 4 59], []⟩
theorem fnsi133_ok : FnOk Tryz.prog 133 fnsi133 := ⟨_, Tryz.func133, by kernel_rfl, by kernel_rfl, by kernel_rfl, by kernel_rfl, by kernel_rfl, by kernel_rfl⟩
noncomputable def fnsi97 : FnI := ⟨10, Tryz.f97.body.getD .skip, [], []⟩
theorem fnsi97_ok : FnOk Tryz.prog 97 fnsi97 := ⟨_, Tryz.func97, by kernel_rfl, by kernel_rfl, by kernel_rfl, by kernel_rfl, by kernel_rfl, by kernel_rfl⟩
noncomputable def fnsi152 : FnI := ⟨25, Tryz.f152.body.getD .skip, [.tmp 6], []⟩
theorem fnsi152_ok : FnOk Tryz.prog 152 fnsi152 := ⟨_, Tryz.func152, by kernel_rfl, by kernel_rfl, by kernel_rfl, by kernel_rfl, by kernel_rfl, by kernel_rfl⟩
noncomputable def fnsi160 : FnI := ⟨52, Tryz.f160.body.getD .skip, [.tmp 4, .tmp 5], [(10, [(0, true), (1, true), (2, true), (3, true), (4, false), (5, false)])]⟩
theorem fnsi160_ok : FnOk Tryz.prog 160 fnsi160 := ⟨_, Tryz.func160, by kernel_rfl, by kernel_rfl, by kernel_rfl, by kernel_rfl, by kernel_rfl, by kernel_rfl⟩
noncomputable def fnsi167 : FnI := ⟨56, Tryz.f167.body.getD .skip, [.cell 2 52], []⟩
theorem fnsi167_ok : FnOk Tryz.prog 167 fnsi167 := ⟨_, Tryz.func167, by kernel_rfl, by kernel_rfl, by kernel_rfl, by kernel_rfl, by kernel_rfl, by kernel_rfl⟩
noncomputable def fnsi166 : FnI := ⟨17, Tryz.f166.body.getD .skip, [.cell 2 54], []⟩
theorem fnsi166_ok : FnOk Tryz.prog 166 fnsi166 := ⟨_, Tryz.func166, by kernel_rfl, by kernel_rfl, by kernel_rfl, by kernel_rfl, by kernel_rfl, by kernel_rfl⟩
noncomputable def fnsi168 : FnI := ⟨36, Tryz.f168.body.getD .skip, [.tmp 4, .cell 5 56], [(9, [(0, true), (1, true), (2, false), (3, false)])]⟩
theorem fnsi168_ok : FnOk Tryz.prog 168 fnsi168 := ⟨_, Tryz.func168, by kernel_rfl, by kernel_rfl, by kernel_rfl, by kernel_rfl, by kernel_rfl, by kernel_rfl⟩
noncomputable def fnsi173 : FnI := ⟨15, Tryz.f173.body.getD .skip, [.tmp 2], []⟩
theorem fnsi173_ok : FnOk Tryz.prog 173 fnsi173 := ⟨_, Tryz.func173, by kernel_rfl, by kernel_rfl, by kernel_rfl, by kernel_rfl, by kernel_rfl, by kernel_rfl⟩
noncomputable def fnsi96 : FnI := ⟨23, Tryz.f96.body.getD .skip, [.tmp 2], []⟩
theorem fnsi96_ok : FnOk Tryz.prog 96 fnsi96 := ⟨_, Tryz.func96, by kernel_rfl, by kernel_rfl, by kernel_rfl, by kernel_rfl, by kernel_rfl, by kernel_rfl⟩
noncomputable def fnsi130 : FnI := ⟨24, Tryz.f130.body.getD .skip, [.tmp 2], []⟩
theorem fnsi130_ok : FnOk Tryz.prog 130 fnsi130 := ⟨_, Tryz.func130, by kernel_rfl, by kernel_rfl, by kernel_rfl, by kernel_rfl, by kernel_rfl, by kernel_rfl⟩
noncomputable def fnsi151 : FnI := ⟨20, Tryz.f151.body.getD .skip, [.tmp 2], []⟩
theorem fnsi151_ok : FnOk Tryz.prog 151 fnsi151 := ⟨_, Tryz.func151, by kernel_rfl, by kernel_rfl, by kernel_rfl, by kernel_rfl, by kernel_rfl, by kernel_rfl⟩
noncomputable def fnsi159 : FnI := ⟨32, Tryz.f159.body.getD .skip, [.cell 2 62], []⟩
theorem fnsi159_ok : FnOk Tryz.prog 159 fnsi159 := ⟨_, Tryz.func159, by kernel_rfl, by kernel_rfl, by kernel_rfl, by kernel_rfl, by kernel_rfl, by kernel_rfl⟩
noncomputable def fnsi98 : FnI := ⟨33, Tryz.f98.body.getD .skip, [.tmp 4], []⟩
theorem fnsi98_ok : FnOk Tryz.prog 98 fnsi98 := ⟨_, Tryz.func98, by kernel_rfl, by kernel_rfl, by kernel_rfl, by kernel_rfl, by kernel_rfl, by kernel_rfl⟩
noncomputable def fnsi76 : FnI := ⟨52, Tryz.f76.body.getD .skip, [.tmp 2, .tmp 3, .tmp 4], []⟩
theorem fnsi76_ok : FnOk Tryz.prog 76 fnsi76 := ⟨_, Tryz.func76, by kernel_rfl, by kernel_rfl, by kernel_rfl, by kernel_rfl, by kernel_rfl, by kernel_rfl⟩
noncomputable def fnsi93 : FnI := ⟨106, Tryz.f93.body.getD .skip, [.cell 2 143, .tmp 3], [(30, [(0, true), (1, true), (2, false), (3, false), (4, false), (5, false), (6, false)])]⟩
theorem fnsi93_ok : FnOk Tryz.prog 93 fnsi93 := ⟨_, Tryz.func93, by kernel_rfl, by kernel_rfl, by kernel_rfl, by kernel_rfl, by kernel_rfl, by kernel_rfl⟩
noncomputable def fnsi126 : FnI := ⟨50, Tryz.f126.body.getD .skip, [.tmp 2, .tmp 3], []⟩
theorem fnsi126_ok : FnOk Tryz.prog 126 fnsi126 := ⟨_, Tryz.func126, by kernel_rfl, by kernel_rfl, by kernel_rfl, by kernel_rfl, by kernel_rfl, by kernel_rfl⟩
noncomputable def fnsi149 : FnI := ⟨38, Tryz.f149.body.getD .skip, [.tmp 2, .tmp 3], [(3, [(0, true), (1, true), (4, true), (5, true), (2, false), (3, true), (6, false), (7, false), (8, false), (9, false)])]⟩
theorem fnsi149_ok : FnOk Tryz.prog 149 fnsi149 := ⟨_, Tryz.func149, by kernel_rfl, by kernel_rfl, by kernel_rfl, by kernel_rfl, by kernel_rfl, by kernel_rfl⟩
noncomputable def fnsi148 : FnI := ⟨17, Tryz.f148.body.getD .skip, [.tmp 2], []⟩
theorem fnsi148_ok : FnOk Tryz.prog 148 fnsi148 := ⟨_, Tryz.func148, by kernel_rfl, by kernel_rfl, by kernel_rfl, by kernel_rfl, by kernel_rfl, by kernel_rfl⟩
noncomputable def fnsi157 : FnI := ⟨20, Tryz.f157.body.getD .skip, [.tmp 2], []⟩
theorem fnsi157_ok : FnOk Tryz.prog 157 fnsi157 := ⟨_, Tryz.func157, by kernel_rfl, by kernel_rfl, by kernel_rfl, by kernel_rfl, by kernel_rfl, by kernel_rfl⟩
noncomputable def fnsi124 : FnI := ⟨9, Tryz.f124.body.getD .skip, [.tmp 2], []⟩
theorem fnsi124_ok : FnOk Tryz.prog 124 fnsi124 := ⟨_, Tryz.func124, by kernel_rfl, by kernel_rfl, by kernel_rfl, by kernel_rfl, by kernel_rfl, by kernel_rfl⟩
noncomputable def fnsi125 : FnI := ⟨35, Tryz.f125.body.getD .skip, [.tmp 4, .tmp 5], []⟩
theorem fnsi125_ok : FnOk Tryz.prog 125 fnsi125 := ⟨_, Tryz.func125, by kernel_rfl, by kernel_rfl, by kernel_rfl, by kernel_rfl, by kernel_rfl, by kernel_rfl⟩
noncomputable def fnsi145 : FnI := ⟨20, Tryz.f145.body.getD .skip, [.tmp 4], []⟩
theorem fnsi145_ok : FnOk Tryz.prog 145 fnsi145 := ⟨_, Tryz.func145, by kernel_rfl, by kernel_rfl, by kernel_rfl, by kernel_rfl, by kernel_rfl, by kernel_rfl⟩
noncomputable def fnsi123 : FnI := ⟨12, Tryz.f123.body.getD .skip, [.tmp 2], []⟩
theorem fnsi123_ok : FnOk Tryz.prog 123 fnsi123 := ⟨_, Tryz.func123, by kernel_rfl, by kernel_rfl, by kernel_rfl, by kernel_rfl, by kernel_rfl, by kernel_rfl⟩
noncomputable def fnsi146 : FnI := ⟨17, Tryz.f146.body.getD .skip, [.tmp 2], []⟩
theorem fnsi146_ok : FnOk Tryz.prog 146 fnsi146 := ⟨_, Tryz.func146, by kernel_rfl, by kernel_rfl, by kernel_rfl, by kernel_rfl, by kernel_rfl, by kernel_rfl⟩
noncomputable def FnsIF : List (FuncId × FnI) := [(35, fnsi35),
  (36, fnsi36),
  (61, fnsi61),
  (80, fnsi80),
  (17, fnsi17),
  (44, fnsi44),
  (68, fnsi68),
  (86, fnsi86),
  (105, fnsi105),
  (73, fnsi73),
  (89, fnsi89),
  (114, fnsi114),
  (143, fnsi143),
  (103, fnsi103),
  (113, fnsi113),
  (85, fnsi85),
  (106, fnsi106),
  (135, fnsi135),
  (153, fnsi153),
  (134, fnsi134),
  (84, fnsi84),
  (67, fnsi67),
  (79, fnsi79),
  (78, fnsi78),
  (77, fnsi77),
  (100, fnsi100),
  (131, fnsi131),
  (95, fnsi95),
  (94, fnsi94),
  (129, fnsi129),
  (132, fnsi132),
  (128, fnsi128),
  (99, fnsi99),
  (133, fnsi133),
  (97, fnsi97),
  (152, fnsi152),
  (160, fnsi160),
  (167, fnsi167),
  (166, fnsi166),
  (168, fnsi168),
  (173, fnsi173),
  (96, fnsi96),
  (130, fnsi130),
  (151, fnsi151),
  (159, fnsi159),
  (98, fnsi98),
  (76, fnsi76),
  (93, fnsi93),
  (126, fnsi126),
  (149, fnsi149),
  (148, fnsi148),
  (157, fnsi157),
  (124, fnsi124),
  (125, fnsi125),
  (145, fnsi145),
  (123, fnsi123),
  (146, fnsi146)]
theorem FnsIF_ok (C : FuncId → List PV → Option SV) : FOk Tryz.prog ⟨TTab, FnsIF, C⟩ := qj fnsi35_ok <|
  qj fnsi36_ok <|
  qj fnsi61_ok <|
  qj fnsi80_ok <|
  qj fnsi17_ok <|
  qj fnsi44_ok <|
  qj fnsi68_ok <|
  qj fnsi86_ok <|
  qj fnsi105_ok <|
  qj fnsi73_ok <|
  qj fnsi89_ok <|
  qj fnsi114_ok <|
  qj fnsi143_ok <|
  qj fnsi103_ok <|
  qj fnsi113_ok <|
  qj fnsi85_ok <|
  qj fnsi106_ok <|
  qj fnsi135_ok <|
  qj fnsi153_ok <|
  qj fnsi134_ok <|
  qj fnsi84_ok <|
  qj fnsi67_ok <|
  qj fnsi79_ok <|
  qj fnsi78_ok <|
  qj fnsi77_ok <|
  qj fnsi100_ok <|
  qj fnsi131_ok <|
  qj fnsi95_ok <|
  qj fnsi94_ok <|
  qj fnsi129_ok <|
  qj fnsi132_ok <|
  qj fnsi128_ok <|
  qj fnsi99_ok <|
  qj fnsi133_ok <|
  qj fnsi97_ok <|
  qj fnsi152_ok <|
  qj fnsi160_ok <|
  qj fnsi167_ok <|
  qj fnsi166_ok <|
  qj fnsi168_ok <|
  qj fnsi173_ok <|
  qj fnsi96_ok <|
  qj fnsi130_ok <|
  qj fnsi151_ok <|
  qj fnsi159_ok <|
  qj fnsi98_ok <|
  qj fnsi76_ok <|
  qj fnsi93_ok <|
  qj fnsi126_ok <|
  qj fnsi149_ok <|
  qj fnsi148_ok <|
  qj fnsi157_ok <|
  qj fnsi124_ok <|
  qj fnsi125_ok <|
  qj fnsi145_ok <|
  qj fnsi123_ok <|
  qj fnsi146_ok <| fok_nil
end Go.Proofs.YtppfcacnofjmdaaGreatDoor
namespace Go.Proofs.YtppfcacnofjmdaaGreatDoor
set_option linter.unusedVariables false
set_option linter.unusedSimpArgs false
open Go.RowKit
theorem qay : Holds Tryz.prog 35 [] (.p (.v (.bool true))) [] :=
  .ofW (zT (n := 5000) qe (zU _) (FnsIF_ok ctab) (by kernel_rfl) (by kernel_rfl))
end Go.Proofs.YtppfcacnofjmdaaGreatDoor
namespace Go.Proofs.YtppfcacnofjmdaaGreatDoor
set_option linter.unusedVariables false
set_option linter.unusedSimpArgs false
open Go.RowKit
set_option maxHeartbeats 4000000
end Go.Proofs.YtppfcacnofjmdaaGreatDoor
namespace Go.Proofs.YtppfcacnofjmdaaGreatDoor
set_option linter.unusedVariables false
set_option linter.unusedSimpArgs false
open Go.RowKit
set_option maxHeartbeats 4000000
set_option maxRecDepth 100000
def pickL (g : List Giv) (ks : List Pol) (k : Nat) : List Pol := (ks.take k).filter (qaz g)
theorem pickL_succ {g : List Giv} {ks : List Pol} {k : Nat} (h : k < ks.length) : pickL g ks (k + 1) = if pickF g ks k then pickL g ks k ++ [ks[k]] else pickL g ks k := by
  unfold pickL
  rw [pickF_at h, List.take_succ_eq_append_getElem h, List.filter_append]
  cases hp : qaz g ks[k] <;> simp [hp]
theorem sumBy_filter {α : Type} (f : α → Nat) (p : α → Bool) : ∀ l : List α, qT f (l.filter p) ≤ qT f l
  | [] => Nat.le_refl _
  | x :: l => by
    have h := sumBy_filter f p l
    rw [List.filter_cons]
    simp only [qT, List.map_cons, List.sum_cons] at h ⊢
    split
    · rw [List.map_cons, List.sum_cons]; omega
    · omega
theorem kids_sz {p : Pol} {l : List Pol} (h : qT Pol.sz l ≤ qT Pol.sz p.kids) : (p.putKids l).sz ≤ p.sz := by
  have e1 := Pol.sz_eq p
  have e2 : (p.putKids l).sz = 1 + p.rules.length + txt p.id + tsz p.target + osz p.obls + qT rusz p.rules + qT Pol.sz l := Pol.sz_eq (p.putKids l)
  omega
end Go.Proofs.YtppfcacnofjmdaaGreatDoor
