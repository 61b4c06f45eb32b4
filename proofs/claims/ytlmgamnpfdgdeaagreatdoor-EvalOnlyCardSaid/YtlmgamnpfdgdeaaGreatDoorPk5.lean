/-
  What the statement leans on, part 5: CombH, LessH, Value, Fun, Fun2, Fun3, ExF, TgtH, Cvt, CellR, HasH, ExH, ExN, ExV, EvH, Nilc, EvJ, EvD, EvM, Cnt, Small, FewH, GivO, SmallH.
-/
import Derived.Test.YtlmgamnpfdgdeaaGreatDoorRows
import Derived.WalkLawsBesides
import Derived.WalkSpells
import Derived.Deep.Cut
import Derived.Deep.Light
import Derived.OneCell
import Derived.Test.YtlmgamnpfdgdeaaGreatDoorPk1
import Derived.Test.YtlmgamnpfdgdeaaGreatDoorPk2
import Derived.Test.YtlmgamnpfdgdeaaGreatDoorPk3
import Derived.Test.YtlmgamnpfdgdeaaGreatDoorPk4
namespace Go.Proofs.YtlmgamnpfdgdeaaGreatDoor
set_option linter.unusedVariables false
set_option linter.unusedSimpArgs false
open Go.RowKit
set_option maxHeartbeats 4000000
def marksP (l : List Mk) : PV := .sl 1 (l.map fun m => [mkP m])
theorem indexMk_h (l : List Mk) (hn : l.length ≤ 1000000) (f : FuncId) (caps : List PV) (p : Mk → Bool) (hF : ∀ m ∈ l, Holds Tryz.prog f ([mkP m] ++ caps) (.p (pB (p m))) []) :
    Holds Tryz.prog 164 [marksP l, .fn f caps] (.p (pI (if l.findIdx p < l.length then (l.findIdx p : Int) else -1))) [] := by
  refine qo (ts := [4]) Tryz.func164 (by kernel_rfl) rfl rfl rfl ?_
  refine uA ?_
  refine uA ?_
  refine uB ?_
  refine uZ [0, 1, 7, 8] [] ?_
  refine qC (fun n s => ∃ (k : Nat) (kk : Int), k ≤ l.length ∧ n = l.length - k ∧ kk = k ∧ (∀ g ∈ l.take k, p g = false) ∧ s = ⟨19, [(0, .p (marksP l)), (1, .p (.fn f caps)), (7, .p (pI (l.map fun m => [mkP m]).length)), (8, .p (pI kk))], []⟩) l.length ⟨0, 0, Nat.zero_le _, rfl, rfl, by simp, rfl⟩ ?_
  rintro n s ⟨k, _, hk, rfl, rfl, ha, rfl⟩
  refine uA ?_
  refine uC (fun hlt => ?_) (fun hlt => ?_)
  · refine qg ?_
    simp only [List.length_map, decide_eq_true_eq] at hlt
    have hlt' : k < l.length := by omega
    refine uB ?_
    refine uA ?_
    refine uR ?_
    refine qh qa rfl rfl (by simp only [List.length_map]; omega) rfl ?_
    rw [qx hlt']
    refine uS ?_
    refine uK (hF l[k] (List.getElem_mem hlt')) ?_
    refine qd ?_
    refine uC (fun hp => ?_) (fun hp => ?_)
    · refine uA ?_
      refine uQ ?_
      refine qW rfl ?_
      have e : l.findIdx p = k := (List.findIdx_eq hlt').2 ⟨hp, fun j hj => ha _ (List.mem_take_iff_getElem.2 ⟨j, by omega, rfl⟩)⟩
      rw [e, if_pos hlt']
    · refine qg ?_
      refine uA ?_
      refine ⟨_, _, ?_, qu [0, 1, 7, 8] [] rfl rfl, k + 1, _, hlt', rfl, qt hlt' (by omega), ?_, rfl⟩
      · omega
      · intro g hg
        rw [List.take_succ_eq_append_getElem hlt', List.mem_append, List.mem_singleton] at hg
        rcases hg with hg | rfl
        · exact ha g hg
        · exact hp
  · refine qz ?_
    simp only [List.length_map, decide_eq_false_iff_not] at hlt
    have hkk : k = l.length := by omega
    subst hkk
    refine uA ?_
    refine uQ ?_
    refine qW rfl ?_
    rw [List.take_length] at ha
    rw [if_neg]
    have := List.findIdx_eq_length_of_false ha
    omega
theorem indexEq_h (l : List Mk) (hn : l.length ≤ 1000000) (hl : ∀ m ∈ l, m ∈ mks) (v : Mk) (hv : v ∈ mks) :
    Holds Tryz.prog 192 [marksP l, mkP v] (.p (pI (if l.findIdx (fun m => decide (v = m)) < l.length then (l.findIdx (fun m => decide (v = m)) : Int) else -1))) [] := by
  refine qo (ts := [4]) Tryz.func192 (by kernel_rfl) rfl rfl rfl ?_
  refine uA ?_
  refine uA ?_
  refine uB ?_
  refine uZ [0, 1, 7, 8] [] ?_
  refine qC (fun n s => ∃ (k : Nat) (kk : Int), k ≤ l.length ∧ n = l.length - k ∧ kk = k ∧ (∀ g ∈ l.take k, decide (v = g) = false) ∧ s = ⟨19, [(0, .p (marksP l)), (1, .p (mkP v)), (7, .p (pI (l.map fun m => [mkP m]).length)), (8, .p (pI kk))], []⟩) l.length ⟨0, 0, Nat.zero_le _, rfl, rfl, by simp, rfl⟩ ?_
  rintro n s ⟨k, _, hk, rfl, rfl, ha, rfl⟩
  refine uA ?_
  refine uC (fun hlt => ?_) (fun hlt => ?_)
  · refine qg ?_
    simp only [List.length_map, decide_eq_true_eq] at hlt
    have hlt' : k < l.length := by omega
    refine uB ?_
    refine uA ?_
    refine uR ?_
    refine qh qa rfl rfl (by simp only [List.length_map]; omega) rfl ?_
    rw [qx hlt']
    refine uS ?_
    refine qd ?_
    refine uC (fun hp => ?_) (fun hp => ?_)
    · refine uA ?_
      refine uQ ?_
      refine qW rfl ?_
      change mkE v l[k] = true at hp
      rw [mkE_eq hv (hl _ (List.getElem_mem hlt'))] at hp
      have e : l.findIdx (fun m => decide (v = m)) = k := (List.findIdx_eq hlt').2 ⟨hp, fun j hj => ha _ (List.mem_take_iff_getElem.2 ⟨j, by omega, rfl⟩)⟩
      rw [e, if_pos hlt']
    · change mkE v l[k] = false at hp
      rw [mkE_eq hv (hl _ (List.getElem_mem hlt'))] at hp
      refine qg ?_
      refine uA ?_
      refine ⟨_, _, ?_, qu [0, 1, 7, 8] [] rfl rfl, k + 1, _, hlt', rfl, qt hlt' (by omega), ?_, rfl⟩
      · omega
      · intro g hg
        rw [List.take_succ_eq_append_getElem hlt', List.mem_append, List.mem_singleton] at hg
        rcases hg with hg | rfl
        · exact ha g hg
        · exact hp
  · refine qz ?_
    simp only [List.length_map, decide_eq_false_iff_not] at hlt
    have hkk : k = l.length := by omega
    subst hkk
    refine uA ?_
    refine uQ ?_
    refine qW rfl ?_
    rw [List.take_length] at ha
    rw [if_neg]
    have := List.findIdx_eq_length_of_false ha
    omega
theorem contMk_h (l : List Mk) (hn : l.length ≤ 1000000) (hl : ∀ m ∈ l, m ∈ mks) (v : Mk) (hv : v ∈ mks) :
    Holds Tryz.prog 168 [marksP l, mkP v] (.p (pB (decide (v ∈ l)))) [] := by
  refine qo (ts := [4]) Tryz.func168 (by kernel_rfl) rfl rfl rfl ?_
  refine uA ?_
  refine uR ?_
  refine uK (indexEq_h l hn hl v hv) ?_
  refine qd ?_
  refine uQ ?_
  refine wJ rfl ?_
  by_cases h : v ∈ l
  · have : l.findIdx (fun m => decide (v = m)) < l.length := List.findIdx_lt_length_of_exists ⟨v, h, by simp⟩
    rw [if_pos this]
    simp [h]
  · have : l.findIdx (fun m => decide (v = m)) = l.length := List.findIdx_eq_length_of_false fun x hx => by
      simp only [decide_eq_false_iff_not]
      exact fun e => h (e ▸ hx)
    rw [if_neg (by omega)]
    simp [h]
theorem unless_h (l : List Mk) (hn : l.length ≤ 1000000) (hl : ∀ m ∈ l, m ∈ mks) (m o : Mk) (ho : o ∈ mks) : Holds Tryz.prog 125 [marksP l, mkP m, mkP o] (.p (mkP (unlessM l m o))) [] := by
  unfold unlessM
  refine qo (ts := [6]) Tryz.func125 (by kernel_rfl) rfl rfl rfl ?_
  refine uA ?_
  refine uR ?_
  refine uK (contMk_h l hn hl o ho) ?_
  refine qd ?_
  refine uC (fun hc => ?_) (fun hc => ?_)
  · refine uA ?_
    refine uQ ?_
    rw [if_pos (of_decide_eq_true hc)]
    exact uF []
  · refine qg ?_
    refine uA ?_
    refine uQ ?_
    rw [if_neg (of_decide_eq_false hc)]
    exact uF []
theorem firstM_idx : ∀ {l : List Mk} {k : Nat} (h : k < l.length), l.findIdx (fun m => decide (m ≠ (0, 0))) = k → wH l = l[k]
  | m :: l, k, h, e => by
    rw [List.findIdx_cons] at e
    rw [wH]
    by_cases hm : m = (0, 0)
    · rw [if_pos hm]
      rw [show decide (m ≠ (0, 0)) = false by simp [hm], cond_false] at e
      obtain ⟨j, rfl⟩ : ∃ j, k = j + 1 := ⟨k - 1, by omega⟩
      rw [List.getElem_cons_succ]
      exact firstM_idx (by simpa using h) (by omega)
    · rw [if_neg hm]
      rw [show decide (m ≠ (0, 0)) = true by simp [hm], cond_true] at e
      subst e; rfl
theorem firstM_none : ∀ {l : List Mk}, (∀ m ∈ l, m = (0, 0)) → wH l = (0, 0)
  | [], _ => rfl
  | m :: l, h => by rw [wH, if_pos (h m (by simp))]; exact firstM_none fun x hx => h x (List.mem_cons_of_mem _ hx)
theorem first_h (l : List Mk) (hn : l.length ≤ 1000000) (hl : ∀ m ∈ l, m ∈ mks) : Holds Tryz.prog 123 [marksP l] (.p (mkP (wH l))) [] := by
  refine qo (ts := [2]) Tryz.func123 (by kernel_rfl) rfl rfl rfl ?_
  refine uA ?_
  refine uR ?_
  refine uK (indexMk_h l hn _ _ (fun m => decide (m ≠ (0, 0))) (fun m hm => applies_h m (hl m hm))) ?_
  refine qd ?_
  by_cases hf : l.findIdx (fun m => decide (m ≠ (0, 0))) < l.length
  · obtain ⟨k, hk, e1, e⟩ : ∃ k, ∃ h : k < l.length, l.findIdx (fun m => decide (m ≠ (0, 0))) = k ∧ wH l = l[k] := ⟨_, hf, rfl, firstM_idx hf rfl⟩
    rw [if_pos hf, e1, e]
    clear e1 hf
    refine uA ?_
    refine uC (fun hc => ?_) (fun hc => ?_)
    · refine uR ?_
      refine qh qa rfl rfl (by simp only [List.length_map]; omega) rfl ?_
      rw [qx hk]
      refine uS ?_
      refine qd ?_
      refine uQ ?_
      exact uF []
    · exfalso
      simp at hc
  · have e : wH l = (0, 0) := firstM_none fun m hm => Classical.byContradiction fun hne => hf (List.findIdx_lt_length_of_exists ⟨m, hm, by simp [hne]⟩)
    rw [if_neg hf, e]
    refine uA ?_
    refine uC (fun hc => ?_) (fun hc => ?_)
    · cases hc
    · refine qg ?_
      refine uA ?_
      refine uQ ?_
      exact uF []
theorem stepJ_mem {j m : Mk} (hj : j ∈ mks) (hm : m ∈ mks) : stepJ j m ∈ mks := by
  unfold stepJ
  repeat' split
  · exact hm
  · simp [mks]
  · exact hj
theorem only_h (l : List Mk) (hn : l.length ≤ 1000000) (hl : ∀ m ∈ l, m ∈ mks) : Holds Tryz.prog 124 [marksP l] (.p (mkP (onlyM (0, 0) l))) [] := by
  refine qo (ts := [2]) Tryz.func124 (by kernel_rfl) rfl rfl rfl ?_
  refine uA ?_
  refine uA ?_
  refine uA ?_
  refine uB ?_
  refine uZ [3, 6, 7, 8] [] ?_
  refine qC (fun n s => ∃ (k : Nat) (kk : Int) (j : Mk), k ≤ l.length ∧ n = l.length - k ∧ kk = k ∧ j ∈ mks ∧ onlyM (0, 0) l = onlyM j (l.drop k) ∧ s = ⟨20, [(3, .p (mkP j)), (6, .p (marksP l)), (7, .p (pI (l.map fun m => [mkP m]).length)), (8, .p (pI kk))], []⟩) l.length ⟨0, 0, (0, 0), Nat.zero_le _, rfl, rfl, by simp [mks], rfl, rfl⟩ ?_
  rintro n s ⟨k, _, j, hk, rfl, rfl, hj, ha, rfl⟩
  refine uA ?_
  refine uC (fun hlt => ?_) (fun hlt => ?_)
  · refine qg ?_
    simp only [List.length_map, decide_eq_true_eq] at hlt
    have hlt' : k < l.length := by omega
    have hm := hl _ (List.getElem_mem hlt')
    rw [List.drop_eq_getElem_cons hlt', onlyM] at ha
    refine uB ?_
    refine uR ?_
    refine qh qa rfl rfl (by simp only [List.length_map]; omega) rfl ?_
    rw [qx hlt']
    refine uS ?_
    refine qd ?_
    refine uR ?_
    refine uK (sure_h l[k] hm) ?_
    refine qd ?_
    cases hs : sureM l[k] with
    | false =>
      rw [hs, if_neg (by simp)] at ha
      refine uC (fun hc => ?_) (fun hc => ?_)
      · refine uA ?_
        refine uQ ?_
        rw [ha]
        exact uF []
      · cases hc
    | true =>
      rw [hs, if_pos rfl] at ha
      refine uC (fun hc => ?_) (fun hc => ?_)
      · cases hc
      refine qg ?_
      refine uR ?_
      refine uK (step4_h j l[k] hj hm) ?_
      refine qd ?_
      refine uA ?_
      refine ⟨_, _, ?_, qu [3, 6, 7, 8] [] rfl rfl, k + 1, _, stepJ j l[k], hlt', rfl, qt hlt' (by omega), stepJ_mem hj hm, ha, rfl⟩
      omega
  · refine qz ?_
    simp only [List.length_map, decide_eq_false_iff_not] at hlt
    have hkk : k = l.length := by omega
    subst hkk
    rw [List.drop_length] at ha
    rw [ha]
    refine uA ?_
    refine uQ ?_
    exact uF []
theorem joinL_take {l : List Mk} {k : Nat} (h : k < l.length) : joinM (joinL (l.take k)) l[k] = joinL (l.take (k + 1)) := by
  unfold joinL
  rw [List.take_succ_eq_append_getElem h, List.foldl_append]; rfl
theorem combAll_h (alg : Int) (l : List Mk) (hn : l.length ≤ 1000000) (hl : ∀ m ∈ l, m ∈ mks) : Holds Tryz.prog 88 [pI alg, marksP l] (.tup [.p (mkP (allM alg l)), .p (pI (if 1 ≤ alg ∧ alg ≤ 6 then 0 else 1))]) [] := by
  refine qo (ts := [4,5]) Tryz.func88 (by kernel_rfl) rfl rfl rfl ?_
  refine uA ?_
  refine uA ?_
  refine uA ?_
  refine uB ?_
  refine uZ [0, 1, 6, 9, 10, 11] [] ?_
  refine qC (fun m s => ∃ (k : Nat) (kk : Int) (j : Mk), k ≤ l.length ∧ m = l.length - k ∧ kk = k ∧ j = joinL (l.take k) ∧ (j.1 ≤ 2 ∧ j.2 ≤ 2) ∧ s = ⟨49, [(0, .p (pI alg)), (1, .p (marksP l)), (6, .p (mkP j)), (9, .p (marksP l)), (10, .p (pI (l.map fun m => [mkP m]).length)), (11, .p (pI kk))], []⟩) l.length ⟨0, 0, (0, 0), Nat.zero_le _, rfl, rfl, rfl, ⟨by decide, by decide⟩, rfl⟩ ?_
  rintro m s ⟨k, _, j, hk, rfl, rfl, hj, hj2, rfl⟩
  refine uA ?_
  refine uC (fun hlt => ?_) (fun hlt => ?_)
  · refine qg ?_
    simp only [List.length_map, decide_eq_true_eq] at hlt
    have hlt' : k < l.length := by omega
    have hm := hl _ (List.getElem_mem hlt')
    refine uB ?_
    refine uR ?_
    refine qh qa rfl rfl (by simp only [List.length_map]; omega) rfl ?_
    rw [qx hlt']
    refine uS ?_
    refine qd ?_
    refine uR ?_
    refine uK (mkRight_h l[k] hm) ?_
    refine qd ?_
    refine uC (fun hc => ?_) (fun hc => ?_)
    · cases hc
    refine qg ?_
    refine uR ?_
    refine uK (mkJoin_h j l[k] hj2 hm) ?_
    refine qd ?_
    refine uA ?_
    refine ⟨_, _, ?_, qu [0, 1, 6, 9, 10, 11] [] rfl rfl, k + 1, _, joinM j l[k], hlt', rfl, qt hlt' (by omega), ?_, joinM_le hj2 (mks_le hm), rfl⟩
    · omega
    · rw [hj]; exact joinL_take hlt'
  · refine qz ?_
    simp only [List.length_map, decide_eq_false_iff_not] at hlt
    have hkk : k = l.length := by omega
    subst hkk
    rw [List.take_length] at hj
    obtain ⟨a, b⟩ := j
    obtain ⟨h1, h2⟩ := hj2
    simp only at h1 h2
    refine uA ?_
    refine uB ?_
    refine uA ?_
    refine uC (fun c1 => ?_) (fun c1 => ?_)
    · have e : alg = 1 := by simpa using c1
      subst e
      have e : allM 1 l = overM (a, b) := by rw [hj]; rfl
      rw [e]
      refine uR ?_
      refine uK (mkOver_h a b h1 h2) ?_
      refine qd ?_
      refine uQ ?_
      exact uF []
    have n1 : ¬ alg = 1 := by simpa using c1
    refine uA ?_
    refine uC (fun c2 => ?_) (fun c2 => ?_)
    · have e : alg = 2 := by simpa using c2
      subst e
      have e : allM 2 l = turnM (overM (b, a)) := by
        show turnM (overM (turnM (joinL l))) = _
        rw [← hj]; rfl
      rw [e]
      obtain ⟨ho1, ho2⟩ := mks_le (overM_mem (b, a))
      have HO := mkOver_h b a h2 h1
      generalize overM (b, a) = o at *
      obtain ⟨x, y⟩ := o
      refine uR ?_
      refine uK (mkTurn_h a b h1 h2) ?_
      refine uK HO ?_
      refine uK (mkTurn_h x y ho1 ho2) ?_
      refine qd ?_
      refine uQ ?_
      exact uF []
    have n2 : ¬ alg = 2 := by simpa using c2
    refine uA ?_
    refine uC (fun c3 => ?_) (fun c3 => ?_)
    · have e : alg = 3 := by simpa using c3
      subst e
      rw [show allM 3 l = wH l from rfl]
      refine uR ?_
      refine uK (first_h l hn hl) ?_
      refine qd ?_
      refine uQ ?_
      exact uF []
    have n3 : ¬ alg = 3 := by simpa using c3
    refine uA ?_
    refine uC (fun c4 => ?_) (fun c4 => ?_)
    · have e : alg = 4 := by simpa using c4
      subst e
      rw [show allM 4 l = onlyM (0, 0) l from rfl]
      refine uR ?_
      refine uK (only_h l hn hl) ?_
      refine qd ?_
      refine uQ ?_
      exact uF []
    have n4 : ¬ alg = 4 := by simpa using c4
    refine uA ?_
    refine uC (fun c5 => ?_) (fun c5 => ?_)
    · have e : alg = 5 := by simpa using c5
      subst e
      rw [show allM 5 l = unlessM l (0, 2) (2, 0) from rfl]
      refine uR ?_
      refine uK (unless_h l hn hl (0, 2) (2, 0) (by simp [mks])) ?_
      refine qd ?_
      refine uQ ?_
      exact uF []
    have n5 : ¬ alg = 5 := by simpa using c5
    refine uA ?_
    refine uC (fun c6 => ?_) (fun c6 => ?_)
    · have e : alg = 6 := by simpa using c6
      subst e
      rw [show allM 6 l = unlessM l (2, 0) (0, 2) from rfl]
      refine uR ?_
      refine uK (unless_h l hn hl (2, 0) (0, 2) (by simp [mks])) ?_
      refine qd ?_
      refine uQ ?_
      exact uF []
    · have n6 : ¬ alg = 6 := by simpa using c6
      have e : allM alg l = (0, 0) := by unfold allM; rw [if_neg n1, if_neg n2, if_neg n3, if_neg n4, if_neg n5, if_neg n6]
      rw [e, if_neg (by omega)]
      refine qg ?_
      refine uA ?_
      refine uQ ?_
      exact uF []
end Go.Proofs.YtlmgamnpfdgdeaaGreatDoor
namespace Go.Proofs.YtlmgamnpfdgdeaaGreatDoor
set_option linter.unusedVariables false
set_option linter.unusedSimpArgs false
open Go.RowKit
set_option maxHeartbeats 4000000
theorem texts_h (k : Int) : Holds Tryz.prog 190 [pI k] (.p (pB (textsS k))) [] := by
  refine qo (ts := [2]) Tryz.func190 (by kernel_rfl) rfl rfl rfl ?_
  refine uA ?_
  (repeat refine qF ?_); refine ql (by kernel_rfl) ?_
  repeat (refine qi qa rfl (by exact True.intro) rfl ?_)
  refine qH ?_
  refine uQ ?_
  refine wJ rfl ?_
  unfold textsS
  rw [Bool.eq_iff_iff]
  simp
theorem less_h (a b : Val) (ha : a.s.size ≤ reachBytes) (hb : b.s.size ≤ reachBytes) : Holds Tryz.prog 153 [.agg a.pv, .agg b.pv] (.tup [.p (pB (lessS a b).1), .p (pI (lessS a b).2)]) [] := by
  unfold lessS
  cases hra : a.right with
  | false =>
    refine qo (ts := [4,5]) Tryz.func153 (by kernel_rfl) rfl rfl rfl ?_
    refine uA ?_
    refine uB ?_
    refine uR ?_
    refine uK (jF a ha) ?_
    rw [hra]
    refine uS ?_
    refine qd ?_
    refine uC (fun hc => ?_) (fun hc => ?_)
    · refine uA ?_
      refine uQ ?_
      exact uF []
    · cases hc
  | true =>
    cases hrb : b.right with
    | false =>
      refine qo (ts := [4,5]) Tryz.func153 (by kernel_rfl) rfl rfl rfl ?_
      refine uA ?_
      refine uB ?_
      refine uR ?_
      refine uK (jF a ha) ?_
      rw [hra]
      refine uS ?_
      refine uK (jF b hb) ?_
      rw [hrb]
      refine uS ?_
      refine qd ?_
      refine uC (fun hc => ?_) (fun hc => ?_)
      · refine uA ?_
        refine uQ ?_
        exact uF []
      · cases hc
    | true =>
      refine qo (ts := [4,5]) Tryz.func153 (by kernel_rfl) rfl rfl rfl ?_
      refine uA ?_
      refine uB ?_
      refine uR ?_
      refine uK (jF a ha) ?_
      rw [hra]
      refine uS ?_
      refine uK (jF b hb) ?_
      rw [hrb]
      refine uS ?_
      refine qd ?_
      refine uC (fun hc => ?_) (fun hc => ?_)
      · cases hc
      simp only [Bool.not_true, Bool.or_self, Bool.false_eq_true, if_false]
      (repeat refine qF ?_); refine ql (by kernel_rfl) ?_
      repeat (refine qi qa rfl (by exact True.intro) rfl ?_)
      refine qH ?_
      refine uC (fun hk => ?_) (fun hk => ?_)
      · rw [if_pos (by revert hk; by_cases h : a.kind = b.kind <;> simp [h])]
        refine uA ?_
        refine uQ ?_
        exact uF []
      · rw [if_neg (by revert hk; by_cases h : a.kind = b.kind <;> simp [h])]
        refine uR ?_
        refine uK (texts_h a.kind) ?_
        refine qd ?_
        refine uC (fun ht => ?_) (fun ht => ?_)
        · rw [if_pos ht]
          refine uA ?_
          refine uQ ?_
          exact uF []
        · rw [if_neg (by rw [ht]; simp)]
          refine qg ?_
          refine uA ?_
          refine uQ ?_
          exact uF []
end Go.Proofs.YtlmgamnpfdgdeaaGreatDoor
namespace Go.Proofs.YtlmgamnpfdgdeaaGreatDoor
open Go.RowKit
set_option linter.unusedSimpArgs false
set_option linter.unusedVariables false
attribute [local go_sem] jG zC
attribute [local go_sem low] zx zb
theorem texts_any (k : Int) (w : World) :
    Calls Tryz.prog 190 #[.int .i64 k] w fun e w' => e = .returned (.bool (textsS k)) ∧ w = w' := by
  go_enter Tryz.func190, Tryz.ntmps190
  go_upto_region 1 with (fail)
  refine wz (by kernel_rfl) ?_
  repeat (refine qw ?_; intro K hK; go_big_quiet_op; go_big_quiet_on)
  refine qZ ?_
  intro us
  simp only [junk, Act.put, List.setIfInBounds_toArray, List.set_cons_zero, List.set_cons_succ]
  go_wp2
  go_ret
  exact ⟨ja (by rw [Bool.eq_iff_iff]; simp [textsS]), rfl⟩
theorem less_any (k n : Int) (s : ByteArray) (k' n' : Int) (s' : ByteArray) (w : World) (hs : s.size ≤ reachBytes) (hs' : s'.size ≤ reachBytes) :
    Calls Tryz.prog 153 #[.agg #[.int .i64 k, .int .i64 n, .string s], .agg #[.int .i64 k', .int .i64 n', .string s']] w
      fun e w' => e = .returned (.tuple #[.bool (lessS ⟨k, n, s⟩ ⟨k', n', s'⟩).1, .int .i64 (lessS ⟨k, n, s⟩ ⟨k', n', s'⟩).2]) ∧ Below w.heap.size w w' := by
  go_enter Tryz.func153, Tryz.ntmps153
  go_upto_region 1 with (fail)
  refine wp_spec_ext (by kernel_rfl) ?_
  repeat (refine qw ?_; intro K hK; go_big_quiet_op; go_big_quiet_on)
  refine qw ?_; intro K hK; go_big_quiet_op
  refine ⟨_, fun _ => jV (right_any _ _ _ _ hs), ?_⟩
  go_big_quiet_on
  repeat (refine qw ?_; intro K hK; go_big_quiet_op; go_big_quiet_on)
  refine qw ?_; intro K hK; go_big_quiet_op
  refine ⟨_, fun _ => jV (right_any _ _ _ _ hs'), ?_⟩
  go_big_quiet_on
  repeat (refine qw ?_; intro K hK; go_big_quiet_op; go_big_quiet_on)
  refine qZ ?_
  intro us w1 hB1
  simp only [junk, Act.put, List.setIfInBounds_toArray, List.set_cons_zero, List.set_cons_succ]
  obtain ⟨hc1, hf1⟩ := ji hB1; have hz1 := hB1.size; try simp only [World.size_alloc, World.size_drew] at hc1 hf1 hz1
  go_upto_region 3 with (fail)
  · go_ret2
    refine ⟨ret_bi ?_, (by repeat (first | exact Below.refl _ _ | assumption | refine Below.alloc1 ?_ _ | refine Below.drew ?_ | refine qk ?_ | refine Below.setCell ?_ (by first | exact Nat.le_refl _ | (simp; done) | omega | (simp; omega)) _ | refine Below.lift ?_ (by assumption)))⟩
    go_light
    simp_all [lessS]
  · have h : (!{ kind := k, n := n, s := s : Val }.right) = false ∧ (!{ kind := k', n := n', s := s' : Val }.right) = false := by assumption
    have H := hide h
    clear h
    refine wz (by kernel_rfl) ?_
    repeat (refine qw ?_; intro K hK; go_big_quiet_op; go_big_quiet_on)
    refine qZ ?_
    intro us
    simp only [junk, Act.put, List.setIfInBounds_toArray, List.set_cons_zero, List.set_cons_succ]
    go_wp2_with (go_at_call 190; refine (texts_any _ _).mono ?_; rintro e w2 ⟨rfl, rfl⟩)
    all_goals
      go_ret2
      refine ⟨ret_bi ?_, (by repeat (first | exact Below.refl _ _ | assumption | refine Below.alloc1 ?_ _ | refine Below.drew ?_ | refine qk ?_ | refine Below.setCell ?_ (by first | exact Nat.le_refl _ | (simp; done) | omega | (simp; omega)) _ | refine Below.lift ?_ (by assumption)))⟩
      have h := H.out
      go_light
      simp_all [lessS, lessB]
      try (intro h1; simp_all)
end Go.Proofs.YtlmgamnpfdgdeaaGreatDoor
namespace Go.Proofs.YtlmgamnpfdgdeaaGreatDoor
open Go.RowKit
set_option linter.unusedSimpArgs false
set_option linter.unusedVariables false
attribute [local go_sem] jG zC
attribute [local go_sem low] zx zb
theorem add_any (a b : Int) (w : World) (ha : R64 a) (hb : R64 b) :
    Calls Tryz.prog 209 #[.int .i64 a, .int .i64 b] w fun e w' => e = .returned (.tuple #[.int .i64 (addS a b).1, .int .i64 (addS a b).2]) ∧ w = w' := by
  obtain ⟨ha, ha'⟩ := ha
  obtain ⟨hb, hb'⟩ := hb
  go_enter Tryz.func209, Tryz.ntmps209
  go_wp2
  all_goals
    go_ret2
    refine ⟨ret_ii ?_, rfl⟩
    go_light
    unfold addS inI
    first | rw [if_pos (by simp; omega)] | rw [if_neg (by simp; omega)]
theorem sub_any (a b : Int) (w : World) (ha : R64 a) (hb : R64 b) :
    Calls Tryz.prog 210 #[.int .i64 a, .int .i64 b] w fun e w' => e = .returned (.tuple #[.int .i64 (subS a b).1, .int .i64 (subS a b).2]) ∧ w = w' := by
  obtain ⟨ha, ha'⟩ := ha
  obtain ⟨hb, hb'⟩ := hb
  go_enter Tryz.func210, Tryz.ntmps210
  go_wp2
  all_goals
    go_ret2
    refine ⟨ret_ii ?_, rfl⟩
    go_light
    unfold subS inI
    first | rw [if_pos (by simp; omega)] | rw [if_neg (by simp; omega)]
theorem mul_any (a b : Int) (w : World) (ha : R64 a) (hb : R64 b) :
    Calls Tryz.prog 211 #[.int .i64 a, .int .i64 b] w fun e w' => e = .returned (.tuple #[.int .i64 (mulS a b).1, .int .i64 (mulS a b).2]) ∧ w = w' := by
  obtain ⟨ha, ha'⟩ := ha
  obtain ⟨hb, hb'⟩ := hb
  by_cases h0 : a = 0
  · subst h0
    go_enter Tryz.func211, Tryz.ntmps211
    go_wp2
    all_goals
      go_ret2
      refine ⟨ret_ii ?_, rfl⟩
      simp [mulS, inI]
  · have H := hide (mul_over ha ha' hb hb' h0)
    go_enter Tryz.func211, Tryz.ntmps211
    go_upto_region 2 with (fail)
    refine wz (by kernel_rfl) ?_
    repeat (refine qw ?_; intro K hK; go_big_quiet_op; go_big_quiet_on)
    refine qZ ?_
    intro us
    simp only [junk, Act.put, List.setIfInBounds_toArray, List.set_cons_zero, List.set_cons_succ]
    go_wp2
    · go_ret2
      refine ⟨ret_ii ?_, rfl⟩
      go_light
      unfold mulS
      rw [H.out.1 (by simp_all)]
      rfl
    · go_ret2
      refine ⟨ret_ii ?_, rfl⟩
      go_light
      have hin : inI (a * b) = true := by
        cases hc : inI (a * b) with
        | true => rfl
        | false =>
          exfalso
          have := H.out.2 hc
          simp_all
          first | omega | (rcases this with h | h <;> simp_all)
      unfold mulS
      rw [hin]
      simp only [inI, Bool.and_eq_true, decide_eq_true_eq] at hin
      have : wrap64 (a * b) = a * b := by unfold wrap64; omega
      rw [this]; rfl
theorem truth_any (b : Bool) (w : World) :
    Calls Tryz.prog 207 #[.bool b] w fun e w' => e = .returned (.agg #[.int .i64 1, .int .i64 (bitI b), .string ⟨#[]⟩]) ∧ Below w.heap.size w w' := by
  cases b
  · go_enter Tryz.func207, Tryz.ntmps207
    go_wp2
    refine bodyPost_ret (v := .agg #[.int .i64 1, .int .i64 0, .string ⟨#[]⟩]) (by simp [results, Tryz.results207, go_sem, ↓IntWalk.iteOmega]) rfl ?_
    exact ⟨rfl, (by repeat (first | exact Below.refl _ _ | assumption | refine Below.alloc1 ?_ _ | refine Below.drew ?_ | refine qk ?_ | refine Below.setCell ?_ (by first | exact Nat.le_refl _ | (simp; done) | omega | (simp; omega)) _ | refine Below.lift ?_ (by assumption)))⟩
  · go_enter Tryz.func207, Tryz.ntmps207
    go_wp2
    refine bodyPost_ret (v := .agg #[.int .i64 1, .int .i64 1, .string ⟨#[]⟩]) (by simp [results, Tryz.results207, go_sem, ↓IntWalk.iteOmega]) rfl ?_
    exact ⟨rfl, (by repeat (first | exact Below.refl _ _ | assumption | refine Below.alloc1 ?_ _ | refine Below.drew ?_ | refine qk ?_ | refine Below.setCell ?_ (by first | exact Nat.le_refl _ | (simp; done) | omega | (simp; omega)) _ | refine Below.lift ?_ (by assumption)))⟩
theorem all_any (kind : Int) (l : List Val) (A : Option Addr) (c : Nat) (w : World) (hn : l.length ≤ reachBytes) (h : SlAt rVal 3 w A l) :
    Calls Tryz.prog 212 #[.int .i64 kind, .slice A l.length c] w fun e w' => e = .returned (.bool (allS kind l)) ∧ Below w.heap.size w w' := by
  unfold reachBytes at hn
  go_enter Tryz.func212, Tryz.ntmps212
  go_wp2
  go_loopw [6, 9] (fun _ i wr => ∃ k : Nat, k ≤ l.length ∧ i = .int .i64 k ∧ Below w.heap.size w wr ∧ Hid (allS kind (l.take k) = true)) (fun _ i _ => l.length - (intOf i).toNat)
  case atStart => exact ⟨0, Nat.zero_le _, rfl, Below.refl _ _, rfl⟩
  case round =>
    obtain ⟨k, hk, rfl, hB, hall⟩ := hrel
    by_cases hlt : k < l.length
    · obtain ⟨b, o, rfl, hb, c0, c1, c2, hf⟩ := (h.keep qN hB).val hlt
      have H := hide h
      clear h
      go_wp2
      · go_ret
        refine ⟨ja (all_no hlt ?_).symm, (by repeat (first | exact Below.refl _ _ | assumption | refine Below.alloc1 ?_ _ | refine Below.drew ?_ | refine qk ?_ | refine Below.setCell ?_ (by first | exact Nat.le_refl _ | (simp; done) | omega | (simp; omega)) _ | refine Below.lift ?_ (by assumption)))⟩
        go_light
        simp_all
      · go_roundw
        case rel =>
          refine ⟨k + 1, by omega, by go_num, (by repeat (first | exact Below.refl _ _ | assumption | refine Below.alloc1 ?_ _ | refine Below.drew ?_ | refine qk ?_ | refine Below.setCell ?_ (by first | exact Nat.le_refl _ | (simp; done) | omega | (simp; omega)) _ | refine Below.lift ?_ (by assumption))), all_step hlt hall.out ?_⟩
          go_light
          simp_all
        case measure => simp [intOf]; omega
    · obtain rfl : k = l.length := by omega
      have e := hall.out
      rw [take_all] at e
      have E := hide e
      clear e hall
      go_wp2
      go_ret
      exact ⟨ja E.out.symm, (by repeat (first | exact Below.refl _ _ | assumption | refine Below.alloc1 ?_ _ | refine Below.drew ?_ | refine qk ?_ | refine Below.setCell ?_ (by first | exact Nat.le_refl _ | (simp; done) | omega | (simp; omega)) _ | refine Below.lift ?_ (by assumption)))⟩
theorem wL (op : Int) (l : List Val) (A : Option Addr) (c : Nat) (w : World) (hn : l.length ≤ reachBytes) (h : SlAt rVal 3 w A l) :
    Calls Tryz.prog 206 #[.int .i64 op, .slice A l.length c] w fun e w' => e = .returned (.bool (mayS op l)) ∧ Below w.heap.size w w' := by
  unfold reachBytes at hn
  have H := hide h
  clear h
  rcases Bool.eq_false_or_eq_true (op == 11) with h11 | h11
  all_goals
    have g : mayS op l = (decide (6 ≤ op) && decide (op ≤ 13) && decide ((l.length : Int) = if op == 11 then 1 else 2) && l.all Val.right) := by unfold mayS; simp
    rw [h11] at g
    replace g := hide g
    go_enter Tryz.func206, Tryz.ntmps206
    go_upto_region 4 with (fail)
    refine wz (by kernel_rfl) ?_
    repeat (refine qw ?_; intro K hK; go_big_quiet_op; go_big_quiet_on)
    refine qZ ?_
    intro us
    simp only [junk, Act.put, List.setIfInBounds_toArray, List.set_cons_zero, List.set_cons_succ]
    go_upto_region 6 with (fail)
    · go_ret
      refine ⟨ja ?_, (by repeat (first | exact Below.refl _ _ | assumption | refine Below.alloc1 ?_ _ | refine Below.drew ?_ | refine qk ?_ | refine Below.setCell ?_ (by first | exact Nat.le_refl _ | (simp; done) | omega | (simp; omega)) _ | refine Below.lift ?_ (by assumption)))⟩
      rw [g.out]
      go_light
      simp_all
      try omega
    · have hl := g.out
      have hl2 : mayS op l = l.all Val.right := by
        rw [hl]
        clear hl
        go_light
        simp_all
      have G := hide hl2
      rename _ ∧ _ => ht
      replace ht := hide ht
      clear hl hl2 g
      go_wp2
      go_loopw [7, 24] (fun _ i wr => ∃ k : Nat, k ≤ l.length ∧ i = .int .i64 k ∧ Below w.heap.size w wr ∧ Hid ((l.take k).all Val.right = true)) (fun _ i _ => l.length - (intOf i).toNat)
      case atStart => exact ⟨0, Nat.zero_le _, rfl, (by repeat (first | exact Below.refl _ _ | assumption | refine Below.alloc1 ?_ _ | refine Below.drew ?_ | refine qk ?_ | refine Below.setCell ?_ (by first | exact Nat.le_refl _ | (simp; done) | omega | (simp; omega)) _ | refine Below.lift ?_ (by assumption))), rfl⟩
      case round =>
        obtain ⟨k, hk, rfl, hB, hall⟩ := hrel
        by_cases hlt : k < l.length
        · obtain ⟨b, o, rfl, hb, c0, c1, c2, hf⟩ := (H.out.keep qN hB).val hlt
          go_wp2_with (go_at_call 52; refine (right_any _ _ _ _ hf.s).mono ?_; rintro e w2 ⟨rfl, hB2⟩)
          · go_ret
            refine ⟨ja ?_, (by repeat (first | exact Below.refl _ _ | assumption | refine Below.alloc1 ?_ _ | refine Below.drew ?_ | refine qk ?_ | refine Below.setCell ?_ (by first | exact Nat.le_refl _ | (simp; done) | omega | (simp; omega)) _ | refine Below.lift ?_ (by assumption)))⟩
            rw [G.out]
            refine (all_no hlt ?_).symm
            go_light
            simp_all
          · go_roundw
            case rel =>
              refine ⟨k + 1, by omega, by go_num, (by repeat (first | exact Below.refl _ _ | assumption | refine Below.alloc1 ?_ _ | refine Below.drew ?_ | refine qk ?_ | refine Below.setCell ?_ (by first | exact Nat.le_refl _ | (simp; done) | omega | (simp; omega)) _ | refine Below.lift ?_ (by assumption))), all_step hlt hall.out ?_⟩
              go_light
              simp_all
            case measure => simp [intOf]; omega
        · obtain rfl : k = l.length := by omega
          have e := hall.out
          rw [take_all] at e
          have E := hide e
          clear e hall
          go_wp2
          go_ret
          exact ⟨ja (by rw [G.out, E.out]), (by repeat (first | exact Below.refl _ _ | assumption | refine Below.alloc1 ?_ _ | refine Below.drew ?_ | refine qk ?_ | refine Below.setCell ?_ (by first | exact Nat.le_refl _ | (simp; done) | omega | (simp; omega)) _ | refine Below.lift ?_ (by assumption)))⟩
theorem number_any (f : FuncId) (hcf : ∀ args w, (callFunc f args).run Tryz.prog w = .ok (.enter f args) w) (F : Int → Int → Int × Int) (hF : ∀ a b w, R64 a → R64 b → Calls Tryz.prog f #[.int .i64 a, .int .i64 b] w fun e w' => e = .returned (.tuple #[.int .i64 (F a b).1, .int .i64 (F a b).2]) ∧ w = w')
    (x y : Val) (A : Option Addr) (c : Nat) (w : World) (h : SlAt rVal 3 w A [x, y]) :
    Calls Tryz.prog 208 #[.func (.func f) #[] #[], .slice A 2 c] w fun e w' => e = .returned (.tuple #[.agg #[.int .i64 ((qQ F x y).1).kind, .int .i64 ((qQ F x y).1).n, .string ((qQ F x y).1).s], .int .i64 (qQ F x y).2]) ∧ Below w.heap.size w w' := by
  have H := hide h
  have HF := hide hF
  obtain ⟨b, o, rfl, hb, ⟨c0, c1, c2⟩, ⟨d0, d1, d2⟩, hx, hy⟩ := h.pair
  clear hF h
  go_enter Tryz.func208, Tryz.ntmps208
  go_wp2_with (go_at_call 212; refine (all_any 2 [x, y] _ _ _ (by simp [reachBytes]) (H.out.keep qN ?_)).mono ?_; rotate_left; rintro e w2 ⟨rfl, hB2⟩; obtain ⟨hc2, hf2⟩ := ji hB2; have hz2 := hB2.size; try simp only [World.size_alloc, World.size_drew] at hc2 hf2 hz2)
  · have e : qQ F x y = (noVal, 2) := by
      go_light
      simp_all [qQ, allS]
    refine bodyPost_ret (v := .tuple #[.agg #[.int .i64 0, .int .i64 0, .string ⟨#[]⟩], .int .i64 2]) (by simp [results, Tryz.results208, go_sem, ↓IntWalk.iteOmega, hc2]) rfl ?_
    exact ⟨by rw [e]; rfl, (by repeat (first | exact Below.refl _ _ | assumption | refine Below.alloc1 ?_ _ | refine Below.drew ?_ | refine qk ?_ | refine Below.setCell ?_ (by first | exact Nat.le_refl _ | (simp; done) | omega | (simp; omega)) _ | refine Below.lift ?_ (by assumption)))⟩
  · rename _ = false => ht
    replace ht := hide ht
    refine wj (by kernel_rfl) (by kernel_rfl) (by kernel_rfl) ?_
    repeat (refine qw ?_; intro K hK; go_big_quiet_op; go_big_quiet_on)
    refine qw ?_; intro K hK; go_big_quiet_op
    refine ⟨_, fun _ => quiet_eq (HF.out _ _ _ hx.n hy.n), ?_⟩
    go_big_quiet_on
    repeat (refine qw ?_; intro K hK; go_big_quiet_op; go_big_quiet_on)
    refine qZ ?_
    intro us w3 hB3
    simp only [junk, Act.put, List.setIfInBounds_toArray, List.set_cons_zero, List.set_cons_succ]
    obtain ⟨hc3, hf3⟩ := ji hB3; have hz3 := hB3.size; try simp only [World.size_alloc, World.size_drew] at hc3 hf3 hz3
    have hk := ht.out
    have hkk : x.kind = 2 ∧ y.kind = 2 := by
      clear ht
      go_light
      simp_all [allS]
    have HK := hide hkk
    clear hk hkk
    go_wp2
    · refine bodyPost_ret (v := .tuple #[.agg #[.int .i64 0, .int .i64 0, .string ⟨#[]⟩], .int .i64 (F x.n y.n).2]) (by simp [results, Tryz.results208, go_sem, ↓IntWalk.iteOmega, hc2, hc3]) rfl ?_
      refine ⟨?_, (by repeat (first | exact Below.refl _ _ | assumption | refine Below.alloc1 ?_ _ | refine Below.drew ?_ | refine qk ?_ | refine Below.setCell ?_ (by first | exact Nat.le_refl _ | (simp; done) | omega | (simp; omega)) _ | refine Below.lift ?_ (by assumption)))⟩
      have : qQ F x y = (noVal, (F x.n y.n).2) := by
        have := HK.out
        go_light
        simp_all [qQ]
      rw [this]; rfl
    · refine bodyPost_ret (v := .tuple #[.agg #[.int .i64 2, .int .i64 (F x.n y.n).1, .string ⟨#[]⟩], .int .i64 0]) (by simp [results, Tryz.results208, go_sem, ↓IntWalk.iteOmega, hc2, hc3]) rfl ?_
      refine ⟨?_, (by repeat (first | exact Below.refl _ _ | assumption | refine Below.alloc1 ?_ _ | refine Below.drew ?_ | refine qk ?_ | refine Below.setCell ?_ (by first | exact Nat.le_refl _ | (simp; done) | omega | (simp; omega)) _ | refine Below.lift ?_ (by assumption)))⟩
      have : qQ F x y = (⟨2, (F x.n y.n).1, ⟨#[]⟩⟩, 0) := by
        have := HK.out
        go_light
        simp_all [qQ]
      rw [this]
  · exact (by repeat (first | exact Below.refl _ _ | assumption | refine Below.alloc1 ?_ _ | refine Below.drew ?_ | refine qk ?_ | refine Below.setCell ?_ (by first | exact Nat.le_refl _ | (simp; done) | omega | (simp; omega)) _ | refine Below.lift ?_ (by assumption)))
end Go.Proofs.YtlmgamnpfdgdeaaGreatDoor
namespace Go.Proofs.YtlmgamnpfdgdeaaGreatDoor
open Go.RowKit
set_option linter.unusedSimpArgs false
set_option linter.unusedVariables false
attribute [local go_sem] jG zC
attribute [local go_sem low] zx zb
attribute [local go_sem ↓] eql_val
abbrev ju (op : Int) (l : List Val) (w : World) : Ending → World → Prop := fun e w' => e = .returned (.tuple #[.agg #[.int .i64 ((zp op l).1).kind, .int .i64 ((zp op l).1).n, .string ((zp op l).1).s], .int .i64 (zp op l).2]) ∧ Below w.heap.size w w'
theorem call_no (op : Int) (l : List Val) (A : Option Addr) (c : Nat) (w : World) (hn : l.length ≤ reachBytes) (h : SlAt rVal 3 w A l) (hm : mayS op l = false) :
    Calls Tryz.prog 189 #[.int .i64 op, .slice A l.length c] w (ju op l w) := by
  have H := hide h
  clear h
  have hr : zp op l = (noVal, 1) := by simp [zp, hm]
  go_enter Tryz.func189, Tryz.ntmps189
  go_wp2_with (go_at_call 206; refine (wL _ _ _ _ _ hn (H.out.keep qN (by repeat (first | exact Below.refl _ _ | assumption | refine Below.alloc1 ?_ _ | refine Below.drew ?_ | refine qk ?_ | refine Below.setCell ?_ (by first | exact Nat.le_refl _ | (simp; done) | omega | (simp; omega)) _ | refine Below.lift ?_ (by assumption))))).mono ?_; rintro e w2 ⟨rfl, hB2⟩; obtain ⟨hc2, hf2⟩ := ji hB2; have hz2 := hB2.size; try simp only [World.size_alloc, World.size_drew] at hc2 hf2 hz2)
  refine bodyPost_ret (v := .tuple #[.agg #[.int .i64 0, .int .i64 0, .string ⟨#[]⟩], .int .i64 1]) (by simp [results, Tryz.results189, go_sem, ↓IntWalk.iteOmega, hc2]) rfl ?_
  exact ⟨by rw [hr]; rfl, (by repeat (first | exact Below.refl _ _ | assumption | refine Below.alloc1 ?_ _ | refine Below.drew ?_ | refine qk ?_ | refine Below.setCell ?_ (by first | exact Nat.le_refl _ | (simp; done) | omega | (simp; omega)) _ | refine Below.lift ?_ (by assumption)))⟩
theorem call_eq (x y : Val) (A : Option Addr) (c : Nat) (w : World) (h : SlAt rVal 3 w A [x, y]) (hm : mayS 6 [x, y] = true) :
    Calls Tryz.prog 189 #[.int .i64 6, .slice A 2 c] w (ju 6 [x, y] w) := by
  have H := hide h
  have hr : Hid (zp 6 [x, y] = if x.kind ≠ y.kind then (noVal, 2) else (truthS (jB x y), 0)) := by show _ = _; simp [zp, hm]
  obtain ⟨b, o, rfl, hb, ⟨c0, c1, c2⟩, ⟨d0, d1, d2⟩, hx, hy⟩ := h.pair
  clear h
  go_enter Tryz.func189, Tryz.ntmps189
  go_wp2_with (go_at_call 206; refine (wL 6 [x, y] _ _ _ (by simp [reachBytes]) (H.out.keep qN (by repeat (first | exact Below.refl _ _ | assumption | refine Below.alloc1 ?_ _ | refine Below.drew ?_ | refine qk ?_ | refine Below.setCell ?_ (by first | exact Nat.le_refl _ | (simp; done) | omega | (simp; omega)) _ | refine Below.lift ?_ (by assumption))))).mono ?_; rintro e w2 ⟨rfl, hB2⟩; obtain ⟨hc2, hf2⟩ := ji hB2; have hz2 := hB2.size; try simp only [World.size_alloc, World.size_drew] at hc2 hf2 hz2)
  refine wj (by kernel_rfl) (by kernel_rfl) (by kernel_rfl) ?_
  repeat (refine qw ?_; intro K hK; go_big_quiet_op; go_big_quiet_on)
  refine qZ ?_
  intro us w5 hB5
  simp only [junk, Act.put, List.setIfInBounds_toArray, List.set_cons_zero, List.set_cons_succ]
  obtain ⟨hc5, hf5⟩ := ji hB5; have hz5 := hB5.size; try simp only [World.size_alloc, World.size_drew] at hc5 hf5 hz5
  go_upto_region 7 with (fail)
  · refine bodyPost_ret (v := .tuple #[.agg #[.int .i64 0, .int .i64 0, .string ⟨#[]⟩], .int .i64 2]) (by simp [results, Tryz.results189, go_sem, ↓IntWalk.iteOmega, hc2, hc5]) rfl ?_
    refine ⟨?_, (by repeat (first | exact Below.refl _ _ | assumption | refine Below.alloc1 ?_ _ | refine Below.drew ?_ | refine qk ?_ | refine Below.setCell ?_ (by first | exact Nat.le_refl _ | (simp; done) | omega | (simp; omega)) _ | refine Below.lift ?_ (by assumption)))⟩
    rw [hr.out, if_pos (by go_light; simp_all)]; rfl
  · rename _ = false => ht
    replace ht := hide ht
    refine wp_spec_draw_tail 8 (by kernel_rfl) (by kernel_rfl) (by kernel_rfl) ?_
    simp only [List.take_succ_cons, List.take_zero, List.drop_succ_cons, List.drop_zero]
    repeat (refine qw ?_; intro K hK; go_big_quiet_op; go_big_quiet_on)
    refine qw ?_; intro K hK; go_big_quiet_op
    refine ⟨_, fun _ => jV (truth_any _ _), ?_⟩
    go_big_quiet_on
    repeat (refine qw ?_; intro K hK; go_big_quiet_op; go_big_quiet_on)
    refine qZ ?_
    intro us w7 hB7
    simp only [junk, Act.put, List.setIfInBounds_toArray, List.set_cons_zero, List.set_cons_succ]
    obtain ⟨hc7, hf7⟩ := ji hB7; have hz7 := hB7.size; try simp only [World.size_alloc, World.size_drew] at hc7 hf7 hz7
    go_wp2
    refine bodyPost_ret (v := .tuple #[.agg #[.int .i64 1, .int .i64 (bitI (jB x y)), .string ⟨#[]⟩], .int .i64 0]) (by simp [results, Tryz.results189, go_sem, ↓IntWalk.iteOmega, hc2, hc5, hc7]) rfl ?_
    refine ⟨?_, (by repeat (first | exact Below.refl _ _ | assumption | refine Below.alloc1 ?_ _ | refine Below.drew ?_ | refine qk ?_ | refine Below.setCell ?_ (by first | exact Nat.le_refl _ | (simp; done) | omega | (simp; omega)) _ | refine Below.lift ?_ (by assumption)))⟩
    rw [hr.out, if_neg (by have := ht.out; clear ht; go_light; simp_all)]; rfl
theorem call_less (x y : Val) (A : Option Addr) (c : Nat) (w : World) (h : SlAt rVal 3 w A [x, y]) (hm : mayS 7 [x, y] = true) :
    Calls Tryz.prog 189 #[.int .i64 7, .slice A 2 c] w (ju 7 [x, y] w) := by
  have H := hide h
  have hr : Hid (zp 7 [x, y] = if (lessS x y).2 ≠ 0 then (noVal, (lessS x y).2) else (truthS (lessS x y).1, 0)) := by show _ = _; simp [zp, hm]
  obtain ⟨b, o, rfl, hb, ⟨c0, c1, c2⟩, ⟨d0, d1, d2⟩, hx, hy⟩ := h.pair
  clear h
  go_enter Tryz.func189, Tryz.ntmps189
  go_wp2_with (go_at_call 206; refine (wL 7 [x, y] _ _ _ (by simp [reachBytes]) (H.out.keep qN (by repeat (first | exact Below.refl _ _ | assumption | refine Below.alloc1 ?_ _ | refine Below.drew ?_ | refine qk ?_ | refine Below.setCell ?_ (by first | exact Nat.le_refl _ | (simp; done) | omega | (simp; omega)) _ | refine Below.lift ?_ (by assumption))))).mono ?_; rintro e w2 ⟨rfl, hB2⟩; obtain ⟨hc2, hf2⟩ := ji hB2; have hz2 := hB2.size; try simp only [World.size_alloc, World.size_drew] at hc2 hf2 hz2)
  refine wj (by kernel_rfl) (by kernel_rfl) (by kernel_rfl) ?_
  repeat (refine qw ?_; intro K hK; go_big_quiet_op; go_big_quiet_on)
  refine qw ?_; intro K hK; go_big_quiet_op
  refine ⟨_, fun _ => jV (less_any _ _ _ _ _ _ _ hx.s hy.s), ?_⟩
  go_big_quiet_on
  repeat (refine qw ?_; intro K hK; go_big_quiet_op; go_big_quiet_on)
  refine qZ ?_
  intro us w9 hB9
  simp only [junk, Act.put, List.setIfInBounds_toArray, List.set_cons_zero, List.set_cons_succ]
  obtain ⟨hc9, hf9⟩ := ji hB9; have hz9 := hB9.size; try simp only [World.size_alloc, World.size_drew] at hc9 hf9 hz9
  go_wp2_with (go_at_call 207; refine (truth_any _ _).mono ?_; rintro e w3 ⟨rfl, hB3⟩; obtain ⟨hc3, hf3⟩ := ji hB3; have hz3 := hB3.size; try simp only [World.size_alloc, World.size_drew] at hc3 hf3 hz3)
  · refine bodyPost_ret (v := .tuple #[.agg #[.int .i64 0, .int .i64 0, .string ⟨#[]⟩], .int .i64 (lessS x y).2]) (by simp [results, Tryz.results189, go_sem, ↓IntWalk.iteOmega, hc2, hc9]) rfl ?_
    refine ⟨?_, (by repeat (first | exact Below.refl _ _ | assumption | refine Below.alloc1 ?_ _ | refine Below.drew ?_ | refine qk ?_ | refine Below.setCell ?_ (by first | exact Nat.le_refl _ | (simp; done) | omega | (simp; omega)) _ | refine Below.lift ?_ (by assumption)))⟩
    rw [hr.out, if_pos (by go_light; simp_all)]; rfl
  · refine bodyPost_ret (v := .tuple #[.agg #[.int .i64 1, .int .i64 (bitI (lessS x y).1), .string ⟨#[]⟩], .int .i64 0]) (by simp [results, Tryz.results189, go_sem, ↓IntWalk.iteOmega, hc2, hc9, hc3]) rfl ?_
    refine ⟨?_, (by repeat (first | exact Below.refl _ _ | assumption | refine Below.alloc1 ?_ _ | refine Below.drew ?_ | refine qk ?_ | refine Below.setCell ?_ (by first | exact Nat.le_refl _ | (simp; done) | omega | (simp; omega)) _ | refine Below.lift ?_ (by assumption)))⟩
    rw [hr.out, if_neg (by go_light; simp_all)]; rfl
theorem call_add (x y : Val) (A : Option Addr) (c : Nat) (w : World) (h : SlAt rVal 3 w A [x, y]) (hm : mayS 8 [x, y] = true) :
    Calls Tryz.prog 189 #[.int .i64 8, .slice A 2 c] w (ju 8 [x, y] w) := by
  have H := hide h
  have hr : Hid (zp 8 [x, y] = qQ addS x y) := by show _ = _; simp [zp, hm]
  clear h
  go_enter Tryz.func189, Tryz.ntmps189
  go_wp2_with (first | (go_at_call 206; refine (wL 8 [x, y] _ _ _ (by simp [reachBytes]) (H.out.keep qN (by repeat (first | exact Below.refl _ _ | assumption | refine Below.alloc1 ?_ _ | refine Below.drew ?_ | refine qk ?_ | refine Below.setCell ?_ (by first | exact Nat.le_refl _ | (simp; done) | omega | (simp; omega)) _ | refine Below.lift ?_ (by assumption))))).mono ?_; rintro e w2 ⟨rfl, hB2⟩; obtain ⟨hc2, hf2⟩ := ji hB2; have hz2 := hB2.size; try simp only [World.size_alloc, World.size_drew] at hc2 hf2 hz2) | (go_at_call 208; refine (number_any 209 (jS Tryz.func209 (by kernel_rfl) (by kernel_rfl)) addS add_any x y _ _ _ (H.out.keep qN (by repeat (first | exact Below.refl _ _ | assumption | refine Below.alloc1 ?_ _ | refine Below.drew ?_ | refine qk ?_ | refine Below.setCell ?_ (by first | exact Nat.le_refl _ | (simp; done) | omega | (simp; omega)) _ | refine Below.lift ?_ (by assumption))))).mono ?_; rintro e w3 ⟨rfl, hB3⟩; obtain ⟨hc3, hf3⟩ := ji hB3; have hz3 := hB3.size; try simp only [World.size_alloc, World.size_drew] at hc3 hf3 hz3))
  refine bodyPost_ret (v := .tuple #[.agg #[.int .i64 ((qQ addS x y).1).kind, .int .i64 ((qQ addS x y).1).n, .string ((qQ addS x y).1).s], .int .i64 (qQ addS x y).2]) (by simp [results, Tryz.results189, go_sem, ↓IntWalk.iteOmega, hc2, hc3]) rfl ?_
  exact ⟨by rw [hr.out], (by repeat (first | exact Below.refl _ _ | assumption | refine Below.alloc1 ?_ _ | refine Below.drew ?_ | refine qk ?_ | refine Below.setCell ?_ (by first | exact Nat.le_refl _ | (simp; done) | omega | (simp; omega)) _ | refine Below.lift ?_ (by assumption)))⟩
theorem call_sub (x y : Val) (A : Option Addr) (c : Nat) (w : World) (h : SlAt rVal 3 w A [x, y]) (hm : mayS 9 [x, y] = true) :
    Calls Tryz.prog 189 #[.int .i64 9, .slice A 2 c] w (ju 9 [x, y] w) := by
  have H := hide h
  have hr : Hid (zp 9 [x, y] = qQ subS x y) := by show _ = _; simp [zp, hm]
  clear h
  go_enter Tryz.func189, Tryz.ntmps189
  go_wp2_with (first | (go_at_call 206; refine (wL 9 [x, y] _ _ _ (by simp [reachBytes]) (H.out.keep qN (by repeat (first | exact Below.refl _ _ | assumption | refine Below.alloc1 ?_ _ | refine Below.drew ?_ | refine qk ?_ | refine Below.setCell ?_ (by first | exact Nat.le_refl _ | (simp; done) | omega | (simp; omega)) _ | refine Below.lift ?_ (by assumption))))).mono ?_; rintro e w2 ⟨rfl, hB2⟩; obtain ⟨hc2, hf2⟩ := ji hB2; have hz2 := hB2.size; try simp only [World.size_alloc, World.size_drew] at hc2 hf2 hz2) | (go_at_call 208; refine (number_any 210 (jS Tryz.func210 (by kernel_rfl) (by kernel_rfl)) subS sub_any x y _ _ _ (H.out.keep qN (by repeat (first | exact Below.refl _ _ | assumption | refine Below.alloc1 ?_ _ | refine Below.drew ?_ | refine qk ?_ | refine Below.setCell ?_ (by first | exact Nat.le_refl _ | (simp; done) | omega | (simp; omega)) _ | refine Below.lift ?_ (by assumption))))).mono ?_; rintro e w3 ⟨rfl, hB3⟩; obtain ⟨hc3, hf3⟩ := ji hB3; have hz3 := hB3.size; try simp only [World.size_alloc, World.size_drew] at hc3 hf3 hz3))
  refine bodyPost_ret (v := .tuple #[.agg #[.int .i64 ((qQ subS x y).1).kind, .int .i64 ((qQ subS x y).1).n, .string ((qQ subS x y).1).s], .int .i64 (qQ subS x y).2]) (by simp [results, Tryz.results189, go_sem, ↓IntWalk.iteOmega, hc2, hc3]) rfl ?_
  exact ⟨by rw [hr.out], (by repeat (first | exact Below.refl _ _ | assumption | refine Below.alloc1 ?_ _ | refine Below.drew ?_ | refine qk ?_ | refine Below.setCell ?_ (by first | exact Nat.le_refl _ | (simp; done) | omega | (simp; omega)) _ | refine Below.lift ?_ (by assumption)))⟩
theorem call_mul (x y : Val) (A : Option Addr) (c : Nat) (w : World) (h : SlAt rVal 3 w A [x, y]) (hm : mayS 10 [x, y] = true) :
    Calls Tryz.prog 189 #[.int .i64 10, .slice A 2 c] w (ju 10 [x, y] w) := by
  have H := hide h
  have hr : Hid (zp 10 [x, y] = qQ mulS x y) := by show _ = _; simp [zp, hm]
  clear h
  go_enter Tryz.func189, Tryz.ntmps189
  go_wp2_with (first | (go_at_call 206; refine (wL 10 [x, y] _ _ _ (by simp [reachBytes]) (H.out.keep qN (by repeat (first | exact Below.refl _ _ | assumption | refine Below.alloc1 ?_ _ | refine Below.drew ?_ | refine qk ?_ | refine Below.setCell ?_ (by first | exact Nat.le_refl _ | (simp; done) | omega | (simp; omega)) _ | refine Below.lift ?_ (by assumption))))).mono ?_; rintro e w2 ⟨rfl, hB2⟩; obtain ⟨hc2, hf2⟩ := ji hB2; have hz2 := hB2.size; try simp only [World.size_alloc, World.size_drew] at hc2 hf2 hz2) | (go_at_call 208; refine (number_any 211 (jS Tryz.func211 (by kernel_rfl) (by kernel_rfl)) mulS mul_any x y _ _ _ (H.out.keep qN (by repeat (first | exact Below.refl _ _ | assumption | refine Below.alloc1 ?_ _ | refine Below.drew ?_ | refine qk ?_ | refine Below.setCell ?_ (by first | exact Nat.le_refl _ | (simp; done) | omega | (simp; omega)) _ | refine Below.lift ?_ (by assumption))))).mono ?_; rintro e w3 ⟨rfl, hB3⟩; obtain ⟨hc3, hf3⟩ := ji hB3; have hz3 := hB3.size; try simp only [World.size_alloc, World.size_drew] at hc3 hf3 hz3))
  refine bodyPost_ret (v := .tuple #[.agg #[.int .i64 ((qQ mulS x y).1).kind, .int .i64 ((qQ mulS x y).1).n, .string ((qQ mulS x y).1).s], .int .i64 (qQ mulS x y).2]) (by simp [results, Tryz.results189, go_sem, ↓IntWalk.iteOmega, hc2, hc3]) rfl ?_
  exact ⟨by rw [hr.out], (by repeat (first | exact Below.refl _ _ | assumption | refine Below.alloc1 ?_ _ | refine Below.drew ?_ | refine qk ?_ | refine Below.setCell ?_ (by first | exact Nat.le_refl _ | (simp; done) | omega | (simp; omega)) _ | refine Below.lift ?_ (by assumption)))⟩
end Go.Proofs.YtlmgamnpfdgdeaaGreatDoor
namespace Go.Proofs.YtlmgamnpfdgdeaaGreatDoor
open Go.RowKit
set_option linter.unusedSimpArgs false
set_option linter.unusedVariables false
attribute [local go_sem] jG zC
attribute [local go_sem low] zx zb
attribute [local go_sem ↓] eql_val
theorem call_not (x : Val) (A : Option Addr) (c : Nat) (w : World) (h : SlAt rVal 3 w A [x]) (hm : mayS 11 [x] = true) :
    Calls Tryz.prog 189 #[.int .i64 11, .slice A 1 c] w (ju 11 [x] w) := by
  have H := hide h
  have hr : Hid (zp 11 [x] = if allS 1 [x] then (truthS (x.n == 0), 0) else (noVal, 2)) := by show _ = _; simp [zp, hm]; cases allS 1 _ <;> rfl
  obtain ⟨b, o, rfl, hb, ⟨c0, c1, c2⟩, hx⟩ := h.lone
  clear h
  go_enter Tryz.func189, Tryz.ntmps189
  go_wp2_with (first | (go_at_call 206; refine (wL 11 [x] _ _ _ (by simp [reachBytes]) (H.out.keep qN (by repeat (first | exact Below.refl _ _ | assumption | refine Below.alloc1 ?_ _ | refine Below.drew ?_ | refine qk ?_ | refine Below.setCell ?_ (by first | exact Nat.le_refl _ | (simp; done) | omega | (simp; omega)) _ | refine Below.lift ?_ (by assumption))))).mono ?_; rintro e w2 ⟨rfl, hB2⟩; obtain ⟨hc2, hf2⟩ := ji hB2; have hz2 := hB2.size; try simp only [World.size_alloc, World.size_drew] at hc2 hf2 hz2) | (go_at_call 212; refine (all_any 1 [x] _ _ _ (by simp [reachBytes]) (H.out.keep qN (by repeat (first | exact Below.refl _ _ | assumption | refine Below.alloc1 ?_ _ | refine Below.drew ?_ | refine qk ?_ | refine Below.setCell ?_ (by first | exact Nat.le_refl _ | (simp; done) | omega | (simp; omega)) _ | refine Below.lift ?_ (by assumption))))).mono ?_; rintro e w4 ⟨rfl, hB4⟩; obtain ⟨hc4, hf4⟩ := ji hB4; have hz4 := hB4.size; try simp only [World.size_alloc, World.size_drew] at hc4 hf4 hz4) | (go_at_call 207; refine (truth_any _ _).mono ?_; rintro e w3 ⟨rfl, hB3⟩; obtain ⟨hc3, hf3⟩ := ji hB3; have hz3 := hB3.size; try simp only [World.size_alloc, World.size_drew] at hc3 hf3 hz3))
  · refine bodyPost_ret (v := .tuple #[.agg #[.int .i64 0, .int .i64 0, .string ⟨#[]⟩], .int .i64 2]) (by simp [results, Tryz.results189, go_sem, ↓IntWalk.iteOmega, hc2, hc4]) rfl ?_
    refine ⟨?_, (by repeat (first | exact Below.refl _ _ | assumption | refine Below.alloc1 ?_ _ | refine Below.drew ?_ | refine qk ?_ | refine Below.setCell ?_ (by first | exact Nat.le_refl _ | (simp; done) | omega | (simp; omega)) _ | refine Below.lift ?_ (by assumption)))⟩
    rw [hr.out, if_neg (by go_light; simp_all)]; rfl
  · refine bodyPost_ret (v := .tuple #[.agg #[.int .i64 1, .int .i64 (bitI (x.n == 0)), .string ⟨#[]⟩], .int .i64 0]) (by simp [results, Tryz.results189, go_sem, ↓IntWalk.iteOmega, hc2, hc4, hc3]) rfl ?_
    refine ⟨?_, (by repeat (first | exact Below.refl _ _ | assumption | refine Below.alloc1 ?_ _ | refine Below.drew ?_ | refine qk ?_ | refine Below.setCell ?_ (by first | exact Nat.le_refl _ | (simp; done) | omega | (simp; omega)) _ | refine Below.lift ?_ (by assumption)))⟩
    rw [hr.out, if_pos (by go_light; simp_all)]; rfl
theorem call_and (x y : Val) (A : Option Addr) (c : Nat) (w : World) (h : SlAt rVal 3 w A [x, y]) (hm : mayS 12 [x, y] = true) :
    Calls Tryz.prog 189 #[.int .i64 12, .slice A 2 c] w (ju 12 [x, y] w) := by
  have H := hide h
  have hr : Hid (zp 12 [x, y] = if allS 1 [x, y] then (truthS (x.n == 1 && y.n == 1), 0) else (noVal, 2)) := by show _ = _; simp [zp, hm]; cases allS 1 _ <;> rfl
  obtain ⟨b, o, rfl, hb, ⟨c0, c1, c2⟩, ⟨d0, d1, d2⟩, hx, hy⟩ := h.pair
  clear h
  go_enter Tryz.func189, Tryz.ntmps189
  go_upto_region 25 with (first | (go_at_call 206; refine (wL 12 [x, y] _ _ _ (by simp [reachBytes]) (H.out.keep qN (by repeat (first | exact Below.refl _ _ | assumption | refine Below.alloc1 ?_ _ | refine Below.drew ?_ | refine qk ?_ | refine Below.setCell ?_ (by first | exact Nat.le_refl _ | (simp; done) | omega | (simp; omega)) _ | refine Below.lift ?_ (by assumption))))).mono ?_; rintro e w2 ⟨rfl, hB2⟩; obtain ⟨hc2, hf2⟩ := ji hB2; have hz2 := hB2.size; try simp only [World.size_alloc, World.size_drew] at hc2 hf2 hz2) | (go_at_call 212; refine (all_any 1 [x, y] _ _ _ (by simp [reachBytes]) (H.out.keep qN (by repeat (first | exact Below.refl _ _ | assumption | refine Below.alloc1 ?_ _ | refine Below.drew ?_ | refine qk ?_ | refine Below.setCell ?_ (by first | exact Nat.le_refl _ | (simp; done) | omega | (simp; omega)) _ | refine Below.lift ?_ (by assumption))))).mono ?_; rintro e w4 ⟨rfl, hB4⟩; obtain ⟨hc4, hf4⟩ := ji hB4; have hz4 := hB4.size; try simp only [World.size_alloc, World.size_drew] at hc4 hf4 hz4))
  · refine bodyPost_ret (v := .tuple #[.agg #[.int .i64 0, .int .i64 0, .string ⟨#[]⟩], .int .i64 2]) (by simp [results, Tryz.results189, go_sem, ↓IntWalk.iteOmega, hc2, hc4]) rfl ?_
    refine ⟨?_, (by repeat (first | exact Below.refl _ _ | assumption | refine Below.alloc1 ?_ _ | refine Below.drew ?_ | refine qk ?_ | refine Below.setCell ?_ (by first | exact Nat.le_refl _ | (simp; done) | omega | (simp; omega)) _ | refine Below.lift ?_ (by assumption)))⟩
    rw [hr.out, if_neg (by go_light; simp_all)]; rfl
  · skip
    refine wp_spec_tail 13 (by kernel_rfl) ?_
    simp only [List.take_succ_cons, List.take_zero, List.drop_succ_cons, List.drop_zero]
    repeat (refine qw ?_; intro K hK; go_big_quiet_op; go_big_quiet_on)
    refine qw ?_; intro K hK; go_big_quiet_op
    refine ⟨_, fun _ => jV (truth_any _ _), ?_⟩
    go_big_quiet_on
    repeat (refine qw ?_; intro K hK; go_big_quiet_op; go_big_quiet_on)
    refine qZ ?_
    intro us w25 hB25
    simp only [junk, Act.put, List.setIfInBounds_toArray, List.set_cons_zero, List.set_cons_succ]
    obtain ⟨hc25, hf25⟩ := ji hB25; have hz25 := hB25.size; try simp only [World.size_alloc, World.size_drew] at hc25 hf25 hz25
    go_wp2
    refine bodyPost_ret (v := .tuple #[.agg #[.int .i64 1, .int .i64 (bitI (x.n == 1 && y.n == 1)), .string ⟨#[]⟩], .int .i64 0]) (by simp [results, Tryz.results189, go_sem, ↓IntWalk.iteOmega, hc2, hc4, hc25]) rfl ?_
    refine ⟨?_, (by repeat (first | exact Below.refl _ _ | assumption | refine Below.alloc1 ?_ _ | refine Below.drew ?_ | refine qk ?_ | refine Below.setCell ?_ (by first | exact Nat.le_refl _ | (simp; done) | omega | (simp; omega)) _ | refine Below.lift ?_ (by assumption)))⟩
    rw [hr.out, if_pos (by go_light; simp_all)]; rfl
theorem call_or (x y : Val) (A : Option Addr) (c : Nat) (w : World) (h : SlAt rVal 3 w A [x, y]) (hm : mayS 13 [x, y] = true) :
    Calls Tryz.prog 189 #[.int .i64 13, .slice A 2 c] w (ju 13 [x, y] w) := by
  have H := hide h
  have hr : Hid (zp 13 [x, y] = if allS 1 [x, y] then (truthS (x.n == 1 || y.n == 1), 0) else (noVal, 2)) := by show _ = _; simp [zp, hm]; cases allS 1 _ <;> rfl
  obtain ⟨b, o, rfl, hb, ⟨c0, c1, c2⟩, ⟨d0, d1, d2⟩, hx, hy⟩ := h.pair
  clear h
  go_enter Tryz.func189, Tryz.ntmps189
  go_upto_region 26 with (first | (go_at_call 206; refine (wL 13 [x, y] _ _ _ (by simp [reachBytes]) (H.out.keep qN (by repeat (first | exact Below.refl _ _ | assumption | refine Below.alloc1 ?_ _ | refine Below.drew ?_ | refine qk ?_ | refine Below.setCell ?_ (by first | exact Nat.le_refl _ | (simp; done) | omega | (simp; omega)) _ | refine Below.lift ?_ (by assumption))))).mono ?_; rintro e w2 ⟨rfl, hB2⟩; obtain ⟨hc2, hf2⟩ := ji hB2; have hz2 := hB2.size; try simp only [World.size_alloc, World.size_drew] at hc2 hf2 hz2) | (go_at_call 212; refine (all_any 1 [x, y] _ _ _ (by simp [reachBytes]) (H.out.keep qN (by repeat (first | exact Below.refl _ _ | assumption | refine Below.alloc1 ?_ _ | refine Below.drew ?_ | refine qk ?_ | refine Below.setCell ?_ (by first | exact Nat.le_refl _ | (simp; done) | omega | (simp; omega)) _ | refine Below.lift ?_ (by assumption))))).mono ?_; rintro e w4 ⟨rfl, hB4⟩; obtain ⟨hc4, hf4⟩ := ji hB4; have hz4 := hB4.size; try simp only [World.size_alloc, World.size_drew] at hc4 hf4 hz4))
  · refine bodyPost_ret (v := .tuple #[.agg #[.int .i64 0, .int .i64 0, .string ⟨#[]⟩], .int .i64 2]) (by simp [results, Tryz.results189, go_sem, ↓IntWalk.iteOmega, hc2, hc4]) rfl ?_
    refine ⟨?_, (by repeat (first | exact Below.refl _ _ | assumption | refine Below.alloc1 ?_ _ | refine Below.drew ?_ | refine qk ?_ | refine Below.setCell ?_ (by first | exact Nat.le_refl _ | (simp; done) | omega | (simp; omega)) _ | refine Below.lift ?_ (by assumption)))⟩
    rw [hr.out, if_neg (by go_light; simp_all)]; rfl
  · skip
    refine wp_spec_tail 13 (by kernel_rfl) ?_
    simp only [List.take_succ_cons, List.take_zero, List.drop_succ_cons, List.drop_zero]
    repeat (refine qw ?_; intro K hK; go_big_quiet_op; go_big_quiet_on)
    refine qw ?_; intro K hK; go_big_quiet_op
    refine ⟨_, fun _ => jV (truth_any _ _), ?_⟩
    go_big_quiet_on
    repeat (refine qw ?_; intro K hK; go_big_quiet_op; go_big_quiet_on)
    refine qZ ?_
    intro us w26 hB26
    simp only [junk, Act.put, List.setIfInBounds_toArray, List.set_cons_zero, List.set_cons_succ]
    obtain ⟨hc26, hf26⟩ := ji hB26; have hz26 := hB26.size; try simp only [World.size_alloc, World.size_drew] at hc26 hf26 hz26
    go_wp2
    refine bodyPost_ret (v := .tuple #[.agg #[.int .i64 1, .int .i64 (bitI (x.n == 1 || y.n == 1)), .string ⟨#[]⟩], .int .i64 0]) (by simp [results, Tryz.results189, go_sem, ↓IntWalk.iteOmega, hc2, hc4, hc26]) rfl ?_
    refine ⟨?_, (by repeat (first | exact Below.refl _ _ | assumption | refine Below.alloc1 ?_ _ | refine Below.drew ?_ | refine qk ?_ | refine Below.setCell ?_ (by first | exact Nat.le_refl _ | (simp; done) | omega | (simp; omega)) _ | refine Below.lift ?_ (by assumption)))⟩
    rw [hr.out, if_pos (by go_light; simp_all)]; rfl
theorem call_any (op : Int) (l : List Val) (A : Option Addr) (c : Nat) (w : World) (hn : l.length ≤ reachBytes) (h : SlAt rVal 3 w A l) :
    Calls Tryz.prog 189 #[.int .i64 op, .slice A l.length c] w (ju op l w) := by
  cases hm : mayS op l with
  | false => exact call_no op l A c w hn h hm
  | true =>
    have hm' := hm
    simp only [mayS, Bool.and_eq_true, decide_eq_true_eq] at hm'
    obtain ⟨⟨⟨h1, h2⟩, h3⟩, _⟩ := hm'
    rcases (show op = 6 ∨ op = 7 ∨ op = 8 ∨ op = 9 ∨ op = 10 ∨ op = 11 ∨ op = 12 ∨ op = 13 by omega) with rfl | rfl | rfl | rfl | rfl | rfl | rfl | rfl
    all_goals
      simp only [Int.reduceEq, if_true, if_false] at h3
      match l, h3 with
      | [x], h3 => first | exact call_not x A c w h hm | (simp at h3)
      | [x, y], h3 => first | exact call_eq x y A c w h hm | exact call_less x y A c w h hm | exact call_add x y A c w h hm | exact call_sub x y A c w h hm | exact call_mul x y A c w h hm | exact call_and x y A c w h hm | exact call_or x y A c w h hm | (simp at h3)
      | [], h3 => simp at h3
      | _ :: _ :: _ :: _, h3 => simp at h3; omega
end Go.Proofs.YtlmgamnpfdgdeaaGreatDoor
namespace Go.Proofs.YtlmgamnpfdgdeaaGreatDoor
set_option linter.unusedVariables false
set_option linter.unusedSimpArgs false
open Go.RowKit
structure Itm.Fit (x : Itm) : Prop where
  bag : ∀ v ∈ x.bag, v.Fit
  v : x.v.Fit
  len : x.bag.length ≤ 1000000
theorem jw : noVal.Fit := ⟨⟨by decide, by decide⟩, ⟨by decide, by decide⟩, by decide⟩
theorem truthS_fit (b : Bool) : (truthS b).Fit := by cases b <;> exact ⟨⟨by decide, by decide⟩, ⟨by decide, by decide⟩, by decide⟩
theorem num_fit {n : Int} (h : R64 n) : (⟨2, n, ⟨#[]⟩⟩ : Val).Fit := ⟨⟨by show _ ≤ (2 : Int); omega, by show (2 : Int) ≤ _; omega⟩, h, by show (⟨#[]⟩ : ByteArray).size ≤ reachBytes; decide⟩
theorem inI_r64 {n : Int} (h : inI n = true) : R64 n := by
  simp only [inI, Bool.and_eq_true, decide_eq_true_eq] at h
  exact ⟨by omega, by omega⟩
theorem number_fit {f : Int → Int → Int × Int} (hf : ∀ a b, (f a b).2 = 0 → R64 (f a b).1) (x y : Val) : (qQ f x y).1.Fit := by
  unfold qQ
  split
  · exact jw
  · split
    · exact jw
    · rename_i h
      exact num_fit (hf _ _ (Classical.byContradiction h))
theorem add_fit (a b : Int) : (addS a b).2 = 0 → R64 (addS a b).1 := by
  unfold addS
  split
  · rename_i h; exact fun _ => inI_r64 h
  · intro h; cases h
theorem sub_fit (a b : Int) : (subS a b).2 = 0 → R64 (subS a b).1 := by
  unfold subS
  split
  · rename_i h; exact fun _ => inI_r64 h
  · intro h; cases h
theorem mul_fit (a b : Int) : (mulS a b).2 = 0 → R64 (mulS a b).1 := by
  unfold mulS
  split
  · rename_i h; exact fun _ => inI_r64 h
  · intro h; cases h
theorem callS_fit (op : Int) (l : List Val) : (zp op l).1.Fit := by
  unfold zp
  split
  · exact jw
  · simp only
    repeat' split
    all_goals first | exact jw | exact truthS_fit _ | exact number_fit add_fit _ _ | exact number_fit sub_fit _ _ | exact number_fit mul_fit _ _
theorem bagS_mem {cat : Int} {name : ByteArray} {g : List Giv} {Q : List Val → Prop} (h0 : Q []) (h : ∀ x ∈ g, Q x.bag) : Q (bagS cat name g) := by
  rcases place_cases cat name g with ⟨_, hb, _⟩ | ⟨k, hk, _, hb, _⟩
  · rw [hb]; exact h0
  · rw [hb]; exact h _ (List.getElem_mem hk)
theorem getS_mem {a : Atr} {g : List Giv} {Q : List Val → Prop} (h0 : Q []) (h : ∀ x ∈ g, Q x.bag) : Q (getS a g).1 := by
  unfold getS
  split
  · exact h0
  · exact bagS_mem h0 h
theorem nodeS_fit {n : Nod} (hn : n.Fit) {l : List Itm} (hl : ∀ x ∈ l, x.Fit) {g : List Giv} (hg : ∀ x ∈ g, x.Fit) (hb : ∀ x ∈ g, x.bag.length ≤ 1000000) : (jJ n l g).Fit := by
  have e0 : ∀ v ∈ ([] : List Val), v.Fit := fun v hv => by simp at hv
  have d0 : (l.getD 0 noItm).Fit := by
    cases l with
    | nil => exact ⟨e0, jw, Nat.zero_le _⟩
    | cons x r => exact hl x (by simp)
  have sz : ∀ {v : Val}, v.Fit → (Itm.mk [] v 0).Fit := fun h => ⟨e0, h, Nat.zero_le _⟩
  have sz' : ∀ {v : Val} (e : Int), v.Fit → (Itm.mk [] v e).Fit := fun _ h => ⟨e0, h, Nat.zero_le _⟩
  unfold jJ
  split
  · exact sz hn.val
  · split
    · exact ⟨getS_mem (Q := fun b => ∀ v ∈ b, v.Fit) e0 fun x hx => (hg x hx).bag, jw, getS_mem (Q := fun b => b.length ≤ 1000000) (Nat.zero_le _) hb⟩
    · split
      · exact sz (truthS_fit _)
      · split
        · exact sz' _ jw
        · unfold lastS
          repeat' split
          · refine sz ?_
            rename_i h1
            match hb : (l.getD 0 noItm).bag, h1 with
            | [v], _ => exact d0.bag v (by rw [hb]; simp)
          · exact sz' _ jw
          · have := d0.len
            exact sz (num_fit ⟨by omega, by omega⟩)
          · exact sz (truthS_fit _)
          · exact sz' _ (callS_fit _ _)
theorem rel_val {ok : Nat → Prop} {w : World} (x : Val) : RelP ok w (.agg x.pv) x.v := by
  refine .agg rfl fun i s u hs hu => ?_
  match i, hs, hu with
  | 0, hs, hu => cases hs; cases hu; exact .v rfl
  | 1, hs, hu => cases hs; cases hu; exact .v rfl
  | 2, hs, hu => cases hs; cases hu; exact .v rfl
theorem rel_two {ok : Nat → Prop} {H : Nat → Option Value} {w : World} {p q : PV} {u v : Value} (h : RelP ok w p u) (k : RelP ok w q v) : RelS ok H w (.tup [.p p, .p q]) (.tuple #[u, v]) := by
  refine .tup rfl fun i s x hs hx => ?_
  match i, hs, hx with
  | 0, hs, hx => cases hs; cases hx; exact .p h
  | 1, hs, hx => cases hs; cases hx; exact .p k
theorem call_h (op : Int) (l : List Val) (hf : ∀ x ∈ l, x.Fit) : Holds Tryz.prog 189 [pI op, valsP l] (.tup [.p (.agg (zp op l).1.pv), .p (pI (zp op l).2)]) [] :=
  .of_calls Tryz.func189 (by kernel_rfl) rfl (fun w vs hl hr => by
    obtain ⟨u, v, rfl⟩ : ∃ u v, vs = [u, v] := by
      match vs, hl with
      | [u, v], _ => exact ⟨u, v, rfl⟩
    have h := zl (hr 0 _ u rfl rfl) rfl
    subst h
    obtain ⟨A, c, rfl, h1, h2, h3⟩ := vals_typed (hr 1 _ v rfl rfl) hf
    exact call_any op l A c w h2.1 h3) rfl fun w => rel_two (rel_val _) (.v rfl)
end Go.Proofs.YtlmgamnpfdgdeaaGreatDoor
namespace Go.Proofs.YtlmgamnpfdgdeaaGreatDoor
set_option linter.unusedVariables false
set_option linter.unusedSimpArgs false
open Go.RowKit
set_option maxHeartbeats 4000000
theorem against_h (m : Mat) (v : Val) (hm : m.val.s.size ≤ reachBytes) (hv : v.s.size ≤ reachBytes) : Holds Tryz.prog 114 [.agg m.pv, .agg v.pv] (.tup [.p (pB (againstT m v).1), .p (pI (againstT m v).2)]) [] := by
  obtain ⟨a, op, val⟩ := m
  unfold againstT
  simp only at hm ⊢
  by_cases h1 : op = 1
  · subst h1
    rw [if_pos rfl]
    refine qo (ts := [4,5]) Tryz.func114 (by kernel_rfl) rfl rfl rfl ?_
    refine uA ?_
    refine uB ?_
    (repeat refine qF ?_); refine ql (by kernel_rfl) ?_
    repeat (refine qi qa rfl (by exact True.intro) rfl ?_)
    refine qH ?_
    refine uC (fun hk => ?_) (fun hk => ?_)
    · have hk' : v.kind ≠ val.kind := by simpa using hk
      rw [if_pos hk']
      refine uA ?_
      refine uQ ?_
      exact uF []
    · have hk' : ¬ v.kind ≠ val.kind := by simpa using hk
      rw [if_neg hk']
      refine uA ?_
      refine uC (fun h3 => ?_) (fun h3 => ?_)
      · refine uR ?_
        refine qh qa rfl (opR_eqV v val rfl rfl rfl rfl) rfl rfl ?_
        refine uS ?_
        refine qd ?_
        refine uQ ?_
        exact uF []
      · cases h3
  · have hn1 : (op == 1) = false := by simpa using h1
    rw [if_neg h1]
    refine qo (ts := [4,5]) Tryz.func114 (by kernel_rfl) rfl rfl rfl ?_
    refine uA ?_
    refine uB ?_
    (repeat refine qF ?_); refine ql (by kernel_rfl) ?_
    repeat (refine qi qa rfl (by exact True.intro) rfl ?_)
    rw [hn1]
    repeat (refine qi qa rfl (by exact True.intro) rfl ?_)
    refine qH ?_
    refine uC (fun hk => ?_) (fun hk => ?_)
    · cases hk
    refine uA ?_
    rw [hn1]
    refine uC (fun h3 => ?_) (fun h3 => ?_)
    · cases h3
    by_cases h2 : op = 2
    · rw [if_pos h2]
      refine uA ?_
      refine uC (fun h4 => ?_) (fun h4 => ?_)
      · refine uR ?_
        refine uK (less_h v val hv hm) ?_
        refine qd ?_
        refine uQ ?_
        exact uF []
      · simp [h2] at h4
    · rw [if_neg h2]
      refine uA ?_
      refine uC (fun h4 => ?_) (fun h4 => ?_)
      · simp [h2] at h4
      refine qg ?_
      refine uR ?_
      refine uK (less_h val v hm hv) ?_
      refine qd ?_
      refine uQ ?_
      exact uF []
theorem any_take {α : Type} {p : α → Bool} {l : List α} {k : Nat} (h : k < l.length) : (l.take (k + 1)).any p = ((l.take k).any p || p l[k]) := by
  rw [List.take_succ_eq_append_getElem h, List.any_append]
  simp
theorem match2_h (m : Mat) (l : List Giv) (hm : m.Fit) (hf : ∀ x ∈ l, x.Fit) (hn : l.length ≤ 1000000) (hb : ∀ x ∈ l, x.bag.length ≤ 1000000) : Holds Tryz.prog 77 [.agg m.pv, zj l] (.p (pI (matchT m l))) [] := by
  have H := get_h m.attr l hn hb
  have hbag := getS_mem (a := m.attr) (g := l) (Q := fun b => b.length ≤ 1000000) (Nat.zero_le _) hb
  have hfit := getS_mem (a := m.attr) (g := l) (Q := fun b => ∀ v ∈ b, v.Fit) (fun v hv => by cases hv) fun x hx => (hf x hx).bag
  unfold matchT
  generalize getS m.attr l = r at *
  obtain ⟨bag, e⟩ := r
  simp only at H hbag hfit ⊢
  have lb : (bag.map Val.pv).length = bag.length := by simp
  refine qo (ts := [4]) Tryz.func77 (by kernel_rfl) rfl rfl rfl ?_
  refine uA ?_
  refine uR ?_
  refine uO H ?_
  refine qd ?_
  refine uA ?_
  refine uC (fun he => ?_) (fun he => ?_)
  · have he' : e ≠ 0 := by simpa using he
    rw [if_pos he']
    refine uA ?_
    refine uQ ?_
    exact qW rfl rfl
  have he' : ¬ e ≠ 0 := by simpa using he
  rw [if_neg he']
  refine qg ?_
  refine uA ?_
  refine uA ?_
  refine uB ?_
  refine uZ [2, 7, 21, 22, 23] [(2, 2)] ?_
  refine qC (fun n s => ∃ (k : Nat) (kk o : Int), k ≤ bag.length ∧ n = bag.length - k ∧ kk = k ∧ o = (if (bag.take k).any (badT m) then 1 else 0) ∧ (bag.take k).any (okT m) = false ∧ s = ⟨38, [(2, .ptr 2 0), (7, .p (pI o)), (21, .p (valsP bag)), (22, .p (pI (bag.map Val.pv).length)), (23, .p (pI kk))], [(2, .cells (m.pv.map .p))]⟩) bag.length ⟨0, 0, 0, Nat.zero_le _, rfl, rfl, rfl, rfl, rfl⟩ ?_
  rintro n s ⟨k, _, o, hk, rfl, rfl, ho, ha, rfl⟩
  refine uA ?_
  refine uC (fun hlt => ?_) (fun hlt => ?_)
  · refine qg ?_
    rw [lb] at hlt
    simp only [decide_eq_true_eq] at hlt
    have hlt' : k < bag.length := by omega
    have a1 := any_take (p := okT m) hlt'
    have a2 := any_take (p := badT m) hlt'
    have a3 : okT m bag[k] = true → bag.any (okT m) = true := fun h => List.any_eq_true.2 ⟨_, List.getElem_mem hlt', h⟩
    have H2 := against_h m bag[k] hm.val.s (hfit _ (List.getElem_mem hlt')).s
    refine uB ?_
    refine uR ?_
    refine qh qa rfl rfl (by rw [lb]; omega) rfl ?_
    rw [qx hlt']
    refine uS ?_
    refine qd ?_
    refine uR ?_
    refine uK H2 ?_
    refine qd ?_
    refine uA ?_
    refine uC (fun hp => ?_) (fun hp => ?_)
    · rw [if_pos (a3 hp)]
      refine uA ?_
      refine uQ ?_
      exact qW rfl rfl
    have hp' : okT m bag[k] = false := hp
    refine qg ?_
    refine uA ?_
    refine uC (fun hq => ?_) (fun hq => ?_)
    · have hq' : badT m bag[k] = true := by unfold badT; simpa using hq
      refine uA ?_
      refine uA ?_
      refine ⟨_, _, ?_, qu [2, 7, 21, 22, 23] [(2, 2)] rfl rfl, k + 1, _, 1, hlt', rfl, qt hlt' (by omega), ?_, ?_, rfl⟩
      · omega
      · rw [a2, hq', Bool.or_true, if_pos rfl]
      · rw [a1, ha, hp']; rfl
    · have hq' : badT m bag[k] = false := by unfold badT; simpa using hq
      refine qg ?_
      refine uA ?_
      refine ⟨_, _, ?_, qu [2, 7, 21, 22, 23] [(2, 2)] rfl rfl, k + 1, _, o, hlt', rfl, qt hlt' (by omega), ?_, ?_, rfl⟩
      · omega
      · rw [a2, hq', Bool.or_false]; exact ho
      · rw [a1, ha, hp']; rfl
  · refine qz ?_
    rw [lb] at hlt
    simp only [decide_eq_false_iff_not] at hlt
    have hkk : k = bag.length := by omega
    subst hkk
    rw [List.take_length] at ho ha
    rw [ha, if_neg (by simp), ← ho]
    refine uA ?_
    refine uQ ?_
    exact qW rfl rfl
theorem allTT_take {l : List Mat} {g : List Giv} {k : Nat} (h : k < l.length) : min (allTT (l.take k) g) (matchT l[k] g) = allTT (l.take (k + 1)) g := by
  unfold allTT
  rw [List.take_succ_eq_append_getElem h, List.foldl_append]; rfl
theorem anyTT_take {l : List (List Mat)} {g : List Giv} {k : Nat} (h : k < l.length) : max (anyTT (l.take k) g) (allTT l[k] g) = anyTT (l.take (k + 1)) g := by
  unfold anyTT
  rw [List.take_succ_eq_append_getElem h, List.foldl_append]; rfl
theorem metT_take {l : Tar} {g : List Giv} {k : Nat} (h : k < l.length) : min (metT (l.take k) g) (anyTT l[k] g) = metT (l.take (k + 1)) g := by
  unfold metT
  rw [List.take_succ_eq_append_getElem h, List.foldl_append]; rfl
theorem allT_h (l : List Mat) (g : List Giv) (hm : ∀ m ∈ l, m.Fit) (hl : l.length ≤ 1000000) (hf : ∀ x ∈ g, x.Fit) (hn : g.length ≤ 1000000) (hb : ∀ x ∈ g, x.bag.length ≤ 1000000) : Holds Tryz.prog 86 [matsP l, zj g] (.p (pI (allTT l g))) [] := by
  have lm : (l.map Mat.pv).length = l.length := by simp
  refine qo (ts := [4]) Tryz.func86 (by kernel_rfl) rfl rfl rfl ?_
  refine uA ?_
  refine uA ?_
  refine uA ?_
  refine uB ?_
  refine uZ [1, 5, 8, 9, 10] [] ?_
  refine qC (fun n s => ∃ (k : Nat) (kk o : Int), k ≤ l.length ∧ n = l.length - k ∧ kk = k ∧ o = allTT (l.take k) g ∧ s = ⟨21, [(1, .p (zj g)), (5, .p (pI o)), (8, .p (matsP l)), (9, .p (pI (l.map Mat.pv).length)), (10, .p (pI kk))], []⟩) l.length ⟨0, 0, 2, Nat.zero_le _, rfl, rfl, rfl, rfl⟩ ?_
  rintro n s ⟨k, _, o, hk, rfl, rfl, ho, rfl⟩
  refine uA ?_
  refine uC (fun hlt => ?_) (fun hlt => ?_)
  · refine qg ?_
    rw [lm] at hlt
    simp only [decide_eq_true_eq] at hlt
    have hlt' : k < l.length := by omega
    have H := match2_h l[k] g (hm _ (List.getElem_mem hlt')) hf hn hb
    have hs := allTT_take (g := g) hlt'
    refine uB ?_
    refine uR ?_
    refine qh qa rfl rfl (by rw [lm]; omega) rfl ?_
    rw [qx hlt']
    refine uS ?_
    refine qd ?_
    refine uR ?_
    refine uK H ?_
    refine qd ?_
    refine uA ?_
    refine ⟨_, _, ?_, qu [1, 5, 8, 9, 10] [] rfl rfl, k + 1, _, _, hlt', rfl, qt hlt' (by omega), ?_, rfl⟩
    · omega
    · rw [← hs, ← ho]
      dsimp only; split <;> omega
  · refine qz ?_
    rw [lm] at hlt
    simp only [decide_eq_false_iff_not] at hlt
    have hkk : k = l.length := by omega
    subst hkk
    rw [List.take_length] at ho
    rw [← ho]
    refine uA ?_
    refine uQ ?_
    exact qW rfl rfl
def TarSm (t : Tar) : Prop := t.length ≤ 1000000 ∧ ∀ x ∈ t, x.length ≤ 1000000 ∧ ∀ y ∈ x, y.length ≤ 1000000
theorem metT_h (t : Tar) (g : List Giv) (hm : ∀ x ∈ t, ∀ y ∈ x, ∀ m ∈ y, m.Fit) (hl : TarSm t) (hf : ∀ x ∈ g, x.Fit) (hn : g.length ≤ 1000000) (hb : ∀ x ∈ g, x.bag.length ≤ 1000000) : Holds Tryz.prog 57 [tgtP t, zj g] (.p (pI (metT t g))) [] := by
  have lt : (t.map fun x => [anyP x]).length = t.length := by simp
  have ht0 := hl.1
  refine qo (ts := [4]) Tryz.func57 (by kernel_rfl) rfl rfl rfl ?_
  refine uA ?_
  refine uA ?_
  refine uA ?_
  refine uB ?_
  refine uZ [1, 5, 11, 12, 13] [] ?_
  refine qC (fun n s => ∃ (k : Nat) (kk o : Int), k ≤ t.length ∧ n = t.length - k ∧ kk = k ∧ o = metT (t.take k) g ∧ s = ⟨34, [(1, .p (zj g)), (5, .p (pI o)), (11, .p (tgtP t)), (12, .p (pI (t.map fun x => [anyP x]).length)), (13, .p (pI kk))], []⟩) t.length ⟨0, 0, 2, Nat.zero_le _, rfl, rfl, rfl, rfl⟩ ?_
  rintro n s ⟨k, _, o, hk, rfl, rfl, ho, rfl⟩
  refine uA ?_
  refine uC (fun hlt => ?_) (fun hlt => ?_)
  · refine qg ?_
    rw [lt] at hlt
    simp only [decide_eq_true_eq] at hlt
    have hlt' : k < t.length := by omega
    have hs := metT_take (g := g) hlt'
    have hxl := hl.2 _ (List.getElem_mem hlt')
    have hxm := hm _ (List.getElem_mem hlt')
    refine uB ?_
    refine uR ?_
    refine qh qa rfl rfl (by rw [lt]; omega) rfl ?_
    rw [qx hlt']
    refine uS ?_
    refine qd ?_
    generalize t[k] = x at *
    have lx : (x.map fun y => [matsP y]).length = x.length := by simp
    have hx0 := hxl.1
    refine uA ?_
    refine uA ?_
    refine uB ?_
    refine uZ [1, 5, 8, 11, 12, 13, 17, 18, 19] [] ?_
    refine qC (fun n s => ∃ (j : Nat) (jj b : Int), j ≤ x.length ∧ n = x.length - j ∧ jj = j ∧ b = anyTT (x.take j) g ∧ s = ⟨34, [(1, .p (zj g)), (5, .p (pI o)), (8, .p (pI b)), (11, .p (tgtP t)), (12, .p (pI (t.map fun x => [anyP x]).length)), (13, .p (pI k)), (17, .p (anyP x)), (18, .p (pI (x.map fun y => [matsP y]).length)), (19, .p (pI jj))], []⟩) x.length ⟨0, 0, 0, Nat.zero_le _, rfl, rfl, rfl, rfl⟩ ?_
    rintro n s ⟨j, _, b, hj, rfl, rfl, hbb, rfl⟩
    refine uA ?_
    refine uC (fun hlj => ?_) (fun hlj => ?_)
    · refine qg ?_
      rw [lx] at hlj
      simp only [decide_eq_true_eq] at hlj
      have hlj' : j < x.length := by omega
      have hs2 := anyTT_take (g := g) hlj'
      have H := allT_h x[j] g (hxm _ (List.getElem_mem hlj')) (hxl.2 _ (List.getElem_mem hlj')) hf hn hb
      refine uB ?_
      refine uR ?_
      refine qh qa rfl rfl (by rw [lx]; omega) rfl ?_
      rw [qx hlj']
      refine uS ?_
      refine qd ?_
      refine uR ?_
      refine uK H ?_
      refine qd ?_
      refine uA ?_
      refine ⟨_, _, ?_, qu [1, 5, 8, 11, 12, 13, 17, 18, 19] [] rfl rfl, j + 1, _, _, hlj', rfl, qt hlj' (by omega), ?_, rfl⟩
      · omega
      · rw [← hs2, ← hbb]
        dsimp only; split <;> omega
    · refine qz ?_
      rw [lx] at hlj
      simp only [decide_eq_false_iff_not] at hlj
      have hjj : j = x.length := by omega
      subst hjj
      rw [List.take_length] at hbb
      refine uA ?_
      refine uA ?_
      refine ⟨_, _, ?_, qu [1, 5, 11, 12, 13] [] rfl rfl, k + 1, _, _, hlt', rfl, qt hlt' (by omega), ?_, rfl⟩
      · omega
      · rw [← hs, ← ho, ← hbb]
        dsimp only; split <;> omega
  · refine qz ?_
    rw [lt] at hlt
    simp only [decide_eq_false_iff_not] at hlt
    have hkk : k = t.length := by omega
    subst hkk
    rw [List.take_length] at ho
    rw [← ho]
    refine uA ?_
    refine uQ ?_
    exact qW rfl rfl
structure GivOk (g : List Giv) : Prop where
  fit : ∀ x ∈ g, x.Fit
  len : g.length ≤ 1000000
  bags : ∀ x ∈ g, x.bag.length ≤ 1000000
end Go.Proofs.YtlmgamnpfdgdeaaGreatDoor
namespace Go.Proofs.YtlmgamnpfdgdeaaGreatDoor
set_option linter.unusedVariables false
set_option linter.unusedSimpArgs false
open Go.RowKit
abbrev nilV : PV := .v (.slice none 0 0)
inductive Cv : PV → PV → Prop
  | refl (p : PV) : Cv p p
  | nil (z : Nat) : Cv (.v (.slice none 0 0)) (.sl z [])
  | agg {cs ds : List PV} (hl : cs.length = ds.length) (h : ∀ (i : Nat) (c d : PV), cs[i]? = some c → ds[i]? = some d → Cv c d) : Cv (.agg cs) (.agg ds)
  | sl {z : Nat} {l m : List (List PV)} (hl : l.length = m.length) (he : ∀ (i : Nat) (e f : List PV), l[i]? = some e → m[i]? = some f → e.length = f.length) (h : ∀ (i j : Nat) (e f : List PV) (c d : PV), l[i]? = some e → m[i]? = some f → e[j]? = some c → f[j]? = some d → Cv c d) : Cv (.sl z l) (.sl z m)
def CvL (cs ds : List PV) : Prop := cs.length = ds.length ∧ ∀ (i : Nat) (c d : PV), cs[i]? = some c → ds[i]? = some d → Cv c d
theorem CvL.nil : CvL [] [] := ⟨rfl, fun i c d h => by simp at h⟩
theorem CvL.cons {c d : PV} {cs ds : List PV} (h : Cv c d) (t : CvL cs ds) : CvL (c :: cs) (d :: ds) := ⟨by simp [t.1], fun i x y hx hy => by
  cases i with
  | zero => simp at hx hy; subst hx; subst hy; exact h
  | succ i => exact t.2 i x y (by simpa using hx) (by simpa using hy)⟩
theorem CvL.refl (l : List PV) : CvL l l := ⟨rfl, fun i c d h1 h2 => by rw [h1] at h2; cases h2; exact .refl _⟩
theorem CvL.agg {cs ds : List PV} (h : CvL cs ds) : Cv (.agg cs) (.agg ds) := .agg h.1 h.2
def CvM (l m : List (List PV)) : Prop := l.length = m.length ∧ ∀ (i : Nat) (e f : List PV), l[i]? = some e → m[i]? = some f → CvL e f
theorem CvM.nil : CvM [] [] := ⟨rfl, fun i c d h => by simp at h⟩
theorem CvM.cons {c d : List PV} {cs ds : List (List PV)} (h : CvL c d) (t : CvM cs ds) : CvM (c :: cs) (d :: ds) := ⟨by simp [t.1], fun i x y hx hy => by
  cases i with
  | zero => simp at hx hy; subst hx; subst hy; exact h
  | succ i => exact t.2 i x y (by simpa using hx) (by simpa using hy)⟩
theorem CvM.sl {z : Nat} {l m : List (List PV)} (h : CvM l m) : Cv (.sl z l) (.sl z m) := .sl h.1 (fun i e f h1 h2 => (h.2 i e f h1 h2).1) fun i j e f c d h1 h2 h3 h4 => (h.2 i e f h1 h2).2 j c d h3 h4
theorem Cv.one {p q : PV} (h : Cv p q) : oneP q = oneP p := by
  cases h <;> rfl
theorem RelP.cv {ok : Nat → Prop} {w : World} {p q : PV} (hc : Cv p q) : ∀ {u : Value}, RelP ok w p u → RelP ok w q u := by
  induction hc with
  | refl => exact fun h => h
  | nil z =>
    intro u h
    cases h
    exact .sl (l := []) (Nat.zero_le _) ⟨Nat.zero_le _, Nat.zero_le _⟩ (by simp) (fun h => absurd h (by simp)) (fun b o i j h => by cases h) (fun b o i j e s u h => by cases h)
  | agg hl h ih =>
    intro u hr
    cases hr with
    | @agg _ us hl2 hr =>
      refine .agg (by omega) fun i s u hs hu => ?_
      have hi : i < us.length := (List.getElem?_eq_some_iff.1 hu).1
      exact ih i _ s (List.getElem?_eq_getElem (by omega)) hs (hr i _ u (List.getElem?_eq_getElem (by omega)) hu)
  | @sl z l m hl he h ih =>
    intro u hr
    cases hr with
    | @sl _ _ A c hc hm hle hA hx hr =>
      rw [hl] at hc hm ⊢
      refine .sl hc hm (fun e hem => ?_) (fun h => hA (by omega)) (fun b o i j hAb hi hj => hx b o i j hAb (by omega) hj) (fun b o i j e s u hAb hi hj hu => ?_)
      · obtain ⟨i, hi, rfl⟩ := List.mem_iff_getElem.1 hem
        have hl0 : l[i]? = some (l[i]'(by omega)) := List.getElem?_eq_getElem (by omega)
        have hm0 : m[i]? = some m[i] := List.getElem?_eq_getElem hi
        obtain ⟨q1, q2⟩ := hle _ (List.getElem_mem (show i < l.length by omega))
        have q3 := he i _ _ hl0 hm0
        refine ⟨by omega, fun s hs => ?_⟩
        obtain ⟨j, hj, rfl⟩ := List.mem_iff_getElem.1 hs
        have := (h i j _ _ _ _ hl0 hm0 (List.getElem?_eq_getElem (by omega)) (List.getElem?_eq_getElem hj)).one
        rw [this]
        exact q2 _ (List.getElem_mem _)
      · have hi' : i < m.length := (List.getElem?_eq_some_iff.1 hi).1
        have hl0 : l[i]? = some (l[i]'(by omega)) := List.getElem?_eq_getElem (by omega)
        have q3 := he i _ _ hl0 hi
        have hj' : j < e.length := (List.getElem?_eq_some_iff.1 hj).1
        exact ih i j _ _ _ _ hl0 hi (List.getElem?_eq_getElem (by omega)) hj (hr b o i j _ _ u hAb hl0 (List.getElem?_eq_getElem (by omega)) hu)
theorem Holds.cv {P : Program} {f : FuncId} {args args' : List PV} {r : SV} {own : List (Nat × Box)} (h : Holds P f args r own) (hc : CvL args' args) : Holds P f args' r own :=
  ⟨h.1, fun w Sx vs hSx hl hr => h.2 w Sx vs hSx (by rw [hl, hc.1]) fun i s u hs hu => by
    have hi : i < args.length := (List.getElem?_eq_some_iff.1 hs).1
    have h0 : args'[i]? = some (args'[i]'(by rw [hc.1]; exact hi)) := List.getElem?_eq_getElem _
    exact (hr i _ u h0 hu).cv (hc.2 i _ s h0 hs)⟩
theorem Holds.res {P : Program} {f : FuncId} {args : List PV} {r r' : SV} {own : List (Nat × Box)} (h : Holds P f args r own) (e : r = r') : Holds P f args r' own := e ▸ h
end Go.Proofs.YtlmgamnpfdgdeaaGreatDoor
namespace Go.Proofs.YtlmgamnpfdgdeaaGreatDoor
set_option linter.unusedVariables false
set_option linter.unusedSimpArgs false
open Go.RowKit
inductive CvS : SV → SV → Prop
  | refl (s : SV) : CvS s s
  | p {a b : PV} (h : Cv a b) : CvS (.p a) (.p b)
  | two {a b c d : PV} (h : Cv a b) (h2 : Cv c d) : CvS (.tup [.p a, .p c]) (.tup [.p b, .p d])
theorem RelS.cvs {ok : Nat → Prop} {H : Nat → Option Value} {w : World} {s s' : SV} {u : Value} (hc : CvS s s') (h : RelS ok H w s u) : RelS ok H w s' u := by
  cases hc with
  | refl => exact h
  | p hc => exact .p (h.p_inv.cv hc)
  | two h1 h2 =>
    cases h with
    | @tup _ us hl hr =>
      refine .tup hl fun i s u hs hu => ?_
      match i, hs with
      | 0, hs => cases hs; exact .p ((hr 0 _ u rfl hu).p_inv.cv h1)
      | 1, hs => cases hs; exact .p ((hr 1 _ u rfl hu).p_inv.cv h2)
def FinC (T : TT) (rs : List ResultVar) (r : SV) (own' : List (Nat × Box)) (e : SEx) (st : St) : Prop := (e = .normal ∨ e = .ret) ∧ ∃ st' s ρ r0, Wk st st' ∧ resC T st' rs = some s ∧ s.mapR ρ = some r0 ∧ CvS r0 r ∧ ownR ρ st'.own ρ = some own' ∧ renOk ρ = true
theorem qK {P : Program} {T : TT} (hT : qU P T) {f : FuncId} {fn : Func} {c : Code} {args : List SV} {own : List (Nat × Box)} {r : SV} {own' : List (Nat × Box)} {rs : List ResultVar} (hf : P.funcs[f]? = some fn) (hname : (fn.name == "runtime.NumGoroutine") = false) (hb : fn.body = some c)
    (hres : fn.results = rs.toArray) (hn0 : (Nat.ble args.length fn.ntmps && Nat.ble fn.ntmps 900) = true) (h : SW P c (FinC T rs r own') ⟨fn.ntmps, jy 0 args, own⟩) : zE P f args own r own' := by
  have hn : args.length ≤ fn.ntmps ∧ fn.ntmps ≤ 900 := by
    rw [Bool.and_eq_true] at hn0
    exact ⟨Nat.le_of_ble_eq_true hn0.1, Nat.le_of_ble_eq_true hn0.2⟩
  refine ⟨⟨fn, hf, hname, by rw [hb]; rfl⟩, fun w Sx γ vs hh hl hr => ?_⟩
  refine calls_of_wp hf hb ?_
  have hget : ∀ t, t < args.length → (vs.toArray ++ Array.replicate (fn.ntmps - vs.toArray.size) undef).getD t undef = vs[t]?.getD undef := fun t ht => by
    have : t < vs.length := by omega
    have h2 : (vs.toArray ++ Array.replicate (fn.ntmps - vs.toArray.size) undef)[t]? = vs[t]? := by
      rw [Array.getElem?_append_left (by simpa using this)]; simp
    rw [Array.getD_eq_getD_getElem?, h2]
  have hI : Sim (jD w γ own) Sx γ ⟨fn.ntmps, jy 0 args, own⟩ ⟨vs.toArray ++ Array.replicate (fn.ntmps - vs.toArray.size) undef, []⟩ w := by
    refine ⟨⟨Below.refl _ w, fun _ _ => rfl⟩, ⟨by simp; omega, hn.2⟩, rfl, fun t s ht => ?_, hh⟩
    obtain ⟨_, hx⟩ := argFrS_get ht
    simp only [Nat.sub_zero] at hx
    have hlt : t < args.length := (List.getElem?_eq_some_iff.1 hx).1
    have hv : vs[t]? = some (vs[t]'(by omega)) := List.getElem?_eq_getElem (by omega)
    show RelS _ _ _ _ ((vs.toArray ++ Array.replicate (fn.ntmps - vs.toArray.size) undef).getD t undef)
    rw [hget t hlt, hv]
    exact hr t s _ hx hv
  refine h _ Sx _ _ w _ hI fun e st2 γ' a' w' hI' hq => ?_
  obtain ⟨he, st', s, ρ, r0, hwk, hs, hm, hcv, ho, hρ⟩ := hq
  obtain ⟨γ'', hI''⟩ := hwk _ Sx γ' a' w' hI'
  obtain ⟨γ3, k1, k2⟩ := heap_mapR hI''.heap ho hρ
  obtain ⟨v, k3, k4⟩ := resC_ok hT hI'' hs hres
  have fin : a'.defers = [] ∧ ∃ v, (results fn a'.tmps).run P w' = .ok v w' ∧ ∃ v' γ2 r1 own1, (r1 = r ∧ own1 = own') ∧ Ending.returned v = .returned v' ∧ BelowB (jD w γ own) w' ∧ HeapOk (jD w γ own) Sx γ2 own1 w' ∧ RelS (okO Sx γ2 own1) (hp γ2 own1) w' r1 v' :=
    ⟨hI''.defers, v, k3, v, γ3, r, own', ⟨rfl, rfl⟩, rfl, hI''.below, k1, (k2 s v r0 k4 hm).cvs hcv⟩
  rcases he with rfl | rfl
  · exact fin
  · exact fin
end Go.Proofs.YtlmgamnpfdgdeaaGreatDoor
namespace Go.Proofs.YtlmgamnpfdgdeaaGreatDoor
set_option linter.unusedVariables false
set_option linter.unusedSimpArgs false
open Go.RowKit
set_option maxHeartbeats 1000000
theorem idxV_h (l : List Val) (v : Val) (hn : l.length ≤ 1000000) : Holds Tryz.prog 223 [valsP l, .agg v.pv] (.p (pI (if l.findIdx (jB v) < l.length then (l.findIdx (jB v) : Int) else -1))) [] := by
  refine qo (ts := [4]) Tryz.func223 (by kernel_rfl) rfl rfl rfl ?_
  refine uA ?_
  refine uA ?_
  refine uB ?_
  refine uZ [0, 3, 7, 8] [(3, 3)] ?_
  refine qC (fun n s => ∃ (k : Nat) (kk : Int), k ≤ l.length ∧ n = l.length - k ∧ kk = k ∧ (∀ x ∈ l.take k, jB v x = false) ∧ s = ⟨19, [(0, .p (valsP l)), (3, .ptr 3 0), (7, .p (pI (l.map Val.pv).length)), (8, .p (pI kk))], [(3, .cells (v.pv.map .p))]⟩) l.length ⟨0, 0, Nat.zero_le _, rfl, rfl, by simp, rfl⟩ ?_
  rintro n s ⟨k, _, hk, rfl, rfl, ha, rfl⟩
  refine uA ?_
  refine uC (fun hlt => ?_) (fun hlt => ?_)
  · refine qg ?_
    simp only [List.length_map, decide_eq_true_eq] at hlt
    have hlt' : k < l.length := by omega
    refine uB ?_
    refine uA ?_
    refine uD [] [1, 3, 5, 7, 9, 11] ?_
    refine qG qa rfl rfl rfl (by simp only [List.length_map]; omega) rfl ?_
    rw [qx hlt']
    refine uT ?_
    refine qG qa rfl rfl rfl (rfl) rfl ?_
    refine uT ?_
    refine wd ?_
    refine uC (fun hp => ?_) (fun hp => ?_)
    · have hp' : jB v l[k] = true := by simpa [jB, beq_bytes2, and_assoc] using hp
      refine uA ?_
      refine uQ ?_
      refine qW rfl ?_
      have e : l.findIdx (jB v) = k := (List.findIdx_eq hlt').2 ⟨hp', fun j hj => ha _ (List.mem_take_iff_getElem.2 ⟨j, by omega, rfl⟩)⟩
      rw [e, if_pos hlt']
    · have hp' : jB v l[k] = false := by simpa [jB, beq_bytes2, and_assoc] using hp
      refine qg ?_
      refine uA ?_
      refine ⟨_, _, ?_, qu [0, 3, 7, 8] [(3, 3)] rfl rfl, k + 1, _, hlt', rfl, qt hlt' (by omega), ?_, rfl⟩
      · omega
      · intro g hg
        rw [List.take_succ_eq_append_getElem hlt', List.mem_append, List.mem_singleton] at hg
        rcases hg with hg | rfl
        · exact ha g hg
        · exact hp'
  · refine qz ?_
    simp only [List.length_map, decide_eq_false_iff_not] at hlt
    have hkk : k = l.length := by omega
    subst hkk
    refine uA ?_
    refine uQ ?_
    refine qW rfl ?_
    rw [List.take_length] at ha
    rw [if_neg]
    have := List.findIdx_eq_length_of_false ha
    omega
theorem contains_h (l : List Val) (v : Val) (hn : l.length ≤ 1000000) : Holds Tryz.prog 205 [valsP l, .agg v.pv] (.p (pB (hasV l v))) [] := by
  refine qo (ts := [4]) Tryz.func205 (by kernel_rfl) rfl rfl rfl ?_
  refine uA ?_
  refine uR ?_
  refine uK (idxV_h l v hn) ?_
  refine qd ?_
  refine uQ ?_
  refine wJ rfl ?_
  unfold hasV
  by_cases h : l.findIdx (jB v) < l.length
  · rw [if_pos h]
    have : l.any (jB v) = true := List.any_eq_true.2 ⟨_, List.getElem_mem h, List.findIdx_getElem (w := h)⟩
    rw [show (l.any fun x => jB v x) = true from this]
    simp
  · rw [if_neg h]
    have h2 : ∀ x ∈ l, jB v x = false := List.findIdx_eq_length.1 (Nat.le_antisymm List.findIdx_le_length (by omega))
    rw [show (l.any fun x => jB v x) = false from List.any_eq_false.2 fun x hx => by simp [h2 x hx]]
    rfl
theorem has_h (l : List Val) (v : Val) (hn : l.length ≤ 1000000) : Holds Tryz.prog 188 [valsP l, .agg v.pv] (.p (pB (hasV l v))) [] := by
  refine qo (ts := [4]) Tryz.func188 (by kernel_rfl) rfl rfl rfl ?_
  refine uA ?_
  refine uR ?_
  refine uK (contains_h l v hn) ?_
  refine qd ?_
  refine uQ ?_
  exact wJ rfl rfl
end Go.Proofs.YtlmgamnpfdgdeaaGreatDoor
namespace Go.Proofs.YtlmgamnpfdgdeaaGreatDoor
set_option linter.unusedVariables false
set_option linter.unusedSimpArgs false
open Go.RowKit
set_option maxHeartbeats 2000000
theorem is_h (x : Itm) (n : Int) : Holds Tryz.prog 112 [.agg x.pv, pI n] (.p (pB (x.is n))) [] := by
  refine qo (ts := [4]) Tryz.func112 (by kernel_rfl) rfl rfl rfl ?_
  refine uA ?_
  (repeat refine qF ?_); refine ql (by kernel_rfl) ?_
  repeat (refine qi qa rfl (by exact True.intro) rfl ?_)
  refine qi qa rfl (rfl) rfl ?_
  repeat (refine qi qa rfl (by exact True.intro) rfl ?_)
  refine qH ?_
  refine uQ ?_
  refine wJ rfl ?_
  unfold Itm.is isT
  rw [Bool.eq_iff_iff]
  simp only [jB, beq_bytes2, Bool.cond_false_right, Bool.and_eq_true, beq_iff_eq, decide_eq_true_eq, and_assoc, and_true]
theorem operands_h (op : Int) : Holds Tryz.prog 151 [pI op] (.p (pI (qL op))) [] := by
  unfold qL
  refine qo (ts := [2]) Tryz.func151 (by kernel_rfl) rfl rfl rfl ?_
  refine uA ?_
  refine uA ?_
  refine uB ?_
  refine uA ?_
  refine uC (fun h1 => ?_) (fun h1 => ?_)
  · have e1 : op = 1 := by simpa using h1
    subst e1
    refine qg ?_
    refine uC (fun h2 => ?_) (fun h2 => ?_)
    · refine uA ?_
      refine uQ ?_
      exact qW rfl rfl
    · cases h2
  · have n1 : ¬ op = 1 := by simpa using h1
    refine uA ?_
    refine uC (fun h2 => ?_) (fun h2 => ?_)
    · have e1 : op = 2 := by simpa using h2
      subst e1
      refine uA ?_
      refine uQ ?_
      exact qW rfl rfl
    · have n2 : ¬ op = 2 := by simpa using h2
      refine uA ?_
      refine uC (fun h3 => ?_) (fun h3 => ?_)
      · have e1 : op = 3 := by simpa using h3
        subst e1
        refine qg ?_
        refine uC (fun h4 => ?_) (fun h4 => ?_)
        · refine uA ?_
          refine uQ ?_
          exact qW rfl rfl
        · cases h4
      · have n3 : ¬ op = 3 := by simpa using h3
        refine uA ?_
        refine uC (fun h4 => ?_) (fun h4 => ?_)
        · have e1 : op = 4 := by simpa using h4
          subst e1
          refine qg ?_
          refine uC (fun h5 => ?_) (fun h5 => ?_)
          · refine uA ?_
            refine uQ ?_
            exact qW rfl rfl
          · cases h5
        · have n4 : ¬ op = 4 := by simpa using h4
          refine uA ?_
          refine uC (fun h5 => ?_) (fun h5 => ?_)
          · have e1 : op = 11 := by simpa using h5
            subst e1
            refine uA ?_
            refine uQ ?_
            exact qW rfl rfl
          · have n5 : ¬ op = 11 := by simpa using h5
            refine qg ?_
            refine uA ?_
            refine uQ ?_
            exact qW rfl (by rw [if_neg (by omega), if_neg (by omega)]; rfl)
theorem truth_h (b : Bool) : Holds Tryz.prog 187 [pB b] (.p (.agg (itmT b).pv)) [] := by
  refine .ofW ?_
  refine qK (T := TTab) qa Tryz.func187 (by kernel_rfl) rfl rfl rfl ?_
  refine uA ?_
  refine uA ?_
  refine uA ?_
  cases b with
  | true =>
    refine uC (fun h => ?_) (fun h => ?_)
    · refine uA ?_
      refine uA ?_
      refine uQ ?_
      exact ⟨Or.inr rfl, _, _, [], _, Wk.refl _, rfl, rfl, .p (CvL.agg (.cons (.nil 3) (.refl _))), rfl, rfl⟩
    · cases h
  | false =>
    refine uC (fun h => ?_) (fun h => ?_)
    · cases h
    · refine qg ?_
      refine uA ?_
      refine uQ ?_
      exact ⟨Or.inr rfl, _, _, [], _, Wk.refl _, rfl, rfl, .p (CvL.agg (.cons (.nil 3) (.refl _))), rfl, rfl⟩
end Go.Proofs.YtlmgamnpfdgdeaaGreatDoor
namespace Go.Proofs.YtlmgamnpfdgdeaaGreatDoor
set_option linter.unusedVariables false
set_option linter.unusedSimpArgs false
open Go.RowKit
set_option maxHeartbeats 4000000
def jm (S : List Itm) : List (Nat × Box) := [(1000000, .row 200 5 (S.map Itm.pv))]
theorem qX {S : List Itm} {lo i : Nat} {x : Itm} (h : (S.drop lo)[i]? = some x) : (S.map Itm.pv).getD (lo + i) [] = x.pv := by
  rw [List.getElem?_drop] at h
  rw [List.getD_eq_getElem?_getD, List.getElem?_map, h]; rfl
theorem errS_at : ∀ {l : List Itm} {k : Nat} (hk : k < l.length), errS (l.take k) = 0 → l[k].e ≠ 0 → errS l = l[k].e
  | x :: r, 0, _, _, h => by simp only [List.getElem_cons_zero] at h ⊢; rw [errS, if_neg h]
  | x :: r, k + 1, hk, h0, h => by
    rw [List.take_succ_cons, errS] at h0
    by_cases hx : x.e = 0
    · rw [if_pos hx] at h0
      rw [errS, if_pos hx]
      exact errS_at (by simpa using hk) h0 (by simpa using h)
    · rw [if_neg hx] at h0; exact absurd h0 hx
theorem jX : ∀ {l : List Itm} {k : Nat} (hk : k < l.length), errS (l.take k) = 0 → l[k].e = 0 → errS (l.take (k + 1)) = 0
  | x :: r, 0, _, _, h => by simp only [List.getElem_cons_zero] at h; rw [Nat.zero_add, List.take_succ_cons, List.take_zero, errS, if_pos h]; rfl
  | x :: r, k + 1, hk, h0, h => by
    rw [List.take_succ_cons, errS] at h0
    by_cases hx : x.e = 0
    · rw [if_pos hx] at h0
      rw [List.take_succ_cons, errS, if_pos hx]
      exact jX (by simpa using hk) h0 (by simpa using h)
    · rw [if_neg hx] at h0; exact absurd h0 hx
theorem node_lit (val : Val) (attr : Atr) (S : List Itm) (lo : Nat) (g : List Giv) : zE Tryz.prog 152 [.p (.agg (Nod.mk 1 val attr).pv), .view 1000000 5 lo S.length, .p (zj g)] (jm S) (.p (.agg (jJ (Nod.mk 1 val attr) (S.drop lo) g).pv)) (jm S) := by
  have e : jJ (Nod.mk 1 val attr) (S.drop lo) g = ⟨[], val, 0⟩ := rfl
  rw [e]
  refine qK (T := TTab) qa Tryz.func152 (by kernel_rfl) rfl rfl rfl ?_
  refine uA ?_
  refine uA ?_
  refine uB ?_
  refine uA ?_
  refine uC (fun h1 => ?_) (fun h1 => ?_)
  · refine uA ?_
    refine uQ ?_
    exact ⟨Or.inr rfl, _, _, [(1000000, 1000000)], _, Wk.refl _, rfl, rfl, .p (CvL.agg (.cons (.nil 3) (.refl _))), rfl, rfl⟩
  · cases h1
theorem node_attr (val : Val) (attr : Atr) (S : List Itm) (lo : Nat) (g : List Giv) (hn : g.length ≤ 1000000) (hb : ∀ x ∈ g, x.bag.length ≤ 1000000) : zE Tryz.prog 152 [.p (.agg (Nod.mk 2 val attr).pv), .view 1000000 5 lo S.length, .p (zj g)] (jm S) (.p (.agg (jJ (Nod.mk 2 val attr) (S.drop lo) g).pv)) (jm S) := by
  have e : jJ (Nod.mk 2 val attr) (S.drop lo) g = ⟨(getS attr g).1, noVal, (getS attr g).2⟩ := rfl
  rw [e]
  refine qK (T := TTab) qa Tryz.func152 (by kernel_rfl) rfl rfl rfl ?_
  refine uA ?_
  refine uA ?_
  refine uB ?_
  refine uA ?_
  refine uC (fun h1 => ?_) (fun h1 => ?_)
  · cases h1
  · refine uA ?_
    refine uC (fun h2 => ?_) (fun h2 => ?_)
    · refine uR ?_
      refine uO (get_h attr g hn hb) ?_
      refine qd ?_
      refine uA ?_
      refine uQ ?_
      exact ⟨Or.inr rfl, _, _, [(1000000, 1000000)], _, Wk.refl _, rfl, rfl, .refl _, rfl, rfl⟩
    · cases h2
theorem drop_one {S : List Itm} {lo : Nat} (h : lo + 1 = S.length) : ∃ x, S.drop lo = [x] := List.length_eq_one_iff.1 (by rw [List.length_drop]; omega)
theorem drop_two {S : List Itm} {lo : Nat} (h : lo + 2 = S.length) : ∃ x y, S.drop lo = [x, y] := by
  have : (S.drop lo).length = 2 := by rw [List.length_drop]; omega
  match hd : S.drop lo, this with
  | [x, y], _ => exact ⟨x, y, rfl⟩
theorem jK {op : Int} {val : Val} {attr : Atr} {l : List Itm} {g : List Giv} (h1 : ¬ op = 1) (h2 : ¬ op = 2) (hd : decS op l = false) : jJ (Nod.mk op val attr) l g = if errS l ≠ 0 then ⟨[], noVal, errS l⟩ else lastS op l := by
  unfold jJ
  simp only
  rw [if_neg h1, if_neg h2, hd, if_neg (by simp)]
theorem node_one_h (val : Val) (attr : Atr) (S : List Itm) (lo : Nat) (g : List Giv) (hlo : lo + 1 = S.length) (hl : S.length ≤ 1000000) : zE Tryz.prog 152 [.p (.agg (Nod.mk 3 val attr).pv), .view 1000000 5 lo S.length, .p (zj g)] (jm S) (.p (.agg (jJ (Nod.mk 3 val attr) (S.drop lo) g).pv)) (jm S) := by
  have hN := jK (val := val) (attr := attr) (g := g) (op := 3) (l := S.drop lo) (by omega) (by omega) rfl
  refine qK (T := TTab) qa Tryz.func152 (by kernel_rfl) rfl rfl rfl ?_
  refine uA ?_
  refine uA ?_
  refine uB ?_
  refine uA ?_
  refine uC (fun h1 => ?_) (fun h1 => ?_)
  · cases h1
  · refine uA ?_
    refine uC (fun h2 => ?_) (fun h2 => ?_)
    · cases h2
    · refine uA ?_
      refine uC (fun h3 => ?_) (fun h3 => ?_)
      · cases h3
      · refine uA ?_
        refine uC (fun h4 => ?_) (fun h4 => ?_)
        · cases h4
        · refine qg ?_
          refine uZ [1, 3, 6] [(1000000, 1000000), (3, 3), (6, 6)] ?_
          refine uA ?_
          refine uA ?_
          refine uB ?_
          refine SW.wk (jo 10 900 31 3 rfl rfl) ?_
          refine uZ [1, 3, 6, 10, 55, 56, 57] [(1000000, 1000000), (3, 3), (6, 6), (900, 0)] ?_
          refine qC (fun m s => ∃ (k : Nat) (kk : Int), k ≤ (S.drop lo).length ∧ m = (S.drop lo).length - k ∧ kk = k ∧ errS ((S.drop lo).take k) = 0 ∧ s = ⟨122, [(1, .view 1000000 5 lo S.length), (3, .ptr 3 0), (6, .ptr 6 0), (10, .row 0), (55, .view 1000000 5 lo S.length), (56, .p (pI ((S.length - lo : Nat) : Int))), (57, .p (pI kk))], [(1000000, .row 200 5 (S.map Itm.pv)), (3, .cells ((Nod.mk 3 val attr).pv.map .p)), (6, .cells (([.v (.slice none 0 0), pI 0, pI 0, pS ⟨#[]⟩, pI 0] : List PV).map .p)), (0, .row 31 3 ((((S.drop lo).take k).map Itm.v).map Val.pv))]⟩) (S.drop lo).length ⟨0, 0, Nat.zero_le _, rfl, rfl, rfl, rfl⟩ ?_
          rintro m s ⟨k, _, hk, rfl, rfl, he0, rfl⟩
          refine uA ?_
          refine uC (fun hlt => ?_) (fun hlt => ?_)
          · refine qg ?_
            have hlt' : k < (S.drop lo).length := by rw [List.length_drop]; simpa using hlt
            have hk2 : k < S.length - lo := by rwa [List.length_drop] at hlt'
            have hget : (S.drop lo)[k]? = some (S.drop lo)[k] := List.getElem?_eq_getElem hlt'
            refine uB ?_
            refine uR ?_
            refine qh qa rfl rfl (by omega) rfl ?_
            refine uS ?_
            refine qh qa rfl (qP rfl rfl rfl rfl rfl (show (S.map Itm.pv).getD (lo + Int.toNat (k : Int)) [] = (S.drop lo)[k].pv from qX hget) rfl) (by rw [List.length_map, Int.toNat_natCast]; omega) rfl ?_
            refine uS ?_
            refine qd ?_
            refine uA ?_
            refine uC (fun hne => ?_) (fun hne => ?_)
            · have hne' : (S.drop lo)[k].e ≠ 0 := by simpa using hne
              have e1 := errS_at hlt' he0 hne'
              rw [hN, e1, if_pos hne']
              refine uA ?_
              refine uQ ?_
              exact ⟨Or.inr rfl, _, _, [(1000000, 1000000)], _, Wk.refl _, rfl, rfl, .p (CvL.agg (.cons (.nil 3) (.refl _))), rfl, rfl⟩
            · have hne' : (S.drop lo)[k].e = 0 := by simpa using hne
              refine qg ?_
              refine uR ?_
              refine qI rfl (qr qa rfl rfl rfl rfl rfl rfl rfl rfl rfl rfl rfl rfl rfl rfl rfl rfl (by simp only [List.length_append, List.length_map, List.length_take, List.length_drop]; unfold reachBytes; simp; omega) (by simp only [List.length_append, List.length_map, List.length_take, List.length_drop]; simp; omega) ?_)
              refine uS ?_
              refine qd ?_
              refine uA ?_
              refine ⟨_, _, ?_, qu [1, 3, 6, 10, 55, 56, 57] [(1000000, 1000000), (3, 3), (6, 6), (71, 0)] rfl rfl, k + 1, _, hlt', rfl, qt hlt' (by rw [List.length_drop]; omega), jX hlt' he0 hne', ?_⟩
              · omega
              · rw [List.take_succ_eq_append_getElem hlt', List.map_append, List.map_append]; rfl
          · refine qz ?_
            have hkk : k = (S.drop lo).length := by
              have : ¬ (k : Int) < ((S.length - lo : Nat) : Int) := by simpa using hlt
              rw [List.length_drop] at hk ⊢
              omega
            subst hkk
            rw [List.take_length] at he0 ⊢
            rw [hN, if_neg (by simp [he0])]
            clear hN
            refine uA ?_
            obtain ⟨x, hx⟩ := drop_one hlo
            have h0 : (S.drop lo)[0]? = some x := by rw [hx]; rfl
            rw [hx]
            refine uB ?_
            refine uA ?_
            refine uC (fun h5 => ?_) (fun h5 => ?_)
            · refine uR ?_
              refine qh qa rfl rfl (by omega) rfl ?_
              refine uS ?_
              refine qh qa rfl (qP rfl rfl rfl rfl rfl (show (S.map Itm.pv).getD (lo + Int.toNat 0) [] = x.pv from qX h0) rfl) (by rw [List.length_map]; omega) rfl ?_
              refine uS ?_
              refine qd ?_
              refine uC (fun h6 => ?_) (fun h6 => ?_)
              · have h7 : ¬ x.bag.length = 1 := by
                  intro h7
                  simp at h6
                  omega
                have e2 : lastS 3 [x] = ⟨[], noVal, 4⟩ := by unfold lastS; rw [if_pos rfl]; exact if_neg h7
                rw [e2]
                refine uA ?_
                refine uQ ?_
                exact ⟨Or.inr rfl, _, _, [(1000000, 1000000)], _, Wk.refl _, rfl, rfl, .p (CvL.agg (.cons (.nil 3) (.refl _))), rfl, rfl⟩
              · have h7 : x.bag.length = 1 := by
                  have : ((x.bag.map Val.pv).length : Int) = 1 := by simpa using h6
                  rw [List.length_map] at this
                  omega
                obtain ⟨v, hv⟩ := List.length_eq_one_iff.1 h7
                have e2 : lastS 3 [x] = ⟨[], v, 0⟩ := by
                  unfold lastS
                  rw [if_pos rfl]
                  show (if x.bag.length = 1 then _ else _) = _
                  rw [if_pos h7]
                  show Itm.mk [] (x.bag.getD 0 noVal) 0 = _
                  rw [hv]; rfl
                rw [e2]
                refine qg ?_
                refine uR ?_
                refine qh qa rfl rfl (by omega) rfl ?_
                refine uS ?_
                refine qh qa rfl (qP rfl rfl rfl rfl rfl (show (S.map Itm.pv).getD (lo + Int.toNat 0) [] = x.pv from qX h0) rfl) (by rw [List.length_map]; omega) rfl ?_
                refine uS ?_
                refine qh qa rfl rfl (by rw [List.length_map, h7]; omega) rfl ?_
                rw [show (x.bag.map Val.pv).getD (Int.toNat 0) [] = v.pv by rw [hv]; rfl]
                refine uS ?_
                refine qd ?_
                refine uQ ?_
                exact ⟨Or.inr rfl, _, _, [(1000000, 1000000)], _, Wk.refl _, rfl, rfl, .p (CvL.agg (.cons (.nil 3) (.refl _))), rfl, rfl⟩
            · cases h5
theorem node_size_h (val : Val) (attr : Atr) (S : List Itm) (lo : Nat) (g : List Giv) (hlo : lo + 1 = S.length) (hl : S.length ≤ 1000000) : zE Tryz.prog 152 [.p (.agg (Nod.mk 4 val attr).pv), .view 1000000 5 lo S.length, .p (zj g)] (jm S) (.p (.agg (jJ (Nod.mk 4 val attr) (S.drop lo) g).pv)) (jm S) := by
  have hN := jK (val := val) (attr := attr) (g := g) (op := 4) (l := S.drop lo) (by omega) (by omega) rfl
  refine qK (T := TTab) qa Tryz.func152 (by kernel_rfl) rfl rfl rfl ?_
  refine uA ?_
  refine uA ?_
  refine uB ?_
  refine uA ?_
  refine uC (fun h1 => ?_) (fun h1 => ?_)
  · cases h1
  · refine uA ?_
    refine uC (fun h2 => ?_) (fun h2 => ?_)
    · cases h2
    · refine uA ?_
      refine uC (fun h3 => ?_) (fun h3 => ?_)
      · cases h3
      · refine uA ?_
        refine uC (fun h4 => ?_) (fun h4 => ?_)
        · cases h4
        · refine qg ?_
          refine uZ [1, 3, 6] [(1000000, 1000000), (3, 3), (6, 6)] ?_
          refine uA ?_
          refine uA ?_
          refine uB ?_
          refine SW.wk (jo 10 900 31 3 rfl rfl) ?_
          refine uZ [1, 3, 6, 10, 55, 56, 57] [(1000000, 1000000), (3, 3), (6, 6), (900, 0)] ?_
          refine qC (fun m s => ∃ (k : Nat) (kk : Int), k ≤ (S.drop lo).length ∧ m = (S.drop lo).length - k ∧ kk = k ∧ errS ((S.drop lo).take k) = 0 ∧ s = ⟨122, [(1, .view 1000000 5 lo S.length), (3, .ptr 3 0), (6, .ptr 6 0), (10, .row 0), (55, .view 1000000 5 lo S.length), (56, .p (pI ((S.length - lo : Nat) : Int))), (57, .p (pI kk))], [(1000000, .row 200 5 (S.map Itm.pv)), (3, .cells ((Nod.mk 4 val attr).pv.map .p)), (6, .cells (([.v (.slice none 0 0), pI 0, pI 0, pS ⟨#[]⟩, pI 0] : List PV).map .p)), (0, .row 31 3 ((((S.drop lo).take k).map Itm.v).map Val.pv))]⟩) (S.drop lo).length ⟨0, 0, Nat.zero_le _, rfl, rfl, rfl, rfl⟩ ?_
          rintro m s ⟨k, _, hk, rfl, rfl, he0, rfl⟩
          refine uA ?_
          refine uC (fun hlt => ?_) (fun hlt => ?_)
          · refine qg ?_
            have hlt' : k < (S.drop lo).length := by rw [List.length_drop]; simpa using hlt
            have hk2 : k < S.length - lo := by rwa [List.length_drop] at hlt'
            have hget : (S.drop lo)[k]? = some (S.drop lo)[k] := List.getElem?_eq_getElem hlt'
            refine uB ?_
            refine uR ?_
            refine qh qa rfl rfl (by omega) rfl ?_
            refine uS ?_
            refine qh qa rfl (qP rfl rfl rfl rfl rfl (show (S.map Itm.pv).getD (lo + Int.toNat (k : Int)) [] = (S.drop lo)[k].pv from qX hget) rfl) (by rw [List.length_map, Int.toNat_natCast]; omega) rfl ?_
            refine uS ?_
            refine qd ?_
            refine uA ?_
            refine uC (fun hne => ?_) (fun hne => ?_)
            · have hne' : (S.drop lo)[k].e ≠ 0 := by simpa using hne
              have e1 := errS_at hlt' he0 hne'
              rw [hN, e1, if_pos hne']
              refine uA ?_
              refine uQ ?_
              exact ⟨Or.inr rfl, _, _, [(1000000, 1000000)], _, Wk.refl _, rfl, rfl, .p (CvL.agg (.cons (.nil 3) (.refl _))), rfl, rfl⟩
            · have hne' : (S.drop lo)[k].e = 0 := by simpa using hne
              refine qg ?_
              refine uR ?_
              refine qI rfl (qr qa rfl rfl rfl rfl rfl rfl rfl rfl rfl rfl rfl rfl rfl rfl rfl rfl (by simp only [List.length_append, List.length_map, List.length_take, List.length_drop]; unfold reachBytes; simp; omega) (by simp only [List.length_append, List.length_map, List.length_take, List.length_drop]; simp; omega) ?_)
              refine uS ?_
              refine qd ?_
              refine uA ?_
              refine ⟨_, _, ?_, qu [1, 3, 6, 10, 55, 56, 57] [(1000000, 1000000), (3, 3), (6, 6), (71, 0)] rfl rfl, k + 1, _, hlt', rfl, qt hlt' (by rw [List.length_drop]; omega), jX hlt' he0 hne', ?_⟩
              · omega
              · rw [List.take_succ_eq_append_getElem hlt', List.map_append, List.map_append]; rfl
          · refine qz ?_
            have hkk : k = (S.drop lo).length := by
              have : ¬ (k : Int) < ((S.length - lo : Nat) : Int) := by simpa using hlt
              rw [List.length_drop] at hk ⊢
              omega
            subst hkk
            rw [List.take_length] at he0 ⊢
            rw [hN, if_neg (by simp [he0])]
            clear hN
            refine uA ?_
            obtain ⟨x, hx⟩ := drop_one hlo
            have h0 : (S.drop lo)[0]? = some x := by rw [hx]; rfl
            rw [hx]
            refine uB ?_
            refine uA ?_
            refine uC (fun h5 => ?_) (fun h5 => ?_)
            · cases h5
            · refine uA ?_
              refine uC (fun h6 => ?_) (fun h6 => ?_)
              · have e2 : lastS 4 [x] = ⟨[], ⟨2, x.bag.length, ⟨#[]⟩⟩, 0⟩ := rfl
                rw [e2]
                refine uR ?_
                refine qh qa rfl rfl (by omega) rfl ?_
                refine uS ?_
                refine qh qa rfl (qP rfl rfl rfl rfl rfl (show (S.map Itm.pv).getD (lo + Int.toNat 0) [] = x.pv from qX h0) rfl) (by rw [List.length_map]; omega) rfl ?_
                refine uS ?_
                rw [List.length_map]
                refine qd ?_
                refine uQ ?_
                exact ⟨Or.inr rfl, _, _, [(1000000, 1000000)], _, Wk.refl _, rfl, rfl, .p (CvL.agg (.cons (.nil 3) (.refl _))), rfl, rfl⟩
              · cases h6
theorem node_has_h (val : Val) (attr : Atr) (S : List Itm) (lo : Nat) (g : List Giv) (hlo : lo + 2 = S.length) (hl : S.length ≤ 1000000) (hS : ∀ x ∈ S, x.Fit) : zE Tryz.prog 152 [.p (.agg (Nod.mk 5 val attr).pv), .view 1000000 5 lo S.length, .p (zj g)] (jm S) (.p (.agg (jJ (Nod.mk 5 val attr) (S.drop lo) g).pv)) (jm S) := by
  have hN := jK (val := val) (attr := attr) (g := g) (op := 5) (l := S.drop lo) (by omega) (by omega) rfl
  refine qK (T := TTab) qa Tryz.func152 (by kernel_rfl) rfl rfl rfl ?_
  refine uA ?_
  refine uA ?_
  refine uB ?_
  refine uA ?_
  refine uC (fun h1 => ?_) (fun h1 => ?_)
  · cases h1
  · refine uA ?_
    refine uC (fun h2 => ?_) (fun h2 => ?_)
    · cases h2
    · refine uA ?_
      refine uC (fun h3 => ?_) (fun h3 => ?_)
      · cases h3
      · refine uA ?_
        refine uC (fun h4 => ?_) (fun h4 => ?_)
        · cases h4
        · refine qg ?_
          refine uZ [1, 3, 6] [(1000000, 1000000), (3, 3), (6, 6)] ?_
          refine uA ?_
          refine uA ?_
          refine uB ?_
          refine SW.wk (jo 10 900 31 3 rfl rfl) ?_
          refine uZ [1, 3, 6, 10, 55, 56, 57] [(1000000, 1000000), (3, 3), (6, 6), (900, 0)] ?_
          refine qC (fun m s => ∃ (k : Nat) (kk : Int), k ≤ (S.drop lo).length ∧ m = (S.drop lo).length - k ∧ kk = k ∧ errS ((S.drop lo).take k) = 0 ∧ s = ⟨122, [(1, .view 1000000 5 lo S.length), (3, .ptr 3 0), (6, .ptr 6 0), (10, .row 0), (55, .view 1000000 5 lo S.length), (56, .p (pI ((S.length - lo : Nat) : Int))), (57, .p (pI kk))], [(1000000, .row 200 5 (S.map Itm.pv)), (3, .cells ((Nod.mk 5 val attr).pv.map .p)), (6, .cells (([.v (.slice none 0 0), pI 0, pI 0, pS ⟨#[]⟩, pI 0] : List PV).map .p)), (0, .row 31 3 ((((S.drop lo).take k).map Itm.v).map Val.pv))]⟩) (S.drop lo).length ⟨0, 0, Nat.zero_le _, rfl, rfl, rfl, rfl⟩ ?_
          rintro m s ⟨k, _, hk, rfl, rfl, he0, rfl⟩
          refine uA ?_
          refine uC (fun hlt => ?_) (fun hlt => ?_)
          · refine qg ?_
            have hlt' : k < (S.drop lo).length := by rw [List.length_drop]; simpa using hlt
            have hk2 : k < S.length - lo := by rwa [List.length_drop] at hlt'
            have hget : (S.drop lo)[k]? = some (S.drop lo)[k] := List.getElem?_eq_getElem hlt'
            refine uB ?_
            refine uR ?_
            refine qh qa rfl rfl (by omega) rfl ?_
            refine uS ?_
            refine qh qa rfl (qP rfl rfl rfl rfl rfl (show (S.map Itm.pv).getD (lo + Int.toNat (k : Int)) [] = (S.drop lo)[k].pv from qX hget) rfl) (by rw [List.length_map, Int.toNat_natCast]; omega) rfl ?_
            refine uS ?_
            refine qd ?_
            refine uA ?_
            refine uC (fun hne => ?_) (fun hne => ?_)
            · have hne' : (S.drop lo)[k].e ≠ 0 := by simpa using hne
              have e1 := errS_at hlt' he0 hne'
              rw [hN, e1, if_pos hne']
              refine uA ?_
              refine uQ ?_
              exact ⟨Or.inr rfl, _, _, [(1000000, 1000000)], _, Wk.refl _, rfl, rfl, .p (CvL.agg (.cons (.nil 3) (.refl _))), rfl, rfl⟩
            · have hne' : (S.drop lo)[k].e = 0 := by simpa using hne
              refine qg ?_
              refine uR ?_
              refine qI rfl (qr qa rfl rfl rfl rfl rfl rfl rfl rfl rfl rfl rfl rfl rfl rfl rfl rfl (by simp only [List.length_append, List.length_map, List.length_take, List.length_drop]; unfold reachBytes; simp; omega) (by simp only [List.length_append, List.length_map, List.length_take, List.length_drop]; simp; omega) ?_)
              refine uS ?_
              refine qd ?_
              refine uA ?_
              refine ⟨_, _, ?_, qu [1, 3, 6, 10, 55, 56, 57] [(1000000, 1000000), (3, 3), (6, 6), (71, 0)] rfl rfl, k + 1, _, hlt', rfl, qt hlt' (by rw [List.length_drop]; omega), jX hlt' he0 hne', ?_⟩
              · omega
              · rw [List.take_succ_eq_append_getElem hlt', List.map_append, List.map_append]; rfl
          · refine qz ?_
            have hkk : k = (S.drop lo).length := by
              have : ¬ (k : Int) < ((S.length - lo : Nat) : Int) := by simpa using hlt
              rw [List.length_drop] at hk ⊢
              omega
            subst hkk
            rw [List.take_length] at he0 ⊢
            rw [hN, if_neg (by simp [he0])]
            clear hN
            refine uA ?_
            obtain ⟨x, y, hx⟩ := drop_two hlo
            have h0 : (S.drop lo)[0]? = some x := by rw [hx]; rfl
            have h1' : (S.drop lo)[1]? = some y := by rw [hx]; rfl
            have hxl : x.bag.length ≤ 1000000 := (hS x (List.mem_of_mem_drop (i := lo) (by rw [hx]; simp))).len
            rw [hx]
            refine uB ?_
            refine uA ?_
            refine uC (fun h5 => ?_) (fun h5 => ?_)
            · cases h5
            · refine uA ?_
              refine uC (fun h6 => ?_) (fun h6 => ?_)
              · cases h6
              · refine uA ?_
                refine uC (fun h7 => ?_) (fun h7 => ?_)
                · have e2 : lastS 5 [x, y] = itmT (hasV x.bag y.v) := rfl
                  rw [e2]
                  refine uD [6] [1, 3, 5, 7, 9, 11, 13, 15, 16, 18, 20] ?_
                  refine qG qa rfl rfl rfl (by omega) rfl ?_
                  refine uT ?_
                  refine qG qa rfl rfl (qP rfl rfl rfl rfl rfl (show (S.map Itm.pv).getD (lo + Int.toNat 0) [] = x.pv from qX h0) rfl) (by rw [List.length_map]; omega) rfl ?_
                  refine uT ?_
                  refine qG qa rfl rfl rfl (by omega) rfl ?_
                  refine uT ?_
                  refine qG qa rfl rfl (qP rfl rfl rfl rfl rfl (show (S.map Itm.pv).getD (lo + Int.toNat 1) [] = y.pv from qX h1') rfl) (by rw [List.length_map]; show lo + 1 < _; omega) rfl ?_
                  refine uT ?_
                  refine uk (has_h x.bag y.v hxl) ?_
                  refine uo (truth_h (hasV x.bag y.v)) ?_
                  refine wd ?_
                  refine uQ ?_
                  exact ⟨Or.inr rfl, _, _, [(1000000, 1000000)], _, Wk.refl _, rfl, rfl, .refl _, rfl, rfl⟩
                · cases h7
theorem jr (op : Int) (hop : 6 ≤ op ∧ op ≤ 11) (val : Val) (attr : Atr) (S : List Itm) (lo : Nat) (g : List Giv) (hl : S.length ≤ 1000000) (hlo : lo ≤ S.length) (hS : ∀ x ∈ S, x.Fit) : zE Tryz.prog 152 [.p (.agg (Nod.mk op val attr).pv), .view 1000000 5 lo S.length, .p (zj g)] (jm S) (.p (.agg (jJ (Nod.mk op val attr) (S.drop lo) g).pv)) (jm S) := by
  have no : ∀ {k : Int}, (op == k) = true → k < 6 ∨ 11 < k → False := fun {k} h h2 => by
    have e : op = k := by simpa using h
    omega
  have hN := jK (val := val) (attr := attr) (g := g) (op := op) (l := S.drop lo) (by omega) (by omega) (by
    unfold decS
    rw [show decide (op = 12) = false from decide_eq_false (by omega), show decide (op = 13) = false from decide_eq_false (by omega)]; rfl)
  refine qK (T := TTab) qa Tryz.func152 (by kernel_rfl) rfl rfl rfl ?_
  refine uA ?_
  refine uA ?_
  refine uB ?_
  refine uA ?_
  refine uC (fun h1 => ?_) (fun h1 => ?_)
  · exact (no h1 (by omega)).elim
  · refine uA ?_
    refine uC (fun h2 => ?_) (fun h2 => ?_)
    · exact (no h2 (by omega)).elim
    · refine uA ?_
      refine uC (fun h3 => ?_) (fun h3 => ?_)
      · exact (no h3 (by omega)).elim
      · refine uA ?_
        refine uC (fun h4 => ?_) (fun h4 => ?_)
        · exact (no h4 (by omega)).elim
        · refine qg ?_
          refine uZ [1, 3, 6] [(1000000, 1000000), (3, 3), (6, 6)] ?_
          refine uA ?_
          refine uA ?_
          refine uB ?_
          refine SW.wk (jo 10 900 31 3 rfl rfl) ?_
          refine uZ [1, 3, 6, 10, 55, 56, 57] [(1000000, 1000000), (3, 3), (6, 6), (900, 0)] ?_
          refine qC (fun m s => ∃ (k : Nat) (kk : Int), k ≤ (S.drop lo).length ∧ m = (S.drop lo).length - k ∧ kk = k ∧ errS ((S.drop lo).take k) = 0 ∧ s = ⟨122, [(1, .view 1000000 5 lo S.length), (3, .ptr 3 0), (6, .ptr 6 0), (10, .row 0), (55, .view 1000000 5 lo S.length), (56, .p (pI ((S.length - lo : Nat) : Int))), (57, .p (pI kk))], [(1000000, .row 200 5 (S.map Itm.pv)), (3, .cells ((Nod.mk op val attr).pv.map .p)), (6, .cells (([.v (.slice none 0 0), pI 0, pI 0, pS ⟨#[]⟩, pI 0] : List PV).map .p)), (0, .row 31 3 ((((S.drop lo).take k).map Itm.v).map Val.pv))]⟩) (S.drop lo).length ⟨0, 0, Nat.zero_le _, rfl, rfl, rfl, rfl⟩ ?_
          rintro m s ⟨k, _, hk, rfl, rfl, he0, rfl⟩
          refine uA ?_
          refine uC (fun hlt => ?_) (fun hlt => ?_)
          · refine qg ?_
            have hlt' : k < (S.drop lo).length := by rw [List.length_drop]; simpa using hlt
            have hk2 : k < S.length - lo := by rwa [List.length_drop] at hlt'
            have hget : (S.drop lo)[k]? = some (S.drop lo)[k] := List.getElem?_eq_getElem hlt'
            refine uB ?_
            refine uR ?_
            refine qh qa rfl rfl (by omega) rfl ?_
            refine uS ?_
            refine qh qa rfl (qP rfl rfl rfl rfl rfl (show (S.map Itm.pv).getD (lo + Int.toNat (k : Int)) [] = (S.drop lo)[k].pv from qX hget) rfl) (by rw [List.length_map, Int.toNat_natCast]; omega) rfl ?_
            refine uS ?_
            refine qd ?_
            refine uA ?_
            refine uC (fun hne => ?_) (fun hne => ?_)
            · have hne' : (S.drop lo)[k].e ≠ 0 := by simpa using hne
              have e1 := errS_at hlt' he0 hne'
              rw [hN, e1, if_pos hne']
              refine uA ?_
              refine uQ ?_
              exact ⟨Or.inr rfl, _, _, [(1000000, 1000000)], _, Wk.refl _, rfl, rfl, .p (CvL.agg (.cons (.nil 3) (.refl _))), rfl, rfl⟩
            · have hne' : (S.drop lo)[k].e = 0 := by simpa using hne
              refine qg ?_
              refine uR ?_
              refine qI rfl (qr qa rfl rfl rfl rfl rfl rfl rfl rfl rfl rfl rfl rfl rfl rfl rfl rfl (by simp only [List.length_append, List.length_map, List.length_take, List.length_drop]; unfold reachBytes; simp; omega) (by simp only [List.length_append, List.length_map, List.length_take, List.length_drop]; simp; omega) ?_)
              refine uS ?_
              refine qd ?_
              refine uA ?_
              refine ⟨_, _, ?_, qu [1, 3, 6, 10, 55, 56, 57] [(1000000, 1000000), (3, 3), (6, 6), (71, 0)] rfl rfl, k + 1, _, hlt', rfl, qt hlt' (by rw [List.length_drop]; omega), jX hlt' he0 hne', ?_⟩
              · omega
              · rw [List.take_succ_eq_append_getElem hlt', List.map_append, List.map_append]; rfl
          · refine qz ?_
            have hkk : k = (S.drop lo).length := by
              have : ¬ (k : Int) < ((S.length - lo : Nat) : Int) := by simpa using hlt
              rw [List.length_drop] at hk ⊢
              omega
            subst hkk
            rw [List.take_length] at he0 ⊢
            rw [hN, if_neg (by simp [he0])]
            clear hN
            refine uA ?_
            refine uB ?_
            refine uA ?_
            refine uC (fun h5 => ?_) (fun h5 => ?_)
            · exact (no h5 (by omega)).elim
            · refine uA ?_
              refine uC (fun h6 => ?_) (fun h6 => ?_)
              · exact (no h6 (by omega)).elim
              · refine uA ?_
                refine uC (fun h7 => ?_) (fun h7 => ?_)
                · exact (no h7 (by omega)).elim
                · refine qg ?_
                  have e2 : lastS op (S.drop lo) = ⟨[], (zp op ((S.drop lo).map Itm.v)).1, (zp op ((S.drop lo).map Itm.v)).2⟩ := by
                    unfold lastS
                    rw [if_neg (by omega), if_neg (by omega), if_neg (by omega)]
                  rw [e2]
                  refine uR ?_
                  refine uK (call_h op ((S.drop lo).map Itm.v) (fun v hv => by obtain ⟨x, hx, rfl⟩ := List.mem_map.1 hv; exact (hS x (List.mem_of_mem_drop hx)).v)) ?_
                  refine qd ?_
                  generalize zp op ((S.drop lo).map Itm.v) = r
                  refine uA ?_
                  refine uQ ?_
                  exact ⟨Or.inr rfl, _, _, [(1000000, 1000000)], _, Wk.refl _, rfl, rfl, .p (CvL.agg (.cons (.nil 3) (.refl _))), rfl, rfl⟩
theorem node_12_h (val : Val) (attr : Atr) (S : List Itm) (lo : Nat) (g : List Giv) (hl : S.length ≤ 1000000) (hlo : lo + 2 = S.length) (hS : ∀ x ∈ S, x.Fit) : zE Tryz.prog 152 [.p (.agg (Nod.mk 12 val attr).pv), .view 1000000 5 lo S.length, .p (zj g)] (jm S) (.p (.agg (jJ (Nod.mk 12 val attr) (S.drop lo) g).pv)) (jm S) := by
  obtain ⟨x, y, hx⟩ := drop_two hlo
  have h0 : (S.drop lo)[0]? = some x := by rw [hx]; rfl
  have h1' : (S.drop lo)[1]? = some y := by rw [hx]; rfl
  have hd0 : decS 12 (S.drop lo) = (x.is 0 || y.is 0) := by rw [hx]; rfl
  cases hdec : (x.is 0 || y.is 0) with
  | true =>
    have e : jJ (Nod.mk 12 val attr) (S.drop lo) g = itmT false := by
      unfold jJ
      simp only
      rw [if_neg (by omega), if_neg (by omega), hd0, hdec, if_pos rfl]; rfl
    rw [e]
    refine qK (T := TTab) qa Tryz.func152 (by kernel_rfl) rfl rfl rfl ?_
    refine uA ?_
    refine uA ?_
    refine uB ?_
    refine uA ?_
    refine uC (fun h1 => ?_) (fun h1 => ?_)
    · cases h1
    · refine uA ?_
      refine uC (fun h2 => ?_) (fun h2 => ?_)
      · cases h2
      · refine uA ?_
        refine uC (fun h3 => ?_) (fun h3 => ?_)
        rotate_left
        · cases h3
        refine qg ?_
        refine uC (fun h4 => ?_) (fun h4 => ?_)
        rotate_left
        · cases h4
        refine uA ?_
        (repeat refine qF ?_); refine ql (by kernel_rfl) ?_
        repeat (refine qi qa rfl (by exact True.intro) rfl ?_)
        refine qi qa rfl (by omega) rfl ?_
        refine qi qa (qP rfl rfl rfl rfl rfl (show (S.map Itm.pv).getD (lo + Int.toNat 0) [] = x.pv from qX h0) rfl) (by rw [List.length_map]; omega) rfl ?_
        repeat (refine qi qa rfl (by exact True.intro) rfl ?_)
        refine qV rfl rfl rfl rfl (is_h x _) rfl rfl ?_
        repeat (refine qi qa rfl (by exact True.intro) rfl ?_)
        refine qi qa rfl (by omega) rfl ?_
        refine qi qa (qP rfl rfl rfl rfl rfl (show (S.map Itm.pv).getD (lo + Int.toNat 1) [] = y.pv from qX h1') rfl) (by rw [List.length_map]; show lo + 1 < _; omega) rfl ?_
        repeat (refine qi qa rfl (by exact True.intro) rfl ?_)
        refine qV rfl rfl rfl rfl (is_h y _) rfl rfl ?_
        repeat (refine qi qa rfl (by exact True.intro) rfl ?_)
        refine qH ?_
        refine uC (fun h9 => ?_) (fun h9 => ?_)
        · refine uR ?_
          refine uO (truth_h false) ?_
          refine qd ?_
          refine uQ ?_
          exact ⟨Or.inr rfl, _, _, [(1000000, 1000000)], _, Wk.refl _, rfl, rfl, .refl _, rfl, rfl⟩
        · have h9' : (x.is 0 || y.is 0) = false := by
            rw [← h9]
            show _ = (bif x.is 0 then true else y.is 0)
            cases x.is 0 <;> rfl
          rw [hdec] at h9'
          cases h9'
  | false =>
    have hN := jK (val := val) (attr := attr) (g := g) (op := 12) (l := S.drop lo) (by omega) (by omega) (hd0.trans hdec)
    refine qK (T := TTab) qa Tryz.func152 (by kernel_rfl) rfl rfl rfl ?_
    refine uA ?_
    refine uA ?_
    refine uB ?_
    refine uA ?_
    refine uC (fun h1 => ?_) (fun h1 => ?_)
    · cases h1
    · refine uA ?_
      refine uC (fun h2 => ?_) (fun h2 => ?_)
      · cases h2
      · refine uA ?_
        refine uC (fun h3 => ?_) (fun h3 => ?_)
        rotate_left
        · cases h3
        refine qg ?_
        refine uC (fun h4 => ?_) (fun h4 => ?_)
        rotate_left
        · cases h4
        refine uA ?_
        (repeat refine qF ?_); refine ql (by kernel_rfl) ?_
        repeat (refine qi qa rfl (by exact True.intro) rfl ?_)
        refine qi qa rfl (by omega) rfl ?_
        refine qi qa (qP rfl rfl rfl rfl rfl (show (S.map Itm.pv).getD (lo + Int.toNat 0) [] = x.pv from qX h0) rfl) (by rw [List.length_map]; omega) rfl ?_
        repeat (refine qi qa rfl (by exact True.intro) rfl ?_)
        refine qV rfl rfl rfl rfl (is_h x _) rfl rfl ?_
        repeat (refine qi qa rfl (by exact True.intro) rfl ?_)
        refine qi qa rfl (by omega) rfl ?_
        refine qi qa (qP rfl rfl rfl rfl rfl (show (S.map Itm.pv).getD (lo + Int.toNat 1) [] = y.pv from qX h1') rfl) (by rw [List.length_map]; show lo + 1 < _; omega) rfl ?_
        repeat (refine qi qa rfl (by exact True.intro) rfl ?_)
        refine qV rfl rfl rfl rfl (is_h y _) rfl rfl ?_
        repeat (refine qi qa rfl (by exact True.intro) rfl ?_)
        refine qH ?_
        refine uC (fun h9 => ?_) (fun h9 => ?_)
        · have h9' : (x.is 0 || y.is 0) = true := by
            rw [← h9]
            show _ = (bif x.is 0 then true else y.is 0)
            cases x.is 0 <;> rfl
          rw [hdec] at h9'
          cases h9'
        · refine qg ?_
          clear h0 h1' hx
          refine uZ [1, 3, 6] [(1000000, 1000000), (3, 3), (6, 6)] ?_
          refine uA ?_
          refine uA ?_
          refine uB ?_
          refine SW.wk (jo 10 900 31 3 rfl rfl) ?_
          refine uZ [1, 3, 6, 10, 55, 56, 57] [(1000000, 1000000), (3, 3), (6, 6), (900, 0)] ?_
          refine qC (fun m s => ∃ (k : Nat) (kk : Int), k ≤ (S.drop lo).length ∧ m = (S.drop lo).length - k ∧ kk = k ∧ errS ((S.drop lo).take k) = 0 ∧ s = ⟨122, [(1, .view 1000000 5 lo S.length), (3, .ptr 3 0), (6, .ptr 6 0), (10, .row 0), (55, .view 1000000 5 lo S.length), (56, .p (pI ((S.length - lo : Nat) : Int))), (57, .p (pI kk))], [(1000000, .row 200 5 (S.map Itm.pv)), (3, .cells ((Nod.mk 12 val attr).pv.map .p)), (6, .cells (([.v (.slice none 0 0), pI 0, pI 0, pS ⟨#[]⟩, pI 0] : List PV).map .p)), (0, .row 31 3 ((((S.drop lo).take k).map Itm.v).map Val.pv))]⟩) (S.drop lo).length ⟨0, 0, Nat.zero_le _, rfl, rfl, rfl, rfl⟩ ?_
          rintro m s ⟨k, _, hk, rfl, rfl, he0, rfl⟩
          refine uA ?_
          refine uC (fun hlt => ?_) (fun hlt => ?_)
          · refine qg ?_
            have hlt' : k < (S.drop lo).length := by rw [List.length_drop]; simpa using hlt
            have hk2 : k < S.length - lo := by rwa [List.length_drop] at hlt'
            have hget : (S.drop lo)[k]? = some (S.drop lo)[k] := List.getElem?_eq_getElem hlt'
            refine uB ?_
            refine uR ?_
            refine qh qa rfl rfl (by omega) rfl ?_
            refine uS ?_
            refine qh qa rfl (qP rfl rfl rfl rfl rfl (show (S.map Itm.pv).getD (lo + Int.toNat (k : Int)) [] = (S.drop lo)[k].pv from qX hget) rfl) (by rw [List.length_map, Int.toNat_natCast]; omega) rfl ?_
            refine uS ?_
            refine qd ?_
            refine uA ?_
            refine uC (fun hne => ?_) (fun hne => ?_)
            · have hne' : (S.drop lo)[k].e ≠ 0 := by simpa using hne
              have e1 := errS_at hlt' he0 hne'
              rw [hN, e1, if_pos hne']
              refine uA ?_
              refine uQ ?_
              exact ⟨Or.inr rfl, _, _, [(1000000, 1000000)], _, Wk.refl _, rfl, rfl, .p (CvL.agg (.cons (.nil 3) (.refl _))), rfl, rfl⟩
            · have hne' : (S.drop lo)[k].e = 0 := by simpa using hne
              refine qg ?_
              refine uR ?_
              refine qI rfl (qr qa rfl rfl rfl rfl rfl rfl rfl rfl rfl rfl rfl rfl rfl rfl rfl rfl (by simp only [List.length_append, List.length_map, List.length_take, List.length_drop]; unfold reachBytes; simp; omega) (by simp only [List.length_append, List.length_map, List.length_take, List.length_drop]; simp; omega) ?_)
              refine uS ?_
              refine qd ?_
              refine uA ?_
              refine ⟨_, _, ?_, qu [1, 3, 6, 10, 55, 56, 57] [(1000000, 1000000), (3, 3), (6, 6), (71, 0)] rfl rfl, k + 1, _, hlt', rfl, qt hlt' (by rw [List.length_drop]; omega), jX hlt' he0 hne', ?_⟩
              · omega
              · rw [List.take_succ_eq_append_getElem hlt', List.map_append, List.map_append]; rfl
          · refine qz ?_
            have hkk : k = (S.drop lo).length := by
              have : ¬ (k : Int) < ((S.length - lo : Nat) : Int) := by simpa using hlt
              rw [List.length_drop] at hk ⊢
              omega
            subst hkk
            rw [List.take_length] at he0 ⊢
            rw [hN, if_neg (by simp [he0])]
            clear hN
            refine uA ?_
            refine uB ?_
            refine uA ?_
            refine uC (fun h5 => ?_) (fun h5 => ?_)
            · cases h5
            · refine uA ?_
              refine uC (fun h6 => ?_) (fun h6 => ?_)
              · cases h6
              · refine uA ?_
                refine uC (fun h7 => ?_) (fun h7 => ?_)
                · cases h7
                · refine qg ?_
                  have e2 : lastS 12 (S.drop lo) = ⟨[], (zp 12 ((S.drop lo).map Itm.v)).1, (zp 12 ((S.drop lo).map Itm.v)).2⟩ := rfl
                  rw [e2]
                  refine uR ?_
                  refine uK (call_h 12 ((S.drop lo).map Itm.v) (fun v hv => by obtain ⟨x, hx, rfl⟩ := List.mem_map.1 hv; exact (hS x (List.mem_of_mem_drop hx)).v)) ?_
                  refine qd ?_
                  generalize zp 12 ((S.drop lo).map Itm.v) = r
                  refine uA ?_
                  refine uQ ?_
                  exact ⟨Or.inr rfl, _, _, [(1000000, 1000000)], _, Wk.refl _, rfl, rfl, .p (CvL.agg (.cons (.nil 3) (.refl _))), rfl, rfl⟩
theorem node_13_h (val : Val) (attr : Atr) (S : List Itm) (lo : Nat) (g : List Giv) (hl : S.length ≤ 1000000) (hlo : lo + 2 = S.length) (hS : ∀ x ∈ S, x.Fit) : zE Tryz.prog 152 [.p (.agg (Nod.mk 13 val attr).pv), .view 1000000 5 lo S.length, .p (zj g)] (jm S) (.p (.agg (jJ (Nod.mk 13 val attr) (S.drop lo) g).pv)) (jm S) := by
  obtain ⟨x, y, hx⟩ := drop_two hlo
  have h0 : (S.drop lo)[0]? = some x := by rw [hx]; rfl
  have h1' : (S.drop lo)[1]? = some y := by rw [hx]; rfl
  have hd0 : decS 13 (S.drop lo) = (x.is 1 || y.is 1) := by rw [hx]; rfl
  cases hdec : (x.is 1 || y.is 1) with
  | true =>
    have e : jJ (Nod.mk 13 val attr) (S.drop lo) g = itmT true := by
      unfold jJ
      simp only
      rw [if_neg (by omega), if_neg (by omega), hd0, hdec, if_pos rfl]; rfl
    rw [e]
    refine qK (T := TTab) qa Tryz.func152 (by kernel_rfl) rfl rfl rfl ?_
    refine uA ?_
    refine uA ?_
    refine uB ?_
    refine uA ?_
    refine uC (fun h1 => ?_) (fun h1 => ?_)
    · cases h1
    · refine uA ?_
      refine uC (fun h2 => ?_) (fun h2 => ?_)
      · cases h2
      · refine uA ?_
        refine uC (fun h3 => ?_) (fun h3 => ?_)
        · cases h3
        refine uA ?_
        refine uC (fun h4 => ?_) (fun h4 => ?_)
        rotate_left
        · cases h4
        refine uA ?_
        (repeat refine qF ?_); refine ql (by kernel_rfl) ?_
        repeat (refine qi qa rfl (by exact True.intro) rfl ?_)
        refine qi qa rfl (by omega) rfl ?_
        refine qi qa (qP rfl rfl rfl rfl rfl (show (S.map Itm.pv).getD (lo + Int.toNat 0) [] = x.pv from qX h0) rfl) (by rw [List.length_map]; omega) rfl ?_
        repeat (refine qi qa rfl (by exact True.intro) rfl ?_)
        refine qV rfl rfl rfl rfl (is_h x _) rfl rfl ?_
        repeat (refine qi qa rfl (by exact True.intro) rfl ?_)
        refine qi qa rfl (by omega) rfl ?_
        refine qi qa (qP rfl rfl rfl rfl rfl (show (S.map Itm.pv).getD (lo + Int.toNat 1) [] = y.pv from qX h1') rfl) (by rw [List.length_map]; show lo + 1 < _; omega) rfl ?_
        repeat (refine qi qa rfl (by exact True.intro) rfl ?_)
        refine qV rfl rfl rfl rfl (is_h y _) rfl rfl ?_
        repeat (refine qi qa rfl (by exact True.intro) rfl ?_)
        refine qH ?_
        refine uC (fun h9 => ?_) (fun h9 => ?_)
        · refine uR ?_
          refine uO (truth_h true) ?_
          refine qd ?_
          refine uQ ?_
          exact ⟨Or.inr rfl, _, _, [(1000000, 1000000)], _, Wk.refl _, rfl, rfl, .refl _, rfl, rfl⟩
        · have h9' : (x.is 1 || y.is 1) = false := by
            rw [← h9]
            show _ = (bif x.is 1 then true else y.is 1)
            cases x.is 1 <;> rfl
          rw [hdec] at h9'
          cases h9'
  | false =>
    have hN := jK (val := val) (attr := attr) (g := g) (op := 13) (l := S.drop lo) (by omega) (by omega) (hd0.trans hdec)
    refine qK (T := TTab) qa Tryz.func152 (by kernel_rfl) rfl rfl rfl ?_
    refine uA ?_
    refine uA ?_
    refine uB ?_
    refine uA ?_
    refine uC (fun h1 => ?_) (fun h1 => ?_)
    · cases h1
    · refine uA ?_
      refine uC (fun h2 => ?_) (fun h2 => ?_)
      · cases h2
      · refine uA ?_
        refine uC (fun h3 => ?_) (fun h3 => ?_)
        · cases h3
        refine uA ?_
        refine uC (fun h4 => ?_) (fun h4 => ?_)
        rotate_left
        · cases h4
        refine uA ?_
        (repeat refine qF ?_); refine ql (by kernel_rfl) ?_
        repeat (refine qi qa rfl (by exact True.intro) rfl ?_)
        refine qi qa rfl (by omega) rfl ?_
        refine qi qa (qP rfl rfl rfl rfl rfl (show (S.map Itm.pv).getD (lo + Int.toNat 0) [] = x.pv from qX h0) rfl) (by rw [List.length_map]; omega) rfl ?_
        repeat (refine qi qa rfl (by exact True.intro) rfl ?_)
        refine qV rfl rfl rfl rfl (is_h x _) rfl rfl ?_
        repeat (refine qi qa rfl (by exact True.intro) rfl ?_)
        refine qi qa rfl (by omega) rfl ?_
        refine qi qa (qP rfl rfl rfl rfl rfl (show (S.map Itm.pv).getD (lo + Int.toNat 1) [] = y.pv from qX h1') rfl) (by rw [List.length_map]; show lo + 1 < _; omega) rfl ?_
        repeat (refine qi qa rfl (by exact True.intro) rfl ?_)
        refine qV rfl rfl rfl rfl (is_h y _) rfl rfl ?_
        repeat (refine qi qa rfl (by exact True.intro) rfl ?_)
        refine qH ?_
        refine uC (fun h9 => ?_) (fun h9 => ?_)
        · have h9' : (x.is 1 || y.is 1) = true := by
            rw [← h9]
            show _ = (bif x.is 1 then true else y.is 1)
            cases x.is 1 <;> rfl
          rw [hdec] at h9'
          cases h9'
        · refine qg ?_
          clear h0 h1' hx
          refine uZ [1, 3, 6] [(1000000, 1000000), (3, 3), (6, 6)] ?_
          refine uA ?_
          refine uA ?_
          refine uB ?_
          refine SW.wk (jo 10 900 31 3 rfl rfl) ?_
          refine uZ [1, 3, 6, 10, 55, 56, 57] [(1000000, 1000000), (3, 3), (6, 6), (900, 0)] ?_
          refine qC (fun m s => ∃ (k : Nat) (kk : Int), k ≤ (S.drop lo).length ∧ m = (S.drop lo).length - k ∧ kk = k ∧ errS ((S.drop lo).take k) = 0 ∧ s = ⟨122, [(1, .view 1000000 5 lo S.length), (3, .ptr 3 0), (6, .ptr 6 0), (10, .row 0), (55, .view 1000000 5 lo S.length), (56, .p (pI ((S.length - lo : Nat) : Int))), (57, .p (pI kk))], [(1000000, .row 200 5 (S.map Itm.pv)), (3, .cells ((Nod.mk 13 val attr).pv.map .p)), (6, .cells (([.v (.slice none 0 0), pI 0, pI 0, pS ⟨#[]⟩, pI 0] : List PV).map .p)), (0, .row 31 3 ((((S.drop lo).take k).map Itm.v).map Val.pv))]⟩) (S.drop lo).length ⟨0, 0, Nat.zero_le _, rfl, rfl, rfl, rfl⟩ ?_
          rintro m s ⟨k, _, hk, rfl, rfl, he0, rfl⟩
          refine uA ?_
          refine uC (fun hlt => ?_) (fun hlt => ?_)
          · refine qg ?_
            have hlt' : k < (S.drop lo).length := by rw [List.length_drop]; simpa using hlt
            have hk2 : k < S.length - lo := by rwa [List.length_drop] at hlt'
            have hget : (S.drop lo)[k]? = some (S.drop lo)[k] := List.getElem?_eq_getElem hlt'
            refine uB ?_
            refine uR ?_
            refine qh qa rfl rfl (by omega) rfl ?_
            refine uS ?_
            refine qh qa rfl (qP rfl rfl rfl rfl rfl (show (S.map Itm.pv).getD (lo + Int.toNat (k : Int)) [] = (S.drop lo)[k].pv from qX hget) rfl) (by rw [List.length_map, Int.toNat_natCast]; omega) rfl ?_
            refine uS ?_
            refine qd ?_
            refine uA ?_
            refine uC (fun hne => ?_) (fun hne => ?_)
            · have hne' : (S.drop lo)[k].e ≠ 0 := by simpa using hne
              have e1 := errS_at hlt' he0 hne'
              rw [hN, e1, if_pos hne']
              refine uA ?_
              refine uQ ?_
              exact ⟨Or.inr rfl, _, _, [(1000000, 1000000)], _, Wk.refl _, rfl, rfl, .p (CvL.agg (.cons (.nil 3) (.refl _))), rfl, rfl⟩
            · have hne' : (S.drop lo)[k].e = 0 := by simpa using hne
              refine qg ?_
              refine uR ?_
              refine qI rfl (qr qa rfl rfl rfl rfl rfl rfl rfl rfl rfl rfl rfl rfl rfl rfl rfl rfl (by simp only [List.length_append, List.length_map, List.length_take, List.length_drop]; unfold reachBytes; simp; omega) (by simp only [List.length_append, List.length_map, List.length_take, List.length_drop]; simp; omega) ?_)
              refine uS ?_
              refine qd ?_
              refine uA ?_
              refine ⟨_, _, ?_, qu [1, 3, 6, 10, 55, 56, 57] [(1000000, 1000000), (3, 3), (6, 6), (71, 0)] rfl rfl, k + 1, _, hlt', rfl, qt hlt' (by rw [List.length_drop]; omega), jX hlt' he0 hne', ?_⟩
              · omega
              · rw [List.take_succ_eq_append_getElem hlt', List.map_append, List.map_append]; rfl
          · refine qz ?_
            have hkk : k = (S.drop lo).length := by
              have : ¬ (k : Int) < ((S.length - lo : Nat) : Int) := by simpa using hlt
              rw [List.length_drop] at hk ⊢
              omega
            subst hkk
            rw [List.take_length] at he0 ⊢
            rw [hN, if_neg (by simp [he0])]
            clear hN
            refine uA ?_
            refine uB ?_
            refine uA ?_
            refine uC (fun h5 => ?_) (fun h5 => ?_)
            · cases h5
            · refine uA ?_
              refine uC (fun h6 => ?_) (fun h6 => ?_)
              · cases h6
              · refine uA ?_
                refine uC (fun h7 => ?_) (fun h7 => ?_)
                · cases h7
                · refine qg ?_
                  have e2 : lastS 13 (S.drop lo) = ⟨[], (zp 13 ((S.drop lo).map Itm.v)).1, (zp 13 ((S.drop lo).map Itm.v)).2⟩ := rfl
                  rw [e2]
                  refine uR ?_
                  refine uK (call_h 13 ((S.drop lo).map Itm.v) (fun v hv => by obtain ⟨x, hx, rfl⟩ := List.mem_map.1 hv; exact (hS x (List.mem_of_mem_drop hx)).v)) ?_
                  refine qd ?_
                  generalize zp 13 ((S.drop lo).map Itm.v) = r
                  refine uA ?_
                  refine uQ ?_
                  exact ⟨Or.inr rfl, _, _, [(1000000, 1000000)], _, Wk.refl _, rfl, rfl, .p (CvL.agg (.cons (.nil 3) (.refl _))), rfl, rfl⟩
end Go.Proofs.YtlmgamnpfdgdeaaGreatDoor
namespace Go.Proofs.YtlmgamnpfdgdeaaGreatDoor
set_option linter.unusedVariables false
set_option linter.unusedSimpArgs false
open Go.RowKit
set_option maxHeartbeats 4000000
theorem node_h (n : Nod) (S : List Itm) (lo : Nat) (g : List Giv) (hlo : lo + qL n.op = S.length) (hl : S.length ≤ 1000000) (hS : ∀ x ∈ S, x.Fit) (hgn : g.length ≤ 1000000) (hb : ∀ x ∈ g, x.bag.length ≤ 1000000) (hop : 1 ≤ n.op ∧ n.op ≤ 13) :
    zE Tryz.prog 152 [.p (.agg n.pv), .view 1000000 5 lo S.length, .p (zj g)] (jm S) (.p (.agg (jJ n (S.drop lo) g).pv)) (jm S) := by
  obtain ⟨op, val, attr⟩ := n
  simp only at hop hlo
  rcases (show op = 1 ∨ op = 2 ∨ op = 3 ∨ op = 4 ∨ op = 5 ∨ op = 6 ∨ op = 7 ∨ op = 8 ∨ op = 9 ∨ op = 10 ∨ op = 11 ∨ op = 12 ∨ op = 13 by omega) with rfl | rfl | rfl | rfl | rfl | rfl | rfl | rfl | rfl | rfl | rfl | rfl | rfl
  · exact node_lit val attr S lo g
  · exact node_attr val attr S lo g hgn hb
  · exact node_one_h val attr S lo g hlo hl
  · exact node_size_h val attr S lo g hlo hl
  · exact node_has_h val attr S lo g hlo hl hS
  · exact jr 6 (by omega) val attr S lo g hl (by omega) hS
  · exact jr 7 (by omega) val attr S lo g hl (by omega) hS
  · exact jr 8 (by omega) val attr S lo g hl (by omega) hS
  · exact jr 9 (by omega) val attr S lo g hl (by omega) hS
  · exact jr 10 (by omega) val attr S lo g hl (by omega) hS
  · exact jr 11 (by omega) val attr S lo g hl (by omega) hS
  · exact node_12_h val attr S lo g hl hlo hS
  · exact node_13_h val attr S lo g hl hlo hS
theorem stepS_op {l l' : List Bool} {n : Nod} (h : zX l n = some l') : (1 ≤ n.op ∧ n.op ≤ 13) ∧ qL n.op ≤ l.length := by
  unfold zX at h
  split at h
  · cases h
  · rename_i w hw
    split at h
    · rename_i hc
      have := jQ hw
      refine ⟨?_, by omega⟩
      unfold zJ at hw
      repeat' split at hw
      all_goals first | omega | cases hw
    · cases h
theorem value_h (l : List Nod) (g : List Giv) (hf : ∀ x ∈ l, x.Fit) (hgf : ∀ x ∈ g, x.Fit) (hgn : g.length ≤ 1000000) (hb : ∀ x ∈ g, x.bag.length ≤ 1000000) : Holds Tryz.prog 111 [nodsP l, zj g] (.tup [.p (.agg (jz l g).1.pv), .p (pI (jz l g).2)]) [] := by
  refine .ofW ?_
  by_cases hl0 : l = []
  · subst hl0
    have e : jz [] g = (noVal, 1) := rfl
    rw [e]
    refine qK (T := TTab) qa Tryz.func111 (by kernel_rfl) rfl rfl rfl ?_
    refine uA ?_
    refine uA ?_
    refine uC (fun h => ?_) (fun h => ?_)
    · refine uA ?_
      refine uQ ?_
      exact ⟨Or.inr rfl, _, _, [], _, Wk.refl _, rfl, rfl, .refl _, rfl, rfl⟩
    · cases h
  · have lm : (l.map Nod.pv).length = l.length := by simp
    have hpos : 0 < l.length := List.length_pos_iff.2 hl0
    refine qK (T := TTab) qa Tryz.func111 (by kernel_rfl) rfl rfl rfl ?_
    refine uA ?_
    refine uR ?_
    rw [show (((l.map Nod.pv).length : Int) == 0) = false by rw [lm]; simp; exact hl0]
    refine uS ?_
    refine uK (expr_h l hf) ?_
    refine qd ?_
    refine uC (fun h => ?_) (fun h => ?_)
    · have h0 : wi l ≠ 0 := by simpa using h
      have e : jz l g = (noVal, 1) := by unfold jz; rw [if_pos (.inr h0)]
      rw [e]
      refine uA ?_
      refine uQ ?_
      exact ⟨Or.inr rfl, _, _, [], _, Wk.refl _, rfl, rfl, .refl _, rfl, rfl⟩
    · have h0 : wi l = 0 := by simpa using h
      obtain ⟨hst, hl32⟩ := wE h0 hl0
      refine qg ?_
      refine uA ?_
      refine uA ?_
      refine uB ?_
      refine SW.wk (jo 6 900 200 5 rfl rfl) ?_
      refine uZ [1, 4, 5, 6, 19, 20, 21] [(4, 4), (900, 0)] ?_
      refine qC (fun m s => ∃ (k : Nat) (kk : Int) (S : List Itm) (made : List Bool), k ≤ l.length ∧ m = l.length - k ∧ kk = k ∧ S = evalI g (l.take k) ∧ zi [] (l.take k) = some made ∧ S.length = made.length ∧ made.length ≤ k ∧ (∀ x ∈ S, x.Fit) ∧ s = ⟨51, [(1, .p (zj g)), (4, .ptr 4 0), (5, .p (pI 0)), (6, .row 0), (19, .p (nodsP l)), (20, .p (pI (l.map Nod.pv).length)), (21, .p (pI kk))], [(4, .cells (noVal.pv.map .p)), (0, .row 200 5 (S.map Itm.pv))]⟩) l.length ⟨0, 0, [], [], Nat.zero_le _, rfl, rfl, rfl, by simp [zi], rfl, Nat.le_refl _, by simp, rfl⟩ ?_
      rintro m s ⟨k, _, S, made, hk, rfl, rfl, hSe, ha, hSl, hml, hS, rfl⟩
      refine uA ?_
      refine uC (fun hlt => ?_) (fun hlt => ?_)
      · refine qg ?_
        rw [lm] at hlt
        simp only [decide_eq_true_eq] at hlt
        have hlt' : k < l.length := by omega
        have hst2 := wW hlt' ha
        cases hs : zX made l[k] with
        | none =>
          rw [hs] at hst2
          rw [wT (k + 1) hst2] at hst
          cases hst
        | some made' =>
          rw [hs] at hst2
          obtain ⟨hop, hopl⟩ := stepS_op hs
          obtain ⟨hSl', _⟩ := stepI_len (g := g) hSl hs
          have lmS : (S.map Itm.pv).length = S.length := by simp
          obtain ⟨left, hleft⟩ : ∃ left : Nat, left + qL l[k].op = S.length := ⟨S.length - qL l[k].op, by omega⟩
          have hml' := stepS_len hs
          refine uB ?_
          refine uR ?_
          refine qh qa rfl rfl (by rw [lm]; omega) rfl ?_
          rw [qx hlt']
          refine uS ?_
          refine qd ?_
          refine uR ?_
          refine uK (operands_h l[k].op) ?_
          rw [show IntKind.i64.wrap (((S.map Itm.pv).length : Int) - (qL l[k].op : Int)) = (left : Int) by rw [lmS, IntWalk.i64_in _ (by omega)]; omega]
          refine qd ?_
          refine uD [0] [1, 3, 5, 7, 9, 11, 13, 15, 16, 18, 20, 23] ?_
          refine qG qa rfl rfl rfl (by rw [lmS]; omega) rfl ?_
          refine uT ?_
          refine qG qa rfl rfl rfl (by rw [lmS]; omega) rfl ?_
          rw [lmS]
          refine uT ?_
          refine uw [(0, 1000000)] (node_h l[k] S left g hleft (by omega) hS hgn hb hop) ?_
          refine swm_act rfl rfl rfl (ActOk.shrink 33 999 rfl rfl rfl rfl (qr qa rfl rfl rfl rfl rfl rfl rfl rfl rfl rfl rfl rfl rfl rfl rfl rfl (by simp only [List.length_append, List.length_take, List.length_map]; unfold reachBytes; simp; omega) (by simp only [List.length_append, List.length_take, List.length_map]; simp; omega) ?_))
          refine uT ?_
          refine wd ?_
          refine uA ?_
          have hdrop : S.length - qL l[k].op = left := by omega
          refine ⟨_, _, ?_, qu [1, 4, 5, 6, 19, 20, 21] [(4, 4), (41, 0)] rfl rfl, k + 1, _, stepI g S l[k], made', hlt', rfl, qt hlt' (by omega), ?_, hst2, hSl', by omega, ?_, ?_⟩
          · omega
          · rw [hSe]; exact (zw (stepI g) [] l k hlt').symm
          · intro x hx
            unfold stepI at hx
            rcases List.mem_append.1 hx with hx | hx
            · exact hS x (List.mem_of_mem_take hx)
            · rw [List.mem_singleton] at hx
              subst hx
              exact nodeS_fit (hf _ (List.getElem_mem hlt')) (fun x hx => hS x (List.mem_of_mem_drop hx)) hgf hb
          · have e3 : (stepI g S l[k]).map Itm.pv = (S.map Itm.pv).take left ++ [(jJ l[k] (S.drop left) g).pv] := by
              unfold stepI
              rw [hdrop, List.map_append, List.map_take]; rfl
            rw [e3]; rfl
      · refine qz ?_
        rw [lm] at hlt
        simp only [decide_eq_false_iff_not] at hlt
        have hkk : k = l.length := by omega
        subst hkk
        rw [List.take_length] at hSe
        obtain ⟨x, hx⟩ := evalI_one (g := g) h0 hl0
        rw [hx] at hSe
        subst hSe
        rw [valueS_one h0 hl0 hx]
        refine uD [4] [1, 3, 5, 7, 9, 11, 13, 15, 16, 19] ?_
        refine qG qa rfl rfl rfl (by simp) rfl ?_
        refine uT ?_
        refine qG qa rfl rfl (qP rfl rfl rfl rfl rfl (show ([x].map Itm.pv).getD (Int.toNat 0) [] = x.pv from rfl) rfl) (by simp) rfl ?_
        refine uT ?_
        refine qG qa rfl rfl rfl (by simp) rfl ?_
        refine uT ?_
        refine qG qa rfl rfl (qP rfl rfl rfl rfl rfl (show ([x].map Itm.pv).getD (Int.toNat 0) [] = x.pv from rfl) rfl) (by simp) rfl ?_
        refine uT ?_
        refine wd ?_
        refine uQ ?_
        exact ⟨Or.inr rfl, _, _, [], _, Wk.refl _, rfl, rfl, .refl _, rfl, rfl⟩
theorem cond_h (l : List Nod) (g : List Giv) (hf : ∀ x ∈ l, x.Fit) (hgf : ∀ x ∈ g, x.Fit) (hgn : g.length ≤ 1000000) (hb : ∀ x ∈ g, x.bag.length ≤ 1000000) : Holds Tryz.prog 76 [nodsP l, zj g] (.p (pI (condS l g))) [] := by
  by_cases hl0 : l = []
  · subst hl0
    refine qo (ts := [4]) Tryz.func76 (by kernel_rfl) rfl rfl rfl ?_
    refine uA ?_
    refine uA ?_
    refine uC (fun h => ?_) (fun h => ?_)
    · refine uA ?_
      refine uQ ?_
      exact qW rfl rfl
    · cases h
  · have lm : (l.map Nod.pv).length = l.length := by simp
    have e : condS l g = condV (jz l g) := by unfold condS; rw [if_neg hl0]
    have H := value_h l g hf hgf hgn hb
    rw [e]
    generalize jz l g = r at *
    refine qo (ts := [4]) Tryz.func76 (by kernel_rfl) rfl rfl rfl ?_
    refine uA ?_
    refine uR ?_
    rw [show (((l.map Nod.pv).length : Int) == 0) = false by rw [lm]; simp; exact hl0]
    refine uS ?_
    refine qd ?_
    refine uC (fun h => ?_) (fun h => ?_)
    · cases h
    · refine qg ?_
      refine uR ?_
      refine uK H ?_
      refine qd ?_
      refine uA ?_
      refine uB ?_
      refine uR ?_
      refine uK ((is_h ⟨[], r.1, r.2⟩ 1).cv (.cons (CvL.agg (.cons (.nil 3) (.refl _))) (.refl _))) ?_
      refine qd ?_
      refine uC (fun h1 => ?_) (fun h1 => ?_)
      · refine uA ?_
        refine uQ ?_
        exact qW rfl (by unfold condV; rw [h1]; rfl)
      · refine uR ?_
        refine uK ((is_h ⟨[], r.1, r.2⟩ 0).cv (.cons (CvL.agg (.cons (.nil 3) (.refl _))) (.refl _))) ?_
        refine qd ?_
        refine uC (fun h2 => ?_) (fun h2 => ?_)
        · refine uA ?_
          refine uQ ?_
          exact qW rfl (by unfold condV; rw [h1, h2]; rfl)
        · refine qg ?_
          refine uA ?_
          refine uQ ?_
          exact qW rfl (by unfold condV; rw [h1, h2]; rfl)
end Go.Proofs.YtlmgamnpfdgdeaaGreatDoor
namespace Go.Proofs.YtlmgamnpfdgdeaaGreatDoor
set_option linter.unusedVariables false
set_option linter.unusedSimpArgs false
open Go.RowKit
set_option maxHeartbeats 4000000
def rsP (x : Rs) : List PV := [mkP x.m, jt x.obls]
def rssP (l : List Rs) : PV := .sl 2 (l.map rsP)
theorem dutiesS_take {l : List Obli} {m : Mk} {k : Nat} (h : k < l.length) : jU (l.take (k + 1)) m = if dutyS m l[k] then jU (l.take k) m ++ [l[k]] else jU (l.take k) m := by
  unfold jU
  rw [List.take_succ_eq_append_getElem h, List.filter_append]
  cases hd : dutyS m l[k] <;> simp [hd]
theorem jR (l : List Obli) (m : Mk) : (jU l m).length ≤ l.length := List.length_filter_le _ _
theorem duties_h (l : List Obli) (hn : l.length ≤ 1000000) (m : Mk) (hm : m ∈ mks) : Holds Tryz.prog 90 [jt l, mkP m] (.p (jt (jU l m))) [] := by
  have lm : (l.map Obli.pv).length = l.length := by simp
  refine .ofW ?_
  refine qK (T := TTab) qa Tryz.func90 (by kernel_rfl) rfl rfl rfl ?_
  refine uA ?_
  refine uA ?_
  refine uA ?_
  refine uB ?_
  refine SW.wk (jo 5 900 79 3 rfl rfl) ?_
  refine uZ [1, 5, 8, 9, 10] [(900, 0)] ?_
  refine qC (fun n s => ∃ (k : Nat) (kk : Int) (L : List Obli), k ≤ l.length ∧ n = l.length - k ∧ kk = k ∧ L = jU (l.take k) m ∧ s = ⟨36, [(1, .p (mkP m)), (5, .row 0), (8, .p (jt l)), (9, .p (pI (l.map Obli.pv).length)), (10, .p (pI kk))], [(0, .row 79 3 (L.map Obli.pv))]⟩) l.length ⟨0, 0, [], Nat.zero_le _, rfl, rfl, rfl, rfl⟩ ?_
  rintro n s ⟨k, _, L, hk, rfl, rfl, hL, rfl⟩
  refine uA ?_
  refine uC (fun hlt => ?_) (fun hlt => ?_)
  · refine qg ?_
    rw [lm] at hlt
    simp only [decide_eq_true_eq] at hlt
    have hlt' : k < l.length := by omega
    have hs := dutiesS_take (m := m) hlt'
    have hLl : L.length ≤ k := by rw [hL]; have := jR (l.take k) m; simp at this; omega
    refine uB ?_
    refine uR ?_
    refine qh qa rfl rfl (by rw [lm]; omega) rfl ?_
    rw [qx hlt']
    refine uS ?_
    refine qd ?_
    have hd : dutyS m l[k] = bif (l[k].on == 1) && mkE m (2, 0) then true else (l[k].on == 2) && mkE m (0, 2) := by
      rw [mkE_eq hm (by simp [mks]), mkE_eq hm (by simp [mks])]
      unfold dutyS
      rw [Bool.eq_iff_iff]
      simp
    (repeat refine qF ?_); refine ql (by kernel_rfl) ?_
    repeat (refine qi qa rfl (by exact True.intro) rfl ?_)
    refine qH ?_
    refine uC (fun hc => ?_) (fun hc => ?_)
    · have hd' : dutyS m l[k] = true := by
        rw [hd]
        revert hc
        unfold mkE
        cases (l[k].on == 1) <;> cases (l[k].on == 2) <;> simp [hb]
      rw [hd', if_pos rfl] at hs
      refine uR ?_
      refine qI rfl (qr qa rfl rfl rfl rfl rfl rfl rfl rfl rfl rfl rfl rfl rfl rfl rfl rfl (by simp only [List.length_append, List.length_map, List.length_take, List.length_cons, List.length_nil]; unfold reachBytes; omega) (by simp only [List.length_append, List.length_map, List.length_take, List.length_cons, List.length_nil]; omega) ?_)
      refine uS ?_
      refine qd ?_
      refine uA ?_
      refine ⟨_, _, ?_, qu [1, 5, 8, 9, 10] [(33, 0)] rfl rfl, k + 1, _, jU (l.take (k + 1)) m, hlt', rfl, qt hlt' (by omega), rfl, ?_⟩
      · omega
      · rw [hs, ← hL, List.map_append]; rfl
    · have hd' : dutyS m l[k] = false := by
        rw [hd]
        revert hc
        unfold mkE
        cases (l[k].on == 1) <;> cases (l[k].on == 2) <;> simp [hb]
      rw [hd', if_neg (by simp)] at hs
      refine qg ?_
      refine uA ?_
      refine ⟨_, _, ?_, qu [1, 5, 8, 9, 10] [(0, 0)] rfl rfl, k + 1, _, L, hlt', rfl, qt hlt' (by omega), by rw [hs]; exact hL, rfl⟩
      omega
  · refine qz ?_
    rw [lm] at hlt
    simp only [decide_eq_false_iff_not] at hlt
    have hkk : k = l.length := by omega
    subst hkk
    rw [List.take_length] at hL
    subst hL
    refine uA ?_
    refine uQ ?_
    exact ⟨Or.inr rfl, _, _, [], _, we (k := 0) rfl, rfl, rfl, .refl _, rfl, rfl⟩
theorem effect_h (r : Rul) (t c : Int) (ho : r.obls.length ≤ 1000000) : Holds Tryz.prog 87 [.agg (jl r), pI t, pI c] (.p (.agg (rsP (effectS r t c)))) [] := by
  obtain ⟨id, deny, tg, cond, obls⟩ := r
  unfold effectS effM
  simp only at ho ⊢
  refine .ofW ?_
  cases deny with
  | true =>
    rw [if_pos rfl]
    refine qK (T := TTab) qa Tryz.func87 (by kernel_rfl) rfl rfl rfl ?_
    refine uA ?_
    refine uA ?_
    refine uA ?_
    refine uC (fun hd => ?_) (fun hd => ?_)
    · refine uA ?_
      refine uB ?_
      (repeat refine qF ?_); refine ql (by kernel_rfl) ?_
      repeat (refine qi qa rfl (by exact True.intro) rfl ?_)
      refine qH ?_
      refine uC (fun h0 => ?_) (fun h0 => ?_)
      · have h0' : t = 0 ∨ (t = 2 ∧ c = 0) := by
          revert h0
          by_cases a : t = 0 <;> by_cases b : t = 2 <;> by_cases d : c = 0 <;> simp [a, b, d]
        rw [if_pos h0']
        refine uA ?_
        refine uQ ?_
        exact ⟨Or.inr rfl, _, _, [], _, Wk.refl _, rfl, rfl, .p (CvL.agg (.cons (.refl _) (.cons (.nil 3) .nil))), rfl, rfl⟩
      · have h0' : ¬ (t = 0 ∨ (t = 2 ∧ c = 0)) := by
          revert h0
          by_cases a : t = 0 <;> by_cases b : t = 2 <;> by_cases d : c = 0 <;> simp [a, b, d]
        rw [if_neg h0']
        (repeat refine qF ?_); refine ql (by kernel_rfl) ?_
        repeat (refine qi qa rfl (by exact True.intro) rfl ?_)
        refine qH ?_
        refine uC (fun h1 => ?_) (fun h1 => ?_)
        · have h1' : t = 1 ∨ c = 1 := by
            revert h1
            by_cases a : t = 1 <;> by_cases d : c = 1 <;> simp [a, d]
          rw [if_pos h1']
          refine uR ?_
          refine uK (mkIndet_h (0, 2) (by simp [mks])) ?_
          refine qd ?_
          refine uQ ?_
          exact ⟨Or.inr rfl, _, _, [], _, Wk.refl _, rfl, rfl, .p (CvL.agg (.cons (.refl _) (.cons (.nil 3) .nil))), rfl, rfl⟩
        · have h1' : ¬ (t = 1 ∨ c = 1) := by
            revert h1
            by_cases a : t = 1 <;> by_cases d : c = 1 <;> simp [a, d]
          rw [if_neg h1']
          refine qg ?_
          refine uR ?_
          refine uO (duties_h obls ho (0, 2) (by simp [mks])) ?_
          refine qd ?_
          refine uQ ?_
          exact ⟨Or.inr rfl, _, _, [], _, Wk.refl _, rfl, rfl, .refl _, rfl, rfl⟩
    · cases hd
  | false =>
    simp only [Bool.false_eq_true, if_false]
    refine qK (T := TTab) qa Tryz.func87 (by kernel_rfl) rfl rfl rfl ?_
    refine uA ?_
    refine uA ?_
    refine uA ?_
    refine uC (fun hd => ?_) (fun hd => ?_)
    · cases hd
    · refine qg ?_
      refine uB ?_
      (repeat refine qF ?_); refine ql (by kernel_rfl) ?_
      repeat (refine qi qa rfl (by exact True.intro) rfl ?_)
      refine qH ?_
      refine uC (fun h0 => ?_) (fun h0 => ?_)
      · have h0' : t = 0 ∨ (t = 2 ∧ c = 0) := by
          revert h0
          by_cases a : t = 0 <;> by_cases b : t = 2 <;> by_cases d : c = 0 <;> simp [a, b, d]
        rw [if_pos h0']
        refine uA ?_
        refine uQ ?_
        exact ⟨Or.inr rfl, _, _, [], _, Wk.refl _, rfl, rfl, .p (CvL.agg (.cons (.refl _) (.cons (.nil 3) .nil))), rfl, rfl⟩
      · have h0' : ¬ (t = 0 ∨ (t = 2 ∧ c = 0)) := by
          revert h0
          by_cases a : t = 0 <;> by_cases b : t = 2 <;> by_cases d : c = 0 <;> simp [a, b, d]
        rw [if_neg h0']
        (repeat refine qF ?_); refine ql (by kernel_rfl) ?_
        repeat (refine qi qa rfl (by exact True.intro) rfl ?_)
        refine qH ?_
        refine uC (fun h1 => ?_) (fun h1 => ?_)
        · have h1' : t = 1 ∨ c = 1 := by
            revert h1
            by_cases a : t = 1 <;> by_cases d : c = 1 <;> simp [a, d]
          rw [if_pos h1']
          refine uR ?_
          refine uK (mkIndet_h (2, 0) (by simp [mks])) ?_
          refine qd ?_
          refine uQ ?_
          exact ⟨Or.inr rfl, _, _, [], _, Wk.refl _, rfl, rfl, .p (CvL.agg (.cons (.refl _) (.cons (.nil 3) .nil))), rfl, rfl⟩
        · have h1' : ¬ (t = 1 ∨ c = 1) := by
            revert h1
            by_cases a : t = 1 <;> by_cases d : c = 1 <;> simp [a, d]
          rw [if_neg h1']
          refine qg ?_
          refine uR ?_
          refine uO (duties_h obls ho (2, 0) (by simp [mks])) ?_
          refine qd ?_
          refine uQ ?_
          exact ⟨Or.inr rfl, _, _, [], _, Wk.refl _, rfl, rfl, .refl _, rfl, rfl⟩
theorem ruleR_h (r : Rul) (g : List Giv) (hr : RulFit r) (ht : TarSm r.target) (ho : r.obls.length ≤ 1000000) (hf : ∀ x ∈ g, x.Fit) (hn : g.length ≤ 1000000) (hb : ∀ x ∈ g, x.bag.length ≤ 1000000) : Holds Tryz.prog 58 [.agg (jl r), zj g] (.p (.agg (rsP (ruleR g r)))) [] := by
  have H1 := metT_h r.target g hr.tgt ht hf hn hb
  have H2 := cond_h r.cond g hr.cond hf hn hb
  have H3 := effect_h r (metT r.target g) (condS r.cond g) ho
  obtain ⟨id, deny, tg, cond, obls⟩ := r
  unfold ruleR
  simp only at H1 H2 H3 ⊢
  generalize metT tg g = t at *
  generalize condS cond g = c at *
  refine .ofW ?_
  refine qK (T := TTab) qa Tryz.func58 (by kernel_rfl) rfl rfl rfl ?_
  refine uA ?_
  refine uD [4] [1, 3, 5, 7, 11, 13, 15, 8, 16, 18, 20] ?_
  refine uk H1 ?_
  refine uk H2 ?_
  refine uo H3 ?_
  refine wd ?_
  refine uQ ?_
  exact ⟨Or.inr rfl, _, _, [], _, Wk.refl _, rfl, rfl, .refl _, rfl, rfl⟩
end Go.Proofs.YtlmgamnpfdgdeaaGreatDoor
namespace Go.Proofs.YtlmgamnpfdgdeaaGreatDoor
set_option linter.unusedVariables false
set_option linter.unusedSimpArgs false
open Go.RowKit
theorem wk_nilc {st : St} (j i d : Nat) (e : TypeId) (z : Nat) {cs : List SV} (hj : lk j st.own = some (.cells cs)) (hi : cs[i]? = some (.p (.v (.slice none 0 0)))) (hd : lk d st.own = none) (hdl : Nat.blt d 1000000 = true := by rfl) :
    Wk st ⟨st.n, st.fr, setB j (.cells (cs.set i (.row d))) ((d, .row e z []) :: st.own)⟩ := fun w0 Sx γ a w hI => by
  have hbx : BoxOk w0 Sx (upd γ d (.slice none 0 0)) ((d, .row e z []) :: st.own) w d (.row e z []) := by
    refine .row ?_ (by simp) (Nat.zero_le _) (fun b hb => by simp [upd, qJ] at hb)
    rw [show upd γ d (.slice none 0 0) d = .slice none 0 0 from if_pos rfl]
    exact rowO_nil
  obtain ⟨h1, h2, h3, _⟩ := hI.heap.add (Below.refl _ w) hd (by simpa [Nat.blt, Nat.lt_iff_add_one_le] using hdl) (g := .slice none 0 0) (fun b hb => by cases hb) hbx
  have hdj : j ≠ d := fun h => by subst h; rw [hj] at hd; cases hd
  have hI1 : Sim w0 Sx (upd γ d (.slice none 0 0)) ⟨st.n, st.fr, (d, .row e z []) :: st.own⟩ a w := by
    refine ⟨hI.below, hI.size, hI.defers, fun k s hk => ?_, h1⟩
    have hr := hI.fr k s hk
    refine hr.keep2 (Nat.le_refl _) (fun b hb hok => ⟨rfl, h2 b hb hok⟩) fun i hi => h3 i fun e => ?_
    subst e
    rw [hr.live (jq hd)] at hi; cases hi
  have hj1 : lk j ((d, Box.row e z []) :: st.own) = some (.cells cs) := by rw [qv, if_neg hdj]; exact hj
  cases hI1.heap.box j _ hj1 with
  | @cells _ us ty b hg hB hh hl h hone =>
    have := hI1.setBox (bx' := .cells (cs.set i (.row d))) hj1 (b := b) (by rw [hg]; rfl) (Below.refl 0 w) (fun _ _ => rfl) (fun own' e1 e2 e3 => .cells (us := us) hg hB hh (by simpa using hl) (fun k s u hs hu => by
      by_cases hk : k = i
      · subst hk
        have hkl : k < cs.length := (List.getElem?_eq_some_iff.1 hi).1
        rw [List.getElem?_set_self hkl] at hs
        cases hs
        have h0 := (h k _ u hi hu).v_inv
        rw [h0]
        exact e3 (.row (by unfold hp; rw [qv, if_pos rfl]; simp [upd]))
      · rw [List.getElem?_set_ne (Ne.symm hk)] at hs
        exact e3 (h k s u hs hu)) hone)
    exact ⟨_, this.1⟩
end Go.Proofs.YtlmgamnpfdgdeaaGreatDoor
namespace Go.Proofs.YtlmgamnpfdgdeaaGreatDoor
set_option linter.unusedVariables false
set_option linter.unusedSimpArgs false
open Go.RowKit
set_option maxHeartbeats 4000000
def oblN (l : List Rs) : Nat := za (fun x => x.obls.length) l
theorem oblN_take {l : List Rs} {k : Nat} (h : k < l.length) : oblN (l.take (k + 1)) = oblN (l.take k) + l[k].obls.length := zo h
theorem oblN_le (l : List Rs) (k : Nat) : oblN (l.take k) ≤ oblN l := sumBy_take _ l k
theorem rs_app (M : Mk) (a b : List Obli) : rsP ⟨M, a ++ b⟩ = [mkP M, .sl 3 (a.map Obli.pv ++ b.map Obli.pv)] := by
  unfold rsP
  simp only
  rw [show jt (a ++ b) = .sl 3 ((a ++ b).map Obli.pv) from rfl, List.map_append]
def joinX (alg : Int) (obls : List Obli) (M : Mk) (t : Int) (parts : List Rs) : Rs :=
  if t = 0 then ⟨(0, 0), []⟩ else if t = 1 then ⟨indetM M, []⟩
  else if M ≠ (2, 0) ∧ M ≠ (0, 2) then ⟨M, []⟩ else ⟨M, partsO alg M parts ++ jU obls M⟩
theorem join_h (p : Pol) (t : Int) (parts : List Rs) (hn : parts.length ≤ 1000000) (hm : ∀ x ∈ parts, x.m ∈ mks) (ho : oblN parts ≤ 500000) (hp : p.obls.length ≤ 500000) : Holds Tryz.prog 59 [.agg (polP p), pI t, rssP parts] (.p (.agg (rsP (joinR p t parts)))) [] := by
  obtain ⟨id, set, alg, tg, rules, kids, obls⟩ := p
  have lp : (parts.map rsP).length = parts.length := by simp
  replace hp : obls.length ≤ 500000 := hp
  have hM : allM alg (parts.map Rs.m) ∈ mks := allM_mem fun m h => by
    obtain ⟨x, hx, rfl⟩ := List.mem_map.1 h
    exact hm x hx
  have HC := combAll_h alg (parts.map Rs.m) (by simpa using hn) (fun m h => by
    obtain ⟨x, hx, rfl⟩ := List.mem_map.1 h
    exact hm x hx)
  rw [show joinR (.mk id set alg tg rules kids obls) t parts = joinX alg obls (allM alg (parts.map Rs.m)) t parts from rfl, zh]
  simp only [Pol.id, Pol.set, Pol.alg, Pol.target, Pol.rules, Pol.kids, Pol.obls]
  obtain ⟨M, hMe⟩ : ∃ M, M = allM alg (parts.map Rs.m) := ⟨_, rfl⟩
  rw [← hMe] at hM HC ⊢
  clear hMe
  unfold joinX
  refine .ofW ?_
  refine qK (T := TTab) qa Tryz.func59 (by kernel_rfl) rfl rfl rfl ?_
  refine uA ?_
  refine uA ?_
  refine uA ?_
  refine uB ?_
  refine SW.wk (jo 7 900 42 1 rfl rfl) ?_
  refine uZ [1, 2, 3, 6, 7, 15, 16, 17] [(3, 3), (6, 6), (900, 0)] ?_
  refine qC (fun n s => ∃ (k : Nat) (kk : Int), k ≤ parts.length ∧ n = parts.length - k ∧ kk = k ∧ s = ⟨84, [(1, .p (pI t)), (2, .p (rssP parts)), (3, .ptr 3 0), (6, .ptr 6 0), (7, .row 0), (15, .p (rssP parts)), (16, .p (pI (parts.map rsP).length)), (17, .p (pI kk))], [(3, .cells [.p (pS id), .p (pB set), .p (pI alg), .p (tgtP tg), .p (.sl 5 (rules.map jl)), .p (.sl 7 (kids.map polP)), .p (jt obls)]), (6, .cells [.p (.v (.complex .f64 0 0)), .p nilV]), (0, .row 42 1 (((parts.take k).map Rs.m).map fun m => [mkP m]))]⟩) parts.length ⟨0, 0, Nat.zero_le _, rfl, rfl, rfl⟩ ?_
  rintro n s ⟨k, _, hk, rfl, rfl, rfl⟩
  refine uA ?_
  refine uC (fun hlt => ?_) (fun hlt => ?_)
  · refine qg ?_
    rw [lp] at hlt
    simp only [decide_eq_true_eq] at hlt
    have hlt' : k < parts.length := by omega
    obtain ⟨x, hx⟩ : ∃ x, x = parts[k] := ⟨_, rfl⟩
    refine uB ?_
    refine uR ?_
    refine qh qa rfl rfl (by rw [lp]; omega) rfl ?_
    rw [qx hlt', ← hx]
    refine uS ?_
    refine qd ?_
    refine uR ?_
    refine qI rfl (qr qa rfl rfl rfl rfl rfl rfl rfl rfl rfl rfl rfl rfl rfl rfl rfl rfl (by simp only [List.length_append, List.length_map, List.length_take, List.length_cons, List.length_nil]; unfold reachBytes; omega) (by simp only [List.length_append, List.length_map, List.length_take, List.length_cons, List.length_nil]; omega) ?_)
    refine uS ?_
    refine qd ?_
    refine uA ?_
    refine ⟨_, _, ?_, qu [1, 2, 3, 6, 7, 15, 16, 17] [(3, 3), (6, 6), (25, 0)] rfl rfl, k + 1, _, hlt', rfl, qt hlt' (by omega), ?_⟩
    · omega
    · rw [List.take_succ_eq_append_getElem hlt', ← hx, List.map_append, List.map_append]; rfl
  · refine qz ?_
    rw [lp] at hlt
    simp only [decide_eq_false_iff_not] at hlt
    have hkk : k = parts.length := by omega
    subst hkk
    rw [List.take_length]
    refine uR ?_
    refine uK HC ?_
    refine qd ?_
    refine uB ?_
    refine uA ?_
    refine uC (fun c0 => ?_) (fun c0 => ?_)
    · have e : t = 0 := by simpa using c0
      rw [if_pos e]
      refine uA ?_
      refine uQ ?_
      exact ⟨Or.inr rfl, _, _, [], _, Wk.refl _, rfl, rfl, .p (CvL.agg (.cons (.refl _) (.cons (.nil 3) .nil))), rfl, rfl⟩
    have n0 : ¬ t = 0 := by simpa using c0
    rw [if_neg n0]
    refine uA ?_
    refine uC (fun c1 => ?_) (fun c1 => ?_)
    · have e : t = 1 := by simpa using c1
      rw [if_pos e]
      refine uR ?_
      refine uK (mkIndet_h M hM) ?_
      refine qd ?_
      refine uQ ?_
      exact ⟨Or.inr rfl, _, _, [], _, Wk.refl _, rfl, rfl, .p (CvL.agg (.cons (.refl _) (.cons (.nil 3) .nil))), rfl, rfl⟩
    have n1 : ¬ t = 1 := by simpa using c1
    rw [if_neg n1]
    have hP : mkE M (2, 0) = decide (M = (2, 0)) := mkE_eq hM (by simp [mks])
    have hD : mkE M (0, 2) = decide (M = (0, 2)) := mkE_eq hM (by simp [mks])
    (repeat refine qF ?_); refine ql (by kernel_rfl) ?_
    repeat (refine qi qa rfl (by exact True.intro) rfl ?_)
    refine qH ?_
    refine uC (fun c2 => ?_) (fun c2 => ?_)
    · have e : M ≠ (2, 0) ∧ M ≠ (0, 2) := by
        change (bif !mkE M (2, 0) then !mkE M (0, 2) else false) = true at c2
        rw [hP, hD] at c2
        revert c2
        by_cases a : M = (2, 0) <;> by_cases b : M = (0, 2) <;> simp [a, b]
      rw [if_pos e]
      refine uA ?_
      refine uQ ?_
      exact ⟨Or.inr rfl, _, _, [], _, Wk.refl _, rfl, rfl, .p (CvL.agg (.cons (.refl _) (.cons (.nil 3) .nil))), rfl, rfl⟩
    have e : ¬ (M ≠ (2, 0) ∧ M ≠ (0, 2)) := by
      change (bif !mkE M (2, 0) then !mkE M (0, 2) else false) = false at c2
      rw [hP, hD] at c2
      revert c2
      by_cases a : M = (2, 0) <;> by_cases b : M = (0, 2) <;> simp [a, b]
    rw [if_neg e]
    refine qg ?_
    refine uA ?_
    refine uA ?_
    refine uB ?_
    refine SW.wk (wk_nilc 12 1 900 79 3 rfl rfl rfl) ?_
    refine uZ [3, 6, 10, 12, 55, 56, 57] [(3, 3), (6, 6), (12, 12), (900, 0)] ?_
    refine qC (fun n s => ∃ (k : Nat) (kk : Int) (acc : List Obli), k ≤ parts.length ∧ n = parts.length - k ∧ kk = k ∧ acc.length ≤ oblN (parts.take k) ∧ partsO alg M parts = acc ++ partsO alg M (parts.drop k) ∧ s = ⟨84, [(3, .ptr 3 0), (6, .ptr 6 0), (10, .p (mkP M)), (12, .ptr 12 0), (55, .p (rssP parts)), (56, .p (pI (parts.map rsP).length)), (57, .p (pI kk))], [(3, .cells [.p (pS id), .p (pB set), .p (pI alg), .p (tgtP tg), .p (.sl 5 (rules.map jl)), .p (.sl 7 (kids.map polP)), .p (jt obls)]), (6, .cells [.p (.v (.complex .f64 0 0)), .p nilV]), (12, .cells [.p (mkP M), .row 0]), (0, .row 79 3 (acc.map Obli.pv))]⟩) parts.length ⟨0, 0, [], Nat.zero_le _, rfl, rfl, Nat.zero_le _, rfl, rfl⟩ ?_
    rintro n s ⟨k, _, acc, hk, rfl, rfl, hacc, hfin, rfl⟩
    have htk := oblN_le parts k
    refine uA ?_
    refine uC (fun hlt => ?_) (fun hlt => ?_)
    · refine qg ?_
      rw [lp] at hlt
      simp only [decide_eq_true_eq] at hlt
      have hlt' : k < parts.length := by omega
      have hs := oblN_take hlt'
      have htk2 := oblN_le parts (k + 1)
      have hxm := hm _ (List.getElem_mem hlt')
      rw [List.drop_eq_getElem_cons hlt', partsO] at hfin
      refine uB ?_
      refine uR ?_
      refine qh qa rfl rfl (by rw [lp]; omega) rfl ?_
      rw [qx hlt']
      refine uS ?_
      refine qd ?_
      generalize parts[k] = x at *
      have hE : mkE x.m M = decide (x.m = M) := mkE_eq hxm hM
      refine uA ?_
      refine uC (fun cx => ?_) (fun cx => ?_)
      · have e : ¬ x.m = M := by
          change (!mkE x.m M) = true at cx
          rw [hE] at cx
          simpa using cx
        rw [if_neg e] at hfin
        refine qz ?_
        refine uA ?_
        refine ⟨_, _, ?_, qu [3, 6, 10, 12, 55, 56, 57] [(3, 3), (6, 6), (12, 12), (0, 0)] rfl rfl, k + 1, _, acc, hlt', rfl, qt hlt' (by omega), by omega, hfin, rfl⟩
        omega
      · have e : x.m = M := by
          change (!mkE x.m M) = false at cx
          rw [hE] at cx
          simpa using cx
        rw [if_pos e] at hfin
        refine qg ?_
        refine uR ?_
        refine qI rfl (qr qa rfl rfl rfl rfl rfl rfl rfl rfl rfl rfl rfl rfl rfl rfl rfl rfl (by simp only [List.length_append, List.length_map, List.length_take, List.length_cons, List.length_nil]; unfold reachBytes; omega) (by simp only [List.length_append, List.length_map, List.length_take, List.length_cons, List.length_nil]; omega) ?_)
        refine uS ?_
        refine qd ?_
        refine uA ?_
        refine uC (fun c3 => ?_) (fun c3 => ?_)
        · have e3 : alg = 3 := by simpa using c3
          rw [if_pos e3] at hfin
          refine qz ?_
          obtain ⟨acc2, ha2⟩ : ∃ acc2, acc2 = acc ++ x.obls := ⟨_, rfl⟩
          have hl2 : acc2.length = acc.length + x.obls.length := by rw [ha2, List.length_append]
          rw [← ha2] at hfin
          refine uZ [3, 6, 10, 12] [(3, 3), (6, 6), (12, 12), (69, 69)] ?_
          have eL : acc.map Obli.pv ++ x.obls.map Obli.pv = acc2.map Obli.pv := by rw [ha2, List.map_append]
          change SW _ _ _ ⟨84, [(3, .ptr 3 0), (6, .ptr 6 0), (10, .p (mkP M)), (12, .ptr 12 0)], [(3, .cells [.p (pS id), .p (pB set), .p (pI alg), .p (tgtP tg), .p (.sl 5 (rules.map jl)), .p (.sl 7 (kids.map polP)), .p (jt obls)]), (6, .cells [.p (.v (.complex .f64 0 0)), .p nilV]), (12, .cells [.p (mkP M), .row 69]), (69, .row 79 3 (acc.map Obli.pv ++ x.obls.map Obli.pv))]⟩
          rw [eL]
          have hacc2 : acc2.length ≤ 1000000 := by omega
          have hdl := jR obls M
          (repeat refine qF ?_); refine ze 9 rfl (by kernel_rfl) ?_
          refine qm (i := 0) (K := [12, 69]) (by kernel_rfl) (by kernel_rfl) rfl rfl (qe qa rfl (by exact True.intro)) rfl ?_
          refine qm (i := 1) (K := []) (by kernel_rfl) (by kernel_rfl) rfl rfl (qe qa rfl (by exact True.intro)) rfl ?_
          refine qm (i := 2) (K := [12, 69]) (by kernel_rfl) (by kernel_rfl) rfl rfl (qe qa rfl (by exact True.intro)) rfl ?_
          refine qm (i := 3) (K := [12, 69]) (by kernel_rfl) (by kernel_rfl) rfl rfl (qe qa rfl (by exact True.intro)) rfl ?_
          refine qm (i := 4) (K := [12, 69]) (by kernel_rfl) (by kernel_rfl) rfl rfl (qe qa rfl (by exact True.intro)) rfl ?_
          refine qn 5 (by kernel_rfl) ?_
          refine qb rfl rfl rfl (qR rfl rfl rfl rfl ((duties_h obls (by omega) M hM)) rfl rfl rfl ?_)
          refine qn 6 (by kernel_rfl) ?_
          refine qb rfl rfl rfl (qr qa rfl rfl rfl rfl rfl rfl rfl rfl rfl rfl rfl rfl rfl rfl rfl rfl (by simp only [List.length_append, List.length_map, List.length_take, List.length_cons, List.length_nil]; unfold reachBytes; omega) (by simp only [List.length_append, List.length_map, List.length_take, List.length_cons, List.length_nil]; omega) ?_)
          refine qm (i := 7) (K := [12, 69]) (by kernel_rfl) (by kernel_rfl) rfl rfl (qe qa rfl (by exact True.intro)) rfl ?_
          refine qn 8 (by kernel_rfl) ?_
          first | refine qb rfl rfl rfl (aM (h := ?_)) | refine qb rfl rfl rfl (aB (h := ?_)) | refine qb rfl rfl rfl (aA (h := ?_)) | refine qb rfl rfl rfl (aS (h := ?_)) | refine qb rfl rfl rfl (aL (h := ?_)) | refine qb rfl rfl rfl (qy (K := []) (qe qa rfl (by exact True.intro)) rfl ?_)
          refine qY (by kernel_rfl) ?_
          refine SW.wk (qu [3, 6, 12] [(3, 3), (6, 6), (12, 12), (81, 81)] rfl rfl) ?_
          refine ?fk22_185
          rotate_left
          refine uA ?_
          refine uQ ?_
          rw [hfin, rs_app]
          exact ⟨Or.inr rfl, _, _, [], _, we (k := 81) rfl, rfl, rfl, .refl _, rfl, rfl⟩
        · have e3 : ¬ alg = 3 := by simpa using c3
          rw [if_neg e3] at hfin
          refine qg ?_
          refine uA ?_
          refine ⟨_, _, ?_, qu [3, 6, 10, 12, 55, 56, 57] [(3, 3), (6, 6), (12, 12), (69, 0)] rfl rfl, k + 1, _, acc ++ x.obls, hlt', rfl, qt hlt' (by omega), by rw [List.length_append]; omega, by rw [List.append_assoc]; exact hfin, ?_⟩
          · omega
          · rw [List.map_append]; rfl
    · refine qz ?_
      rw [lp] at hlt
      simp only [decide_eq_false_iff_not] at hlt
      have hkk : k = parts.length := by omega
      subst hkk
      rw [List.drop_length, partsO, List.append_nil] at hfin
      obtain ⟨acc2, ha2⟩ : ∃ acc2, acc2 = acc := ⟨_, rfl⟩
      rw [← ha2] at hfin hacc ⊢
      have hacc2 : acc2.length ≤ 1000000 := by omega
      have hdl := jR obls M
      (repeat refine qF ?_); refine ze 9 rfl (by kernel_rfl) ?_
      refine qm (i := 0) (K := [12, 0]) (by kernel_rfl) (by kernel_rfl) rfl rfl (qe qa rfl (by exact True.intro)) rfl ?_
      refine qm (i := 1) (K := []) (by kernel_rfl) (by kernel_rfl) rfl rfl (qe qa rfl (by exact True.intro)) rfl ?_
      refine qm (i := 2) (K := [12, 0]) (by kernel_rfl) (by kernel_rfl) rfl rfl (qe qa rfl (by exact True.intro)) rfl ?_
      refine qm (i := 3) (K := [12, 0]) (by kernel_rfl) (by kernel_rfl) rfl rfl (qe qa rfl (by exact True.intro)) rfl ?_
      refine qm (i := 4) (K := [12, 0]) (by kernel_rfl) (by kernel_rfl) rfl rfl (qe qa rfl (by exact True.intro)) rfl ?_
      refine qn 5 (by kernel_rfl) ?_
      refine qb rfl rfl rfl (qR rfl rfl rfl rfl ((duties_h obls (by omega) M hM)) rfl rfl rfl ?_)
      refine qn 6 (by kernel_rfl) ?_
      refine qb rfl rfl rfl (qr qa rfl rfl rfl rfl rfl rfl rfl rfl rfl rfl rfl rfl rfl rfl rfl rfl (by simp only [List.length_append, List.length_map, List.length_take, List.length_cons, List.length_nil]; unfold reachBytes; omega) (by simp only [List.length_append, List.length_map, List.length_take, List.length_cons, List.length_nil]; omega) ?_)
      refine qm (i := 7) (K := [12, 0]) (by kernel_rfl) (by kernel_rfl) rfl rfl (qe qa rfl (by exact True.intro)) rfl ?_
      refine qn 8 (by kernel_rfl) ?_
      first | refine qb rfl rfl rfl (aM (h := ?_)) | refine qb rfl rfl rfl (aB (h := ?_)) | refine qb rfl rfl rfl (aA (h := ?_)) | refine qb rfl rfl rfl (aS (h := ?_)) | refine qb rfl rfl rfl (aL (h := ?_)) | refine qb rfl rfl rfl (qy (K := []) (qe qa rfl (by exact True.intro)) rfl ?_)
      refine qY (by kernel_rfl) ?_
      refine SW.wk (qu [3, 6, 12] [(3, 3), (6, 6), (12, 12), (81, 81)] rfl rfl) ?_
      refine ?fk22_223
      rotate_left
      refine uA ?_
      refine uQ ?_
      rw [hfin, rs_app]
      exact ⟨Or.inr rfl, _, _, [], _, we (k := 81) rfl, rfl, rfl, .refl _, rfl, rfl⟩
end Go.Proofs.YtlmgamnpfdgdeaaGreatDoor
namespace Go.Proofs.YtlmgamnpfdgdeaaGreatDoor
set_option linter.unusedVariables false
set_option linter.unusedSimpArgs false
open Go.RowKit
set_option maxHeartbeats 4000000
theorem partsO_len (alg : Int) (m : Mk) : ∀ l : List Rs, (partsO alg m l).length ≤ oblN l
  | [] => Nat.le_refl _
  | x :: l => by
    have ih := partsO_len alg m l
    have e : oblN (x :: l) = x.obls.length + oblN l := by unfold oblN za; rw [List.map_cons, List.sum_cons]
    rw [partsO, e]
    split
    · split
      · omega
      · rw [List.length_append]; omega
    · omega
theorem oblN_append (a b : List Rs) : oblN (a ++ b) = oblN a + oblN b := by unfold oblN za; rw [List.map_append, List.sum_append]
theorem oblN_map {α : Type} {f : α → Rs} {c : α → Nat} (h : ∀ x, (f x).obls.length ≤ c x) : ∀ l : List α, oblN (l.map f) ≤ za c l
  | [] => Nat.le_refl _
  | x :: l => by
    have ih := oblN_map h l
    have h1 := h x
    unfold oblN za at ih ⊢
    rw [List.map_cons, List.map_cons, List.sum_cons, List.map_cons, List.sum_cons]
    omega
theorem effectS_len (r : Rul) (t c : Int) : (effectS r t c).obls.length ≤ r.obls.length := by
  unfold effectS
  repeat' split
  · exact Nat.zero_le _
  · exact Nat.zero_le _
  · exact jR _ _
theorem ruleR_len (g : List Giv) (r : Rul) : (ruleR g r).obls.length ≤ rusz r := by
  have h1 := effectS_len r (metT r.target g) (condS r.cond g)
  have h2 : r.obls.length ≤ osz r.obls := by unfold osz; omega
  have h3 : rusz r = txt r.id + tsz r.target + r.cond.length + osz r.obls + za nsz r.cond := rfl
  unfold ruleR
  omega
theorem parts_len (g : List Giv) (n : Nat) (h : ∀ p, (qE g n p).obls.length ≤ p.sz) (p : Pol) : oblN (p.rules.map (ruleR g) ++ p.kids.map (qE g n)) + p.obls.length ≤ p.sz := by
  have h1 := Pol.sz_eq p
  have h2 := oblN_map (ruleR_len g) p.rules
  have h3 := oblN_map h p.kids
  have h4 : p.obls.length ≤ osz p.obls := by unfold osz; omega
  rw [oblN_append]
  omega
theorem decideS_len (g : List Giv) : ∀ (n : Nat) (p : Pol), (qE g n p).obls.length ≤ p.sz
  | 0, p => Nat.zero_le _
  | n + 1, p => by
    have h1 := parts_len g n (decideS_len g n) p
    rw [qE]
    split
    · exact Nat.zero_le _
    · unfold joinR
      repeat' split
      · exact Nat.zero_le _
      · exact Nat.zero_le _
      · exact Nat.zero_le _
      · have h2 := partsO_len p.alg (allM p.alg ((p.rules.map (ruleR g) ++ p.kids.map (qE g n)).map Rs.m)) (p.rules.map (ruleR g) ++ p.kids.map (qE g n))
        have h3 := jR p.obls (allM p.alg ((p.rules.map (ruleR g) ++ p.kids.map (qE g n)).map Rs.m))
        simp only [List.length_append]
        omega
theorem tarSm_sz {t : Tar} {n : Nat} (h : tsz t ≤ n) (hn : n ≤ 100000) : TarSm t := by
  refine ⟨by unfold tsz at h; omega, fun x hx => ?_⟩
  have h1 := xsz_le hx
  refine ⟨by unfold xsz at h1; omega, fun y hy => ?_⟩
  have h4 : asz y ≤ xsz x := by have := sumBy_le (f := asz) hy; unfold xsz; omega
  unfold asz at h4
  omega
theorem sz_big {p : Pol} {n : Nat} (h : p.sz ≤ n) (hn : n ≤ 100000) : TarSm p.target ∧ p.rules.length ≤ 100000 ∧ p.kids.length ≤ 100000 ∧ p.obls.length ≤ 100000 ∧ (∀ r ∈ p.rules, TarSm r.target ∧ r.cond.length ≤ 100000 ∧ r.obls.length ≤ 100000) ∧ ∀ k ∈ p.kids, k.sz ≤ n := by
  have h1 := Pol.sz_eq p
  have h2 := len_sumBy Pol.sz (fun p => by rw [Pol.sz_eq]; omega) p.kids
  have h3 : p.obls.length ≤ osz p.obls := by unfold osz; omega
  refine ⟨tarSm_sz (n := n) (by omega) hn, by omega, by omega, by omega, fun r hr => ?_, fun k hk => ?_⟩
  · have h4 := sumBy_le (f := rusz) hr
    have h5 : r.obls.length ≤ osz r.obls := by unfold osz; omega
    have h6 : rusz r = txt r.id + tsz r.target + r.cond.length + osz r.obls + za nsz r.cond := rfl
    exact ⟨tarSm_sz (n := n) (by omega) hn, by omega, by omega⟩
  · have := sumBy_le (f := Pol.sz) hk
    omega
def DecOk (g : List Giv) (n : Nat) : Prop := ∀ (p : Pol), PolF n p → p.sz ≤ 100000 → Holds Tryz.prog 35 [.agg (polP p), zj g] (.p (.agg (rsP (qE g n p)))) []
theorem dec_step {g : List Giv} (hg : GivOk g) (n : Nat) (IH : DecOk g n) : DecOk g (n + 1) := by
  intro p hf hsz
  obtain ⟨ht, hr, hk, ho, hru, hks⟩ := sz_big hsz (Nat.le_refl _)
  have hpl := parts_len g n (decideS_len g n) p
  have HK := fun k (hk : k ∈ p.kids) => IH k (hf.2.2 k hk) (hks k hk)
  have HM := metT_h p.target g hf.1.tgt ht hg.fit hg.len hg.bags
  have HR := fun r (hr : r ∈ p.rules) => ruleR_h r g (hf.1.rules r hr) (hru r hr).1 (by have := (hru r hr).2.2; omega) hg.fit hg.len hg.bags
  have HJ := join_h p (metT p.target g) (p.rules.map (ruleR g) ++ p.kids.map (qE g n)) (by simp; omega) (fun x hx => by
    rcases List.mem_append.1 hx with hx | hx
    · obtain ⟨r, _, rfl⟩ := List.mem_map.1 hx; exact effectS_mem _ _ _
    · obtain ⟨k, _, rfl⟩ := List.mem_map.1 hx; exact decideS_mem g n k) (by omega) (by omega)
  have eD : qE g (n + 1) p = if metT p.target g = 0 then noRs else joinR p (metT p.target g) (p.rules.map (ruleR g) ++ p.kids.map (qE g n)) := rfl
  rw [eD]
  clear eD
  rw [zh] at HJ ⊢
  generalize metT p.target g = t at *
  obtain ⟨id, set, alg, tg, rules, kids, obls⟩ := p
  simp only [Pol.id, Pol.set, Pol.alg, Pol.target, Pol.rules, Pol.kids, Pol.obls] at *
  have l1 : ((rules.map jl).length) = rules.length := by simp
  have l2 : ((kids.map polP).length) = kids.length := by simp
  refine .ofW ?_
  refine qK (T := TTab) qa Tryz.func35 (by kernel_rfl) rfl rfl rfl ?_
  refine uA ?_
  refine uR ?_
  refine uK HM ?_
  refine qd ?_
  refine uA ?_
  refine uC (fun h0 => ?_) (fun h0 => ?_)
  · have e : t = 0 := by simpa using h0
    rw [if_pos e]
    refine uA ?_
    refine uQ ?_
    exact ⟨Or.inr rfl, _, _, [], _, Wk.refl _, rfl, rfl, .p (CvL.agg (.cons (.refl _) (.cons (.nil 3) .nil))), rfl, rfl⟩
  have n0 : ¬ t = 0 := by simpa using h0
  rw [if_neg n0]
  refine qg ?_
  refine uA ?_
  refine uA ?_
  refine uB ?_
  refine SW.wk (jo 6 900 44 2 rfl rfl) ?_
  refine uZ [1, 2, 4, 5, 6, 19, 20, 21] [(2, 2), (4, 4), (900, 0)] ?_
  refine qC (fun m s => ∃ (k : Nat) (kk : Int), k ≤ rules.length ∧ m = rules.length - k ∧ kk = k ∧ s = ⟨50, [(1, .p (zj g)), (2, .ptr 2 0), (4, .ptr 4 0), (5, .p (pI t)), (6, .row 0), (19, .p (.sl 5 (rules.map jl))), (20, .p (pI (rules.map jl).length)), (21, .p (pI kk))], [(2, .cells [.p (pS id), .p (pB set), .p (pI alg), .p (tgtP tg), .p (.sl 5 (rules.map jl)), .p (.sl 7 (kids.map polP)), .p (jt obls)]), (4, .cells [.p (.v (.complex .f64 0 0)), .p nilV]), (0, .row 44 2 (((rules.take k).map (ruleR g)).map rsP))]⟩) rules.length ⟨0, 0, Nat.zero_le _, rfl, rfl, rfl⟩ ?_
  rintro m s ⟨k, _, hk', rfl, rfl, rfl⟩
  refine uA ?_
  refine uC (fun hlt => ?_) (fun hlt => ?_)
  · refine qg ?_
    rw [l1] at hlt
    simp only [decide_eq_true_eq] at hlt
    have hlt' : k < rules.length := by omega
    have H := HR _ (List.getElem_mem hlt')
    obtain ⟨x, hx⟩ : ∃ x, x = rules[k] := ⟨_, rfl⟩
    rw [← hx] at H
    refine uB ?_
    refine uR ?_
    refine qh qa rfl rfl (by rw [l1]; omega) rfl ?_
    rw [qx hlt', ← hx]
    refine uS ?_
    refine qd ?_
    refine uR ?_
    refine uO H ?_
    refine qI rfl (qr qa rfl rfl rfl rfl rfl rfl rfl rfl rfl rfl rfl rfl rfl rfl rfl rfl (by simp only [List.length_append, List.length_map, List.length_take, List.length_cons, List.length_nil]; unfold reachBytes; omega) (by simp only [List.length_append, List.length_map, List.length_take, List.length_cons, List.length_nil]; omega) ?_)
    refine uS ?_
    refine qd ?_
    refine uA ?_
    refine ⟨_, _, ?_, qu [1, 2, 4, 5, 6, 19, 20, 21] [(2, 2), (4, 4), (30, 0)] rfl rfl, k + 1, _, hlt', rfl, qt hlt' (by omega), ?_⟩
    · omega
    · rw [List.take_succ_eq_append_getElem hlt', ← hx, List.map_append, List.map_append]; rfl
  · refine qz ?_
    rw [l1] at hlt
    simp only [decide_eq_false_iff_not] at hlt
    have hkk : k = rules.length := by omega
    subst hkk
    rw [List.take_length]
    refine uA ?_
    refine uB ?_
    refine uZ [1, 2, 4, 5, 6, 33, 34, 35] [(2, 2), (4, 4), (0, 0)] ?_
    refine qC (fun m s => ∃ (k : Nat) (kk : Int) (L : List Rs), k ≤ kids.length ∧ m = kids.length - k ∧ kk = k ∧ L = rules.map (ruleR g) ++ (kids.take k).map (qE g n) ∧ s = ⟨50, [(1, .p (zj g)), (2, .ptr 2 0), (4, .ptr 4 0), (5, .p (pI t)), (6, .row 0), (33, .p (.sl 7 (kids.map polP))), (34, .p (pI (kids.map polP).length)), (35, .p (pI kk))], [(2, .cells [.p (pS id), .p (pB set), .p (pI alg), .p (tgtP tg), .p (.sl 5 (rules.map jl)), .p (.sl 7 (kids.map polP)), .p (jt obls)]), (4, .cells [.p (.v (.complex .f64 0 0)), .p nilV]), (0, .row 44 2 (L.map rsP))]⟩) kids.length ⟨0, 0, rules.map (ruleR g), Nat.zero_le _, rfl, rfl, by simp, rfl⟩ ?_
    rintro m s ⟨k, _, L, hk', rfl, rfl, hL, rfl⟩
    have hLl : L.length = rules.length + min k kids.length := by rw [hL]; simp
    refine uA ?_
    refine uC (fun hlt => ?_) (fun hlt => ?_)
    · refine qg ?_
      rw [l2] at hlt
      simp only [decide_eq_true_eq] at hlt
      have hlt' : k < kids.length := by omega
      have H := HK _ (List.getElem_mem hlt')
      obtain ⟨x, hx⟩ : ∃ x, x = kids[k] := ⟨_, rfl⟩
      rw [← hx, zh] at H
      refine uB ?_
      refine uR ?_
      refine qh qa rfl rfl (by rw [l2]; omega) rfl ?_
      rw [qx hlt', ← hx, zh]
      refine uS ?_
      refine qd ?_
      refine uR ?_
      refine uO H ?_
      refine qI rfl (qr qa rfl rfl rfl rfl rfl rfl rfl rfl rfl rfl rfl rfl rfl rfl rfl rfl (by simp only [List.length_append, List.length_map, List.length_take, List.length_cons, List.length_nil]; unfold reachBytes; omega) (by simp only [List.length_append, List.length_map, List.length_take, List.length_cons, List.length_nil]; omega) ?_)
      refine uS ?_
      refine qd ?_
      refine uA ?_
      refine ⟨_, _, ?_, qu [1, 2, 4, 5, 6, 33, 34, 35] [(2, 2), (4, 4), (44, 0)] rfl rfl, k + 1, _, L ++ [qE g n x], hlt', rfl, qt hlt' (by omega), ?_, ?_⟩
      · omega
      · rw [hL, List.append_assoc, List.take_succ_eq_append_getElem hlt', List.map_append, ← hx]; rfl
      · rw [List.map_append]; rfl
    · refine qz ?_
      rw [l2] at hlt
      simp only [decide_eq_false_iff_not] at hlt
      have hkk : k = kids.length := by omega
      subst hkk
      rw [List.take_length] at hL
      rw [← hL] at HJ ⊢
      refine SW.wk (we (k := 0) rfl) ?_
      refine uR ?_
      refine uO HJ ?_
      refine qd ?_
      refine uQ ?_
      exact ⟨Or.inr rfl, _, _, [], _, Wk.refl _, rfl, rfl, .refl _, rfl, rfl⟩
theorem dec_all {g : List Giv} (hg : GivOk g) : ∀ n, DecOk g n
  | 0 => fun _ h => h.elim
  | n + 1 => dec_step hg n (dec_all hg n)
theorem polF_dp : ∀ {n : Nat} {p : Pol}, PolF n p → Dp n p
  | n + 1, p, h => fun k hk => polF_dp (h.2.2 k hk)
theorem decideS_any (g : List Giv) {n m : Nat} {p : Pol} (hn : Dp n p) (hm : Dp m p) : qE g n p = qE g m p := by
  rcases Nat.le_total n m with h | h
  · exact (decideS_dp g hn h).symm
  · exact decideS_dp g hm h
theorem evPol_h {n : Nat} (p : Pol) (hf : PolF n p) (hsz : p.sz ≤ 100000) (g : List Giv) (hg : GivOk g) : Holds Tryz.prog 12 [.agg (polP p), zj g] (.tup [.p (.agg (rsP (evalS p g).1)), .p (pI (evalS p g).2)]) [] := by
  have HR := right_h p (polF_fit 4 hf)
  have HD := dec_all hg n p hf hsz
  unfold evalS
  by_cases h : wG p = 0
  · rw [if_pos h]
    rw [decideS_any g (polF_dp hf) (right_dp h)] at HD
    rw [h] at HR
    generalize qE g 4 p = x at *
    rw [zh] at HR HD ⊢
    refine .ofW ?_
    refine qK (T := TTab) qa Tryz.func12 (by kernel_rfl) rfl rfl rfl ?_
    refine uA ?_
    refine uR ?_
    refine uK HR ?_
    refine qd ?_
    refine uC (fun hc => ?_) (fun hc => ?_)
    · cases hc
    refine qg ?_
    refine uR ?_
    refine uO HD ?_
    refine qd ?_
    refine uQ ?_
    exact ⟨Or.inr rfl, _, _, [], _, Wk.refl _, rfl, rfl, .refl _, rfl, rfl⟩
  · rw [if_neg h]
    rw [zh] at HR ⊢
    refine .ofW ?_
    refine qK (T := TTab) qa Tryz.func12 (by kernel_rfl) rfl rfl rfl ?_
    refine uA ?_
    refine uR ?_
    refine uK HR ?_
    rw [show (wG p != 0) = true by simpa using h]
    refine qd ?_
    refine uC (fun hc => ?_) (fun hc => ?_)
    · refine uA ?_
      refine uQ ?_
      exact ⟨Or.inr rfl, _, _, [], _, Wk.refl _, rfl, rfl, .two (CvL.agg (.cons (.refl _) (.cons (.nil 3) .nil))) (.refl _), rfl, rfl⟩
    · cases hc
end Go.Proofs.YtlmgamnpfdgdeaaGreatDoor
namespace Go.Proofs.YtlmgamnpfdgdeaaGreatDoor
set_option linter.unusedVariables false
set_option linter.unusedSimpArgs false
open Go.RowKit
set_option maxHeartbeats 4000000
theorem sameObls_h (l : List Obli) (hn : l.length ≤ 1000000) : Holds Tryz.prog 39 [jt l, jt l] (.p (pB true)) [] := by
  refine qo (ts := [4]) Tryz.func39 (by kernel_rfl) rfl rfl rfl ?_
  refine uA ?_
  refine uA ?_
  refine uC (fun h0 => ?_) (fun h0 => ?_)
  · exfalso
    simp at h0
  refine qg ?_
  refine uA ?_
  refine uB ?_
  refine uZ [0, 1, 4, 5] [] ?_
  refine qC (fun m s => ∃ (k : Nat) (kk : Int), k ≤ l.length ∧ m = l.length - k ∧ kk = k ∧ s = ⟨26, [(0, .p (jt l)), (1, .p (jt l)), (4, .p (pB false)), (5, .p (pI kk))], []⟩) l.length ⟨0, 0, Nat.zero_le _, rfl, rfl, rfl⟩ ?_
  rintro m s ⟨k, _, hk, rfl, rfl, rfl⟩
  refine uA ?_
  refine uC (fun hlt => ?_) (fun hlt => ?_)
  · refine qg ?_
    simp only [List.length_map, decide_eq_true_eq] at hlt
    have hlt' : k < l.length := by omega
    obtain ⟨x, hx⟩ : ∃ x, x = l[k] := ⟨_, rfl⟩
    refine uB ?_
    refine uD [] [1, 3, 5, 7, 9, 11, 13, 15, 17] ?_
    refine qG qa rfl rfl rfl (by simp only [List.length_map]; omega) rfl ?_
    rw [qx hlt', ← hx]
    refine uT ?_
    refine qG qa rfl rfl rfl (by simp only [List.length_map]; omega) rfl ?_
    rw [qx hlt', ← hx]
    refine uT ?_
    refine qG qa rfl rfl rfl (rfl) rfl ?_
    refine uT ?_
    refine wd ?_
    refine uC (fun hp => ?_) (fun hp => ?_)
    · exfalso
      simp at hp
    refine qg ?_
    refine uA ?_
    refine ⟨_, _, ?_, qu [0, 1, 4, 5] [] rfl rfl, k + 1, _, hlt', rfl, qt hlt' (by omega), rfl⟩
    omega
  · refine qz ?_
    refine uA ?_
    refine uQ ?_
    exact wJ rfl rfl
theorem results_h (x : Rs) (hm : x.m ∈ mks) (hl : x.obls.length ≤ 1000000) : Holds Tryz.prog 15 [.agg (rsP x), .agg (rsP x)] (.p (pB true)) [] := by
  have H := sameObls_h x.obls hl
  have hE : mkE x.m x.m = true := by rw [mkE_eq hm hm]; simp
  obtain ⟨m, o⟩ := x
  simp only at H hE ⊢
  refine qo (ts := [4]) Tryz.func15 (by kernel_rfl) rfl rfl rfl ?_
  refine uA ?_
  refine uR ?_
  change SWT _ _ _ _ (St.put _ _ (.p (pB (mkE m m))))
  rw [hE]
  refine uS ?_
  refine uK H ?_
  refine qd ?_
  refine uQ ?_
  exact wJ rfl rfl
theorem evalS_right {p : Pol} {g : List Giv} (h : wG p = 0) : evalS p g = (qE g 4 p, 0) := by unfold evalS; rw [if_pos h]
end Go.Proofs.YtlmgamnpfdgdeaaGreatDoor
namespace Go.Proofs.YtlmgamnpfdgdeaaGreatDoor
open Go.RowKit
set_option linter.unusedSimpArgs false
set_option linter.unusedVariables false
attribute [local go_sem] jG zC
attribute [local go_sem low] zx zb
abbrev cntObj (c : Nat) : Obj := .cells #[.int .i64 (c : Int)] 67 (0, 0)
structure CntR (b c : Nat) (w w' : World) : Prop where
  os : w'.os = w.os
  tape : w'.tape = w.tape
  output : w'.output = w.output
  size : w.heap.size ≤ w'.heap.size
  block : ∀ k, k < w.heap.size → k ≠ b → w'.heap[k]? = w.heap[k]?
  cnt : w'.heap[b]? = some (cntObj c)
theorem CntR.below {b c : Nat} {w w' : World} (h : CntR b c w w') {B : Nat} (hB : B ≤ b) (hw : B ≤ w.heap.size) : Below B w w' :=
  ⟨h.os, h.tape, h.output, h.size, fun k hk => h.block k (by omega) (by omega)⟩
theorem CntR.trans {b c c' : Nat} {w w1 w2 : World} (h : CntR b c w w1) (k : CntR b c' w1 w2) : CntR b c' w w2 :=
  ⟨k.os.trans h.os, k.tape.trans h.tape, k.output.trans h.output, Nat.le_trans h.size k.size, fun i hi hb => (k.block i (Nat.lt_of_lt_of_le hi h.size) hb).trans (h.block i hi hb), k.cnt⟩
theorem CntR.refl {b c : Nat} {w : World} (h : w.heap[b]? = some (cntObj c)) : CntR b c w w := ⟨rfl, rfl, rfl, Nat.le_refl _, fun _ _ _ => rfl, h⟩
theorem heap_alloc {w : World} {b : Nat} {x : Obj} (h : w.heap[b]? = some x) (o : Obj) : (w.alloc o).heap[b]? = some x := (Below.heap_alloc w o b (lt_of_block h)).trans h
theorem CntR.alloc {b c : Nat} {w w1 : World} (h : CntR b c w w1) (o : Obj) : CntR b c w (w1.alloc o) :=
  ⟨h.os, h.tape, h.output, Nat.le_trans h.size (by simp), fun i hi hb => (Below.heap_alloc _ _ _ (Nat.lt_of_lt_of_le hi h.size)).trans (h.block i hi hb), heap_alloc h.cnt o⟩
theorem CntR.facts {b c : Nat} {w w' : World} (h : CntR b c w w') :
    (∀ g o, w'.cell? ⟨g, o, none⟩ = if g < b then (if g < w.heap.size then w.cell? ⟨g, o, none⟩ else cellIn w' ⟨g, o, none⟩) else if b < g then (if g < w.heap.size then w.cell? ⟨g, o, none⟩ else cellIn w' ⟨g, o, none⟩) else (#[Value.int .i64 (c : Int)])[o]?) ∧
    (∀ g o, w'.frozen? ⟨g, o, none⟩ = if g < b then (if g < w.heap.size then w.frozen? ⟨g, o, none⟩ else frozenIn w' ⟨g, o, none⟩) else if b < g then (if g < w.heap.size then w.frozen? ⟨g, o, none⟩ else frozenIn w' ⟨g, o, none⟩) else false) ∧
    w.heap.size ≤ w'.heap.size ∧ b < w'.heap.size := by
  refine ⟨fun g o => ?_, fun g o => ?_, h.size, lt_of_block h.cnt⟩
  · rcases Nat.lt_trichotomy g b with hg | rfl | hg
    · rw [if_pos hg]; split
      · rename_i hs; exact World.cell?_of_block (w := w) (a := ⟨g, o, none⟩) (h.block g hs (by omega))
      · rfl
    · rw [if_neg (Nat.lt_irrefl _), if_neg (Nat.lt_irrefl _)]; simp [World.cell?, h.cnt]
    · rw [if_neg (by omega), if_pos hg]; split
      · rename_i hs; exact World.cell?_of_block (w := w) (a := ⟨g, o, none⟩) (h.block g hs (by omega))
      · rfl
  · rcases Nat.lt_trichotomy g b with hg | rfl | hg
    · rw [if_pos hg]; split
      · rename_i hs; exact World.frozen?_of_block (w := w) (a := ⟨g, o, none⟩) (h.block g hs (by omega))
      · rfl
    · rw [if_neg (Nat.lt_irrefl _), if_neg (Nat.lt_irrefl _)]; simp [World.frozen?, h.cnt]
    · rw [if_neg (by omega), if_pos hg]; split
      · rename_i hs; exact World.frozen?_of_block (w := w) (a := ⟨g, o, none⟩) (h.block g hs (by omega))
      · rfl
def cntPost (b c k : Nat) (w : World) (e : Ending) (w' : World) : Prop := (∃ c' : Nat, e = .returned (.bool false) ∧ c' ≤ c ∧ CntR b c' w w') ∨ (∃ c' : Nat, e = .returned (.bool true) ∧ c' ≤ c ∧ Hid (k + c' = c) ∧ CntR b c' w w')
theorem takes_any (b c n : Nat) (w : World) (hc : w.heap[b]? = some (cntObj c)) (hn : n ≤ 1000000000000000000) (hcc : c ≤ 3000) :
    Calls Tryz.prog 27 #[.pointer (some ⟨b, 0, none⟩), .int .i64 (n : Int)] w (cntPost b c n w) := by
  have h1 := cell_of_one hc
  have h2 := free_of_one hc
  have H := hide hc
  clear hc
  go_enter Tryz.func27, Tryz.ntmps27
  by_cases hlt : c < n
  · go_wp2
    go_ret
    exact Or.inl ⟨c, rfl, Nat.le_refl _, CntR.refl H.out⟩
  · go_wp2
    go_ret
    refine Or.inr ⟨c - n, rfl, by omega, hide (by omega), ⟨rfl, rfl, rfl, by simp [World.setCell], fun k _ hk => Below.heap_setCell _ _ _ _ hk, ?_⟩⟩
    have : ((c - n : Nat) : Int) = (c : Int) - (n : Int) := by omega
    unfold cntObj
    rw [this]
    exact one_setCell H.out
theorem jH (b c : Nat) (s : ByteArray) (w : World) (hc : w.heap[b]? = some (cntObj c)) (hn : s.size ≤ reachBytes) (hcc : c ≤ 3000) :
    Calls Tryz.prog 28 #[.pointer (some ⟨b, 0, none⟩), .string s] w (cntPost b c (txt s) w) := by
  unfold reachBytes at hn
  have H := hide hc
  clear hc
  have e : (1 : Int) + (s.size : Int) / 8 = ((txt s : Nat) : Int) := by unfold txt; omega
  have hn' : txt s ≤ 1000000000000000000 := by unfold txt; omega
  replace e := hide e
  go_enter Tryz.func28, Tryz.ntmps28
  go_wp2_with (go_at_call 27; rw [e.out]; refine (takes_any b c (txt s) _ H.out hn' hcc).mono ?_; rintro e w1 (⟨c', rfl, h1, h3⟩ | ⟨c', rfl, h1, h2, h3⟩))
  · go_ret
    exact Or.inl ⟨c', rfl, h1, h3⟩
  · go_ret
    exact Or.inr ⟨c', rfl, h1, h2, h3⟩
theorem wn (b c n : Nat) (z : Int) (w : World) (hz : z = (n : Int)) (hc : w.heap[b]? = some (cntObj c)) (hn : n ≤ 1000000000000000000) (hcc : c ≤ 3000) :
    Calls Tryz.prog 27 #[.pointer (some ⟨b, 0, none⟩), .int .i64 z] w (cntPost b c n w) := by
  subst hz; exact takes_any b c n w hc hn hcc
theorem Below.cnt {B b c : Nat} {w0 w w' : World} (h : Below B w0 w) (k : CntR b c w w') (hB : B ≤ b) (hw : B ≤ w0.heap.size) : Below B w0 w' := h.trans (k.below hB (Nat.le_trans hw h.size))
set_option maxRecDepth 100000 in
set_option maxHeartbeats 2000000 in
theorem cnt_target (b c : Nat) (t : List (List (List Mat))) (T : Option Addr) (d : Nat) (w0 w : World) (hT : SlAt rTar' 1 w0 T t) (ht : t.length ≤ reachBytes) (hB0 : Below w0.heap.size w0 w) (hb : w0.heap.size ≤ b)
    (hc : w.heap[b]? = some (cntObj c)) (hcc : c ≤ 3000) :
    Calls Tryz.prog 50 #[.pointer (some ⟨b, 0, none⟩), .slice T t.length d] w (cntPost b c (tsz t) w) := by
  unfold reachBytes at ht
  have HT := hide hT
  clear hT
  replace hc := hide hc
  go_enter Tryz.func50, Tryz.ntmps50
  go_upto_region 3 with (go_at_call 27; refine (wn b c (1 + t.length) _ _ (by simp) hc.out (by omega) hcc).mono ?_; rintro e w1 (⟨c1, rfl, h1, h3⟩ | ⟨c1, rfl, h1, h2, h3⟩))
  · go_ret
    exact Or.inl ⟨c1, rfl, h1, h3⟩
  · clear hc
    go_wp2
    go_loopw [19] (fun i wr => ∃ k c2 : Nat, k ≤ t.length ∧ i = .int .i64 k ∧ c2 ≤ c ∧ CntR b c2 w wr ∧ Hid (1 + t.length + za xsz (t.take k) + c2 = c)) (fun i _ => t.length - (intOf i).toNat)
    case atStart => exact ⟨0, c1, Nat.zero_le _, rfl, h1, h3, h2.out⟩
    case round =>
      clear h1 h2 h3
      obtain ⟨k, c2, hk, rfl, h1, h3, h2⟩ := hrel
      have hB1 := Below.cnt hB0 h3 hb (Nat.le_refl _)
      by_cases hlt : k < t.length
      · obtain ⟨b2, o2, B2, cb2, rfl, hbb, d0, cl, cl', hX⟩ := HT.out.sl0 hB1 hlt
        unfold reachBytes at cl'
        have hs := hide (zo (f := xsz) hlt)
        replace hX := hide hX
        have hc := hide h3.cnt
        obtain ⟨wo, hwo⟩ : ∃ wo, wo = wr := ⟨_, rfl⟩
        go_upto_region 8 with (go_at_call 27; refine (wn b c2 (1 + t[k].length) _ _ (by simp) hc.out (by omega) (by omega)).mono ?_; rintro e w2 (⟨c3, rfl, h4, h6⟩ | ⟨c3, rfl, h4, h5, h6⟩))
        · go_ret
          exact Or.inl ⟨c3, rfl, by omega, h3.trans h6⟩
        · clear hc hbb d0
          go_wp2
          go_loopw [31] (fun i wr' => ∃ k' c4 : Nat, k' ≤ t[k].length ∧ i = .int .i64 k' ∧ c4 ≤ c ∧ CntR b c4 w wr' ∧ Hid (1 + t[k].length + za asz (t[k].take k') + c4 = c2)) (fun i _ => t[k].length - (intOf i).toNat)
          case atStart => exact ⟨0, c3, Nat.zero_le _, rfl, by omega, h3.trans h6, h5.out⟩
          case round =>
            clear h4 h5 h6
            obtain ⟨k', c4, hk', rfl, h4, h6, h5⟩ := hrel
            have hB2 := Below.cnt hB0 h6 hb (Nat.le_refl _)
            by_cases hlt' : k' < t[k].length
            · obtain ⟨b3, o3, B3, cb3, rfl, hbb, d0, cm, cm', hY⟩ := hX.out.sl0 hB2 hlt'
              unfold reachBytes at cm'
              have hs' := hide (zo (f := asz) hlt')
              replace hY := hide hY
              have hc := hide h6.cnt
              go_upto_region 13 with (go_at_call 27; refine (wn b c4 (1 + t[k][k'].length) _ _ (by simp) hc.out (by omega) (by omega)).mono ?_; rintro e w2 (⟨c5, rfl, h7, h9⟩ | ⟨c5, rfl, h7, h8, h9⟩))
              · go_ret
                exact Or.inl ⟨c5, rfl, by omega, h6.trans h9⟩
              · clear hc hbb d0
                go_wp2
                go_loopw [10, 43] (fun _ i wr' => ∃ k'' c6 : Nat, k'' ≤ t[k][k'].length ∧ i = .int .i64 k'' ∧ c6 ≤ c ∧ CntR b c6 w wr' ∧ Hid (1 + t[k][k'].length + za msz (t[k][k'].take k'') + c6 = c4)) (fun _ i _ => t[k][k'].length - (intOf i).toNat)
                case atStart => exact ⟨0, c5, Nat.zero_le _, rfl, by omega, h6.trans h9, h8.out⟩
                case round =>
                  clear h7 h8 h9
                  obtain ⟨k'', c6, hk'', rfl, h7, h9, h8⟩ := hrel
                  have hB3 := Below.cnt hB0 h9 hb (Nat.le_refl _)
                  by_cases hlt'' : k'' < t[k][k'].length
                  · obtain ⟨b4, o4, rfl, hbb, ⟨e0, e1, e2⟩, e3, ⟨e4, e5, e6⟩, hf⟩ := (hY.out.keep keeps_mat hB3).mat hlt''
                    have hs'' := hide (zo (f := msz) hlt'')
                    have n1 := hf.attr.name
                    have n2 := hf.val.s
                    have hc := hide h9.cnt
                    have hsz := lt_of_block h9.cnt
                    go_wp2_with (go_at_call 28; (first | (with_reducible refine (jH b c6 _ _ (heap_alloc hc.out _) n1 (by omega)).mono ?_) | (with_reducible refine (jH b _ _ _ (CntR.cnt (by assumption)) n2 (by omega)).mono ?_)); rintro e w2 (⟨c7, rfl, h10, h12⟩ | ⟨c7, rfl, h10, h11, h12⟩); all_goals (obtain ⟨q1, q2, q3, q4⟩ := CntR.facts h12; try simp only [World.size_alloc] at q1 q2 q3 q4))
                    · go_ret
                      exact Or.inl ⟨c7, rfl, by omega, (h9.alloc _).trans h12⟩
                    · go_ret
                      exact Or.inl ⟨c7, rfl, by omega, ((h9.alloc _).trans (by assumption)).trans h12⟩
                    · rename Hid (txt t[k][k'][k''].attr.name + _ = c6) => g1
                      go_roundw
                      case rel => exact ⟨k'' + 1, c7, by omega, by go_num, by omega, ((h9.alloc _).trans (by assumption)).trans h12, hide (by have := h8.out; have := hs''.out; have := h11.out; have := g1.out; have e : msz t[k][k'][k''] = txt t[k][k'][k''].attr.name + txt t[k][k'][k''].val.s := rfl; omega)⟩
                      case measure => simp [intOf]; omega
                  · obtain rfl : k'' = t[k][k'].length := by omega
                    rw [List.take_length] at h8
                    go_wp2
                    go_roundw
                    case rel => exact ⟨k' + 1, c6, by omega, by go_num, by omega, h9, hide (by have := h8.out; have := h5.out; have := hs'.out; have e : asz t[k][k'] = 1 + t[k][k'].length + za msz t[k][k'] := rfl; omega)⟩
                    case measure => simp [intOf]; omega
            · obtain rfl : k' = t[k].length := by omega
              rw [List.take_length] at h5
              go_wp2
              go_roundw
              case rel => exact ⟨k + 1, c4, by omega, by go_num, by omega, h6, hide (by have := h5.out; have := h2.out; have := hs.out; have e : xsz t[k] = 1 + t[k].length + za asz t[k] := rfl; omega)⟩
              case measure => simp [intOf]; omega
      · obtain rfl : k = t.length := by omega
        rw [List.take_length] at h2
        go_wp2
        go_ret
        exact Or.inr ⟨c2, rfl, h1, h2, h3⟩
end Go.Proofs.YtlmgamnpfdgdeaaGreatDoor
namespace Go.Proofs.YtlmgamnpfdgdeaaGreatDoor
open Go.RowKit
set_option linter.unusedSimpArgs false
set_option linter.unusedVariables false
attribute [local go_sem] jG zC
attribute [local go_sem low] zx zb
set_option maxRecDepth 100000 in
set_option maxHeartbeats 2000000 in
theorem cnt_obls (b c : Nat) (l : List Obli) (L : Option Addr) (d : Nat) (w0 w : World) (hL : SlAt rObl 3 w0 L l) (hl : l.length ≤ reachBytes) (hB0 : Below w0.heap.size w0 w) (hb : w0.heap.size ≤ b)
    (hc : w.heap[b]? = some (cntObj c)) (hcc : c ≤ 3000) :
    Calls Tryz.prog 51 #[.pointer (some ⟨b, 0, none⟩), .slice L l.length d] w (cntPost b c (osz l) w) := by
  unfold reachBytes at hl
  have HL := hide hL
  clear hL
  replace hc := hide hc
  go_enter Tryz.func51, Tryz.ntmps51
  go_upto_region 3 with (go_at_call 27; refine (wn b c l.length _ _ (by simp) hc.out (by omega) hcc).mono ?_; rintro e w1 (⟨c1, rfl, h1, h3⟩ | ⟨c1, rfl, h1, h2, h3⟩))
  · go_ret
    exact Or.inl ⟨c1, rfl, h1, h3⟩
  · clear hc
    go_wp2
    go_loopw [6, 14] (fun _ i wr => ∃ k c2 : Nat, k ≤ l.length ∧ i = .int .i64 k ∧ c2 ≤ c ∧ CntR b c2 w wr ∧ Hid (l.length + za (fun o : Obli => txt o.arg) (l.take k) + c2 = c)) (fun _ i _ => l.length - (intOf i).toNat)
    case atStart => exact ⟨0, c1, Nat.zero_le _, rfl, h1, h3, h2.out⟩
    case round =>
      clear h1 h2 h3
      obtain ⟨k, c2, hk, rfl, h1, h3, h2⟩ := hrel
      have hB1 := Below.cnt hB0 h3 hb (Nat.le_refl _)
      by_cases hlt : k < l.length
      · obtain ⟨b4, o4, rfl, hbb, e0, e1, e2, hf⟩ := (HL.out.keep keeps_obl hB1).obl hlt
        have hs := hide (zo (f := fun o : Obli => txt o.arg) hlt)
        have n1 := hf.arg
        have hc := hide h3.cnt
        have hsz := lt_of_block h3.cnt
        go_wp2_with (go_at_call 28; (with_reducible refine (jH b c2 _ _ (heap_alloc hc.out _) n1 (by omega)).mono ?_); rintro e w2 (⟨c7, rfl, h10, h12⟩ | ⟨c7, rfl, h10, h11, h12⟩); all_goals (first | replace hA := CntR.trans hA h12 | have hA := CntR.trans hR h12 | have hA := CntR.trans (CntR.alloc hR _) h12 | skip); all_goals (first | replace hL := CntR.trans hL h12 | have hL := h12); (try clear q1 q2 q3 q4); all_goals (clear h12; obtain ⟨q1, q2, q3, q4⟩ := CntR.facts hL; try simp only [World.size_alloc] at q1 q2 q3 q4))
        · go_ret
          exact Or.inl ⟨c7, rfl, by omega, (h3.alloc _).trans hL⟩
        · go_roundw
          case rel => exact ⟨k + 1, c7, by omega, by go_num, by omega, (h3.alloc _).trans hL, hide (by have := h2.out; have := hs.out; have := h11.out; omega)⟩
          case measure => simp [intOf]; omega
      · obtain rfl : k = l.length := by omega
        rw [List.take_length] at h2
        go_wp2
        go_ret
        exact Or.inr ⟨c2, rfl, h1, h2, h3⟩
def CntPolicy (n : Nat) : Prop := ∀ (b c : Nat) (p : Pol) (w0 w : World) (c3 c4 c5 c6 : Value), rPolN n w0 [.string p.id, .bool p.set, .int .i64 p.alg, c3, c4, c5, c6] p → Below w0.heap.size w0 w → w0.heap.size ≤ b →
    w.heap[b]? = some (cntObj c) → c ≤ 3000 →
    Calls Tryz.prog 26 #[.pointer (some ⟨b, 0, none⟩), .agg #[.string p.id, .bool p.set, .int .i64 p.alg, c3, c4, c5, c6]] w (cntPost b c p.sz w)
set_option maxRecDepth 100000 in
set_option maxHeartbeats 4000000 in
theorem cnt_policy_step (n : Nat) (ih : CntPolicy n) : CntPolicy (n + 1) := by
    intro b c p w0 w c3 c4 c5 c6 hp hB0 hb hc hcc
    obtain ⟨_, _, _, _, he, hid, halg, h3, h4, h5, h6⟩ := hp
    simp only [List.cons.injEq, true_and, and_true] at he
    obtain ⟨rfl, rfl, rfl, rfl⟩ := he
    obtain ⟨A3, d3, rfl, l3, m3, h3⟩ := h3
    obtain ⟨A4, d4, rfl, l4, m4, h4⟩ := h4
    obtain ⟨A5, d5, rfl, l5, m5, h5⟩ := h5
    obtain ⟨A6, d6, rfl, l6, m6, h6⟩ := h6
    replace h3 := hide h3
    replace h4 := hide h4
    replace h5 := hide h5
    replace h6 := hide h6
    have hsz := lt_of_block hc
    replace ih := hide ih
    simp only [reachBytes] at m3 m4 m5 m6
    have e := hide p.sz_eq
    replace hc := hide hc
    go_enter Tryz.func26, Tryz.ntmps26
    have hR : CntR b c (w.alloc (.cells #[.string p.id, .bool p.set, .int .i64 p.alg, .slice A3 (List.length p.target) d3, .slice A4 p.rules.length d4, .slice A5 p.kids.length d5, .slice A6 p.obls.length d6] 28)) (w.alloc (.cells #[.string p.id, .bool p.set, .int .i64 p.alg, .slice A3 (List.length p.target) d3, .slice A4 p.rules.length d4, .slice A5 p.kids.length d5, .slice A6 p.obls.length d6] 28)) := CntR.refl (heap_alloc hc.out _)
    go_upto_region 3 with (first | (go_at_call 27; (with_reducible refine (wn b c (1 + p.rules.length) _ _ (by simp) (heap_alloc hc.out _) (by omega) hcc).mono ?_); rintro e w2 (⟨c7, rfl, h10, h12⟩ | ⟨c7, rfl, h10, h11, h12⟩); all_goals (first | replace hA := CntR.trans hA h12 | have hA := CntR.trans hR h12 | have hA := CntR.trans (CntR.alloc hR _) h12 | skip); all_goals (first | replace hL := CntR.trans hL h12 | have hL := h12); (try clear q1 q2 q3 q4); all_goals (clear h12; obtain ⟨q1, q2, q3, q4⟩ := CntR.facts hL; try simp only [World.size_alloc] at q1 q2 q3 q4)) | (go_at_call 28; (with_reducible refine (jH b _ _ _ hA.cnt hid (by omega)).mono ?_); rintro e w2 (⟨c7, rfl, h10, h12⟩ | ⟨c7, rfl, h10, h11, h12⟩); all_goals (first | replace hA := CntR.trans hA h12 | have hA := CntR.trans hR h12 | have hA := CntR.trans (CntR.alloc hR _) h12 | skip); all_goals (first | replace hL := CntR.trans hL h12 | have hL := h12); (try clear q1 q2 q3 q4); all_goals (clear h12; obtain ⟨q1, q2, q3, q4⟩ := CntR.facts hL; try simp only [World.size_alloc] at q1 q2 q3 q4)) | (go_at_call 50; (with_reducible refine (cnt_target b _ p.target _ _ w0 _ h3.out (by simp only [reachBytes]; omega) (Below.cnt (Below.alloc1 hB0 _) hA hb (Nat.le_refl _)) hb hA.cnt (by omega)).mono ?_); rintro e w2 (⟨c7, rfl, h10, h12⟩ | ⟨c7, rfl, h10, h11, h12⟩); all_goals (first | replace hA := CntR.trans hA h12 | have hA := CntR.trans hR h12 | have hA := CntR.trans (CntR.alloc hR _) h12 | skip); all_goals (first | replace hL := CntR.trans hL h12 | have hL := h12); (try clear q1 q2 q3 q4); all_goals (clear h12; obtain ⟨q1, q2, q3, q4⟩ := CntR.facts hL; try simp only [World.size_alloc] at q1 q2 q3 q4)) | (go_at_call 51; (with_reducible refine (cnt_obls b _ p.obls _ _ w0 _ h6.out (by simp only [reachBytes]; omega) (Below.cnt (Below.alloc1 hB0 _) hA hb (Nat.le_refl _)) hb hA.cnt (by omega)).mono ?_); rintro e w2 (⟨c7, rfl, h10, h12⟩ | ⟨c7, rfl, h10, h11, h12⟩); all_goals (first | replace hA := CntR.trans hA h12 | have hA := CntR.trans hR h12 | have hA := CntR.trans (CntR.alloc hR _) h12 | skip); all_goals (first | replace hL := CntR.trans hL h12 | have hL := h12); (try clear q1 q2 q3 q4); all_goals (clear h12; obtain ⟨q1, q2, q3, q4⟩ := CntR.facts hL; try simp only [World.size_alloc] at q1 q2 q3 q4)))
    all_goals first | (go_ret; exact Or.inl ⟨_, rfl, by omega, (CntR.alloc (CntR.refl hc.out) _).trans hA⟩) | skip
    rename Hid (1 + p.rules.length + _ = c) => g1
    rename Hid (txt p.id + _ = _) => g2
    rename Hid (tsz p.target + _ = _) => g3
    replace hR := hA
    clear hA
    obtain ⟨k0, hk0⟩ : ∃ k0, k0 = 1 + p.rules.length + txt p.id + tsz p.target + osz p.obls := ⟨_, rfl⟩
    have g := hide (show k0 + c7 = c by have := g1.out; have := g2.out; have := g3.out; have := h11.out; omega)
    have hcc7 : c7 ≤ c := by omega
    replace hk0 := hide hk0
    clear g1 g2 g3 h11 q1 q2 q3 q4 h10 hL
    obtain ⟨q1, q2, q3, q4⟩ := CntR.facts hR
    simp only [World.size_alloc] at q3
    go_wp2
    clear q1 q2 q3 q4
    go_loopw [6, 8, 42] (fun _ _ i wr => ∃ k c2 : Nat, k ≤ p.rules.length ∧ i = .int .i64 k ∧ c2 ≤ c ∧ CntR b c2 (w.alloc (.cells #[.string p.id, .bool p.set, .int .i64 p.alg, .slice A3 (List.length p.target) d3, .slice A4 p.rules.length d4, .slice A5 p.kids.length d5, .slice A6 p.obls.length d6] 28)) wr ∧ Hid (k0 + za rusz (p.rules.take k) + c2 = c)) (fun _ _ i _ => p.rules.length - (intOf i).toNat)
    case atStart => exact ⟨0, c7, Nat.zero_le _, rfl, hcc7, hR, g.out⟩
    case round =>
      clear hR g hcc7
      obtain ⟨k, c2, hk, rfl, hc2, hR, g⟩ := hrel
      have hB1 : Below w0.heap.size w0 wr := Below.cnt (Below.alloc1 hB0 _) hR hb (Nat.le_refl _)
      by_cases hlt : k < p.rules.length
      · obtain ⟨b2, o2, v2, v3, v4, rfl, hbb, e0, e1, e2, e3, e4, n1, s2, s3, s4⟩ := h4.out.rul0 hB1 hlt
        obtain ⟨B2, j2, rfl, u2, t2, s2⟩ := s2
        obtain ⟨B3, j3, rfl, u3, t3, s3⟩ := s3
        obtain ⟨B4, j4, rfl, u4, t4, s4⟩ := s4
        replace s2 := hide s2
        replace s3 := hide s3
        replace s4 := hide s4
        have hs := hide (zo (f := rusz) hlt)
        have hbw := hB1.size
        have hbr := lt_of_block hR.cnt
        simp only [reachBytes] at t2 t3 t4
        go_upto_region 8 with (first | (go_at_call 27; (with_reducible refine (wn b _ p.rules[k].cond.length _ _ (by simp) hA.cnt (by omega) (by omega)).mono ?_); rintro e w2 (⟨c7, rfl, h10, h12⟩ | ⟨c7, rfl, h10, h11, h12⟩); all_goals (first | replace hA := CntR.trans hA h12 | have hA := CntR.trans hR h12 | have hA := CntR.trans (CntR.alloc hR _) h12 | skip); all_goals (first | replace hL := CntR.trans hL h12 | have hL := h12); (try clear q1 q2 q3 q4); all_goals (clear h12; obtain ⟨q1, q2, q3, q4⟩ := CntR.facts hL; try simp only [World.size_alloc] at q1 q2 q3 q4)) | (go_at_call 28; (with_reducible refine (jH b _ _ _ (heap_alloc hR.cnt _) n1 (by omega)).mono ?_); rintro e w2 (⟨c7, rfl, h10, h12⟩ | ⟨c7, rfl, h10, h11, h12⟩); all_goals (first | replace hA := CntR.trans hA h12 | have hA := CntR.trans hR h12 | have hA := CntR.trans (CntR.alloc hR _) h12 | skip); all_goals (first | replace hL := CntR.trans hL h12 | have hL := h12); (try clear q1 q2 q3 q4); all_goals (clear h12; obtain ⟨q1, q2, q3, q4⟩ := CntR.facts hL; try simp only [World.size_alloc] at q1 q2 q3 q4)) | (go_at_call 50; (with_reducible refine (cnt_target b _ p.rules[k].target _ _ w0 _ s2.out (by simp only [reachBytes]; omega) (Below.cnt (Below.alloc1 hB0 _) hA hb (Nat.le_refl _)) hb hA.cnt (by omega)).mono ?_); rintro e w2 (⟨c7, rfl, h10, h12⟩ | ⟨c7, rfl, h10, h11, h12⟩); all_goals (first | replace hA := CntR.trans hA h12 | have hA := CntR.trans hR h12 | have hA := CntR.trans (CntR.alloc hR _) h12 | skip); all_goals (first | replace hL := CntR.trans hL h12 | have hL := h12); (try clear q1 q2 q3 q4); all_goals (clear h12; obtain ⟨q1, q2, q3, q4⟩ := CntR.facts hL; try simp only [World.size_alloc] at q1 q2 q3 q4)) | (go_at_call 51; (with_reducible refine (cnt_obls b _ p.rules[k].obls _ _ w0 _ s4.out (by simp only [reachBytes]; omega) (Below.cnt (Below.alloc1 hB0 _) hA hb (Nat.le_refl _)) hb hA.cnt (by omega)).mono ?_); rintro e w2 (⟨c7, rfl, h10, h12⟩ | ⟨c7, rfl, h10, h11, h12⟩); all_goals (first | replace hA := CntR.trans hA h12 | have hA := CntR.trans hR h12 | have hA := CntR.trans (CntR.alloc hR _) h12 | skip); all_goals (first | replace hL := CntR.trans hL h12 | have hL := h12); (try clear q1 q2 q3 q4); all_goals (clear h12; obtain ⟨q1, q2, q3, q4⟩ := CntR.facts hL; try simp only [World.size_alloc] at q1 q2 q3 q4)))
        all_goals first | (go_ret; exact Or.inl ⟨_, rfl, by omega, (CntR.alloc (CntR.refl hc.out) _).trans hA⟩) | skip
        rename Hid (txt p.rules[k].id + _ = _) => g1
        rename Hid (tsz p.rules[k].target + _ = _) => g2
        rename Hid (p.rules[k].cond.length + _ = _) => g3
        obtain ⟨k1, hk1⟩ : ∃ k1, k1 = txt p.rules[k].id + tsz p.rules[k].target + p.rules[k].cond.length + osz p.rules[k].obls := ⟨_, rfl⟩
        have g' := hide (show k1 + c7 = c2 by have := g1.out; have := g2.out; have := g3.out; have := h11.out; omega)
        have hcc7 : c7 ≤ c := by omega
        have e1 := hide (show rusz p.rules[k] = k1 + za nsz p.rules[k].cond by subst hk1; rfl)
        clear g1 g2 g3 h11 h10 hk1
        go_wp2
        clear q1 q2 q3 q4
        replace hR := hA
        clear hA
        go_loopw [8, 76] (fun _ i wr' => ∃ k' c4 : Nat, k' ≤ p.rules[k].cond.length ∧ i = .int .i64 k' ∧ c4 ≤ c ∧ CntR b c4 (w.alloc (.cells #[.string p.id, .bool p.set, .int .i64 p.alg, .slice A3 (List.length p.target) d3, .slice (some ⟨b2, o2, none⟩) p.rules.length d4, .slice A5 p.kids.length d5, .slice A6 p.obls.length d6] 28)) wr' ∧ Hid (k1 + za nsz (p.rules[k].cond.take k') + c4 = c2)) (fun _ i _ => p.rules[k].cond.length - (intOf i).toNat)
        case atStart => exact ⟨0, c7, Nat.zero_le _, rfl, hcc7, hR, g'.out⟩
        case round =>
          clear hR g' hcc7 hL hbb hB1
          obtain ⟨k', c4, hk', rfl, hc4, hR, g'⟩ := hrel
          have hB1 : Below w0.heap.size w0 wr := Below.cnt (Below.alloc1 hB0 _) hR hb (Nat.le_refl _)
          by_cases hlt' : k' < p.rules[k].cond.length
          · obtain ⟨b4, o4, rfl, hbb, e0, ⟨e3, e4, e5⟩, ⟨e6, e7, e8⟩, hf⟩ := (s3.out.keep keeps_nod hB1).nod hlt'
            have hs' := hide (zo (f := nsz) hlt')
            have n1 := hf.attr.name
            have n2 := hf.val.s
            have hbw := hB1.size
            have hbr := lt_of_block hR.cnt
            go_wp2_with (go_at_call 28; (first | (with_reducible refine (jH b c4 _ _ (heap_alloc hR.cnt _) n1 (by omega)).mono ?_) | (with_reducible refine (jH b _ _ _ hA.cnt n2 (by omega)).mono ?_)); rintro e w2 (⟨c7, rfl, h10, h12⟩ | ⟨c7, rfl, h10, h11, h12⟩); all_goals (first | replace hA := CntR.trans hA h12 | have hA := CntR.trans hR h12 | have hA := CntR.trans (CntR.alloc hR _) h12 | skip); all_goals (first | replace hL := CntR.trans hL h12 | have hL := h12); (try clear q1 q2 q3 q4); all_goals (clear h12; obtain ⟨q1, q2, q3, q4⟩ := CntR.facts hL; try simp only [World.size_alloc] at q1 q2 q3 q4))
            · go_ret
              exact Or.inl ⟨_, rfl, by omega, (CntR.alloc (CntR.refl hc.out) _).trans hA⟩
            · go_ret
              exact Or.inl ⟨_, rfl, by omega, (CntR.alloc (CntR.refl hc.out) _).trans hA⟩
            · rename Hid (txt p.rules[k].cond[k'].attr.name + _ = c4) => g1
              go_roundw
              case rel => exact ⟨k' + 1, c7, by omega, by go_num, by omega, hA, hide (by have := g'.out; have := hs'.out; have := h11.out; have := g1.out; have e : nsz p.rules[k].cond[k'] = txt p.rules[k].cond[k'].attr.name + txt p.rules[k].cond[k'].val.s := rfl; omega)⟩
              case measure => simp [intOf]; omega
          · obtain rfl : k' = p.rules[k].cond.length := by omega
            rw [List.take_length] at g'
            go_wp2
            go_roundw
            case rel => exact ⟨k + 1, c4, by omega, by go_num, hc4, hR, hide (by have := g.out; have := g'.out; have := hs.out; have := e1.out; omega)⟩
            case measure => simp [intOf]; omega
      · obtain rfl : k = p.rules.length := by omega
        rw [List.take_length] at g
        obtain ⟨q1, q2, q3, q4⟩ := CntR.facts hR
        simp only [World.size_alloc] at q3
        go_wp2
        clear q1 q2 q3 q4
        go_loopw [10, 99] (fun _ i wr' => ∃ k' c4 : Nat, k' ≤ p.kids.length ∧ i = .int .i64 k' ∧ c4 ≤ c ∧ CntR b c4 (w.alloc (.cells #[.string p.id, .bool p.set, .int .i64 p.alg, .slice A3 (List.length p.target) d3, .slice A4 p.rules.length d4, .slice A5 p.kids.length d5, .slice A6 p.obls.length d6] 28)) wr' ∧ Hid (k0 + za rusz p.rules + za Pol.sz (p.kids.take k') + c4 = c)) (fun _ i _ => p.kids.length - (intOf i).toNat)
        case atStart => exact ⟨0, c2, Nat.zero_le _, rfl, hc2, hR, g.out⟩
        case round =>
          clear hR g hB1 hc2
          obtain ⟨k', c4, hk', rfl, hc4, hR, g⟩ := hrel
          have hB1 : Below w0.heap.size w0 wr := Below.cnt (Below.alloc1 hB0 _) hR hb (Nat.le_refl _)
          by_cases hlt' : k' < p.kids.length
          · obtain ⟨b2, o2, v3, v4, v5, v6, rfl, hbb, e0, e1, e2, e3, e4, e5, e6, hr⟩ := h5.out.pol0 hB1 hlt'
            have hs' := hide (zo (f := Pol.sz) hlt')
            obtain ⟨B3, j3, B4, j4, B5, j5, B6, j6, rfl, rfl, rfl, rfl⟩ := rPolN_form hr
            replace hr := hide hr
            have hbw := hB1.size
            have hbr := lt_of_block hR.cnt
            go_wp2_with (go_at_call 26; refine (ih.out b c4 p.kids[k'] w0 _ _ _ _ _ hr.out (Below.alloc1 hB1 _) hb (heap_alloc hR.cnt _) (by omega)).mono ?_; rintro e w2 (⟨c7, rfl, h10, h12⟩ | ⟨c7, rfl, h10, h11, h12⟩); all_goals (first | replace hA := CntR.trans hA h12 | have hA := CntR.trans hR h12 | have hA := CntR.trans (CntR.alloc hR _) h12 | skip); all_goals (first | replace hL := CntR.trans hL h12 | have hL := h12); (try clear q1 q2 q3 q4); all_goals (clear h12; obtain ⟨q1, q2, q3, q4⟩ := CntR.facts hL; try simp only [World.size_alloc] at q1 q2 q3 q4))
            · go_ret
              exact Or.inl ⟨_, rfl, by omega, (CntR.alloc (CntR.refl hc.out) _).trans hA⟩
            · go_roundw
              case rel => exact ⟨k' + 1, c7, by omega, by go_num, by omega, hA, hide (by have := g.out; have := hs'.out; have := h11.out; omega)⟩
              case measure => simp [intOf]; omega
          · obtain rfl : k' = p.kids.length := by omega
            rw [List.take_length] at g
            go_wp2
            go_ret
            exact Or.inr ⟨c4, rfl, hc4, hide (by have := g.out; have := e.out; have := hk0.out; omega), (CntR.alloc (CntR.refl hc.out) _).trans hR⟩
theorem cnt_policy (n : Nat) : CntPolicy n := by
  induction n with
  | zero => intro b c p w0 w c3 c4 c5 c6 h; exact h.elim
  | succ n ih => exact cnt_policy_step n ih
def upTo (k m : Nat) (w : World) (e : Ending) (w' : World) : Prop := (e = .returned (.bool false) ∧ Below w.heap.size w w') ∨ (e = .returned (.bool true) ∧ Hid (k ≤ m) ∧ Below w.heap.size w w')
theorem heap_new (w : World) (o : Obj) : (w.alloc o).heap[w.heap.size]? = some o := by
  show (w.heap.push o)[w.heap.size]? = _
  simp
theorem heap_at (w : World) (o : Obj) (b : Nat) (hb : b = w.heap.size) : (w.alloc o).heap[b]? = some o := by subst hb; exact heap_new w o
theorem small_any (n : Nat) (p : Pol) (w : World) (c3 c4 c5 c6 : Value) (hp : rPolN n w [.string p.id, .bool p.set, .int .i64 p.alg, c3, c4, c5, c6] p) :
    Calls Tryz.prog 7 #[.agg #[.string p.id, .bool p.set, .int .i64 p.alg, c3, c4, c5, c6]] w (upTo p.sz 3000 w) := by
  obtain ⟨A3, d3, A4, d4, A5, d5, A6, d6, rfl, rfl, rfl, rfl⟩ := rPolN_form hp
  replace hp := hide hp
  go_enter Tryz.func7, Tryz.ntmps7
  go_wp2_with (go_at_call 26; refine (cnt_policy n (w.heap.size + 1) 3000 p w _ _ _ _ _ hp.out (by repeat (first | exact Below.refl _ _ | assumption | refine Below.alloc1 ?_ _ | refine Below.drew ?_ | refine qk ?_ | refine Below.setCell ?_ (by first | exact Nat.le_refl _ | (simp; done) | omega | (simp; omega)) _ | refine Below.lift ?_ (by assumption))) (by omega) ?_ (Nat.le_refl _)).mono ?_; exact heap_at _ _ _ (by simp); rintro e w2 (⟨c7, rfl, h10, h12⟩ | ⟨c7, rfl, h10, h11, h12⟩))
  · go_ret
    exact Or.inl ⟨rfl, ((Below.refl _ _).alloc (Nat.le_refl _) _).alloc (by simp) _ |>.trans (h12.below (by omega) (by simp; omega))⟩
  · go_ret
    exact Or.inr ⟨rfl, hide (by have := h11.out; omega), ((Below.refl _ _).alloc (Nat.le_refl _) _).alloc (by simp) _ |>.trans (h12.below (by omega) (by simp; omega))⟩
def gsz (g : Giv) : Nat := txt g.name + g.bag.length + za (fun v : Val => txt v.s) g.bag
def fsz (l : List Giv) : Nat := 2 * l.length + za gsz l
theorem SlAt.giv0 {w0 w : World} {A : Option Addr} {l : List Giv} (h : SlAt rGiv 3 w0 A l) (hB : Below w0.heap.size w0 w) {k : Nat} (hk : k < l.length) :
    ∃ b o B c, A = some ⟨b, o, none⟩ ∧ b < w0.heap.size ∧ w.cell? ⟨b, o + k * 3, none⟩ = some (.int .i64 l[k].cat) ∧ w.cell? ⟨b, o + k * 3 + 1, none⟩ = some (.string l[k].name) ∧
      w.cell? ⟨b, o + k * 3 + 2, none⟩ = some (.slice B l[k].bag.length c) ∧ R64 l[k].cat ∧ l[k].name.size ≤ reachBytes ∧ l[k].bag.length ≤ c ∧ (l[k].bag.length ≤ reachBytes ∧ c ≤ maxLen) ∧ SlAt rVal 3 w0 B l[k].bag := by
  obtain ⟨b, o, B, c, hA, hb, h0, h1, h2, h3⟩ := h.giv hk
  have cell : ∀ j, w.cell? ⟨b, j, none⟩ = w0.cell? ⟨b, j, none⟩ := fun j => hB.cell (p := ⟨b, j, none⟩) hb
  exact ⟨b, o, B, c, hA, hb, (cell _).trans h0, (cell _).trans h1, (cell _).trans h2, h3⟩
set_option maxRecDepth 100000 in
set_option maxHeartbeats 4000000 in
theorem few_any (l : List Giv) (A : Option Addr) (c : Nat) (w0 : World) (hl : l.length ≤ reachBytes) (h : SlAt rGiv 3 w0 A l) :
    Calls Tryz.prog 8 #[.slice A l.length c] w0 (upTo (fsz l) 1200 w0) := by
  unfold reachBytes at hl
  replace h := hide h
  have hb : w0.heap.size ≤ w0.heap.size := Nat.le_refl _
  have hB0 : Below w0.heap.size w0 w0 := Below.refl _ _
  have hc := hide (heap_new w0 (cntObj 1200))
  go_enter Tryz.func8, Tryz.ntmps8
  go_upto_region 4 with (go_at_call 27; refine (wn w0.heap.size 1200 (2 * l.length) _ _ (by simp) hc.out (by omega) (by omega)).mono ?_; rintro e w1 (⟨c1, rfl, h1, h3⟩ | ⟨c1, rfl, h1, h2, h3⟩))
  · go_ret
    exact Or.inl ⟨rfl, ((Below.refl _ _).alloc (Nat.le_refl _) _).trans (h3.below (by omega) (by simp))⟩
  · go_wp2
    go_loopw [5, 7, 18] (fun _ _ i wr => ∃ k c2 : Nat, k ≤ l.length ∧ i = .int .i64 k ∧ c2 ≤ 1200 ∧ CntR w0.heap.size c2 (w0.alloc (cntObj 1200)) wr ∧ Hid (2 * l.length + za gsz (l.take k) + c2 = 1200)) (fun _ _ i _ => l.length - (intOf i).toNat)
    case atStart => exact ⟨0, c1, Nat.zero_le _, rfl, h1, h3, h2.out⟩
    case round =>
      clear h1 h2 h3
      obtain ⟨k, c2, hk, rfl, hc2, hR, g⟩ := hrel
      have hB1 : Below w0.heap.size w0 wr := Below.cnt (Below.alloc1 hB0 _) hR hb (Nat.le_refl _)
      by_cases hlt : k < l.length
      · obtain ⟨b2, o2, B2, j2, rfl, hbb, e0, e1, e2, hcat, n1, t1, t2, hbag⟩ := h.out.giv0 hB1 hlt
        have hs := hide (zo (f := gsz) hlt)
        replace hbag := hide hbag
        have hbw := hB1.size
        have hbr := lt_of_block hR.cnt
        simp only [reachBytes] at t2
        go_upto_region 9 with (first | (go_at_call 27; (with_reducible refine (wn _ _ l[k].bag.length _ _ (by simp) hA.cnt (by omega) (by omega)).mono ?_); rintro e w2 (⟨c7, rfl, h10, h12⟩ | ⟨c7, rfl, h10, h11, h12⟩); all_goals (first | replace hA := CntR.trans hA h12 | have hA := CntR.trans hR h12 | have hA := CntR.trans (CntR.alloc hR _) h12 | skip); all_goals (first | replace hL := CntR.trans hL h12 | have hL := h12); (try clear q1 q2 q3 q4); all_goals (clear h12; obtain ⟨q1, q2, q3, q4⟩ := CntR.facts hL; try simp only [World.size_alloc] at q1 q2 q3 q4)) | (go_at_call 28; (with_reducible refine (jH _ c2 _ _ (heap_alloc hR.cnt _) n1 (by omega)).mono ?_); rintro e w2 (⟨c7, rfl, h10, h12⟩ | ⟨c7, rfl, h10, h11, h12⟩); all_goals (first | replace hA := CntR.trans hA h12 | have hA := CntR.trans hR h12 | have hA := CntR.trans (CntR.alloc hR _) h12 | skip); all_goals (first | replace hL := CntR.trans hL h12 | have hL := h12); (try clear q1 q2 q3 q4); all_goals (clear h12; obtain ⟨q1, q2, q3, q4⟩ := CntR.facts hL; try simp only [World.size_alloc] at q1 q2 q3 q4)))
        · go_ret
          exact Or.inl ⟨rfl, ((Below.refl _ _).alloc (Nat.le_refl _) _).trans (hA.below (by omega) (by simp))⟩
        · go_ret
          exact Or.inl ⟨rfl, ((Below.refl _ _).alloc (Nat.le_refl _) _).trans (hA.below (by omega) (by simp))⟩
        · rename Hid (txt l[k].name + _ = _) => g1
          obtain ⟨k1, hk1⟩ : ∃ k1, k1 = txt l[k].name + l[k].bag.length := ⟨_, rfl⟩
          have g' := hide (show k1 + c7 = c2 by have := g1.out; have := h11.out; omega)
          have hcc7 : c7 ≤ 1200 := by omega
          have e1 := hide (show gsz l[k] = k1 + za (fun v : Val => txt v.s) l[k].bag by subst hk1; rfl)
          clear g1 h11 h10 hk1
          go_wp2
          clear q1 q2 q3 q4
          replace hR := hA
          clear hA
          go_loopw [7, 38] (fun _ i wr' => ∃ k' c4 : Nat, k' ≤ l[k].bag.length ∧ i = .int .i64 k' ∧ c4 ≤ 1200 ∧ CntR w0.heap.size c4 (w0.alloc (cntObj 1200)) wr' ∧ Hid (k1 + za (fun v : Val => txt v.s) (l[k].bag.take k') + c4 = c2)) (fun _ i _ => l[k].bag.length - (intOf i).toNat)
          case atStart => exact ⟨0, c7, Nat.zero_le _, rfl, hcc7, hR, g'.out⟩
          case round =>
            clear hR g' hcc7 hL hbb hB1
            obtain ⟨k', c4, hk', rfl, hc4, hR, g'⟩ := hrel
            have hB1 : Below w0.heap.size w0 wr := Below.cnt (Below.alloc1 hB0 _) hR hb (Nat.le_refl _)
            by_cases hlt' : k' < l[k].bag.length
            · obtain ⟨b4, o4, rfl, hbb, e3, e4, e5, hf⟩ := (hbag.out.keep qN hB1).val hlt'
              have hs' := hide (zo (f := fun v : Val => txt v.s) hlt')
              have n2 := hf.s
              have hbw := hB1.size
              have hbr := lt_of_block hR.cnt
              go_wp2_with (go_at_call 28; (with_reducible refine (jH _ c4 _ _ (heap_alloc hR.cnt _) n2 (by omega)).mono ?_); rintro e w2 (⟨c7, rfl, h10, h12⟩ | ⟨c7, rfl, h10, h11, h12⟩); all_goals (first | replace hA := CntR.trans hA h12 | have hA := CntR.trans hR h12 | have hA := CntR.trans (CntR.alloc hR _) h12 | skip); all_goals (first | replace hL := CntR.trans hL h12 | have hL := h12); (try clear q1 q2 q3 q4); all_goals (clear h12; obtain ⟨q1, q2, q3, q4⟩ := CntR.facts hL; try simp only [World.size_alloc] at q1 q2 q3 q4))
              · go_ret
                exact Or.inl ⟨rfl, ((Below.refl _ _).alloc (Nat.le_refl _) _).trans (hA.below (by omega) (by simp))⟩
              · go_roundw
                case rel => exact ⟨k' + 1, c7, by omega, by go_num, by omega, hA, hide (by have := g'.out; have := hs'.out; have := h11.out; omega)⟩
                case measure => simp [intOf]; omega
            · obtain rfl : k' = l[k].bag.length := by omega
              rw [List.take_length] at g'
              go_wp2
              go_roundw
              case rel => exact ⟨k + 1, c4, by omega, by go_num, hc4, hR, hide (by have := g.out; have := g'.out; have := hs.out; have := e1.out; omega)⟩
              case measure => simp [intOf]; omega
      · obtain rfl : k = l.length := by omega
        rw [List.take_length] at g
        go_wp2
        go_ret
        exact Or.inr ⟨rfl, hide (by have := g.out; unfold fsz; omega), ((Below.refl _ _).alloc (Nat.le_refl _) _).trans (hR.below (by omega) (by simp))⟩
end Go.Proofs.YtlmgamnpfdgdeaaGreatDoor
namespace Go.Proofs.YtlmgamnpfdgdeaaGreatDoor
set_option linter.unusedVariables false
set_option linter.unusedSimpArgs false
open Go.RowKit
def Upto (k m : Nat) (r : SV) : Prop := ∃ b : Bool, r = .p (pB b) ∧ (b = true → k ≤ m)
theorem upto_ok {k m : Nat} {w : World} {e : Ending} {w' : World} (h : upTo k m w e w') : ∃ r, Upto k m r ∧ flatS r = true ∧ e = .returned (valS r) ∧ Below w.heap.size w w' ∧ RelS (fun _ => True) (fun _ => none) w' r (valS r) := by
  rcases h with ⟨rfl, hb⟩ | ⟨rfl, hk, hb⟩
  · exact ⟨.p (pB false), ⟨false, rfl, fun h => by cases h⟩, rfl, rfl, hb, .p (.v rfl)⟩
  · exact ⟨.p (pB true), ⟨true, rfl, fun _ => hk.out⟩, rfl, rfl, hb, .p (.v rfl)⟩
theorem few_h (l : List Giv) (hf : ∀ x ∈ l, x.Fit) : HoldsE Tryz.prog 8 [zj l] (Upto (fsz l) 1200) :=
  .of_calls Tryz.func8 (by kernel_rfl) rfl fun w vs hl hr => by
    obtain ⟨u, rfl⟩ := one_arg hl
    obtain ⟨A, c, rfl, h1, h2, h3⟩ := givs_typed (hr 0 _ u rfl rfl) hf
    exact (few_any l A c w h2.1 h3).mono fun e w' h => upto_ok h
theorem few_len {l : List Giv} (h : fsz l ≤ 1200) : l.length ≤ 600 ∧ ∀ g ∈ l, g.bag.length ≤ 1200 := by
  refine ⟨by unfold fsz at h; omega, fun g hg => ?_⟩
  have h2 : gsz g ≤ fsz l := by have := sumBy_le (f := gsz) hg; unfold fsz; omega
  have h3 : g.bag.length ≤ gsz g := by unfold gsz; omega
  omega
end Go.Proofs.YtlmgamnpfdgdeaaGreatDoor
namespace Go.Proofs.YtlmgamnpfdgdeaaGreatDoor
set_option linter.unusedVariables false
set_option linter.unusedSimpArgs false
open Go.RowKit
theorem givOk_of {g : List Giv} (hg : ∀ x ∈ g, x.Fit) (h : fsz g ≤ 1200) : GivOk g := by
  obtain ⟨g1, g2⟩ := few_len h
  exact ⟨hg, by omega, fun x hx => by have := g2 x hx; omega⟩
end Go.Proofs.YtlmgamnpfdgdeaaGreatDoor
namespace Go.Proofs.YtlmgamnpfdgdeaaGreatDoor
set_option linter.unusedVariables false
set_option linter.unusedSimpArgs false
open Go.RowKit
theorem nod_back {ok : Nat → Prop} {w : World} {cs : List Value} {x : Nod} (h : rPV ok w cs x.pv) (hf : x.Fit) : rNod w cs x :=
  ⟨rPV_plain (xs := [.int .i64 x.op, .int .i64 x.val.kind, .int .i64 x.val.n, .string x.val.s, .int .i64 x.attr.cat, .string x.attr.name, .bool x.attr.must]) h, hf⟩
theorem obl_back {ok : Nat → Prop} {w : World} {cs : List Value} {x : Obli} (h : rPV ok w cs x.pv) (hf : x.Fit) : rObl w cs x :=
  ⟨rPV_plain (xs := [.int .i64 x.on, .int .i64 x.kind, .string x.arg]) h, hf⟩
theorem slv_back {α : Type} {R : Rp α} {f : α → List PV} {z : Nat} {ok : Nat → Prop} {w : World} {u : Value} {l : List α} (h : RelP ok w (.sl z (l.map f)) u) (hf : ∀ x ∈ l, ∀ cs, rPV ok w cs (f x) → R w cs x) : SlV R z w u l := by
  obtain ⟨A, c, rfl, h1, h2, h3⟩ := sl_typed h hf
  exact ⟨A, c, rfl, h1, h2, h3⟩
theorem tar_back {ok : Nat → Prop} {w : World} {u : Value} {t : Tar} (h : RelP ok w (tgtP t) u) (hf : TarFit t) : SlV rTar' 1 w u t := by
  obtain ⟨A, c, rfl, h1, h2, h3⟩ := tgt_typed h hf
  exact ⟨A, c, rfl, h1, h2, h3⟩
theorem rul_back {ok : Nat → Prop} {w : World} {cs : List Value} {x : Rul} (h : rPV ok w cs (jl x)) (hf : RulFit x) : rRul w cs x := by
  have hl : cs.length = 5 := h.1
  match cs, hl with
  | [c0, c1, c2, c3, c4], _ =>
    have e0 := zl (h.2 0 _ c0 rfl rfl) rfl
    have e1 := zl (h.2 1 _ c1 rfl rfl) rfl
    subst e0 e1
    exact ⟨c2, c3, c4, rfl, hf.id, tar_back (h.2 2 _ c2 rfl rfl) hf.tgt, slv_back (h.2 3 _ c3 rfl rfl) (fun x hx cs hcs => nod_back hcs (hf.cond x hx)), slv_back (h.2 4 _ c4 rfl rfl) (fun x hx cs hcs => obl_back hcs (hf.obls x hx))⟩
theorem pol_back : ∀ {n : Nat} {ok : Nat → Prop} {w : World} {cs : List Value} {p : Pol}, rPV ok w cs (polP p) → PolF n p → rPolN n w cs p
  | n + 1, ok, w, cs, p, h, hf => by
    rw [zh] at h
    have hl : cs.length = 7 := h.1
    match cs, hl with
    | [c0, c1, c2, c3, c4, c5, c6], _ =>
      have e0 := zl (h.2 0 _ c0 rfl rfl) rfl
      have e1 := zl (h.2 1 _ c1 rfl rfl) rfl
      have e2 := zl (h.2 2 _ c2 rfl rfl) rfl
      subst e0 e1 e2
      exact ⟨c3, c4, c5, c6, rfl, hf.1.id, hf.2.1, tar_back (h.2 3 _ c3 rfl rfl) hf.1.tgt, slv_back (h.2 4 _ c4 rfl rfl) (fun x hx cs hcs => rul_back hcs (hf.1.rules x hx)),
        slv_back (h.2 5 _ c5 rfl rfl) (fun x hx cs hcs => pol_back hcs (hf.2.2 x hx)), slv_back (h.2 6 _ c6 rfl rfl) (fun x hx cs hcs => obl_back hcs (hf.1.obls x hx))⟩
theorem small_h {n : Nat} (p : Pol) (hf : PolF n p) : HoldsE Tryz.prog 7 [.agg (polP p)] (Upto p.sz 3000) :=
  .of_calls Tryz.func7 (by kernel_rfl) rfl fun w vs hl hr => by
    obtain ⟨u, rfl⟩ := one_arg hl
    have h := hr 0 _ u rfl rfl
    cases h with
    | @agg _ us hl2 hr2 =>
      have hp := pol_back ⟨hl2, hr2⟩ hf
      match n, hf, hp with
      | n + 1, _, ⟨c3, c4, c5, c6, he, h1⟩ =>
        subst he
        exact (small_any (n + 1) p w c3 c4 c5 c6 ⟨c3, c4, c5, c6, rfl, h1⟩).mono fun e w' h => upto_ok h
end Go.Proofs.YtlmgamnpfdgdeaaGreatDoor
