/-
  What the statement leans on, part 4: MkH, CombH, AskG, LessH, Fun, Fun2, Fun3, ExF, TgtH, Cvt, CellR, HasH, ExH, ExN, PolE.
-/
import Derived.WalkLawsBesides
import Derived.WalkSpells
import Derived.Deep.Cut
import Derived.Deep.Light
import Derived.Test.YtppfcacnofjmdaaGreatDoorPk1
import Derived.Test.YtppfcacnofjmdaaGreatDoorPk2
import Derived.Test.YtppfcacnofjmdaaGreatDoorPk3
namespace Go.Proofs.YtppfcacnofjmdaaGreatDoor
set_option linter.unusedVariables false
set_option linter.unusedSimpArgs false
open Go.RowKit
set_option maxHeartbeats 4000000
def hb : Nat → Nat
  | 0 => 0
  | 1 => 4602678819172646912
  | _ => 4607182418800017408
def mkP (m : Mk) : PV := .v (.complex .f64 (hb m.1) (hb m.2))
def mkE (a b : Mk) : Bool := FloatKind.f64.format.order (hb a.1) (hb b.1) == some .eq && FloatKind.f64.format.order (hb a.2) (hb b.2) == some .eq
theorem hb_eq {a b : Nat} (ha : a ≤ 2) (hb' : b ≤ 2) : (FloatKind.f64.format.order (hb a) (hb b) == some .eq) = decide (a = b) := by
  have h1 : a = 0 ∨ a = 1 ∨ a = 2 := by omega
  have h2 : b = 0 ∨ b = 1 ∨ b = 2 := by omega
  rcases h1 with rfl | rfl | rfl <;> rcases h2 with rfl | rfl | rfl <;> decide +kernel
theorem mks_le {m : Mk} (h : m ∈ mks) : m.1 ≤ 2 ∧ m.2 ≤ 2 := by
  unfold mks at h
  simp only [List.mem_cons, List.not_mem_nil, or_false] at h
  rcases h with rfl | rfl | rfl | rfl | rfl | rfl <;> exact ⟨by decide, by decide⟩
theorem mkE_eq {a b : Mk} (ha : a ∈ mks) (hb' : b ∈ mks) : mkE a b = decide (a = b) := by
  obtain ⟨h1, h2⟩ := mks_le ha
  obtain ⟨h3, h4⟩ := mks_le hb'
  unfold mkE
  rw [hb_eq h1 h3, hb_eq h2 h4]
  obtain ⟨a1, a2⟩ := a
  obtain ⟨b1, b2⟩ := b
  rw [Bool.eq_iff_iff]
  simp
theorem mkRight_h (m : Mk) (hm : m ∈ mks) : Holds Tryz.prog 20 [mkP m] (.p (pB true)) [] := by
  unfold mks at hm; simp only [List.mem_cons, List.not_mem_nil, or_false] at hm; rcases hm with rfl | rfl | rfl | rfl | rfl | rfl <;> exact .ofW (zT (n := 500) qe (zU _) (wH ctab) (by kernel_rfl) (by kernel_rfl))
theorem qas (m : Mk) (hm : m ∈ mks) : Holds Tryz.prog 25 [mkP m] (.p (mkP (qat m))) [] := by
  unfold mks at hm; simp only [List.mem_cons, List.not_mem_nil, or_false] at hm; rcases hm with rfl | rfl | rfl | rfl | rfl | rfl <;> exact .ofW (zT (n := 500) qe (zU _) (wH ctab) (by kernel_rfl) (by kernel_rfl))
theorem applies_h (m : Mk) (hm : m ∈ mks) : Holds Tryz.prog 139 [mkP m] (.p (pB (decide (m ≠ (0, 0))))) [] := by
  unfold mks at hm; simp only [List.mem_cons, List.not_mem_nil, or_false] at hm; rcases hm with rfl | rfl | rfl | rfl | rfl | rfl <;> exact .ofW (zT (n := 500) qe (zU _) (wH ctab) (by kernel_rfl) (by kernel_rfl))
theorem sure_h (m : Mk) (hm : m ∈ mks) : Holds Tryz.prog 140 [mkP m] (.p (pB (sureM m))) [] := by
  unfold mks at hm; simp only [List.mem_cons, List.not_mem_nil, or_false] at hm; rcases hm with rfl | rfl | rfl | rfl | rfl | rfl <;> exact .ofW (zT (n := 500) qe (zU _) (wH ctab) (by kernel_rfl) (by kernel_rfl))
theorem step4_h (j m : Mk) (hj : j ∈ mks) (hm : m ∈ mks) : Holds Tryz.prog 141 [pI 4, mkP j, mkP m] (.p (mkP (stepJ j m))) [] := by
  unfold mks at hj
  simp only [List.mem_cons, List.not_mem_nil, or_false] at hj
  unfold mks at hm; simp only [List.mem_cons, List.not_mem_nil, or_false] at hm; rcases hm with rfl | rfl | rfl | rfl | rfl | rfl <;> rcases hj with rfl | rfl | rfl | rfl | rfl | rfl <;> exact .ofW (zT (n := 500) qe (zU _) (wH ctab) (by kernel_rfl) (by kernel_rfl))
theorem mkTurn_h (a b : Nat) (ha : a ≤ 2) (hb' : b ≤ 2) : Holds Tryz.prog 109 [mkP (a, b)] (.p (mkP (b, a))) [] := by
  have h1 : a = 0 ∨ a = 1 ∨ a = 2 := by omega
  have h2 : b = 0 ∨ b = 1 ∨ b = 2 := by omega
  rcases h1 with rfl | rfl | rfl <;> rcases h2 with rfl | rfl | rfl <;> exact .ofW (zT (n := 500) qe (zU _) (wH ctab) (by kernel_rfl) (by kernel_rfl))
theorem mkOver_h (a b : Nat) (ha : a ≤ 2) (hb' : b ≤ 2) : Holds Tryz.prog 108 [mkP (a, b)] (.p (mkP (overM (a, b)))) [] := by
  have h1 : a = 0 ∨ a = 1 ∨ a = 2 := by omega
  have h2 : b = 0 ∨ b = 1 ∨ b = 2 := by omega
  rcases h1 with rfl | rfl | rfl <;> rcases h2 with rfl | rfl | rfl <;> exact .ofW (zT (n := 500) qe (zU _) (wH ctab) (by kernel_rfl) (by kernel_rfl))
theorem mkJoin_h (j m : Mk) (hj : j.1 ≤ 2 ∧ j.2 ≤ 2) (hm : m ∈ mks) : Holds Tryz.prog 107 [mkP j, mkP m] (.p (mkP (qaA j m))) [] := by
  obtain ⟨a, b⟩ := j
  obtain ⟨h1, h2⟩ := hj
  simp only at h1 h2
  have h1 : a = 0 ∨ a = 1 ∨ a = 2 := by omega
  have h2 : b = 0 ∨ b = 1 ∨ b = 2 := by omega
  unfold mks at hm; simp only [List.mem_cons, List.not_mem_nil, or_false] at hm; rcases hm with rfl | rfl | rfl | rfl | rfl | rfl <;> rcases h1 with rfl | rfl | rfl <;> rcases h2 with rfl | rfl | rfl <;> exact .ofW (zT (n := 500) qe (zU _) (wH ctab) (by kernel_rfl) (by kernel_rfl))
theorem joinM_le {a b : Mk} (ha : a.1 ≤ 2 ∧ a.2 ≤ 2) (hb' : b.1 ≤ 2 ∧ b.2 ≤ 2) : (qaA a b).1 ≤ 2 ∧ (qaA a b).2 ≤ 2 := by
  unfold qaA
  simp only
  omega
end Go.Proofs.YtppfcacnofjmdaaGreatDoor
namespace Go.Proofs.YtppfcacnofjmdaaGreatDoor
set_option linter.unusedVariables false
set_option linter.unusedSimpArgs false
open Go.RowKit
set_option maxHeartbeats 4000000
def marksP (l : List Mk) : PV := .sl 1 (l.map fun m => [mkP m])
theorem indexMk_h (l : List Mk) (hn : l.length ≤ 1000000) (f : FuncId) (caps : List PV) (p : Mk → Bool) (hF : ∀ m ∈ l, Holds Tryz.prog f ([mkP m] ++ caps) (.p (pB (p m))) []) :
    Holds Tryz.prog 138 [marksP l, .fn f caps] (.p (pI (if l.findIdx p < l.length then (l.findIdx p : Int) else -1))) [] := by
  refine qA (ts := [4]) Tryz.func138 (by kernel_rfl) rfl rfl rfl ?_
  (repeat refine qb ?_); refine qa ?_
  repeat (first | refine zR ?_ | refine zK ?_ | refine zM ?_ | refine zB ?_ | refine zA ?_ | refine zS ?_ | refine zL ?_)
  refine qc ?_
  (repeat refine qb ?_); refine qa ?_
  repeat (first | refine zR ?_ | refine zK ?_ | refine zM ?_ | refine zB ?_ | refine zA ?_ | refine zS ?_ | refine zL ?_)
  refine qc ?_
  (repeat refine qb ?_); refine ql ?_
  refine SW.wk (qq [0, 1, 7, 8] [] rfl rfl) ?_
  refine qO (fun n s => ∃ (k : Nat) (kk : Int), k ≤ l.length ∧ n = l.length - k ∧ kk = k ∧ (∀ g ∈ l.take k, p g = false) ∧ s = ⟨19, [(0, .p (marksP l)), (1, .p (.fn f caps)), (7, .p (pI (l.map fun m => [mkP m]).length)), (8, .p (pI kk))], []⟩) l.length ⟨0, 0, Nat.zero_le _, rfl, rfl, by simp, rfl⟩ ?_
  rintro n s ⟨k, _, hk, rfl, rfl, ha, rfl⟩
  (repeat refine qb ?_); refine qa ?_
  repeat (first | refine zR ?_ | refine zK ?_ | refine zM ?_ | refine zB ?_ | refine zA ?_ | refine zS ?_ | refine zL ?_)
  refine qc ?_
  (repeat refine qb ?_); refine qf rfl (fun hlt => ?_) (fun hlt => ?_)
  · refine qm ?_
    simp only [List.length_map, decide_eq_true_eq] at hlt
    have hlt' : k < l.length := by omega
    (repeat refine qb ?_); refine ql ?_
    (repeat refine qb ?_); refine qa ?_
    repeat (first | refine zR ?_ | refine zK ?_ | refine zM ?_ | refine zB ?_ | refine zA ?_ | refine zS ?_ | refine zL ?_)
    refine qc ?_
    (repeat refine qb ?_); refine qa ?_
    repeat (first | refine zR ?_ | refine zK ?_ | refine zM ?_ | refine zB ?_ | refine zA ?_ | refine zS ?_ | refine zL ?_)
    refine qw qe rfl rfl (by simp only [List.length_map]; omega) rfl ?_
    rw [qJ hlt']
    repeat (first | refine zR ?_ | refine zK ?_ | refine zM ?_ | refine zB ?_ | refine zA ?_ | refine zS ?_ | refine zL ?_)
    refine qn rfl (qg rfl rfl rfl rfl (hF l[k] (List.getElem_mem hlt')) rfl rfl ?_)
    repeat (first | refine zR ?_ | refine zK ?_ | refine zM ?_ | refine zB ?_ | refine zA ?_ | refine zS ?_ | refine zL ?_)
    refine qc ?_
    (repeat refine qb ?_); refine qf rfl (fun hp => ?_) (fun hp => ?_)
    · (repeat refine qb ?_); refine qa ?_
      repeat (first | refine zR ?_ | refine zK ?_ | refine zM ?_ | refine zB ?_ | refine zA ?_ | refine zS ?_ | refine zL ?_)
      refine qc ?_
      (repeat refine qb ?_); refine qk ?_
      refine zg rfl ?_
      have e : l.findIdx p = k := (List.findIdx_eq hlt').2 ⟨hp, fun j hj => ha _ (List.mem_take_iff_getElem.2 ⟨j, by omega, rfl⟩)⟩
      rw [e, if_pos hlt']
    · refine qm ?_
      (repeat refine qb ?_); refine qa ?_
      repeat (first | refine zR ?_ | refine zK ?_ | refine zM ?_ | refine zB ?_ | refine zA ?_ | refine zS ?_ | refine zL ?_)
      refine qc ?_
      refine ⟨_, _, ?_, qq [0, 1, 7, 8] [] rfl rfl, k + 1, _, hlt', rfl, qz hlt' (by omega), ?_, rfl⟩
      · omega
      · intro g hg
        rw [List.take_succ_eq_append_getElem hlt', List.mem_append, List.mem_singleton] at hg
        rcases hg with hg | rfl
        · exact ha g hg
        · exact hp
  · refine qK ?_
    simp only [List.length_map, decide_eq_false_iff_not] at hlt
    have hkk : k = l.length := by omega
    subst hkk
    (repeat refine qb ?_); refine qa ?_
    repeat (first | refine zR ?_ | refine zK ?_ | refine zM ?_ | refine zB ?_ | refine zA ?_ | refine zS ?_ | refine zL ?_)
    refine qc ?_
    (repeat refine qb ?_); refine qk ?_
    refine zg rfl ?_
    rw [List.take_length] at ha
    rw [if_neg]
    have := List.findIdx_eq_length_of_false ha
    omega
theorem indexEq_h (l : List Mk) (hn : l.length ≤ 1000000) (hl : ∀ m ∈ l, m ∈ mks) (v : Mk) (hv : v ∈ mks) :
    Holds Tryz.prog 154 [marksP l, mkP v] (.p (pI (if l.findIdx (fun m => decide (v = m)) < l.length then (l.findIdx (fun m => decide (v = m)) : Int) else -1))) [] := by
  refine qA (ts := [4]) Tryz.func154 (by kernel_rfl) rfl rfl rfl ?_
  (repeat refine qb ?_); refine qa ?_
  repeat (first | refine zR ?_ | refine zK ?_ | refine zM ?_ | refine zB ?_ | refine zA ?_ | refine zS ?_ | refine zL ?_)
  refine qc ?_
  (repeat refine qb ?_); refine qa ?_
  repeat (first | refine zR ?_ | refine zK ?_ | refine zM ?_ | refine zB ?_ | refine zA ?_ | refine zS ?_ | refine zL ?_)
  refine qc ?_
  (repeat refine qb ?_); refine ql ?_
  refine SW.wk (qq [0, 1, 7, 8] [] rfl rfl) ?_
  refine qO (fun n s => ∃ (k : Nat) (kk : Int), k ≤ l.length ∧ n = l.length - k ∧ kk = k ∧ (∀ g ∈ l.take k, decide (v = g) = false) ∧ s = ⟨19, [(0, .p (marksP l)), (1, .p (mkP v)), (7, .p (pI (l.map fun m => [mkP m]).length)), (8, .p (pI kk))], []⟩) l.length ⟨0, 0, Nat.zero_le _, rfl, rfl, by simp, rfl⟩ ?_
  rintro n s ⟨k, _, hk, rfl, rfl, ha, rfl⟩
  (repeat refine qb ?_); refine qa ?_
  repeat (first | refine zR ?_ | refine zK ?_ | refine zM ?_ | refine zB ?_ | refine zA ?_ | refine zS ?_ | refine zL ?_)
  refine qc ?_
  (repeat refine qb ?_); refine qf rfl (fun hlt => ?_) (fun hlt => ?_)
  · refine qm ?_
    simp only [List.length_map, decide_eq_true_eq] at hlt
    have hlt' : k < l.length := by omega
    (repeat refine qb ?_); refine ql ?_
    (repeat refine qb ?_); refine qa ?_
    repeat (first | refine zR ?_ | refine zK ?_ | refine zM ?_ | refine zB ?_ | refine zA ?_ | refine zS ?_ | refine zL ?_)
    refine qc ?_
    (repeat refine qb ?_); refine qa ?_
    repeat (first | refine zR ?_ | refine zK ?_ | refine zM ?_ | refine zB ?_ | refine zA ?_ | refine zS ?_ | refine zL ?_)
    refine qw qe rfl rfl (by simp only [List.length_map]; omega) rfl ?_
    rw [qJ hlt']
    repeat (first | refine zR ?_ | refine zK ?_ | refine zM ?_ | refine zB ?_ | refine zA ?_ | refine zS ?_ | refine zL ?_)
    refine qc ?_
    (repeat refine qb ?_); refine qf rfl (fun hp => ?_) (fun hp => ?_)
    · (repeat refine qb ?_); refine qa ?_
      repeat (first | refine zR ?_ | refine zK ?_ | refine zM ?_ | refine zB ?_ | refine zA ?_ | refine zS ?_ | refine zL ?_)
      refine qc ?_
      (repeat refine qb ?_); refine qk ?_
      refine zg rfl ?_
      change mkE v l[k] = true at hp
      rw [mkE_eq hv (hl _ (List.getElem_mem hlt'))] at hp
      have e : l.findIdx (fun m => decide (v = m)) = k := (List.findIdx_eq hlt').2 ⟨hp, fun j hj => ha _ (List.mem_take_iff_getElem.2 ⟨j, by omega, rfl⟩)⟩
      rw [e, if_pos hlt']
    · change mkE v l[k] = false at hp
      rw [mkE_eq hv (hl _ (List.getElem_mem hlt'))] at hp
      refine qm ?_
      (repeat refine qb ?_); refine qa ?_
      repeat (first | refine zR ?_ | refine zK ?_ | refine zM ?_ | refine zB ?_ | refine zA ?_ | refine zS ?_ | refine zL ?_)
      refine qc ?_
      refine ⟨_, _, ?_, qq [0, 1, 7, 8] [] rfl rfl, k + 1, _, hlt', rfl, qz hlt' (by omega), ?_, rfl⟩
      · omega
      · intro g hg
        rw [List.take_succ_eq_append_getElem hlt', List.mem_append, List.mem_singleton] at hg
        rcases hg with hg | rfl
        · exact ha g hg
        · exact hp
  · refine qK ?_
    simp only [List.length_map, decide_eq_false_iff_not] at hlt
    have hkk : k = l.length := by omega
    subst hkk
    (repeat refine qb ?_); refine qa ?_
    repeat (first | refine zR ?_ | refine zK ?_ | refine zM ?_ | refine zB ?_ | refine zA ?_ | refine zS ?_ | refine zL ?_)
    refine qc ?_
    (repeat refine qb ?_); refine qk ?_
    refine zg rfl ?_
    rw [List.take_length] at ha
    rw [if_neg]
    have := List.findIdx_eq_length_of_false ha
    omega
theorem contMk_h (l : List Mk) (hn : l.length ≤ 1000000) (hl : ∀ m ∈ l, m ∈ mks) (v : Mk) (hv : v ∈ mks) :
    Holds Tryz.prog 142 [marksP l, mkP v] (.p (pB (decide (v ∈ l)))) [] := by
  refine qA (ts := [4]) Tryz.func142 (by kernel_rfl) rfl rfl rfl ?_
  (repeat refine qb ?_); refine qa ?_
  repeat (first | refine zR ?_ | refine zK ?_ | refine zM ?_ | refine zB ?_ | refine zA ?_ | refine zS ?_ | refine zL ?_)
  refine qc ?_
  (repeat refine qb ?_); refine qa ?_
  repeat (first | refine zR ?_ | refine zK ?_ | refine zM ?_ | refine zB ?_ | refine zA ?_ | refine zS ?_ | refine zL ?_)
  refine qn rfl (qg rfl rfl rfl rfl (indexEq_h l hn hl v hv) rfl rfl ?_)
  repeat (first | refine zR ?_ | refine zK ?_ | refine zM ?_ | refine zB ?_ | refine zA ?_ | refine zS ?_ | refine zL ?_)
  refine qc ?_
  (repeat refine qb ?_); refine qk ?_
  refine wS rfl ?_
  by_cases h : v ∈ l
  · have : l.findIdx (fun m => decide (v = m)) < l.length := List.findIdx_lt_length_of_exists ⟨v, h, by simp⟩
    rw [if_pos this]
    simp [h]
  · have : l.findIdx (fun m => decide (v = m)) = l.length := List.findIdx_eq_length_of_false fun x hx => by
      simp only [decide_eq_false_iff_not]
      exact fun e => h (e ▸ hx)
    rw [if_neg (by omega)]
    simp [h]
theorem unless_h (l : List Mk) (hn : l.length ≤ 1000000) (hl : ∀ m ∈ l, m ∈ mks) (m o : Mk) (ho : o ∈ mks) : Holds Tryz.prog 112 [marksP l, mkP m, mkP o] (.p (mkP (zY l m o))) [] := by
  unfold zY
  refine qA (ts := [6]) Tryz.func112 (by kernel_rfl) rfl rfl rfl ?_
  (repeat refine qb ?_); refine qa ?_
  repeat (first | refine zR ?_ | refine zK ?_ | refine zM ?_ | refine zB ?_ | refine zA ?_ | refine zS ?_ | refine zL ?_)
  refine qc ?_
  (repeat refine qb ?_); refine qa ?_
  repeat (first | refine zR ?_ | refine zK ?_ | refine zM ?_ | refine zB ?_ | refine zA ?_ | refine zS ?_ | refine zL ?_)
  refine qn rfl (qg rfl rfl rfl rfl (contMk_h l hn hl o ho) rfl rfl ?_)
  repeat (first | refine zR ?_ | refine zK ?_ | refine zM ?_ | refine zB ?_ | refine zA ?_ | refine zS ?_ | refine zL ?_)
  refine qc ?_
  (repeat refine qb ?_); refine qf rfl (fun hc => ?_) (fun hc => ?_)
  · (repeat refine qb ?_); refine qa ?_
    repeat (first | refine zR ?_ | refine zK ?_ | refine zM ?_ | refine zB ?_ | refine zA ?_ | refine zS ?_ | refine zL ?_)
    refine qc ?_
    (repeat refine qb ?_); refine qk ?_
    rw [if_pos (of_decide_eq_true hc)]
    exact ⟨Or.inr rfl, _, _, [], Wk.refl _, rfl, rfl, rfl, rfl⟩
  · refine qm ?_
    (repeat refine qb ?_); refine qa ?_
    repeat (first | refine zR ?_ | refine zK ?_ | refine zM ?_ | refine zB ?_ | refine zA ?_ | refine zS ?_ | refine zL ?_)
    refine qc ?_
    (repeat refine qb ?_); refine qk ?_
    rw [if_neg (of_decide_eq_false hc)]
    exact ⟨Or.inr rfl, _, _, [], Wk.refl _, rfl, rfl, rfl, rfl⟩
theorem firstM_idx : ∀ {l : List Mk} {k : Nat} (h : k < l.length), l.findIdx (fun m => decide (m ≠ (0, 0))) = k → wy l = l[k]
  | m :: l, k, h, e => by
    rw [List.findIdx_cons] at e
    rw [wy]
    by_cases hm : m = (0, 0)
    · rw [if_pos hm]
      rw [show decide (m ≠ (0, 0)) = false by simp [hm], cond_false] at e
      obtain ⟨j, rfl⟩ : ∃ j, k = j + 1 := ⟨k - 1, by omega⟩
      rw [List.getElem_cons_succ]
      exact firstM_idx (by simpa using h) (by omega)
    · rw [if_neg hm]
      rw [show decide (m ≠ (0, 0)) = true by simp [hm], cond_true] at e
      subst e; rfl
theorem firstM_none : ∀ {l : List Mk}, (∀ m ∈ l, m = (0, 0)) → wy l = (0, 0)
  | [], _ => rfl
  | m :: l, h => by rw [wy, if_pos (h m (by simp))]; exact firstM_none fun x hx => h x (List.mem_cons_of_mem _ hx)
theorem first_h (l : List Mk) (hn : l.length ≤ 1000000) (hl : ∀ m ∈ l, m ∈ mks) : Holds Tryz.prog 110 [marksP l] (.p (mkP (wy l))) [] := by
  refine qA (ts := [2]) Tryz.func110 (by kernel_rfl) rfl rfl rfl ?_
  (repeat refine qb ?_); refine qa ?_
  repeat (first | refine zR ?_ | refine zK ?_ | refine zM ?_ | refine zB ?_ | refine zA ?_ | refine zS ?_ | refine zL ?_)
  refine qc ?_
  (repeat refine qb ?_); refine qa ?_
  repeat (first | refine zR ?_ | refine zK ?_ | refine zM ?_ | refine zB ?_ | refine zA ?_ | refine zS ?_ | refine zL ?_)
  refine qn rfl (qg rfl rfl rfl rfl (indexMk_h l hn _ _ (fun m => decide (m ≠ (0, 0))) (fun m hm => applies_h m (hl m hm))) rfl rfl ?_)
  repeat (first | refine zR ?_ | refine zK ?_ | refine zM ?_ | refine zB ?_ | refine zA ?_ | refine zS ?_ | refine zL ?_)
  refine qc ?_
  by_cases hf : l.findIdx (fun m => decide (m ≠ (0, 0))) < l.length
  · obtain ⟨k, hk, e1, e⟩ : ∃ k, ∃ h : k < l.length, l.findIdx (fun m => decide (m ≠ (0, 0))) = k ∧ wy l = l[k] := ⟨_, hf, rfl, firstM_idx hf rfl⟩
    rw [if_pos hf, e1, e]
    clear e1 hf
    (repeat refine qb ?_); refine qa ?_
    repeat (first | refine zR ?_ | refine zK ?_ | refine zM ?_ | refine zB ?_ | refine zA ?_ | refine zS ?_ | refine zL ?_)
    refine qc ?_
    (repeat refine qb ?_); refine qf rfl (fun hc => ?_) (fun hc => ?_)
    · (repeat refine qb ?_); refine qa ?_
      repeat (first | refine zR ?_ | refine zK ?_ | refine zM ?_ | refine zB ?_ | refine zA ?_ | refine zS ?_ | refine zL ?_)
      refine qw qe rfl rfl (by simp only [List.length_map]; omega) rfl ?_
      rw [qJ hk]
      repeat (first | refine zR ?_ | refine zK ?_ | refine zM ?_ | refine zB ?_ | refine zA ?_ | refine zS ?_ | refine zL ?_)
      refine qc ?_
      (repeat refine qb ?_); refine qk ?_
      exact ⟨Or.inr rfl, _, _, [], Wk.refl _, rfl, rfl, rfl, rfl⟩
    · exfalso
      simp at hc
  · have e : wy l = (0, 0) := firstM_none fun m hm => Classical.byContradiction fun hne => hf (List.findIdx_lt_length_of_exists ⟨m, hm, by simp [hne]⟩)
    rw [if_neg hf, e]
    (repeat refine qb ?_); refine qa ?_
    repeat (first | refine zR ?_ | refine zK ?_ | refine zM ?_ | refine zB ?_ | refine zA ?_ | refine zS ?_ | refine zL ?_)
    refine qc ?_
    (repeat refine qb ?_); refine qf rfl (fun hc => ?_) (fun hc => ?_)
    · cases hc
    · refine qm ?_
      (repeat refine qb ?_); refine qa ?_
      repeat (first | refine zR ?_ | refine zK ?_ | refine zM ?_ | refine zB ?_ | refine zA ?_ | refine zS ?_ | refine zL ?_)
      refine qc ?_
      (repeat refine qb ?_); refine qk ?_
      exact ⟨Or.inr rfl, _, _, [], Wk.refl _, rfl, rfl, rfl, rfl⟩
theorem stepJ_mem {j m : Mk} (hj : j ∈ mks) (hm : m ∈ mks) : stepJ j m ∈ mks := by
  unfold stepJ
  repeat' split
  · exact hm
  · simp [mks]
  · exact hj
theorem only_h (l : List Mk) (hn : l.length ≤ 1000000) (hl : ∀ m ∈ l, m ∈ mks) : Holds Tryz.prog 111 [marksP l] (.p (mkP (onlyM (0, 0) l))) [] := by
  refine qA (ts := [2]) Tryz.func111 (by kernel_rfl) rfl rfl rfl ?_
  (repeat refine qb ?_); refine qa ?_
  repeat (first | refine zR ?_ | refine zK ?_ | refine zM ?_ | refine zB ?_ | refine zA ?_ | refine zS ?_ | refine zL ?_)
  refine qc ?_
  (repeat refine qb ?_); refine qa ?_
  repeat (first | refine zR ?_ | refine zK ?_ | refine zM ?_ | refine zB ?_ | refine zA ?_ | refine zS ?_ | refine zL ?_)
  refine qc ?_
  (repeat refine qb ?_); refine qa ?_
  repeat (first | refine zR ?_ | refine zK ?_ | refine zM ?_ | refine zB ?_ | refine zA ?_ | refine zS ?_ | refine zL ?_)
  refine qc ?_
  (repeat refine qb ?_); refine ql ?_
  refine SW.wk (qq [3, 6, 7, 8] [] rfl rfl) ?_
  refine qO (fun n s => ∃ (k : Nat) (kk : Int) (j : Mk), k ≤ l.length ∧ n = l.length - k ∧ kk = k ∧ j ∈ mks ∧ onlyM (0, 0) l = onlyM j (l.drop k) ∧ s = ⟨20, [(3, .p (mkP j)), (6, .p (marksP l)), (7, .p (pI (l.map fun m => [mkP m]).length)), (8, .p (pI kk))], []⟩) l.length ⟨0, 0, (0, 0), Nat.zero_le _, rfl, rfl, by simp [mks], rfl, rfl⟩ ?_
  rintro n s ⟨k, _, j, hk, rfl, rfl, hj, ha, rfl⟩
  (repeat refine qb ?_); refine qa ?_
  repeat (first | refine zR ?_ | refine zK ?_ | refine zM ?_ | refine zB ?_ | refine zA ?_ | refine zS ?_ | refine zL ?_)
  refine qc ?_
  (repeat refine qb ?_); refine qf rfl (fun hlt => ?_) (fun hlt => ?_)
  · refine qm ?_
    simp only [List.length_map, decide_eq_true_eq] at hlt
    have hlt' : k < l.length := by omega
    have hm := hl _ (List.getElem_mem hlt')
    rw [List.drop_eq_getElem_cons hlt', onlyM] at ha
    (repeat refine qb ?_); refine ql ?_
    (repeat refine qb ?_); refine qa ?_
    repeat (first | refine zR ?_ | refine zK ?_ | refine zM ?_ | refine zB ?_ | refine zA ?_ | refine zS ?_ | refine zL ?_)
    refine qw qe rfl rfl (by simp only [List.length_map]; omega) rfl ?_
    rw [qJ hlt']
    repeat (first | refine zR ?_ | refine zK ?_ | refine zM ?_ | refine zB ?_ | refine zA ?_ | refine zS ?_ | refine zL ?_)
    refine qc ?_
    (repeat refine qb ?_); refine qa ?_
    repeat (first | refine zR ?_ | refine zK ?_ | refine zM ?_ | refine zB ?_ | refine zA ?_ | refine zS ?_ | refine zL ?_)
    refine qn rfl (qg rfl rfl rfl rfl (sure_h l[k] hm) rfl rfl ?_)
    repeat (first | refine zR ?_ | refine zK ?_ | refine zM ?_ | refine zB ?_ | refine zA ?_ | refine zS ?_ | refine zL ?_)
    refine qc ?_
    cases hs : sureM l[k] with
    | false =>
      rw [hs, if_neg (by simp)] at ha
      (repeat refine qb ?_); refine qf rfl (fun hc => ?_) (fun hc => ?_)
      · (repeat refine qb ?_); refine qa ?_
        repeat (first | refine zR ?_ | refine zK ?_ | refine zM ?_ | refine zB ?_ | refine zA ?_ | refine zS ?_ | refine zL ?_)
        refine qc ?_
        (repeat refine qb ?_); refine qk ?_
        rw [ha]
        exact ⟨Or.inr rfl, _, _, [], Wk.refl _, rfl, rfl, rfl, rfl⟩
      · cases hc
    | true =>
      rw [hs, if_pos rfl] at ha
      (repeat refine qb ?_); refine qf rfl (fun hc => ?_) (fun hc => ?_)
      · cases hc
      refine qm ?_
      (repeat refine qb ?_); refine qa ?_
      repeat (first | refine zR ?_ | refine zK ?_ | refine zM ?_ | refine zB ?_ | refine zA ?_ | refine zS ?_ | refine zL ?_)
      refine qn rfl (qg rfl rfl rfl rfl (step4_h j l[k] hj hm) rfl rfl ?_)
      repeat (first | refine zR ?_ | refine zK ?_ | refine zM ?_ | refine zB ?_ | refine zA ?_ | refine zS ?_ | refine zL ?_)
      refine qc ?_
      (repeat refine qb ?_); refine qa ?_
      repeat (first | refine zR ?_ | refine zK ?_ | refine zM ?_ | refine zB ?_ | refine zA ?_ | refine zS ?_ | refine zL ?_)
      refine qc ?_
      refine ⟨_, _, ?_, qq [3, 6, 7, 8] [] rfl rfl, k + 1, _, stepJ j l[k], hlt', rfl, qz hlt' (by omega), stepJ_mem hj hm, ha, rfl⟩
      omega
  · refine qK ?_
    simp only [List.length_map, decide_eq_false_iff_not] at hlt
    have hkk : k = l.length := by omega
    subst hkk
    rw [List.drop_length] at ha
    rw [ha]
    (repeat refine qb ?_); refine qa ?_
    repeat (first | refine zR ?_ | refine zK ?_ | refine zM ?_ | refine zB ?_ | refine zA ?_ | refine zS ?_ | refine zL ?_)
    refine qc ?_
    (repeat refine qb ?_); refine qk ?_
    exact ⟨Or.inr rfl, _, _, [], Wk.refl _, rfl, rfl, rfl, rfl⟩
theorem joinL_take {l : List Mk} {k : Nat} (h : k < l.length) : qaA (qaC (l.take k)) l[k] = qaC (l.take (k + 1)) := by
  unfold qaC
  rw [List.take_succ_eq_append_getElem h, List.foldl_append]; rfl
theorem combAll_h (alg : Int) (l : List Mk) (hn : l.length ≤ 1000000) (hl : ∀ m ∈ l, m ∈ mks) : Holds Tryz.prog 87 [pI alg, marksP l] (.tup [.p (mkP (allM alg l)), .p (pI (if 1 ≤ alg ∧ alg ≤ 6 then 0 else 1))]) [] := by
  refine qA (ts := [4,5]) Tryz.func87 (by kernel_rfl) rfl rfl rfl ?_
  (repeat refine qb ?_); refine qa ?_
  repeat (first | refine zR ?_ | refine zK ?_ | refine zM ?_ | refine zB ?_ | refine zA ?_ | refine zS ?_ | refine zL ?_)
  refine qc ?_
  (repeat refine qb ?_); refine qa ?_
  repeat (first | refine zR ?_ | refine zK ?_ | refine zM ?_ | refine zB ?_ | refine zA ?_ | refine zS ?_ | refine zL ?_)
  refine qc ?_
  (repeat refine qb ?_); refine qa ?_
  repeat (first | refine zR ?_ | refine zK ?_ | refine zM ?_ | refine zB ?_ | refine zA ?_ | refine zS ?_ | refine zL ?_)
  refine qc ?_
  (repeat refine qb ?_); refine ql ?_
  refine SW.wk (qq [0, 1, 6, 9, 10, 11] [] rfl rfl) ?_
  refine qO (fun m s => ∃ (k : Nat) (kk : Int) (j : Mk), k ≤ l.length ∧ m = l.length - k ∧ kk = k ∧ j = qaC (l.take k) ∧ (j.1 ≤ 2 ∧ j.2 ≤ 2) ∧ s = ⟨49, [(0, .p (pI alg)), (1, .p (marksP l)), (6, .p (mkP j)), (9, .p (marksP l)), (10, .p (pI (l.map fun m => [mkP m]).length)), (11, .p (pI kk))], []⟩) l.length ⟨0, 0, (0, 0), Nat.zero_le _, rfl, rfl, rfl, ⟨by decide, by decide⟩, rfl⟩ ?_
  rintro m s ⟨k, _, j, hk, rfl, rfl, hj, hj2, rfl⟩
  (repeat refine qb ?_); refine qa ?_
  repeat (first | refine zR ?_ | refine zK ?_ | refine zM ?_ | refine zB ?_ | refine zA ?_ | refine zS ?_ | refine zL ?_)
  refine qc ?_
  (repeat refine qb ?_); refine qf rfl (fun hlt => ?_) (fun hlt => ?_)
  · refine qm ?_
    simp only [List.length_map, decide_eq_true_eq] at hlt
    have hlt' : k < l.length := by omega
    have hm := hl _ (List.getElem_mem hlt')
    (repeat refine qb ?_); refine ql ?_
    (repeat refine qb ?_); refine qa ?_
    repeat (first | refine zR ?_ | refine zK ?_ | refine zM ?_ | refine zB ?_ | refine zA ?_ | refine zS ?_ | refine zL ?_)
    refine qw qe rfl rfl (by simp only [List.length_map]; omega) rfl ?_
    rw [qJ hlt']
    repeat (first | refine zR ?_ | refine zK ?_ | refine zM ?_ | refine zB ?_ | refine zA ?_ | refine zS ?_ | refine zL ?_)
    refine qc ?_
    (repeat refine qb ?_); refine qa ?_
    repeat (first | refine zR ?_ | refine zK ?_ | refine zM ?_ | refine zB ?_ | refine zA ?_ | refine zS ?_ | refine zL ?_)
    refine qn rfl (qg rfl rfl rfl rfl (mkRight_h l[k] hm) rfl rfl ?_)
    repeat (first | refine zR ?_ | refine zK ?_ | refine zM ?_ | refine zB ?_ | refine zA ?_ | refine zS ?_ | refine zL ?_)
    refine qc ?_
    (repeat refine qb ?_); refine qf rfl (fun hc => ?_) (fun hc => ?_)
    · cases hc
    refine qm ?_
    (repeat refine qb ?_); refine qa ?_
    repeat (first | refine zR ?_ | refine zK ?_ | refine zM ?_ | refine zB ?_ | refine zA ?_ | refine zS ?_ | refine zL ?_)
    refine qn rfl (qg rfl rfl rfl rfl (mkJoin_h j l[k] hj2 hm) rfl rfl ?_)
    repeat (first | refine zR ?_ | refine zK ?_ | refine zM ?_ | refine zB ?_ | refine zA ?_ | refine zS ?_ | refine zL ?_)
    refine qc ?_
    (repeat refine qb ?_); refine qa ?_
    repeat (first | refine zR ?_ | refine zK ?_ | refine zM ?_ | refine zB ?_ | refine zA ?_ | refine zS ?_ | refine zL ?_)
    refine qc ?_
    refine ⟨_, _, ?_, qq [0, 1, 6, 9, 10, 11] [] rfl rfl, k + 1, _, qaA j l[k], hlt', rfl, qz hlt' (by omega), ?_, joinM_le hj2 (mks_le hm), rfl⟩
    · omega
    · rw [hj]; exact joinL_take hlt'
  · refine qK ?_
    simp only [List.length_map, decide_eq_false_iff_not] at hlt
    have hkk : k = l.length := by omega
    subst hkk
    rw [List.take_length] at hj
    obtain ⟨a, b⟩ := j
    obtain ⟨h1, h2⟩ := hj2
    simp only at h1 h2
    (repeat refine qb ?_); refine qa ?_
    repeat (first | refine zR ?_ | refine zK ?_ | refine zM ?_ | refine zB ?_ | refine zA ?_ | refine zS ?_ | refine zL ?_)
    refine qc ?_
    (repeat refine qb ?_); refine ql ?_
    (repeat refine qb ?_); refine qa ?_
    repeat (first | refine zR ?_ | refine zK ?_ | refine zM ?_ | refine zB ?_ | refine zA ?_ | refine zS ?_ | refine zL ?_)
    refine qc ?_
    (repeat refine qb ?_); refine qf rfl (fun c1 => ?_) (fun c1 => ?_)
    · have e : alg = 1 := by simpa using c1
      subst e
      have e : allM 1 l = overM (a, b) := by rw [hj]; rfl
      rw [e]
      (repeat refine qb ?_); refine qa ?_
      repeat (first | refine zR ?_ | refine zK ?_ | refine zM ?_ | refine zB ?_ | refine zA ?_ | refine zS ?_ | refine zL ?_)
      refine qn rfl (qg rfl rfl rfl rfl (mkOver_h a b h1 h2) rfl rfl ?_)
      repeat (first | refine zR ?_ | refine zK ?_ | refine zM ?_ | refine zB ?_ | refine zA ?_ | refine zS ?_ | refine zL ?_)
      refine qc ?_
      (repeat refine qb ?_); refine qk ?_
      exact ⟨Or.inr rfl, _, _, [], Wk.refl _, rfl, rfl, rfl, rfl⟩
    have n1 : ¬ alg = 1 := by simpa using c1
    (repeat refine qb ?_); refine qa ?_
    repeat (first | refine zR ?_ | refine zK ?_ | refine zM ?_ | refine zB ?_ | refine zA ?_ | refine zS ?_ | refine zL ?_)
    refine qc ?_
    (repeat refine qb ?_); refine qf rfl (fun c2 => ?_) (fun c2 => ?_)
    · have e : alg = 2 := by simpa using c2
      subst e
      have e : allM 2 l = turnM (overM (b, a)) := by
        show turnM (overM (turnM (qaC l))) = _
        rw [← hj]; rfl
      rw [e]
      obtain ⟨ho1, ho2⟩ := mks_le (overM_mem (b, a))
      have HO := mkOver_h b a h2 h1
      generalize overM (b, a) = o at *
      obtain ⟨x, y⟩ := o
      (repeat refine qb ?_); refine qa ?_
      repeat (first | refine zR ?_ | refine zK ?_ | refine zM ?_ | refine zB ?_ | refine zA ?_ | refine zS ?_ | refine zL ?_)
      refine qn rfl (qg rfl rfl rfl rfl (mkTurn_h a b h1 h2) rfl rfl ?_)
      repeat (first | refine zR ?_ | refine zK ?_ | refine zM ?_ | refine zB ?_ | refine zA ?_ | refine zS ?_ | refine zL ?_)
      refine qn rfl (qg rfl rfl rfl rfl (HO) rfl rfl ?_)
      repeat (first | refine zR ?_ | refine zK ?_ | refine zM ?_ | refine zB ?_ | refine zA ?_ | refine zS ?_ | refine zL ?_)
      refine qn rfl (qg rfl rfl rfl rfl (mkTurn_h x y ho1 ho2) rfl rfl ?_)
      repeat (first | refine zR ?_ | refine zK ?_ | refine zM ?_ | refine zB ?_ | refine zA ?_ | refine zS ?_ | refine zL ?_)
      refine qc ?_
      (repeat refine qb ?_); refine qk ?_
      exact ⟨Or.inr rfl, _, _, [], Wk.refl _, rfl, rfl, rfl, rfl⟩
    have n2 : ¬ alg = 2 := by simpa using c2
    (repeat refine qb ?_); refine qa ?_
    repeat (first | refine zR ?_ | refine zK ?_ | refine zM ?_ | refine zB ?_ | refine zA ?_ | refine zS ?_ | refine zL ?_)
    refine qc ?_
    (repeat refine qb ?_); refine qf rfl (fun c3 => ?_) (fun c3 => ?_)
    · have e : alg = 3 := by simpa using c3
      subst e
      rw [show allM 3 l = wy l from rfl]
      (repeat refine qb ?_); refine qa ?_
      repeat (first | refine zR ?_ | refine zK ?_ | refine zM ?_ | refine zB ?_ | refine zA ?_ | refine zS ?_ | refine zL ?_)
      refine qn rfl (qg rfl rfl rfl rfl (first_h l hn hl) rfl rfl ?_)
      repeat (first | refine zR ?_ | refine zK ?_ | refine zM ?_ | refine zB ?_ | refine zA ?_ | refine zS ?_ | refine zL ?_)
      refine qc ?_
      (repeat refine qb ?_); refine qk ?_
      exact ⟨Or.inr rfl, _, _, [], Wk.refl _, rfl, rfl, rfl, rfl⟩
    have n3 : ¬ alg = 3 := by simpa using c3
    (repeat refine qb ?_); refine qa ?_
    repeat (first | refine zR ?_ | refine zK ?_ | refine zM ?_ | refine zB ?_ | refine zA ?_ | refine zS ?_ | refine zL ?_)
    refine qc ?_
    (repeat refine qb ?_); refine qf rfl (fun c4 => ?_) (fun c4 => ?_)
    · have e : alg = 4 := by simpa using c4
      subst e
      rw [show allM 4 l = onlyM (0, 0) l from rfl]
      (repeat refine qb ?_); refine qa ?_
      repeat (first | refine zR ?_ | refine zK ?_ | refine zM ?_ | refine zB ?_ | refine zA ?_ | refine zS ?_ | refine zL ?_)
      refine qn rfl (qg rfl rfl rfl rfl (only_h l hn hl) rfl rfl ?_)
      repeat (first | refine zR ?_ | refine zK ?_ | refine zM ?_ | refine zB ?_ | refine zA ?_ | refine zS ?_ | refine zL ?_)
      refine qc ?_
      (repeat refine qb ?_); refine qk ?_
      exact ⟨Or.inr rfl, _, _, [], Wk.refl _, rfl, rfl, rfl, rfl⟩
    have n4 : ¬ alg = 4 := by simpa using c4
    (repeat refine qb ?_); refine qa ?_
    repeat (first | refine zR ?_ | refine zK ?_ | refine zM ?_ | refine zB ?_ | refine zA ?_ | refine zS ?_ | refine zL ?_)
    refine qc ?_
    (repeat refine qb ?_); refine qf rfl (fun c5 => ?_) (fun c5 => ?_)
    · have e : alg = 5 := by simpa using c5
      subst e
      rw [show allM 5 l = zY l (0, 2) (2, 0) from rfl]
      (repeat refine qb ?_); refine qa ?_
      repeat (first | refine zR ?_ | refine zK ?_ | refine zM ?_ | refine zB ?_ | refine zA ?_ | refine zS ?_ | refine zL ?_)
      refine qn rfl (qg rfl rfl rfl rfl (unless_h l hn hl (0, 2) (2, 0) (by simp [mks])) rfl rfl ?_)
      repeat (first | refine zR ?_ | refine zK ?_ | refine zM ?_ | refine zB ?_ | refine zA ?_ | refine zS ?_ | refine zL ?_)
      refine qc ?_
      (repeat refine qb ?_); refine qk ?_
      exact ⟨Or.inr rfl, _, _, [], Wk.refl _, rfl, rfl, rfl, rfl⟩
    have n5 : ¬ alg = 5 := by simpa using c5
    (repeat refine qb ?_); refine qa ?_
    repeat (first | refine zR ?_ | refine zK ?_ | refine zM ?_ | refine zB ?_ | refine zA ?_ | refine zS ?_ | refine zL ?_)
    refine qc ?_
    (repeat refine qb ?_); refine qf rfl (fun c6 => ?_) (fun c6 => ?_)
    · have e : alg = 6 := by simpa using c6
      subst e
      rw [show allM 6 l = zY l (2, 0) (0, 2) from rfl]
      (repeat refine qb ?_); refine qa ?_
      repeat (first | refine zR ?_ | refine zK ?_ | refine zM ?_ | refine zB ?_ | refine zA ?_ | refine zS ?_ | refine zL ?_)
      refine qn rfl (qg rfl rfl rfl rfl (unless_h l hn hl (2, 0) (0, 2) (by simp [mks])) rfl rfl ?_)
      repeat (first | refine zR ?_ | refine zK ?_ | refine zM ?_ | refine zB ?_ | refine zA ?_ | refine zS ?_ | refine zL ?_)
      refine qc ?_
      (repeat refine qb ?_); refine qk ?_
      exact ⟨Or.inr rfl, _, _, [], Wk.refl _, rfl, rfl, rfl, rfl⟩
    · have n6 : ¬ alg = 6 := by simpa using c6
      have e : allM alg l = (0, 0) := by unfold allM; rw [if_neg n1, if_neg n2, if_neg n3, if_neg n4, if_neg n5, if_neg n6]
      rw [e, if_neg (by omega)]
      refine qm ?_
      (repeat refine qb ?_); refine qa ?_
      repeat (first | refine zR ?_ | refine zK ?_ | refine zM ?_ | refine zB ?_ | refine zA ?_ | refine zS ?_ | refine zL ?_)
      refine qc ?_
      (repeat refine qb ?_); refine qk ?_
      exact ⟨Or.inr rfl, _, _, [], Wk.refl _, rfl, rfl, rfl, rfl⟩
end Go.Proofs.YtppfcacnofjmdaaGreatDoor
namespace Go.Proofs.YtppfcacnofjmdaaGreatDoor
set_option linter.unusedVariables false
set_option linter.unusedSimpArgs false
open Go.RowKit
set_option maxHeartbeats 1000000
theorem beq_bytes (a b : ByteArray) : (a.toList == b.toList) = decide (a = b) := by
  rw [Bool.eq_iff_iff]
  simp only [beq_iff_eq, decide_eq_true_eq]
  exact ⟨toList_inj, fun h => by rw [h]⟩
theorem cloneV_h (l : List Val) (hn : l.length ≤ 1000000) : Holds Tryz.prog 82 [valsP l] (.row 0) [(0, .row 52 3 (l.map Val.pv))] := by
  refine qA (ts := [2]) Tryz.func82 (by kernel_rfl) rfl rfl rfl ?_
  (repeat refine qb ?_); refine qa ?_
  repeat (first | refine zR ?_ | refine zK ?_ | refine zM ?_ | refine zB ?_ | refine zA ?_ | refine zS ?_ | refine zL ?_)
  refine qc ?_
  (repeat refine qb ?_); refine qa ?_
  repeat (first | refine zR ?_ | refine zK ?_ | refine zM ?_ | refine zB ?_ | refine zA ?_ | refine zS ?_ | refine zL ?_)
  refine qn rfl (act_nilcmp qe rfl rfl rfl rfl rfl rfl (fun b hb => ?_))
  refine qc ?_
  (repeat refine qb ?_); refine qf rfl (fun hc => ?_) (fun hc => ?_)
  · have hl := hb hc
    have hl' : l = [] := by simpa using hl
    subst hl'
    (repeat refine qb ?_); refine qa ?_
    repeat (first | refine zR ?_ | refine zK ?_ | refine zM ?_ | refine zB ?_ | refine zA ?_ | refine zS ?_ | refine zL ?_)
    refine qc ?_
    (repeat refine qb ?_); refine qk ?_
    exact ⟨Or.inr rfl, _, _, [(0, 0)], jP 2 0 52 3 rfl rfl, rfl, rfl, rfl, rfl⟩
  · refine qm ?_
    (repeat refine qb ?_); refine qa ?_
    repeat (first | refine zR ?_ | refine zK ?_ | refine zM ?_ | refine zB ?_ | refine zA ?_ | refine zS ?_ | refine zL ?_)
    refine qn rfl (qp qe rfl rfl rfl rfl rfl rfl rfl rfl rfl rfl rfl rfl rfl rfl rfl rfl (by simp [reachBytes]; omega) (by simp; omega) ?_)
    repeat (first | refine zR ?_ | refine zK ?_ | refine zM ?_ | refine zB ?_ | refine zA ?_ | refine zS ?_ | refine zL ?_)
    refine qc ?_
    (repeat refine qb ?_); refine qk ?_
    exact ⟨Or.inr rfl, _, _, [(7, 0)], Wk.refl _, rfl, rfl, rfl, rfl⟩
theorem place1_h (cat : Int) (name : ByteArray) (g : Giv) : Holds Tryz.prog 102 [.agg g.pv, .rp [pI cat], .rp [pS name]] (.p (pB (isG cat name g))) [] := by
  refine qA (ts := [4]) Tryz.func102 (by kernel_rfl) rfl rfl rfl ?_
  (repeat refine qb ?_); refine qa ?_
  repeat (first | refine zR ?_ | refine zK ?_ | refine zM ?_ | refine zB ?_ | refine zA ?_ | refine zS ?_ | refine zL ?_)
  refine qc ?_
  (repeat refine qb ?_); refine qs (by kernel_rfl) ?_
  repeat (refine qr qe rfl (by exact True.intro) rfl ?_)
  refine qQ ?_
  (repeat refine qb ?_); refine qk ?_
  refine wS rfl ?_
  unfold isG
  rw [beq_bytes]
  cases h : decide (g.cat = cat) <;> simp_all
theorem index_h (l : List Giv) (hn : l.length ≤ 1000000) (f : FuncId) (caps : List PV) (p : Giv → Bool) (hF : ∀ g, Holds Tryz.prog f ([.agg g.pv] ++ caps) (.p (pB (p g))) []) :
    Holds Tryz.prog 101 [zP l, .fn f caps] (.p (pI (if l.findIdx p < l.length then (l.findIdx p : Int) else -1))) [] := by
  refine qA (ts := [4]) Tryz.func101 (by kernel_rfl) rfl rfl rfl ?_
  (repeat refine qb ?_); refine qa ?_
  repeat (first | refine zR ?_ | refine zK ?_ | refine zM ?_ | refine zB ?_ | refine zA ?_ | refine zS ?_ | refine zL ?_)
  refine qc ?_
  (repeat refine qb ?_); refine qa ?_
  repeat (first | refine zR ?_ | refine zK ?_ | refine zM ?_ | refine zB ?_ | refine zA ?_ | refine zS ?_ | refine zL ?_)
  refine qc ?_
  (repeat refine qb ?_); refine ql ?_
  refine SW.wk (qq [0, 1, 7, 8] [] rfl rfl) ?_
  refine qO (fun n s => ∃ (k : Nat) (kk : Int), k ≤ l.length ∧ n = l.length - k ∧ kk = k ∧ (∀ g ∈ l.take k, p g = false) ∧ s = ⟨19, [(0, .p (zP l)), (1, .p (.fn f caps)), (7, .p (pI (l.map Giv.pv).length)), (8, .p (pI kk))], []⟩) l.length ⟨0, 0, Nat.zero_le _, rfl, rfl, by simp, rfl⟩ ?_
  rintro n s ⟨k, _, hk, rfl, rfl, ha, rfl⟩
  (repeat refine qb ?_); refine qa ?_
  repeat (first | refine zR ?_ | refine zK ?_ | refine zM ?_ | refine zB ?_ | refine zA ?_ | refine zS ?_ | refine zL ?_)
  refine qc ?_
  (repeat refine qb ?_); refine qf rfl (fun hlt => ?_) (fun hlt => ?_)
  · refine qm ?_
    simp only [List.length_map, decide_eq_true_eq] at hlt
    have hlt' : k < l.length := by omega
    (repeat refine qb ?_); refine ql ?_
    (repeat refine qb ?_); refine qa ?_
    repeat (first | refine zR ?_ | refine zK ?_ | refine zM ?_ | refine zB ?_ | refine zA ?_ | refine zS ?_ | refine zL ?_)
    refine qc ?_
    (repeat refine qb ?_); refine qa ?_
    repeat (first | refine zR ?_ | refine zK ?_ | refine zM ?_ | refine zB ?_ | refine zA ?_ | refine zS ?_ | refine zL ?_)
    refine qw qe rfl rfl (by simp only [List.length_map]; omega) rfl ?_
    rw [qJ hlt']
    repeat (first | refine zR ?_ | refine zK ?_ | refine zM ?_ | refine zB ?_ | refine zA ?_ | refine zS ?_ | refine zL ?_)
    refine qn rfl (qg rfl rfl rfl rfl (hF l[k]) rfl rfl ?_)
    repeat (first | refine zR ?_ | refine zK ?_ | refine zM ?_ | refine zB ?_ | refine zA ?_ | refine zS ?_ | refine zL ?_)
    refine qc ?_
    (repeat refine qb ?_); refine qf rfl (fun hp => ?_) (fun hp => ?_)
    · (repeat refine qb ?_); refine qa ?_
      repeat (first | refine zR ?_ | refine zK ?_ | refine zM ?_ | refine zB ?_ | refine zA ?_ | refine zS ?_ | refine zL ?_)
      refine qc ?_
      (repeat refine qb ?_); refine qk ?_
      refine zg rfl ?_
      have e : l.findIdx p = k := (List.findIdx_eq hlt').2 ⟨hp, fun j hj => ha _ (List.mem_take_iff_getElem.2 ⟨j, by omega, rfl⟩)⟩
      rw [e, if_pos hlt']
    · refine qm ?_
      (repeat refine qb ?_); refine qa ?_
      repeat (first | refine zR ?_ | refine zK ?_ | refine zM ?_ | refine zB ?_ | refine zA ?_ | refine zS ?_ | refine zL ?_)
      refine qc ?_
      refine ⟨_, _, ?_, qq [0, 1, 7, 8] [] rfl rfl, k + 1, _, hlt', rfl, qz hlt' (by omega), ?_, rfl⟩
      · omega
      · intro g hg
        rw [List.take_succ_eq_append_getElem hlt', List.mem_append, List.mem_singleton] at hg
        rcases hg with hg | rfl
        · exact ha g hg
        · exact hp
  · refine qK ?_
    simp only [List.length_map, decide_eq_false_iff_not] at hlt
    have hkk : k = l.length := by omega
    subst hkk
    (repeat refine qb ?_); refine qa ?_
    repeat (first | refine zR ?_ | refine zK ?_ | refine zM ?_ | refine zB ?_ | refine zA ?_ | refine zS ?_ | refine zL ?_)
    refine qc ?_
    (repeat refine qb ?_); refine qk ?_
    refine zg rfl ?_
    rw [List.take_length] at ha
    rw [if_neg]
    have := List.findIdx_eq_length_of_false ha
    omega
theorem place_h (cat : Int) (name : ByteArray) (l : List Giv) (hn : l.length ≤ 1000000) : Holds Tryz.prog 81 [zP l, pI cat, pS name] (.p (pI (placeS cat name l))) [] := by
  refine qA (ts := [6]) Tryz.func81 (by kernel_rfl) rfl rfl rfl ?_
  (repeat refine qb ?_); refine qa ?_
  repeat (first | refine zR ?_ | refine zK ?_ | refine zM ?_ | refine zB ?_ | refine zA ?_ | refine zS ?_ | refine zL ?_)
  refine qc ?_
  (repeat refine qb ?_); refine qa ?_
  repeat (first | refine zR ?_ | refine zK ?_ | refine zM ?_ | refine zB ?_ | refine zA ?_ | refine zS ?_ | refine zL ?_)
  refine qn rfl (qg rfl rfl rfl rfl (index_h l hn _ _ (isG cat name) (fun g => place1_h cat name g)) rfl rfl ?_)
  repeat (first | refine zR ?_ | refine zK ?_ | refine zM ?_ | refine zB ?_ | refine zA ?_ | refine zS ?_ | refine zL ?_)
  refine qc ?_
  (repeat refine qb ?_); refine qk ?_
  exact zg rfl rfl
theorem get_h (a : Atr) (l : List Giv) (hn : l.length ≤ 1000000) (hb : ∀ g ∈ l, g.bag.length ≤ 1000000) : Holds Tryz.prog 62 [zP l, .agg a.pv] (.tup [.p (valsP (getS a l).1), .p (pI (getS a l).2)]) [] := by
  refine qA (ts := [4,5]) Tryz.func62 (by kernel_rfl) rfl rfl rfl ?_
  (repeat refine qb ?_); refine qa ?_
  repeat (first | refine zR ?_ | refine zK ?_ | refine zM ?_ | refine zB ?_ | refine zA ?_ | refine zS ?_ | refine zL ?_)
  refine qc ?_
  (repeat refine qb ?_); refine qa ?_
  repeat (first | refine zR ?_ | refine zK ?_ | refine zM ?_ | refine zB ?_ | refine zA ?_ | refine zS ?_ | refine zL ?_)
  refine qc ?_
  (repeat refine qb ?_); refine qa ?_
  repeat (first | refine zR ?_ | refine zK ?_ | refine zM ?_ | refine zB ?_ | refine zA ?_ | refine zS ?_ | refine zL ?_)
  refine qn rfl (qg rfl rfl rfl rfl (place_h a.cat a.name l hn) rfl rfl ?_)
  repeat (first | refine zR ?_ | refine zK ?_ | refine zM ?_ | refine zB ?_ | refine zA ?_ | refine zS ?_ | refine zL ?_)
  refine qc ?_
  rcases place_cases a.cat a.name l with ⟨hp, hbag, _⟩ | ⟨k, hk, hp, hbag, _, _⟩
  · rw [hp]
    (repeat refine qb ?_); refine qa ?_
    repeat (first | refine zR ?_ | refine zK ?_ | refine zM ?_ | refine zB ?_ | refine zA ?_ | refine zS ?_ | refine zL ?_)
    refine qc ?_
    (repeat refine qb ?_); refine qf rfl (fun hc => ?_) (fun hc => ?_)
    · simp at hc
    · refine qm ?_
      (repeat refine qb ?_); refine qa ?_
      repeat (first | refine zR ?_ | refine zK ?_ | refine zM ?_ | refine zB ?_ | refine zA ?_ | refine zS ?_ | refine zL ?_)
      refine qc ?_
      (repeat refine qb ?_); refine qf rfl (fun hm => ?_) (fun hm => ?_)
      · replace hm : a.must = true := hm
        have e : getS a l = ([], 4) := by simp [getS, hbag, hm]
        rw [e]
        (repeat refine qb ?_); refine qa ?_
        repeat (first | refine zR ?_ | refine zK ?_ | refine zM ?_ | refine zB ?_ | refine zA ?_ | refine zS ?_ | refine zL ?_)
        refine qc ?_
        (repeat refine qb ?_); refine qk ?_
        exact ⟨Or.inr rfl, _, _, [], wk_nilp 4 900 52 3 rfl rfl, rfl, rfl, rfl, rfl⟩
      · replace hm : a.must = false := hm
        have e : getS a l = ([], 0) := by simp [getS, hbag, hm]
        rw [e]
        refine qm ?_
        (repeat refine qb ?_); refine qa ?_
        repeat (first | refine zR ?_ | refine zK ?_ | refine zM ?_ | refine zB ?_ | refine zA ?_ | refine zS ?_ | refine zL ?_)
        refine qc ?_
        (repeat refine qb ?_); refine qk ?_
        exact ⟨Or.inr rfl, _, _, [], wk_nilp 4 900 52 3 rfl rfl, rfl, rfl, rfl, rfl⟩
  · rw [hp]
    (repeat refine qb ?_); refine qa ?_
    repeat (first | refine zR ?_ | refine zK ?_ | refine zM ?_ | refine zB ?_ | refine zA ?_ | refine zS ?_ | refine zL ?_)
    refine qc ?_
    (repeat refine qb ?_); refine qf rfl (fun hc => ?_) (fun hc => ?_)
    · (repeat refine qb ?_); refine qa ?_
      repeat (first | refine zR ?_ | refine zK ?_ | refine zM ?_ | refine zB ?_ | refine zA ?_ | refine zS ?_ | refine zL ?_)
      refine qw qe rfl rfl (by simp only [List.length_map]; omega) rfl ?_
      rw [qJ hk]
      repeat (first | refine zR ?_ | refine zK ?_ | refine zM ?_ | refine zB ?_ | refine zA ?_ | refine zS ?_ | refine zL ?_)
      refine qn rfl (qD rfl rfl rfl rfl ((cloneV_h l[k].bag (hb _ (List.getElem_mem hk))).row_sl) rfl rfl rfl ?_)
      repeat (first | refine zR ?_ | refine zK ?_ | refine zM ?_ | refine zB ?_ | refine zA ?_ | refine zS ?_ | refine zL ?_)
      refine qc ?_
      generalize l[k].bag = b at *
      cases b with
      | nil =>
        (repeat refine qb ?_); refine qa ?_
        repeat (first | refine zR ?_ | refine zK ?_ | refine zM ?_ | refine zB ?_ | refine zA ?_ | refine zS ?_ | refine zL ?_)
        refine qc ?_
        (repeat refine qb ?_); refine qf rfl (fun hm => ?_) (fun hm => ?_)
        · replace hm : a.must = true := hm
          have e : getS a l = ([], 4) := by simp [getS, hbag, hm]
          rw [e]
          (repeat refine qb ?_); refine qa ?_
          repeat (first | refine zR ?_ | refine zK ?_ | refine zM ?_ | refine zB ?_ | refine zA ?_ | refine zS ?_ | refine zL ?_)
          refine qc ?_
          (repeat refine qb ?_); refine qk ?_
          exact ⟨Or.inr rfl, _, _, [], wk_nilp 4 900 52 3 rfl rfl, rfl, rfl, rfl, rfl⟩
        · replace hm : a.must = false := hm
          have e : getS a l = ([], 0) := by simp [getS, hbag, hm]
          rw [e]
          refine qm ?_
          (repeat refine qb ?_); refine qa ?_
          repeat (first | refine zR ?_ | refine zK ?_ | refine zM ?_ | refine zB ?_ | refine zA ?_ | refine zS ?_ | refine zL ?_)
          refine qc ?_
          (repeat refine qb ?_); refine qk ?_
          exact ⟨Or.inr rfl, _, _, [], Wk.refl _, rfl, rfl, rfl, rfl⟩
      | cons v r =>
        have e : getS a l = (v :: r, 0) := by simp [getS, hbag]
        rw [e]
        (repeat refine qb ?_); refine qa ?_
        repeat (first | refine zR ?_ | refine zK ?_ | refine zM ?_ | refine zB ?_ | refine zA ?_ | refine zS ?_ | refine zL ?_)
        rw [show ((((v :: r).map Val.pv).length : Int) == 0) = false by simp; omega]
        repeat (first | refine zR ?_ | refine zK ?_ | refine zM ?_ | refine zB ?_ | refine zA ?_ | refine zS ?_ | refine zL ?_)
        refine qc ?_
        (repeat refine qb ?_); refine qf rfl (fun hm => ?_) (fun hm => ?_)
        · cases hm
        · refine qm ?_
          (repeat refine qb ?_); refine qa ?_
          repeat (first | refine zR ?_ | refine zK ?_ | refine zM ?_ | refine zB ?_ | refine zA ?_ | refine zS ?_ | refine zL ?_)
          refine qc ?_
          (repeat refine qb ?_); refine qk ?_
          exact ⟨Or.inr rfl, _, _, [], Wk.refl _, rfl, rfl, rfl, rfl⟩
    · exfalso
      simp at hc
end Go.Proofs.YtppfcacnofjmdaaGreatDoor
namespace Go.Proofs.YtppfcacnofjmdaaGreatDoor
set_option linter.unusedVariables false
set_option linter.unusedSimpArgs false
open Go.RowKit
set_option maxHeartbeats 4000000
theorem texts_h (k : Int) : Holds Tryz.prog 104 [pI k] (.p (pB (textsS k))) [] := by
  refine qA (ts := [2]) Tryz.func104 (by kernel_rfl) rfl rfl rfl ?_
  (repeat refine qb ?_); refine qa ?_
  repeat (first | refine zR ?_ | refine zK ?_ | refine zM ?_ | refine zB ?_ | refine zA ?_ | refine zS ?_ | refine zL ?_)
  refine qc ?_
  (repeat refine qb ?_); refine qs (by kernel_rfl) ?_
  repeat (refine qr qe rfl (by exact True.intro) rfl ?_)
  refine qQ ?_
  (repeat refine qb ?_); refine qk ?_
  refine wS rfl ?_
  unfold textsS
  rw [Bool.eq_iff_iff]
  simp
theorem less_h (a b : Val) (ha : a.s.size ≤ reachBytes) (hb : b.s.size ≤ reachBytes) : Holds Tryz.prog 83 [.agg a.pv, .agg b.pv] (.tup [.p (pB (wN a b).1), .p (pI (wN a b).2)]) [] := by
  unfold wN
  cases hra : a.right with
  | false =>
    refine qA (ts := [4,5]) Tryz.func83 (by kernel_rfl) rfl rfl rfl ?_
    (repeat refine qb ?_); refine qa ?_
    repeat (first | refine zR ?_ | refine zK ?_ | refine zM ?_ | refine zB ?_ | refine zA ?_ | refine zS ?_ | refine zL ?_)
    refine qc ?_
    (repeat refine qb ?_); refine ql ?_
    (repeat refine qb ?_); refine qa ?_
    repeat (first | refine zR ?_ | refine zK ?_ | refine zM ?_ | refine zB ?_ | refine zA ?_ | refine zS ?_ | refine zL ?_)
    refine qn rfl (qg rfl rfl rfl rfl (qad a ha) rfl rfl ?_)
    repeat (first | refine zR ?_ | refine zK ?_ | refine zM ?_ | refine zB ?_ | refine zA ?_ | refine zS ?_ | refine zL ?_)
    rw [hra]
    repeat (first | refine zR ?_ | refine zK ?_ | refine zM ?_ | refine zB ?_ | refine zA ?_ | refine zS ?_ | refine zL ?_)
    refine qc ?_
    (repeat refine qb ?_); refine qf rfl (fun hc => ?_) (fun hc => ?_)
    · (repeat refine qb ?_); refine qa ?_
      repeat (first | refine zR ?_ | refine zK ?_ | refine zM ?_ | refine zB ?_ | refine zA ?_ | refine zS ?_ | refine zL ?_)
      refine qc ?_
      (repeat refine qb ?_); refine qk ?_
      exact ⟨Or.inr rfl, _, _, [], Wk.refl _, rfl, rfl, rfl, rfl⟩
    · cases hc
  | true =>
    cases hrb : b.right with
    | false =>
      refine qA (ts := [4,5]) Tryz.func83 (by kernel_rfl) rfl rfl rfl ?_
      (repeat refine qb ?_); refine qa ?_
      repeat (first | refine zR ?_ | refine zK ?_ | refine zM ?_ | refine zB ?_ | refine zA ?_ | refine zS ?_ | refine zL ?_)
      refine qc ?_
      (repeat refine qb ?_); refine ql ?_
      (repeat refine qb ?_); refine qa ?_
      repeat (first | refine zR ?_ | refine zK ?_ | refine zM ?_ | refine zB ?_ | refine zA ?_ | refine zS ?_ | refine zL ?_)
      refine qn rfl (qg rfl rfl rfl rfl (qad a ha) rfl rfl ?_)
      repeat (first | refine zR ?_ | refine zK ?_ | refine zM ?_ | refine zB ?_ | refine zA ?_ | refine zS ?_ | refine zL ?_)
      rw [hra]
      repeat (first | refine zR ?_ | refine zK ?_ | refine zM ?_ | refine zB ?_ | refine zA ?_ | refine zS ?_ | refine zL ?_)
      refine qn rfl (qg rfl rfl rfl rfl (qad b hb) rfl rfl ?_)
      repeat (first | refine zR ?_ | refine zK ?_ | refine zM ?_ | refine zB ?_ | refine zA ?_ | refine zS ?_ | refine zL ?_)
      rw [hrb]
      repeat (first | refine zR ?_ | refine zK ?_ | refine zM ?_ | refine zB ?_ | refine zA ?_ | refine zS ?_ | refine zL ?_)
      refine qc ?_
      (repeat refine qb ?_); refine qf rfl (fun hc => ?_) (fun hc => ?_)
      · (repeat refine qb ?_); refine qa ?_
        repeat (first | refine zR ?_ | refine zK ?_ | refine zM ?_ | refine zB ?_ | refine zA ?_ | refine zS ?_ | refine zL ?_)
        refine qc ?_
        (repeat refine qb ?_); refine qk ?_
        exact ⟨Or.inr rfl, _, _, [], Wk.refl _, rfl, rfl, rfl, rfl⟩
      · cases hc
    | true =>
      refine qA (ts := [4,5]) Tryz.func83 (by kernel_rfl) rfl rfl rfl ?_
      (repeat refine qb ?_); refine qa ?_
      repeat (first | refine zR ?_ | refine zK ?_ | refine zM ?_ | refine zB ?_ | refine zA ?_ | refine zS ?_ | refine zL ?_)
      refine qc ?_
      (repeat refine qb ?_); refine ql ?_
      (repeat refine qb ?_); refine qa ?_
      repeat (first | refine zR ?_ | refine zK ?_ | refine zM ?_ | refine zB ?_ | refine zA ?_ | refine zS ?_ | refine zL ?_)
      refine qn rfl (qg rfl rfl rfl rfl (qad a ha) rfl rfl ?_)
      repeat (first | refine zR ?_ | refine zK ?_ | refine zM ?_ | refine zB ?_ | refine zA ?_ | refine zS ?_ | refine zL ?_)
      rw [hra]
      repeat (first | refine zR ?_ | refine zK ?_ | refine zM ?_ | refine zB ?_ | refine zA ?_ | refine zS ?_ | refine zL ?_)
      refine qn rfl (qg rfl rfl rfl rfl (qad b hb) rfl rfl ?_)
      repeat (first | refine zR ?_ | refine zK ?_ | refine zM ?_ | refine zB ?_ | refine zA ?_ | refine zS ?_ | refine zL ?_)
      rw [hrb]
      repeat (first | refine zR ?_ | refine zK ?_ | refine zM ?_ | refine zB ?_ | refine zA ?_ | refine zS ?_ | refine zL ?_)
      refine qc ?_
      (repeat refine qb ?_); refine qf rfl (fun hc => ?_) (fun hc => ?_)
      · cases hc
      simp only [Bool.not_true, Bool.or_self, Bool.false_eq_true, if_false]
      (repeat refine qb ?_); refine qs (by kernel_rfl) ?_
      repeat (refine qr qe rfl (by exact True.intro) rfl ?_)
      refine qQ ?_
      (repeat refine qb ?_); refine qf rfl (fun hk => ?_) (fun hk => ?_)
      · rw [if_pos (by revert hk; by_cases h : a.kind = b.kind <;> simp [h])]
        (repeat refine qb ?_); refine qa ?_
        repeat (first | refine zR ?_ | refine zK ?_ | refine zM ?_ | refine zB ?_ | refine zA ?_ | refine zS ?_ | refine zL ?_)
        refine qc ?_
        (repeat refine qb ?_); refine qk ?_
        exact ⟨Or.inr rfl, _, _, [], Wk.refl _, rfl, rfl, rfl, rfl⟩
      · rw [if_neg (by revert hk; by_cases h : a.kind = b.kind <;> simp [h])]
        (repeat refine qb ?_); refine qa ?_
        repeat (first | refine zR ?_ | refine zK ?_ | refine zM ?_ | refine zB ?_ | refine zA ?_ | refine zS ?_ | refine zL ?_)
        refine qn rfl (qg rfl rfl rfl rfl (texts_h a.kind) rfl rfl ?_)
        repeat (first | refine zR ?_ | refine zK ?_ | refine zM ?_ | refine zB ?_ | refine zA ?_ | refine zS ?_ | refine zL ?_)
        refine qc ?_
        (repeat refine qb ?_); refine qf rfl (fun ht => ?_) (fun ht => ?_)
        · rw [if_pos ht]
          (repeat refine qb ?_); refine qa ?_
          repeat (first | refine zR ?_ | refine zK ?_ | refine zM ?_ | refine zB ?_ | refine zA ?_ | refine zS ?_ | refine zL ?_)
          refine qc ?_
          (repeat refine qb ?_); refine qk ?_
          exact ⟨Or.inr rfl, _, _, [], Wk.refl _, rfl, rfl, rfl, rfl⟩
        · rw [if_neg (by rw [ht]; simp)]
          refine qm ?_
          (repeat refine qb ?_); refine qa ?_
          repeat (first | refine zR ?_ | refine zK ?_ | refine zM ?_ | refine zB ?_ | refine zA ?_ | refine zS ?_ | refine zL ?_)
          refine qc ?_
          (repeat refine qb ?_); refine qk ?_
          exact ⟨Or.inr rfl, _, _, [], Wk.refl _, rfl, rfl, rfl, rfl⟩
end Go.Proofs.YtppfcacnofjmdaaGreatDoor
namespace Go.Proofs.YtppfcacnofjmdaaGreatDoor
open Go.RowKit
set_option linter.unusedSimpArgs false
set_option linter.unusedVariables false
attribute [local go_sem] ext_cell wi
attribute [local go_sem low] we jp
theorem add_any (a b : Int) (w : World) (ha : R64 a) (hb : R64 b) :
    Calls Tryz.prog 119 #[.int .i64 a, .int .i64 b] w fun e w' => e = .returned (.tuple #[.int .i64 (addS a b).1, .int .i64 (addS a b).2]) ∧ w = w' := by
  obtain ⟨ha, ha'⟩ := ha
  obtain ⟨hb, hb'⟩ := hb
  go_enter Tryz.func119, Tryz.ntmps119
  go_wp2
  all_goals
    go_ret2
    refine ⟨ret_ii ?_, rfl⟩
    go_light
    unfold addS inI
    first | rw [if_pos (by simp; omega)] | rw [if_neg (by simp; omega)]
theorem sub_any (a b : Int) (w : World) (ha : R64 a) (hb : R64 b) :
    Calls Tryz.prog 120 #[.int .i64 a, .int .i64 b] w fun e w' => e = .returned (.tuple #[.int .i64 (subS a b).1, .int .i64 (subS a b).2]) ∧ w = w' := by
  obtain ⟨ha, ha'⟩ := ha
  obtain ⟨hb, hb'⟩ := hb
  go_enter Tryz.func120, Tryz.ntmps120
  go_wp2
  all_goals
    go_ret2
    refine ⟨ret_ii ?_, rfl⟩
    go_light
    unfold subS inI
    first | rw [if_pos (by simp; omega)] | rw [if_neg (by simp; omega)]
theorem mul_any (a b : Int) (w : World) (ha : R64 a) (hb : R64 b) :
    Calls Tryz.prog 121 #[.int .i64 a, .int .i64 b] w fun e w' => e = .returned (.tuple #[.int .i64 (mulS a b).1, .int .i64 (mulS a b).2]) ∧ w = w' := by
  obtain ⟨ha, ha'⟩ := ha
  obtain ⟨hb, hb'⟩ := hb
  by_cases h0 : a = 0
  · subst h0
    go_enter Tryz.func121, Tryz.ntmps121
    go_wp2
    all_goals
      go_ret2
      refine ⟨ret_ii ?_, rfl⟩
      simp [mulS, inI]
  · have H := hide (mul_over ha ha' hb hb' h0)
    go_enter Tryz.func121, Tryz.ntmps121
    go_upto_region 2 with (fail)
    refine wp_spec (by kernel_rfl) ?_
    repeat (refine qH ?_; intro K hK; go_big_quiet_op; go_big_quiet_on)
    refine zx ?_
    intro us
    simp only [junk, Act.put, List.setIfInBounds_toArray, List.set_cons_zero, List.set_cons_succ]
    go_wp2
    · go_ret2
      refine ⟨ret_ii ?_, rfl⟩
      go_light
      unfold mulS
      rw [H.out.1 (by simp_all)]
      rfl
    · go_ret2
      refine ⟨ret_ii ?_, rfl⟩
      go_light
      have hin : inI (a * b) = true := by
        cases hc : inI (a * b) with
        | true => rfl
        | false =>
          exfalso
          have := H.out.2 hc
          simp_all
          first | omega | (rcases this with h | h <;> simp_all)
      unfold mulS
      rw [hin]
      simp only [inI, Bool.and_eq_true, decide_eq_true_eq] at hin
      have : wrap64 (a * b) = a * b := by unfold wrap64; omega
      rw [this]; rfl
theorem truth_any (b : Bool) (w : World) :
    Calls Tryz.prog 117 #[.bool b] w fun e w' => e = .returned (.agg #[.int .i64 1, .int .i64 (bitI b), .string ⟨#[]⟩]) ∧ Below w.heap.size w w' := by
  cases b
  · go_enter Tryz.func117, Tryz.ntmps117
    go_wp2
    refine bodyPost_ret (v := .agg #[.int .i64 1, .int .i64 0, .string ⟨#[]⟩]) (by simp [results, Tryz.results117, go_sem, ↓IntWalk.iteOmega]) rfl ?_
    exact ⟨rfl, (by repeat (first | exact Below.refl _ _ | assumption | refine Below.alloc1 ?_ _ | refine Below.drew ?_ | refine qt ?_ | refine Below.setCell ?_ (by first | exact Nat.le_refl _ | (simp; done) | omega | (simp; omega)) _ | refine Below.lift ?_ (by assumption)))⟩
  · go_enter Tryz.func117, Tryz.ntmps117
    go_wp2
    refine bodyPost_ret (v := .agg #[.int .i64 1, .int .i64 1, .string ⟨#[]⟩]) (by simp [results, Tryz.results117, go_sem, ↓IntWalk.iteOmega]) rfl ?_
    exact ⟨rfl, (by repeat (first | exact Below.refl _ _ | assumption | refine Below.alloc1 ?_ _ | refine Below.drew ?_ | refine qt ?_ | refine Below.setCell ?_ (by first | exact Nat.le_refl _ | (simp; done) | omega | (simp; omega)) _ | refine Below.lift ?_ (by assumption)))⟩
theorem all_any (kind : Int) (l : List Val) (A : Option Addr) (c : Nat) (w : World) (hn : l.length ≤ reachBytes) (h : SlAt rVal 3 w A l) :
    Calls Tryz.prog 122 #[.int .i64 kind, .slice A l.length c] w fun e w' => e = .returned (.bool (allS kind l)) ∧ Below w.heap.size w w' := by
  unfold reachBytes at hn
  go_enter Tryz.func122, Tryz.ntmps122
  go_wp2
  go_loopw [6, 9] (fun _ i wr => ∃ k : Nat, k ≤ l.length ∧ i = .int .i64 k ∧ Below w.heap.size w wr ∧ Hid (allS kind (l.take k) = true)) (fun _ i _ => l.length - (intOf i).toNat)
  case atStart => exact ⟨0, Nat.zero_le _, rfl, Below.refl _ _, rfl⟩
  case round =>
    obtain ⟨k, hk, rfl, hB, hall⟩ := hrel
    by_cases hlt : k < l.length
    · obtain ⟨b, o, rfl, hb, c0, c1, c2, hf⟩ := (h.keep qS hB).val hlt
      have H := hide h
      clear h
      go_wp2
      · go_ret
        refine ⟨wc (all_no hlt ?_).symm, (by repeat (first | exact Below.refl _ _ | assumption | refine Below.alloc1 ?_ _ | refine Below.drew ?_ | refine qt ?_ | refine Below.setCell ?_ (by first | exact Nat.le_refl _ | (simp; done) | omega | (simp; omega)) _ | refine Below.lift ?_ (by assumption)))⟩
        go_light
        simp_all
      · go_roundw
        case rel =>
          refine ⟨k + 1, by omega, by go_num, (by repeat (first | exact Below.refl _ _ | assumption | refine Below.alloc1 ?_ _ | refine Below.drew ?_ | refine qt ?_ | refine Below.setCell ?_ (by first | exact Nat.le_refl _ | (simp; done) | omega | (simp; omega)) _ | refine Below.lift ?_ (by assumption))), all_step hlt hall.out ?_⟩
          go_light
          simp_all
        case measure => simp [intOf]; omega
    · obtain rfl : k = l.length := by omega
      have e := hall.out
      rw [take_all] at e
      have E := hide e
      clear e hall
      go_wp2
      go_ret
      exact ⟨wc E.out.symm, (by repeat (first | exact Below.refl _ _ | assumption | refine Below.alloc1 ?_ _ | refine Below.drew ?_ | refine qt ?_ | refine Below.setCell ?_ (by first | exact Nat.le_refl _ | (simp; done) | omega | (simp; omega)) _ | refine Below.lift ?_ (by assumption)))⟩
theorem wY (op : Int) (l : List Val) (A : Option Addr) (c : Nat) (w : World) (hn : l.length ≤ reachBytes) (h : SlAt rVal 3 w A l) :
    Calls Tryz.prog 116 #[.int .i64 op, .slice A l.length c] w fun e w' => e = .returned (.bool (mayS op l)) ∧ Below w.heap.size w w' := by
  unfold reachBytes at hn
  have H := hide h
  clear h
  rcases Bool.eq_false_or_eq_true (op == 11) with h11 | h11
  all_goals
    have g : mayS op l = (decide (6 ≤ op) && decide (op ≤ 13) && decide ((l.length : Int) = if op == 11 then 1 else 2) && l.all Val.right) := by unfold mayS; simp
    rw [h11] at g
    replace g := hide g
    go_enter Tryz.func116, Tryz.ntmps116
    go_upto_region 4 with (fail)
    refine wp_spec (by kernel_rfl) ?_
    repeat (refine qH ?_; intro K hK; go_big_quiet_op; go_big_quiet_on)
    refine zx ?_
    intro us
    simp only [junk, Act.put, List.setIfInBounds_toArray, List.set_cons_zero, List.set_cons_succ]
    go_upto_region 6 with (fail)
    · go_ret
      refine ⟨wc ?_, (by repeat (first | exact Below.refl _ _ | assumption | refine Below.alloc1 ?_ _ | refine Below.drew ?_ | refine qt ?_ | refine Below.setCell ?_ (by first | exact Nat.le_refl _ | (simp; done) | omega | (simp; omega)) _ | refine Below.lift ?_ (by assumption)))⟩
      rw [g.out]
      go_light
      simp_all
      try omega
    · have hl := g.out
      have hl2 : mayS op l = l.all Val.right := by
        rw [hl]
        clear hl
        go_light
        simp_all
      have G := hide hl2
      rename _ ∧ _ => ht
      replace ht := hide ht
      clear hl hl2 g
      go_wp2
      go_loopw [7, 24] (fun _ i wr => ∃ k : Nat, k ≤ l.length ∧ i = .int .i64 k ∧ Below w.heap.size w wr ∧ Hid ((l.take k).all Val.right = true)) (fun _ i _ => l.length - (intOf i).toNat)
      case atStart => exact ⟨0, Nat.zero_le _, rfl, (by repeat (first | exact Below.refl _ _ | assumption | refine Below.alloc1 ?_ _ | refine Below.drew ?_ | refine qt ?_ | refine Below.setCell ?_ (by first | exact Nat.le_refl _ | (simp; done) | omega | (simp; omega)) _ | refine Below.lift ?_ (by assumption))), rfl⟩
      case round =>
        obtain ⟨k, hk, rfl, hB, hall⟩ := hrel
        by_cases hlt : k < l.length
        · obtain ⟨b, o, rfl, hb, c0, c1, c2, hf⟩ := (H.out.keep qS hB).val hlt
          go_wp2_with (go_at_call 103; refine (right_any _ _ _ _ hf.s).mono ?_; rintro e w2 ⟨rfl, hB2⟩)
          · go_ret
            refine ⟨wc ?_, (by repeat (first | exact Below.refl _ _ | assumption | refine Below.alloc1 ?_ _ | refine Below.drew ?_ | refine qt ?_ | refine Below.setCell ?_ (by first | exact Nat.le_refl _ | (simp; done) | omega | (simp; omega)) _ | refine Below.lift ?_ (by assumption)))⟩
            rw [G.out]
            refine (all_no hlt ?_).symm
            go_light
            simp_all
          · go_roundw
            case rel =>
              refine ⟨k + 1, by omega, by go_num, (by repeat (first | exact Below.refl _ _ | assumption | refine Below.alloc1 ?_ _ | refine Below.drew ?_ | refine qt ?_ | refine Below.setCell ?_ (by first | exact Nat.le_refl _ | (simp; done) | omega | (simp; omega)) _ | refine Below.lift ?_ (by assumption))), all_step hlt hall.out ?_⟩
              go_light
              simp_all
            case measure => simp [intOf]; omega
        · obtain rfl : k = l.length := by omega
          have e := hall.out
          rw [take_all] at e
          have E := hide e
          clear e hall
          go_wp2
          go_ret
          exact ⟨wc (by rw [G.out, E.out]), (by repeat (first | exact Below.refl _ _ | assumption | refine Below.alloc1 ?_ _ | refine Below.drew ?_ | refine qt ?_ | refine Below.setCell ?_ (by first | exact Nat.le_refl _ | (simp; done) | omega | (simp; omega)) _ | refine Below.lift ?_ (by assumption)))⟩
theorem number_any (f : FuncId) (hcf : ∀ args w, (callFunc f args).run Tryz.prog w = .ok (.enter f args) w) (F : Int → Int → Int × Int) (hF : ∀ a b w, R64 a → R64 b → Calls Tryz.prog f #[.int .i64 a, .int .i64 b] w fun e w' => e = .returned (.tuple #[.int .i64 (F a b).1, .int .i64 (F a b).2]) ∧ w = w')
    (x y : Val) (A : Option Addr) (c : Nat) (w : World) (h : SlAt rVal 3 w A [x, y]) :
    Calls Tryz.prog 118 #[.func (.func f) #[] #[], .slice A 2 c] w fun e w' => e = .returned (.tuple #[.agg #[.int .i64 ((qM F x y).1).kind, .int .i64 ((qM F x y).1).n, .string ((qM F x y).1).s], .int .i64 (qM F x y).2]) ∧ Below w.heap.size w w' := by
  have H := hide h
  have HF := hide hF
  obtain ⟨b, o, rfl, hb, ⟨c0, c1, c2⟩, ⟨d0, d1, d2⟩, hx, hy⟩ := h.pair
  clear hF h
  go_enter Tryz.func118, Tryz.ntmps118
  go_wp2_with (go_at_call 122; refine (all_any 2 [x, y] _ _ _ (by simp [reachBytes]) (H.out.keep qS ?_)).mono ?_; rotate_left; rintro e w2 ⟨rfl, hB2⟩; obtain ⟨hc2, hf2⟩ := jF hB2; have hz2 := hB2.size; try simp only [World.size_alloc, World.size_drew] at hc2 hf2 hz2)
  · have e : qM F x y = (noVal, 2) := by
      go_light
      simp_all [qM, allS]
    refine bodyPost_ret (v := .tuple #[.agg #[.int .i64 0, .int .i64 0, .string ⟨#[]⟩], .int .i64 2]) (by simp [results, Tryz.results118, go_sem, ↓IntWalk.iteOmega, hc2]) rfl ?_
    exact ⟨by rw [e]; rfl, (by repeat (first | exact Below.refl _ _ | assumption | refine Below.alloc1 ?_ _ | refine Below.drew ?_ | refine qt ?_ | refine Below.setCell ?_ (by first | exact Nat.le_refl _ | (simp; done) | omega | (simp; omega)) _ | refine Below.lift ?_ (by assumption)))⟩
  · rename _ = false => ht
    replace ht := hide ht
    refine wI (by kernel_rfl) (by kernel_rfl) (by kernel_rfl) ?_
    repeat (refine qH ?_; intro K hK; go_big_quiet_op; go_big_quiet_on)
    refine qH ?_; intro K hK; go_big_quiet_op
    refine ⟨_, fun _ => quiet_eq (HF.out _ _ _ hx.n hy.n), ?_⟩
    go_big_quiet_on
    repeat (refine qH ?_; intro K hK; go_big_quiet_op; go_big_quiet_on)
    refine zx ?_
    intro us w3 hB3
    simp only [junk, Act.put, List.setIfInBounds_toArray, List.set_cons_zero, List.set_cons_succ]
    obtain ⟨hc3, hf3⟩ := jF hB3; have hz3 := hB3.size; try simp only [World.size_alloc, World.size_drew] at hc3 hf3 hz3
    have hk := ht.out
    have hkk : x.kind = 2 ∧ y.kind = 2 := by
      clear ht
      go_light
      simp_all [allS]
    have HK := hide hkk
    clear hk hkk
    go_wp2
    · refine bodyPost_ret (v := .tuple #[.agg #[.int .i64 0, .int .i64 0, .string ⟨#[]⟩], .int .i64 (F x.n y.n).2]) (by simp [results, Tryz.results118, go_sem, ↓IntWalk.iteOmega, hc2, hc3]) rfl ?_
      refine ⟨?_, (by repeat (first | exact Below.refl _ _ | assumption | refine Below.alloc1 ?_ _ | refine Below.drew ?_ | refine qt ?_ | refine Below.setCell ?_ (by first | exact Nat.le_refl _ | (simp; done) | omega | (simp; omega)) _ | refine Below.lift ?_ (by assumption)))⟩
      have : qM F x y = (noVal, (F x.n y.n).2) := by
        have := HK.out
        go_light
        simp_all [qM]
      rw [this]; rfl
    · refine bodyPost_ret (v := .tuple #[.agg #[.int .i64 2, .int .i64 (F x.n y.n).1, .string ⟨#[]⟩], .int .i64 0]) (by simp [results, Tryz.results118, go_sem, ↓IntWalk.iteOmega, hc2, hc3]) rfl ?_
      refine ⟨?_, (by repeat (first | exact Below.refl _ _ | assumption | refine Below.alloc1 ?_ _ | refine Below.drew ?_ | refine qt ?_ | refine Below.setCell ?_ (by first | exact Nat.le_refl _ | (simp; done) | omega | (simp; omega)) _ | refine Below.lift ?_ (by assumption)))⟩
      have : qM F x y = (⟨2, (F x.n y.n).1, ⟨#[]⟩⟩, 0) := by
        have := HK.out
        go_light
        simp_all [qM]
      rw [this]
  · exact (by repeat (first | exact Below.refl _ _ | assumption | refine Below.alloc1 ?_ _ | refine Below.drew ?_ | refine qt ?_ | refine Below.setCell ?_ (by first | exact Nat.le_refl _ | (simp; done) | omega | (simp; omega)) _ | refine Below.lift ?_ (by assumption)))
end Go.Proofs.YtppfcacnofjmdaaGreatDoor
namespace Go.Proofs.YtppfcacnofjmdaaGreatDoor
open Go.RowKit
set_option linter.unusedSimpArgs false
set_option linter.unusedVariables false
attribute [local go_sem] ext_cell wi
attribute [local go_sem low] we jp
attribute [local go_sem ↓] eql_val
abbrev jK (op : Int) (l : List Val) (w : World) : Ending → World → Prop := fun e w' => e = .returned (.tuple #[.agg #[.int .i64 ((qN op l).1).kind, .int .i64 ((qN op l).1).n, .string ((qN op l).1).s], .int .i64 (qN op l).2]) ∧ Below w.heap.size w w'
theorem call_no (op : Int) (l : List Val) (A : Option Addr) (c : Nat) (w : World) (hn : l.length ≤ reachBytes) (h : SlAt rVal 3 w A l) (hm : mayS op l = false) :
    Calls Tryz.prog 92 #[.int .i64 op, .slice A l.length c] w (jK op l w) := by
  have H := hide h
  clear h
  have hr : qN op l = (noVal, 1) := by simp [qN, hm]
  go_enter Tryz.func92, Tryz.ntmps92
  go_wp2_with (go_at_call 116; refine (wY _ _ _ _ _ hn (H.out.keep qS (by repeat (first | exact Below.refl _ _ | assumption | refine Below.alloc1 ?_ _ | refine Below.drew ?_ | refine qt ?_ | refine Below.setCell ?_ (by first | exact Nat.le_refl _ | (simp; done) | omega | (simp; omega)) _ | refine Below.lift ?_ (by assumption))))).mono ?_; rintro e w2 ⟨rfl, hB2⟩; obtain ⟨hc2, hf2⟩ := jF hB2; have hz2 := hB2.size; try simp only [World.size_alloc, World.size_drew] at hc2 hf2 hz2)
  refine bodyPost_ret (v := .tuple #[.agg #[.int .i64 0, .int .i64 0, .string ⟨#[]⟩], .int .i64 1]) (by simp [results, Tryz.results92, go_sem, ↓IntWalk.iteOmega, hc2]) rfl ?_
  exact ⟨by rw [hr]; rfl, (by repeat (first | exact Below.refl _ _ | assumption | refine Below.alloc1 ?_ _ | refine Below.drew ?_ | refine qt ?_ | refine Below.setCell ?_ (by first | exact Nat.le_refl _ | (simp; done) | omega | (simp; omega)) _ | refine Below.lift ?_ (by assumption)))⟩
theorem call_eq (x y : Val) (A : Option Addr) (c : Nat) (w : World) (h : SlAt rVal 3 w A [x, y]) (hm : mayS 6 [x, y] = true) :
    Calls Tryz.prog 92 #[.int .i64 6, .slice A 2 c] w (jK 6 [x, y] w) := by
  have H := hide h
  have hr : Hid (qN 6 [x, y] = if x.kind ≠ y.kind then (noVal, 2) else (jo (jh x y), 0)) := by show _ = _; simp [qN, hm]
  obtain ⟨b, o, rfl, hb, ⟨c0, c1, c2⟩, ⟨d0, d1, d2⟩, hx, hy⟩ := h.pair
  clear h
  go_enter Tryz.func92, Tryz.ntmps92
  go_wp2_with (go_at_call 116; refine (wY 6 [x, y] _ _ _ (by simp [reachBytes]) (H.out.keep qS (by repeat (first | exact Below.refl _ _ | assumption | refine Below.alloc1 ?_ _ | refine Below.drew ?_ | refine qt ?_ | refine Below.setCell ?_ (by first | exact Nat.le_refl _ | (simp; done) | omega | (simp; omega)) _ | refine Below.lift ?_ (by assumption))))).mono ?_; rintro e w2 ⟨rfl, hB2⟩; obtain ⟨hc2, hf2⟩ := jF hB2; have hz2 := hB2.size; try simp only [World.size_alloc, World.size_drew] at hc2 hf2 hz2)
  refine wI (by kernel_rfl) (by kernel_rfl) (by kernel_rfl) ?_
  repeat (refine qH ?_; intro K hK; go_big_quiet_op; go_big_quiet_on)
  refine zx ?_
  intro us w5 hB5
  simp only [junk, Act.put, List.setIfInBounds_toArray, List.set_cons_zero, List.set_cons_succ]
  obtain ⟨hc5, hf5⟩ := jF hB5; have hz5 := hB5.size; try simp only [World.size_alloc, World.size_drew] at hc5 hf5 hz5
  go_upto_region 7 with (fail)
  · refine bodyPost_ret (v := .tuple #[.agg #[.int .i64 0, .int .i64 0, .string ⟨#[]⟩], .int .i64 2]) (by simp [results, Tryz.results92, go_sem, ↓IntWalk.iteOmega, hc2, hc5]) rfl ?_
    refine ⟨?_, (by repeat (first | exact Below.refl _ _ | assumption | refine Below.alloc1 ?_ _ | refine Below.drew ?_ | refine qt ?_ | refine Below.setCell ?_ (by first | exact Nat.le_refl _ | (simp; done) | omega | (simp; omega)) _ | refine Below.lift ?_ (by assumption)))⟩
    rw [hr.out, if_pos (by go_light; simp_all)]; rfl
  · rename _ = false => ht
    replace ht := hide ht
    refine wp_spec_draw_tail 8 (by kernel_rfl) (by kernel_rfl) (by kernel_rfl) ?_
    simp only [List.take_succ_cons, List.take_zero, List.drop_succ_cons, List.drop_zero]
    repeat (refine qH ?_; intro K hK; go_big_quiet_op; go_big_quiet_on)
    refine qH ?_; intro K hK; go_big_quiet_op
    refine ⟨_, fun _ => wQ (truth_any _ _), ?_⟩
    go_big_quiet_on
    repeat (refine qH ?_; intro K hK; go_big_quiet_op; go_big_quiet_on)
    refine zx ?_
    intro us w7 hB7
    simp only [junk, Act.put, List.setIfInBounds_toArray, List.set_cons_zero, List.set_cons_succ]
    obtain ⟨hc7, hf7⟩ := jF hB7; have hz7 := hB7.size; try simp only [World.size_alloc, World.size_drew] at hc7 hf7 hz7
    go_wp2
    refine bodyPost_ret (v := .tuple #[.agg #[.int .i64 1, .int .i64 (bitI (jh x y)), .string ⟨#[]⟩], .int .i64 0]) (by simp [results, Tryz.results92, go_sem, ↓IntWalk.iteOmega, hc2, hc5, hc7]) rfl ?_
    refine ⟨?_, (by repeat (first | exact Below.refl _ _ | assumption | refine Below.alloc1 ?_ _ | refine Below.drew ?_ | refine qt ?_ | refine Below.setCell ?_ (by first | exact Nat.le_refl _ | (simp; done) | omega | (simp; omega)) _ | refine Below.lift ?_ (by assumption)))⟩
    rw [hr.out, if_neg (by have := ht.out; clear ht; go_light; simp_all)]; rfl
theorem call_less (x y : Val) (A : Option Addr) (c : Nat) (w : World) (h : SlAt rVal 3 w A [x, y]) (hm : mayS 7 [x, y] = true) :
    Calls Tryz.prog 92 #[.int .i64 7, .slice A 2 c] w (jK 7 [x, y] w) := by
  have H := hide h
  have hr : Hid (qN 7 [x, y] = if (wN x y).2 ≠ 0 then (noVal, (wN x y).2) else (jo (wN x y).1, 0)) := by show _ = _; simp [qN, hm]
  obtain ⟨b, o, rfl, hb, ⟨c0, c1, c2⟩, ⟨d0, d1, d2⟩, hx, hy⟩ := h.pair
  clear h
  go_enter Tryz.func92, Tryz.ntmps92
  go_wp2_with (go_at_call 116; refine (wY 7 [x, y] _ _ _ (by simp [reachBytes]) (H.out.keep qS (by repeat (first | exact Below.refl _ _ | assumption | refine Below.alloc1 ?_ _ | refine Below.drew ?_ | refine qt ?_ | refine Below.setCell ?_ (by first | exact Nat.le_refl _ | (simp; done) | omega | (simp; omega)) _ | refine Below.lift ?_ (by assumption))))).mono ?_; rintro e w2 ⟨rfl, hB2⟩; obtain ⟨hc2, hf2⟩ := jF hB2; have hz2 := hB2.size; try simp only [World.size_alloc, World.size_drew] at hc2 hf2 hz2)
  refine wI (by kernel_rfl) (by kernel_rfl) (by kernel_rfl) ?_
  repeat (refine qH ?_; intro K hK; go_big_quiet_op; go_big_quiet_on)
  refine qH ?_; intro K hK; go_big_quiet_op
  refine ⟨_, fun _ => wQ (less_any _ _ _ _ _ _ _ hx.s hy.s), ?_⟩
  go_big_quiet_on
  repeat (refine qH ?_; intro K hK; go_big_quiet_op; go_big_quiet_on)
  refine zx ?_
  intro us w9 hB9
  simp only [junk, Act.put, List.setIfInBounds_toArray, List.set_cons_zero, List.set_cons_succ]
  obtain ⟨hc9, hf9⟩ := jF hB9; have hz9 := hB9.size; try simp only [World.size_alloc, World.size_drew] at hc9 hf9 hz9
  go_wp2_with (go_at_call 117; refine (truth_any _ _).mono ?_; rintro e w3 ⟨rfl, hB3⟩; obtain ⟨hc3, hf3⟩ := jF hB3; have hz3 := hB3.size; try simp only [World.size_alloc, World.size_drew] at hc3 hf3 hz3)
  · refine bodyPost_ret (v := .tuple #[.agg #[.int .i64 0, .int .i64 0, .string ⟨#[]⟩], .int .i64 (wN x y).2]) (by simp [results, Tryz.results92, go_sem, ↓IntWalk.iteOmega, hc2, hc9]) rfl ?_
    refine ⟨?_, (by repeat (first | exact Below.refl _ _ | assumption | refine Below.alloc1 ?_ _ | refine Below.drew ?_ | refine qt ?_ | refine Below.setCell ?_ (by first | exact Nat.le_refl _ | (simp; done) | omega | (simp; omega)) _ | refine Below.lift ?_ (by assumption)))⟩
    rw [hr.out, if_pos (by go_light; simp_all)]; rfl
  · refine bodyPost_ret (v := .tuple #[.agg #[.int .i64 1, .int .i64 (bitI (wN x y).1), .string ⟨#[]⟩], .int .i64 0]) (by simp [results, Tryz.results92, go_sem, ↓IntWalk.iteOmega, hc2, hc9, hc3]) rfl ?_
    refine ⟨?_, (by repeat (first | exact Below.refl _ _ | assumption | refine Below.alloc1 ?_ _ | refine Below.drew ?_ | refine qt ?_ | refine Below.setCell ?_ (by first | exact Nat.le_refl _ | (simp; done) | omega | (simp; omega)) _ | refine Below.lift ?_ (by assumption)))⟩
    rw [hr.out, if_neg (by go_light; simp_all)]; rfl
theorem call_add (x y : Val) (A : Option Addr) (c : Nat) (w : World) (h : SlAt rVal 3 w A [x, y]) (hm : mayS 8 [x, y] = true) :
    Calls Tryz.prog 92 #[.int .i64 8, .slice A 2 c] w (jK 8 [x, y] w) := by
  have H := hide h
  have hr : Hid (qN 8 [x, y] = qM addS x y) := by show _ = _; simp [qN, hm]
  clear h
  go_enter Tryz.func92, Tryz.ntmps92
  go_wp2_with (first | (go_at_call 116; refine (wY 8 [x, y] _ _ _ (by simp [reachBytes]) (H.out.keep qS (by repeat (first | exact Below.refl _ _ | assumption | refine Below.alloc1 ?_ _ | refine Below.drew ?_ | refine qt ?_ | refine Below.setCell ?_ (by first | exact Nat.le_refl _ | (simp; done) | omega | (simp; omega)) _ | refine Below.lift ?_ (by assumption))))).mono ?_; rintro e w2 ⟨rfl, hB2⟩; obtain ⟨hc2, hf2⟩ := jF hB2; have hz2 := hB2.size; try simp only [World.size_alloc, World.size_drew] at hc2 hf2 hz2) | (go_at_call 118; refine (number_any 119 (wz Tryz.func119 (by kernel_rfl) (by kernel_rfl)) addS add_any x y _ _ _ (H.out.keep qS (by repeat (first | exact Below.refl _ _ | assumption | refine Below.alloc1 ?_ _ | refine Below.drew ?_ | refine qt ?_ | refine Below.setCell ?_ (by first | exact Nat.le_refl _ | (simp; done) | omega | (simp; omega)) _ | refine Below.lift ?_ (by assumption))))).mono ?_; rintro e w3 ⟨rfl, hB3⟩; obtain ⟨hc3, hf3⟩ := jF hB3; have hz3 := hB3.size; try simp only [World.size_alloc, World.size_drew] at hc3 hf3 hz3))
  refine bodyPost_ret (v := .tuple #[.agg #[.int .i64 ((qM addS x y).1).kind, .int .i64 ((qM addS x y).1).n, .string ((qM addS x y).1).s], .int .i64 (qM addS x y).2]) (by simp [results, Tryz.results92, go_sem, ↓IntWalk.iteOmega, hc2, hc3]) rfl ?_
  exact ⟨by rw [hr.out], (by repeat (first | exact Below.refl _ _ | assumption | refine Below.alloc1 ?_ _ | refine Below.drew ?_ | refine qt ?_ | refine Below.setCell ?_ (by first | exact Nat.le_refl _ | (simp; done) | omega | (simp; omega)) _ | refine Below.lift ?_ (by assumption)))⟩
theorem call_sub (x y : Val) (A : Option Addr) (c : Nat) (w : World) (h : SlAt rVal 3 w A [x, y]) (hm : mayS 9 [x, y] = true) :
    Calls Tryz.prog 92 #[.int .i64 9, .slice A 2 c] w (jK 9 [x, y] w) := by
  have H := hide h
  have hr : Hid (qN 9 [x, y] = qM subS x y) := by show _ = _; simp [qN, hm]
  clear h
  go_enter Tryz.func92, Tryz.ntmps92
  go_wp2_with (first | (go_at_call 116; refine (wY 9 [x, y] _ _ _ (by simp [reachBytes]) (H.out.keep qS (by repeat (first | exact Below.refl _ _ | assumption | refine Below.alloc1 ?_ _ | refine Below.drew ?_ | refine qt ?_ | refine Below.setCell ?_ (by first | exact Nat.le_refl _ | (simp; done) | omega | (simp; omega)) _ | refine Below.lift ?_ (by assumption))))).mono ?_; rintro e w2 ⟨rfl, hB2⟩; obtain ⟨hc2, hf2⟩ := jF hB2; have hz2 := hB2.size; try simp only [World.size_alloc, World.size_drew] at hc2 hf2 hz2) | (go_at_call 118; refine (number_any 120 (wz Tryz.func120 (by kernel_rfl) (by kernel_rfl)) subS sub_any x y _ _ _ (H.out.keep qS (by repeat (first | exact Below.refl _ _ | assumption | refine Below.alloc1 ?_ _ | refine Below.drew ?_ | refine qt ?_ | refine Below.setCell ?_ (by first | exact Nat.le_refl _ | (simp; done) | omega | (simp; omega)) _ | refine Below.lift ?_ (by assumption))))).mono ?_; rintro e w3 ⟨rfl, hB3⟩; obtain ⟨hc3, hf3⟩ := jF hB3; have hz3 := hB3.size; try simp only [World.size_alloc, World.size_drew] at hc3 hf3 hz3))
  refine bodyPost_ret (v := .tuple #[.agg #[.int .i64 ((qM subS x y).1).kind, .int .i64 ((qM subS x y).1).n, .string ((qM subS x y).1).s], .int .i64 (qM subS x y).2]) (by simp [results, Tryz.results92, go_sem, ↓IntWalk.iteOmega, hc2, hc3]) rfl ?_
  exact ⟨by rw [hr.out], (by repeat (first | exact Below.refl _ _ | assumption | refine Below.alloc1 ?_ _ | refine Below.drew ?_ | refine qt ?_ | refine Below.setCell ?_ (by first | exact Nat.le_refl _ | (simp; done) | omega | (simp; omega)) _ | refine Below.lift ?_ (by assumption)))⟩
theorem call_mul (x y : Val) (A : Option Addr) (c : Nat) (w : World) (h : SlAt rVal 3 w A [x, y]) (hm : mayS 10 [x, y] = true) :
    Calls Tryz.prog 92 #[.int .i64 10, .slice A 2 c] w (jK 10 [x, y] w) := by
  have H := hide h
  have hr : Hid (qN 10 [x, y] = qM mulS x y) := by show _ = _; simp [qN, hm]
  clear h
  go_enter Tryz.func92, Tryz.ntmps92
  go_wp2_with (first | (go_at_call 116; refine (wY 10 [x, y] _ _ _ (by simp [reachBytes]) (H.out.keep qS (by repeat (first | exact Below.refl _ _ | assumption | refine Below.alloc1 ?_ _ | refine Below.drew ?_ | refine qt ?_ | refine Below.setCell ?_ (by first | exact Nat.le_refl _ | (simp; done) | omega | (simp; omega)) _ | refine Below.lift ?_ (by assumption))))).mono ?_; rintro e w2 ⟨rfl, hB2⟩; obtain ⟨hc2, hf2⟩ := jF hB2; have hz2 := hB2.size; try simp only [World.size_alloc, World.size_drew] at hc2 hf2 hz2) | (go_at_call 118; refine (number_any 121 (wz Tryz.func121 (by kernel_rfl) (by kernel_rfl)) mulS mul_any x y _ _ _ (H.out.keep qS (by repeat (first | exact Below.refl _ _ | assumption | refine Below.alloc1 ?_ _ | refine Below.drew ?_ | refine qt ?_ | refine Below.setCell ?_ (by first | exact Nat.le_refl _ | (simp; done) | omega | (simp; omega)) _ | refine Below.lift ?_ (by assumption))))).mono ?_; rintro e w3 ⟨rfl, hB3⟩; obtain ⟨hc3, hf3⟩ := jF hB3; have hz3 := hB3.size; try simp only [World.size_alloc, World.size_drew] at hc3 hf3 hz3))
  refine bodyPost_ret (v := .tuple #[.agg #[.int .i64 ((qM mulS x y).1).kind, .int .i64 ((qM mulS x y).1).n, .string ((qM mulS x y).1).s], .int .i64 (qM mulS x y).2]) (by simp [results, Tryz.results92, go_sem, ↓IntWalk.iteOmega, hc2, hc3]) rfl ?_
  exact ⟨by rw [hr.out], (by repeat (first | exact Below.refl _ _ | assumption | refine Below.alloc1 ?_ _ | refine Below.drew ?_ | refine qt ?_ | refine Below.setCell ?_ (by first | exact Nat.le_refl _ | (simp; done) | omega | (simp; omega)) _ | refine Below.lift ?_ (by assumption)))⟩
end Go.Proofs.YtppfcacnofjmdaaGreatDoor
namespace Go.Proofs.YtppfcacnofjmdaaGreatDoor
open Go.RowKit
set_option linter.unusedSimpArgs false
set_option linter.unusedVariables false
attribute [local go_sem] ext_cell wi
attribute [local go_sem low] we jp
attribute [local go_sem ↓] eql_val
theorem call_not (x : Val) (A : Option Addr) (c : Nat) (w : World) (h : SlAt rVal 3 w A [x]) (hm : mayS 11 [x] = true) :
    Calls Tryz.prog 92 #[.int .i64 11, .slice A 1 c] w (jK 11 [x] w) := by
  have H := hide h
  have hr : Hid (qN 11 [x] = if allS 1 [x] then (jo (x.n == 0), 0) else (noVal, 2)) := by show _ = _; simp [qN, hm]; cases allS 1 _ <;> rfl
  obtain ⟨b, o, rfl, hb, ⟨c0, c1, c2⟩, hx⟩ := h.lone
  clear h
  go_enter Tryz.func92, Tryz.ntmps92
  go_wp2_with (first | (go_at_call 116; refine (wY 11 [x] _ _ _ (by simp [reachBytes]) (H.out.keep qS (by repeat (first | exact Below.refl _ _ | assumption | refine Below.alloc1 ?_ _ | refine Below.drew ?_ | refine qt ?_ | refine Below.setCell ?_ (by first | exact Nat.le_refl _ | (simp; done) | omega | (simp; omega)) _ | refine Below.lift ?_ (by assumption))))).mono ?_; rintro e w2 ⟨rfl, hB2⟩; obtain ⟨hc2, hf2⟩ := jF hB2; have hz2 := hB2.size; try simp only [World.size_alloc, World.size_drew] at hc2 hf2 hz2) | (go_at_call 122; refine (all_any 1 [x] _ _ _ (by simp [reachBytes]) (H.out.keep qS (by repeat (first | exact Below.refl _ _ | assumption | refine Below.alloc1 ?_ _ | refine Below.drew ?_ | refine qt ?_ | refine Below.setCell ?_ (by first | exact Nat.le_refl _ | (simp; done) | omega | (simp; omega)) _ | refine Below.lift ?_ (by assumption))))).mono ?_; rintro e w4 ⟨rfl, hB4⟩; obtain ⟨hc4, hf4⟩ := jF hB4; have hz4 := hB4.size; try simp only [World.size_alloc, World.size_drew] at hc4 hf4 hz4) | (go_at_call 117; refine (truth_any _ _).mono ?_; rintro e w3 ⟨rfl, hB3⟩; obtain ⟨hc3, hf3⟩ := jF hB3; have hz3 := hB3.size; try simp only [World.size_alloc, World.size_drew] at hc3 hf3 hz3))
  · refine bodyPost_ret (v := .tuple #[.agg #[.int .i64 0, .int .i64 0, .string ⟨#[]⟩], .int .i64 2]) (by simp [results, Tryz.results92, go_sem, ↓IntWalk.iteOmega, hc2, hc4]) rfl ?_
    refine ⟨?_, (by repeat (first | exact Below.refl _ _ | assumption | refine Below.alloc1 ?_ _ | refine Below.drew ?_ | refine qt ?_ | refine Below.setCell ?_ (by first | exact Nat.le_refl _ | (simp; done) | omega | (simp; omega)) _ | refine Below.lift ?_ (by assumption)))⟩
    rw [hr.out, if_neg (by go_light; simp_all)]; rfl
  · refine bodyPost_ret (v := .tuple #[.agg #[.int .i64 1, .int .i64 (bitI (x.n == 0)), .string ⟨#[]⟩], .int .i64 0]) (by simp [results, Tryz.results92, go_sem, ↓IntWalk.iteOmega, hc2, hc4, hc3]) rfl ?_
    refine ⟨?_, (by repeat (first | exact Below.refl _ _ | assumption | refine Below.alloc1 ?_ _ | refine Below.drew ?_ | refine qt ?_ | refine Below.setCell ?_ (by first | exact Nat.le_refl _ | (simp; done) | omega | (simp; omega)) _ | refine Below.lift ?_ (by assumption)))⟩
    rw [hr.out, if_pos (by go_light; simp_all)]; rfl
theorem call_and (x y : Val) (A : Option Addr) (c : Nat) (w : World) (h : SlAt rVal 3 w A [x, y]) (hm : mayS 12 [x, y] = true) :
    Calls Tryz.prog 92 #[.int .i64 12, .slice A 2 c] w (jK 12 [x, y] w) := by
  have H := hide h
  have hr : Hid (qN 12 [x, y] = if allS 1 [x, y] then (jo (x.n == 1 && y.n == 1), 0) else (noVal, 2)) := by show _ = _; simp [qN, hm]; cases allS 1 _ <;> rfl
  obtain ⟨b, o, rfl, hb, ⟨c0, c1, c2⟩, ⟨d0, d1, d2⟩, hx, hy⟩ := h.pair
  clear h
  go_enter Tryz.func92, Tryz.ntmps92
  go_upto_region 25 with (first | (go_at_call 116; refine (wY 12 [x, y] _ _ _ (by simp [reachBytes]) (H.out.keep qS (by repeat (first | exact Below.refl _ _ | assumption | refine Below.alloc1 ?_ _ | refine Below.drew ?_ | refine qt ?_ | refine Below.setCell ?_ (by first | exact Nat.le_refl _ | (simp; done) | omega | (simp; omega)) _ | refine Below.lift ?_ (by assumption))))).mono ?_; rintro e w2 ⟨rfl, hB2⟩; obtain ⟨hc2, hf2⟩ := jF hB2; have hz2 := hB2.size; try simp only [World.size_alloc, World.size_drew] at hc2 hf2 hz2) | (go_at_call 122; refine (all_any 1 [x, y] _ _ _ (by simp [reachBytes]) (H.out.keep qS (by repeat (first | exact Below.refl _ _ | assumption | refine Below.alloc1 ?_ _ | refine Below.drew ?_ | refine qt ?_ | refine Below.setCell ?_ (by first | exact Nat.le_refl _ | (simp; done) | omega | (simp; omega)) _ | refine Below.lift ?_ (by assumption))))).mono ?_; rintro e w4 ⟨rfl, hB4⟩; obtain ⟨hc4, hf4⟩ := jF hB4; have hz4 := hB4.size; try simp only [World.size_alloc, World.size_drew] at hc4 hf4 hz4))
  · refine bodyPost_ret (v := .tuple #[.agg #[.int .i64 0, .int .i64 0, .string ⟨#[]⟩], .int .i64 2]) (by simp [results, Tryz.results92, go_sem, ↓IntWalk.iteOmega, hc2, hc4]) rfl ?_
    refine ⟨?_, (by repeat (first | exact Below.refl _ _ | assumption | refine Below.alloc1 ?_ _ | refine Below.drew ?_ | refine qt ?_ | refine Below.setCell ?_ (by first | exact Nat.le_refl _ | (simp; done) | omega | (simp; omega)) _ | refine Below.lift ?_ (by assumption)))⟩
    rw [hr.out, if_neg (by go_light; simp_all)]; rfl
  · skip
    refine wp_spec_tail 13 (by kernel_rfl) ?_
    simp only [List.take_succ_cons, List.take_zero, List.drop_succ_cons, List.drop_zero]
    repeat (refine qH ?_; intro K hK; go_big_quiet_op; go_big_quiet_on)
    refine qH ?_; intro K hK; go_big_quiet_op
    refine ⟨_, fun _ => wQ (truth_any _ _), ?_⟩
    go_big_quiet_on
    repeat (refine qH ?_; intro K hK; go_big_quiet_op; go_big_quiet_on)
    refine zx ?_
    intro us w25 hB25
    simp only [junk, Act.put, List.setIfInBounds_toArray, List.set_cons_zero, List.set_cons_succ]
    obtain ⟨hc25, hf25⟩ := jF hB25; have hz25 := hB25.size; try simp only [World.size_alloc, World.size_drew] at hc25 hf25 hz25
    go_wp2
    refine bodyPost_ret (v := .tuple #[.agg #[.int .i64 1, .int .i64 (bitI (x.n == 1 && y.n == 1)), .string ⟨#[]⟩], .int .i64 0]) (by simp [results, Tryz.results92, go_sem, ↓IntWalk.iteOmega, hc2, hc4, hc25]) rfl ?_
    refine ⟨?_, (by repeat (first | exact Below.refl _ _ | assumption | refine Below.alloc1 ?_ _ | refine Below.drew ?_ | refine qt ?_ | refine Below.setCell ?_ (by first | exact Nat.le_refl _ | (simp; done) | omega | (simp; omega)) _ | refine Below.lift ?_ (by assumption)))⟩
    rw [hr.out, if_pos (by go_light; simp_all)]; rfl
theorem call_or (x y : Val) (A : Option Addr) (c : Nat) (w : World) (h : SlAt rVal 3 w A [x, y]) (hm : mayS 13 [x, y] = true) :
    Calls Tryz.prog 92 #[.int .i64 13, .slice A 2 c] w (jK 13 [x, y] w) := by
  have H := hide h
  have hr : Hid (qN 13 [x, y] = if allS 1 [x, y] then (jo (x.n == 1 || y.n == 1), 0) else (noVal, 2)) := by show _ = _; simp [qN, hm]; cases allS 1 _ <;> rfl
  obtain ⟨b, o, rfl, hb, ⟨c0, c1, c2⟩, ⟨d0, d1, d2⟩, hx, hy⟩ := h.pair
  clear h
  go_enter Tryz.func92, Tryz.ntmps92
  go_upto_region 26 with (first | (go_at_call 116; refine (wY 13 [x, y] _ _ _ (by simp [reachBytes]) (H.out.keep qS (by repeat (first | exact Below.refl _ _ | assumption | refine Below.alloc1 ?_ _ | refine Below.drew ?_ | refine qt ?_ | refine Below.setCell ?_ (by first | exact Nat.le_refl _ | (simp; done) | omega | (simp; omega)) _ | refine Below.lift ?_ (by assumption))))).mono ?_; rintro e w2 ⟨rfl, hB2⟩; obtain ⟨hc2, hf2⟩ := jF hB2; have hz2 := hB2.size; try simp only [World.size_alloc, World.size_drew] at hc2 hf2 hz2) | (go_at_call 122; refine (all_any 1 [x, y] _ _ _ (by simp [reachBytes]) (H.out.keep qS (by repeat (first | exact Below.refl _ _ | assumption | refine Below.alloc1 ?_ _ | refine Below.drew ?_ | refine qt ?_ | refine Below.setCell ?_ (by first | exact Nat.le_refl _ | (simp; done) | omega | (simp; omega)) _ | refine Below.lift ?_ (by assumption))))).mono ?_; rintro e w4 ⟨rfl, hB4⟩; obtain ⟨hc4, hf4⟩ := jF hB4; have hz4 := hB4.size; try simp only [World.size_alloc, World.size_drew] at hc4 hf4 hz4))
  · refine bodyPost_ret (v := .tuple #[.agg #[.int .i64 0, .int .i64 0, .string ⟨#[]⟩], .int .i64 2]) (by simp [results, Tryz.results92, go_sem, ↓IntWalk.iteOmega, hc2, hc4]) rfl ?_
    refine ⟨?_, (by repeat (first | exact Below.refl _ _ | assumption | refine Below.alloc1 ?_ _ | refine Below.drew ?_ | refine qt ?_ | refine Below.setCell ?_ (by first | exact Nat.le_refl _ | (simp; done) | omega | (simp; omega)) _ | refine Below.lift ?_ (by assumption)))⟩
    rw [hr.out, if_neg (by go_light; simp_all)]; rfl
  · skip
    refine wp_spec_tail 13 (by kernel_rfl) ?_
    simp only [List.take_succ_cons, List.take_zero, List.drop_succ_cons, List.drop_zero]
    repeat (refine qH ?_; intro K hK; go_big_quiet_op; go_big_quiet_on)
    refine qH ?_; intro K hK; go_big_quiet_op
    refine ⟨_, fun _ => wQ (truth_any _ _), ?_⟩
    go_big_quiet_on
    repeat (refine qH ?_; intro K hK; go_big_quiet_op; go_big_quiet_on)
    refine zx ?_
    intro us w26 hB26
    simp only [junk, Act.put, List.setIfInBounds_toArray, List.set_cons_zero, List.set_cons_succ]
    obtain ⟨hc26, hf26⟩ := jF hB26; have hz26 := hB26.size; try simp only [World.size_alloc, World.size_drew] at hc26 hf26 hz26
    go_wp2
    refine bodyPost_ret (v := .tuple #[.agg #[.int .i64 1, .int .i64 (bitI (x.n == 1 || y.n == 1)), .string ⟨#[]⟩], .int .i64 0]) (by simp [results, Tryz.results92, go_sem, ↓IntWalk.iteOmega, hc2, hc4, hc26]) rfl ?_
    refine ⟨?_, (by repeat (first | exact Below.refl _ _ | assumption | refine Below.alloc1 ?_ _ | refine Below.drew ?_ | refine qt ?_ | refine Below.setCell ?_ (by first | exact Nat.le_refl _ | (simp; done) | omega | (simp; omega)) _ | refine Below.lift ?_ (by assumption)))⟩
    rw [hr.out, if_pos (by go_light; simp_all)]; rfl
theorem call_any (op : Int) (l : List Val) (A : Option Addr) (c : Nat) (w : World) (hn : l.length ≤ reachBytes) (h : SlAt rVal 3 w A l) :
    Calls Tryz.prog 92 #[.int .i64 op, .slice A l.length c] w (jK op l w) := by
  cases hm : mayS op l with
  | false => exact call_no op l A c w hn h hm
  | true =>
    have hm' := hm
    simp only [mayS, Bool.and_eq_true, decide_eq_true_eq] at hm'
    obtain ⟨⟨⟨h1, h2⟩, h3⟩, _⟩ := hm'
    rcases (show op = 6 ∨ op = 7 ∨ op = 8 ∨ op = 9 ∨ op = 10 ∨ op = 11 ∨ op = 12 ∨ op = 13 by omega) with rfl | rfl | rfl | rfl | rfl | rfl | rfl | rfl
    all_goals
      simp only [Int.reduceEq, if_true, if_false] at h3
      match l, h3 with
      | [x], h3 => first | exact call_not x A c w h hm | (simp at h3)
      | [x, y], h3 => first | exact call_eq x y A c w h hm | exact call_less x y A c w h hm | exact call_add x y A c w h hm | exact call_sub x y A c w h hm | exact call_mul x y A c w h hm | exact call_and x y A c w h hm | exact call_or x y A c w h hm | (simp at h3)
      | [], h3 => simp at h3
      | _ :: _ :: _ :: _, h3 => simp at h3; omega
end Go.Proofs.YtppfcacnofjmdaaGreatDoor
namespace Go.Proofs.YtppfcacnofjmdaaGreatDoor
set_option linter.unusedVariables false
set_option linter.unusedSimpArgs false
open Go.RowKit
structure Itm.Fit (x : Itm) : Prop where
  bag : ∀ v ∈ x.bag, v.Fit
  v : x.v.Fit
  len : x.bag.length ≤ 1000000
theorem jR : noVal.Fit := ⟨⟨by decide, by decide⟩, ⟨by decide, by decide⟩, by decide⟩
theorem truthS_fit (b : Bool) : (jo b).Fit := by cases b <;> exact ⟨⟨by decide, by decide⟩, ⟨by decide, by decide⟩, by decide⟩
theorem num_fit {n : Int} (h : R64 n) : (⟨2, n, ⟨#[]⟩⟩ : Val).Fit := ⟨⟨by show _ ≤ (2 : Int); omega, by show (2 : Int) ≤ _; omega⟩, h, by show (⟨#[]⟩ : ByteArray).size ≤ reachBytes; decide⟩
theorem inI_r64 {n : Int} (h : inI n = true) : R64 n := by
  simp only [inI, Bool.and_eq_true, decide_eq_true_eq] at h
  exact ⟨by omega, by omega⟩
theorem number_fit {f : Int → Int → Int × Int} (hf : ∀ a b, (f a b).2 = 0 → R64 (f a b).1) (x y : Val) : (qM f x y).1.Fit := by
  unfold qM
  split
  · exact jR
  · split
    · exact jR
    · rename_i h
      exact num_fit (hf _ _ (Classical.byContradiction h))
theorem add_fit (a b : Int) : (addS a b).2 = 0 → R64 (addS a b).1 := by
  unfold addS
  split
  · rename_i h; exact fun _ => inI_r64 h
  · intro h; cases h
theorem sub_fit (a b : Int) : (subS a b).2 = 0 → R64 (subS a b).1 := by
  unfold subS
  split
  · rename_i h; exact fun _ => inI_r64 h
  · intro h; cases h
theorem mul_fit (a b : Int) : (mulS a b).2 = 0 → R64 (mulS a b).1 := by
  unfold mulS
  split
  · rename_i h; exact fun _ => inI_r64 h
  · intro h; cases h
theorem callS_fit (op : Int) (l : List Val) : (qN op l).1.Fit := by
  unfold qN
  split
  · exact jR
  · simp only
    repeat' split
    all_goals first | exact jR | exact truthS_fit _ | exact number_fit add_fit _ _ | exact number_fit sub_fit _ _ | exact number_fit mul_fit _ _
theorem bagS_mem {cat : Int} {name : ByteArray} {g : List Giv} {Q : List Val → Prop} (h0 : Q []) (h : ∀ x ∈ g, Q x.bag) : Q (bagS cat name g) := by
  rcases place_cases cat name g with ⟨_, hb, _⟩ | ⟨k, hk, _, hb, _⟩
  · rw [hb]; exact h0
  · rw [hb]; exact h _ (List.getElem_mem hk)
theorem getS_mem {a : Atr} {g : List Giv} {Q : List Val → Prop} (h0 : Q []) (h : ∀ x ∈ g, Q x.bag) : Q (getS a g).1 := by
  unfold getS
  split
  · exact h0
  · exact bagS_mem h0 h
theorem nodeS_fit {n : Nod} (hn : n.Fit) {l : List Itm} (hl : ∀ x ∈ l, x.Fit) {g : List Giv} (hg : ∀ x ∈ g, x.Fit) (hb : ∀ x ∈ g, x.bag.length ≤ 1000000) : (zc n l g).Fit := by
  have e0 : ∀ v ∈ ([] : List Val), v.Fit := fun v hv => by simp at hv
  have d0 : (l.getD 0 noItm).Fit := by
    cases l with
    | nil => exact ⟨e0, jR, Nat.zero_le _⟩
    | cons x r => exact hl x (by simp)
  have sz : ∀ {v : Val}, v.Fit → (Itm.mk [] v 0).Fit := fun h => ⟨e0, h, Nat.zero_le _⟩
  have sz' : ∀ {v : Val} (e : Int), v.Fit → (Itm.mk [] v e).Fit := fun _ h => ⟨e0, h, Nat.zero_le _⟩
  unfold zc
  split
  · exact sz hn.val
  · split
    · exact ⟨getS_mem (Q := fun b => ∀ v ∈ b, v.Fit) e0 fun x hx => (hg x hx).bag, jR, getS_mem (Q := fun b => b.length ≤ 1000000) (Nat.zero_le _) hb⟩
    · split
      · exact sz (truthS_fit _)
      · split
        · exact sz' _ jR
        · unfold lastS
          repeat' split
          · refine sz ?_
            rename_i h1
            match hb : (l.getD 0 noItm).bag, h1 with
            | [v], _ => exact d0.bag v (by rw [hb]; simp)
          · exact sz' _ jR
          · have := d0.len
            exact sz (num_fit ⟨by omega, by omega⟩)
          · exact sz (truthS_fit _)
          · exact sz' _ (callS_fit _ _)
theorem rel_val {ok : Nat → Prop} {w : World} (x : Val) : RelP ok w (.agg x.pv) x.v := by
  refine .agg rfl fun i s u hs hu => ?_
  match i, hs, hu with
  | 0, hs, hu => cases hs; cases hu; exact .v rfl
  | 1, hs, hu => cases hs; cases hu; exact .v rfl
  | 2, hs, hu => cases hs; cases hu; exact .v rfl
theorem rel_two {ok : Nat → Prop} {H : Nat → Option Value} {w : World} {p q : PV} {u v : Value} (h : RelP ok w p u) (k : RelP ok w q v) : RelS ok H w (.tup [.p p, .p q]) (.tuple #[u, v]) := by
  refine .tup rfl fun i s x hs hx => ?_
  match i, hs, hx with
  | 0, hs, hx => cases hs; cases hx; exact .p h
  | 1, hs, hx => cases hs; cases hx; exact .p k
theorem call_h (op : Int) (l : List Val) (hf : ∀ x ∈ l, x.Fit) : Holds Tryz.prog 92 [pI op, valsP l] (.tup [.p (.agg (qN op l).1.pv), .p (pI (qN op l).2)]) [] :=
  .of_calls Tryz.func92 (by kernel_rfl) rfl (fun w vs hl hr => by
    obtain ⟨u, v, rfl⟩ : ∃ u v, vs = [u, v] := by
      match vs, hl with
      | [u, v], _ => exact ⟨u, v, rfl⟩
    have h := zX (hr 0 _ u rfl rfl) rfl
    subst h
    obtain ⟨A, c, rfl, h1, h2, h3⟩ := vals_typed (hr 1 _ v rfl rfl) hf
    exact call_any op l A c w h2.1 h3) rfl fun w => rel_two (rel_val _) (.v rfl)
end Go.Proofs.YtppfcacnofjmdaaGreatDoor
namespace Go.Proofs.YtppfcacnofjmdaaGreatDoor
set_option linter.unusedVariables false
set_option linter.unusedSimpArgs false
open Go.RowKit
set_option maxHeartbeats 4000000
theorem against_h (m : Mat) (v : Val) (hm : m.val.s.size ≤ reachBytes) (hv : v.s.size ≤ reachBytes) : Holds Tryz.prog 63 [.agg m.pv, .agg v.pv] (.tup [.p (pB (againstT m v).1), .p (pI (againstT m v).2)]) [] := by
  obtain ⟨a, op, val⟩ := m
  unfold againstT
  simp only at hm ⊢
  by_cases h1 : op = 1
  · subst h1
    rw [if_pos rfl]
    refine qA (ts := [4,5]) Tryz.func63 (by kernel_rfl) rfl rfl rfl ?_
    (repeat refine qb ?_); refine qa ?_
    repeat (first | refine zR ?_ | refine zK ?_ | refine zM ?_ | refine zB ?_ | refine zA ?_ | refine zS ?_ | refine zL ?_)
    refine qc ?_
    (repeat refine qb ?_); refine ql ?_
    (repeat refine qb ?_); refine qs (by kernel_rfl) ?_
    repeat (refine qr qe rfl (by exact True.intro) rfl ?_)
    refine qQ ?_
    (repeat refine qb ?_); refine qf rfl (fun hk => ?_) (fun hk => ?_)
    · have hk' : v.kind ≠ val.kind := by simpa using hk
      rw [if_pos hk']
      (repeat refine qb ?_); refine qa ?_
      repeat (first | refine zR ?_ | refine zK ?_ | refine zM ?_ | refine zB ?_ | refine zA ?_ | refine zS ?_ | refine zL ?_)
      refine qc ?_
      (repeat refine qb ?_); refine qk ?_
      exact ⟨Or.inr rfl, _, _, [], Wk.refl _, rfl, rfl, rfl, rfl⟩
    · have hk' : ¬ v.kind ≠ val.kind := by simpa using hk
      rw [if_neg hk']
      (repeat refine qb ?_); refine qa ?_
      repeat (first | refine zR ?_ | refine zK ?_ | refine zM ?_ | refine zB ?_ | refine zA ?_ | refine zS ?_ | refine zL ?_)
      refine qc ?_
      (repeat refine qb ?_); refine qf rfl (fun h3 => ?_) (fun h3 => ?_)
      · (repeat refine qb ?_); refine qa ?_
        repeat (first | refine zR ?_ | refine zK ?_ | refine zM ?_ | refine zB ?_ | refine zA ?_ | refine zS ?_ | refine zL ?_)
        refine qw qe rfl (opR_eqV v val rfl rfl rfl rfl) rfl rfl ?_
        repeat (first | refine zR ?_ | refine zK ?_ | refine zM ?_ | refine zB ?_ | refine zA ?_ | refine zS ?_ | refine zL ?_)
        refine qc ?_
        (repeat refine qb ?_); refine qk ?_
        exact ⟨Or.inr rfl, _, _, [], Wk.refl _, rfl, rfl, rfl, rfl⟩
      · cases h3
  · have hn1 : (op == 1) = false := by simpa using h1
    rw [if_neg h1]
    refine qA (ts := [4,5]) Tryz.func63 (by kernel_rfl) rfl rfl rfl ?_
    (repeat refine qb ?_); refine qa ?_
    repeat (first | refine zR ?_ | refine zK ?_ | refine zM ?_ | refine zB ?_ | refine zA ?_ | refine zS ?_ | refine zL ?_)
    refine qc ?_
    (repeat refine qb ?_); refine ql ?_
    (repeat refine qb ?_); refine qs (by kernel_rfl) ?_
    repeat (refine qr qe rfl (by exact True.intro) rfl ?_)
    rw [hn1]
    repeat (refine qr qe rfl (by exact True.intro) rfl ?_)
    refine qQ ?_
    (repeat refine qb ?_); refine qf rfl (fun hk => ?_) (fun hk => ?_)
    · cases hk
    (repeat refine qb ?_); refine qa ?_
    repeat (first | refine zR ?_ | refine zK ?_ | refine zM ?_ | refine zB ?_ | refine zA ?_ | refine zS ?_ | refine zL ?_)
    refine qc ?_
    rw [hn1]
    (repeat refine qb ?_); refine qf rfl (fun h3 => ?_) (fun h3 => ?_)
    · cases h3
    by_cases h2 : op = 2
    · rw [if_pos h2]
      (repeat refine qb ?_); refine qa ?_
      repeat (first | refine zR ?_ | refine zK ?_ | refine zM ?_ | refine zB ?_ | refine zA ?_ | refine zS ?_ | refine zL ?_)
      refine qc ?_
      (repeat refine qb ?_); refine qf rfl (fun h4 => ?_) (fun h4 => ?_)
      · (repeat refine qb ?_); refine qa ?_
        repeat (first | refine zR ?_ | refine zK ?_ | refine zM ?_ | refine zB ?_ | refine zA ?_ | refine zS ?_ | refine zL ?_)
        refine qn rfl (qg rfl rfl rfl rfl (less_h v val hv hm) rfl rfl ?_)
        repeat (first | refine zR ?_ | refine zK ?_ | refine zM ?_ | refine zB ?_ | refine zA ?_ | refine zS ?_ | refine zL ?_)
        refine qc ?_
        (repeat refine qb ?_); refine qk ?_
        exact ⟨Or.inr rfl, _, _, [], Wk.refl _, rfl, rfl, rfl, rfl⟩
      · simp [h2] at h4
    · rw [if_neg h2]
      (repeat refine qb ?_); refine qa ?_
      repeat (first | refine zR ?_ | refine zK ?_ | refine zM ?_ | refine zB ?_ | refine zA ?_ | refine zS ?_ | refine zL ?_)
      refine qc ?_
      (repeat refine qb ?_); refine qf rfl (fun h4 => ?_) (fun h4 => ?_)
      · simp [h2] at h4
      refine qm ?_
      (repeat refine qb ?_); refine qa ?_
      repeat (first | refine zR ?_ | refine zK ?_ | refine zM ?_ | refine zB ?_ | refine zA ?_ | refine zS ?_ | refine zL ?_)
      refine qn rfl (qg rfl rfl rfl rfl (less_h val v hm hv) rfl rfl ?_)
      repeat (first | refine zR ?_ | refine zK ?_ | refine zM ?_ | refine zB ?_ | refine zA ?_ | refine zS ?_ | refine zL ?_)
      refine qc ?_
      (repeat refine qb ?_); refine qk ?_
      exact ⟨Or.inr rfl, _, _, [], Wk.refl _, rfl, rfl, rfl, rfl⟩
theorem any_take {α : Type} {p : α → Bool} {l : List α} {k : Nat} (h : k < l.length) : (l.take (k + 1)).any p = ((l.take k).any p || p l[k]) := by
  rw [List.take_succ_eq_append_getElem h, List.any_append]
  simp
theorem match2_h (m : Mat) (l : List Giv) (hm : m.Fit) (hf : ∀ x ∈ l, x.Fit) (hn : l.length ≤ 1000000) (hb : ∀ x ∈ l, x.bag.length ≤ 1000000) : Holds Tryz.prog 37 [.agg m.pv, zP l] (.p (pI (qax m l))) [] := by
  have H := get_h m.attr l hn hb
  have hbag := getS_mem (a := m.attr) (g := l) (Q := fun b => b.length ≤ 1000000) (Nat.zero_le _) hb
  have hfit := getS_mem (a := m.attr) (g := l) (Q := fun b => ∀ v ∈ b, v.Fit) (fun v hv => by cases hv) fun x hx => (hf x hx).bag
  unfold qax
  generalize getS m.attr l = r at *
  obtain ⟨bag, e⟩ := r
  simp only at H hbag hfit ⊢
  have lb : (bag.map Val.pv).length = bag.length := by simp
  refine qA (ts := [4]) Tryz.func37 (by kernel_rfl) rfl rfl rfl ?_
  (repeat refine qb ?_); refine qa ?_
  repeat (first | refine zR ?_ | refine zK ?_ | refine zM ?_ | refine zB ?_ | refine zA ?_ | refine zS ?_ | refine zL ?_)
  refine qc ?_
  (repeat refine qb ?_); refine qa ?_
  repeat (first | refine zR ?_ | refine zK ?_ | refine zM ?_ | refine zB ?_ | refine zA ?_ | refine zS ?_ | refine zL ?_)
  refine qn rfl (qD rfl rfl rfl rfl (H) rfl rfl rfl ?_)
  repeat (first | refine zR ?_ | refine zK ?_ | refine zM ?_ | refine zB ?_ | refine zA ?_ | refine zS ?_ | refine zL ?_)
  refine qc ?_
  (repeat refine qb ?_); refine qa ?_
  repeat (first | refine zR ?_ | refine zK ?_ | refine zM ?_ | refine zB ?_ | refine zA ?_ | refine zS ?_ | refine zL ?_)
  refine qc ?_
  (repeat refine qb ?_); refine qf rfl (fun he => ?_) (fun he => ?_)
  · have he' : e ≠ 0 := by simpa using he
    rw [if_pos he']
    (repeat refine qb ?_); refine qa ?_
    repeat (first | refine zR ?_ | refine zK ?_ | refine zM ?_ | refine zB ?_ | refine zA ?_ | refine zS ?_ | refine zL ?_)
    refine qc ?_
    (repeat refine qb ?_); refine qk ?_
    exact zg rfl rfl
  have he' : ¬ e ≠ 0 := by simpa using he
  rw [if_neg he']
  refine qm ?_
  (repeat refine qb ?_); refine qa ?_
  repeat (first | refine zR ?_ | refine zK ?_ | refine zM ?_ | refine zB ?_ | refine zA ?_ | refine zS ?_ | refine zL ?_)
  refine qc ?_
  (repeat refine qb ?_); refine qa ?_
  repeat (first | refine zR ?_ | refine zK ?_ | refine zM ?_ | refine zB ?_ | refine zA ?_ | refine zS ?_ | refine zL ?_)
  refine qc ?_
  (repeat refine qb ?_); refine ql ?_
  refine SW.wk (qq [2, 7, 21, 22, 23] [(2, 2)] rfl rfl) ?_
  refine qO (fun n s => ∃ (k : Nat) (kk o : Int), k ≤ bag.length ∧ n = bag.length - k ∧ kk = k ∧ o = (if (bag.take k).any (badT m) then 1 else 0) ∧ (bag.take k).any (okT m) = false ∧ s = ⟨38, [(2, .ptr 2 0), (7, .p (pI o)), (21, .p (valsP bag)), (22, .p (pI (bag.map Val.pv).length)), (23, .p (pI kk))], [(2, .cells (m.pv.map .p))]⟩) bag.length ⟨0, 0, 0, Nat.zero_le _, rfl, rfl, rfl, rfl, rfl⟩ ?_
  rintro n s ⟨k, _, o, hk, rfl, rfl, ho, ha, rfl⟩
  (repeat refine qb ?_); refine qa ?_
  repeat (first | refine zR ?_ | refine zK ?_ | refine zM ?_ | refine zB ?_ | refine zA ?_ | refine zS ?_ | refine zL ?_)
  refine qc ?_
  (repeat refine qb ?_); refine qf rfl (fun hlt => ?_) (fun hlt => ?_)
  · refine qm ?_
    rw [lb] at hlt
    simp only [decide_eq_true_eq] at hlt
    have hlt' : k < bag.length := by omega
    have a1 := any_take (p := okT m) hlt'
    have a2 := any_take (p := badT m) hlt'
    have a3 : okT m bag[k] = true → bag.any (okT m) = true := fun h => List.any_eq_true.2 ⟨_, List.getElem_mem hlt', h⟩
    have H2 := against_h m bag[k] hm.val.s (hfit _ (List.getElem_mem hlt')).s
    (repeat refine qb ?_); refine ql ?_
    (repeat refine qb ?_); refine qa ?_
    repeat (first | refine zR ?_ | refine zK ?_ | refine zM ?_ | refine zB ?_ | refine zA ?_ | refine zS ?_ | refine zL ?_)
    refine qw qe rfl rfl (by rw [lb]; omega) rfl ?_
    rw [qJ hlt']
    repeat (first | refine zR ?_ | refine zK ?_ | refine zM ?_ | refine zB ?_ | refine zA ?_ | refine zS ?_ | refine zL ?_)
    refine qc ?_
    (repeat refine qb ?_); refine qa ?_
    repeat (first | refine zR ?_ | refine zK ?_ | refine zM ?_ | refine zB ?_ | refine zA ?_ | refine zS ?_ | refine zL ?_)
    refine qn rfl (qg rfl rfl rfl rfl (H2) rfl rfl ?_)
    repeat (first | refine zR ?_ | refine zK ?_ | refine zM ?_ | refine zB ?_ | refine zA ?_ | refine zS ?_ | refine zL ?_)
    refine qc ?_
    (repeat refine qb ?_); refine qa ?_
    repeat (first | refine zR ?_ | refine zK ?_ | refine zM ?_ | refine zB ?_ | refine zA ?_ | refine zS ?_ | refine zL ?_)
    refine qc ?_
    (repeat refine qb ?_); refine qf rfl (fun hp => ?_) (fun hp => ?_)
    · rw [if_pos (a3 hp)]
      (repeat refine qb ?_); refine qa ?_
      repeat (first | refine zR ?_ | refine zK ?_ | refine zM ?_ | refine zB ?_ | refine zA ?_ | refine zS ?_ | refine zL ?_)
      refine qc ?_
      (repeat refine qb ?_); refine qk ?_
      exact zg rfl rfl
    have hp' : okT m bag[k] = false := hp
    refine qm ?_
    (repeat refine qb ?_); refine qa ?_
    repeat (first | refine zR ?_ | refine zK ?_ | refine zM ?_ | refine zB ?_ | refine zA ?_ | refine zS ?_ | refine zL ?_)
    refine qc ?_
    (repeat refine qb ?_); refine qf rfl (fun hq => ?_) (fun hq => ?_)
    · have hq' : badT m bag[k] = true := by unfold badT; simpa using hq
      (repeat refine qb ?_); refine qa ?_
      repeat (first | refine zR ?_ | refine zK ?_ | refine zM ?_ | refine zB ?_ | refine zA ?_ | refine zS ?_ | refine zL ?_)
      refine qc ?_
      (repeat refine qb ?_); refine qa ?_
      repeat (first | refine zR ?_ | refine zK ?_ | refine zM ?_ | refine zB ?_ | refine zA ?_ | refine zS ?_ | refine zL ?_)
      refine qc ?_
      refine ⟨_, _, ?_, qq [2, 7, 21, 22, 23] [(2, 2)] rfl rfl, k + 1, _, 1, hlt', rfl, qz hlt' (by omega), ?_, ?_, rfl⟩
      · omega
      · rw [a2, hq', Bool.or_true, if_pos rfl]
      · rw [a1, ha, hp']; rfl
    · have hq' : badT m bag[k] = false := by unfold badT; simpa using hq
      refine qm ?_
      (repeat refine qb ?_); refine qa ?_
      repeat (first | refine zR ?_ | refine zK ?_ | refine zM ?_ | refine zB ?_ | refine zA ?_ | refine zS ?_ | refine zL ?_)
      refine qc ?_
      refine ⟨_, _, ?_, qq [2, 7, 21, 22, 23] [(2, 2)] rfl rfl, k + 1, _, o, hlt', rfl, qz hlt' (by omega), ?_, ?_, rfl⟩
      · omega
      · rw [a2, hq', Bool.or_false]; exact ho
      · rw [a1, ha, hp']; rfl
  · refine qK ?_
    rw [lb] at hlt
    simp only [decide_eq_false_iff_not] at hlt
    have hkk : k = bag.length := by omega
    subst hkk
    rw [List.take_length] at ho ha
    rw [ha, if_neg (by simp), ← ho]
    (repeat refine qb ?_); refine qa ?_
    repeat (first | refine zR ?_ | refine zK ?_ | refine zM ?_ | refine zB ?_ | refine zA ?_ | refine zS ?_ | refine zL ?_)
    refine qc ?_
    (repeat refine qb ?_); refine qk ?_
    exact zg rfl rfl
theorem allTT_take {l : List Mat} {g : List Giv} {k : Nat} (h : k < l.length) : min (allTT (l.take k) g) (qax l[k] g) = allTT (l.take (k + 1)) g := by
  unfold allTT
  rw [List.take_succ_eq_append_getElem h, List.foldl_append]; rfl
theorem anyTT_take {l : List (List Mat)} {g : List Giv} {k : Nat} (h : k < l.length) : max (anyTT (l.take k) g) (allTT l[k] g) = anyTT (l.take (k + 1)) g := by
  unfold anyTT
  rw [List.take_succ_eq_append_getElem h, List.foldl_append]; rfl
theorem metT_take {l : Tar} {g : List Giv} {k : Nat} (h : k < l.length) : min (metT (l.take k) g) (anyTT l[k] g) = metT (l.take (k + 1)) g := by
  unfold metT
  rw [List.take_succ_eq_append_getElem h, List.foldl_append]; rfl
theorem allT_h (l : List Mat) (g : List Giv) (hm : ∀ m ∈ l, m.Fit) (hl : l.length ≤ 1000000) (hf : ∀ x ∈ g, x.Fit) (hn : g.length ≤ 1000000) (hb : ∀ x ∈ g, x.bag.length ≤ 1000000) : Holds Tryz.prog 52 [qaB l, zP g] (.p (pI (allTT l g))) [] := by
  have lm : (l.map Mat.pv).length = l.length := by simp
  refine qA (ts := [4]) Tryz.func52 (by kernel_rfl) rfl rfl rfl ?_
  (repeat refine qb ?_); refine qa ?_
  repeat (first | refine zR ?_ | refine zK ?_ | refine zM ?_ | refine zB ?_ | refine zA ?_ | refine zS ?_ | refine zL ?_)
  refine qc ?_
  (repeat refine qb ?_); refine qa ?_
  repeat (first | refine zR ?_ | refine zK ?_ | refine zM ?_ | refine zB ?_ | refine zA ?_ | refine zS ?_ | refine zL ?_)
  refine qc ?_
  (repeat refine qb ?_); refine qa ?_
  repeat (first | refine zR ?_ | refine zK ?_ | refine zM ?_ | refine zB ?_ | refine zA ?_ | refine zS ?_ | refine zL ?_)
  refine qc ?_
  (repeat refine qb ?_); refine ql ?_
  refine SW.wk (qq [1, 5, 8, 9, 10] [] rfl rfl) ?_
  refine qO (fun n s => ∃ (k : Nat) (kk o : Int), k ≤ l.length ∧ n = l.length - k ∧ kk = k ∧ o = allTT (l.take k) g ∧ s = ⟨21, [(1, .p (zP g)), (5, .p (pI o)), (8, .p (qaB l)), (9, .p (pI (l.map Mat.pv).length)), (10, .p (pI kk))], []⟩) l.length ⟨0, 0, 2, Nat.zero_le _, rfl, rfl, rfl, rfl⟩ ?_
  rintro n s ⟨k, _, o, hk, rfl, rfl, ho, rfl⟩
  (repeat refine qb ?_); refine qa ?_
  repeat (first | refine zR ?_ | refine zK ?_ | refine zM ?_ | refine zB ?_ | refine zA ?_ | refine zS ?_ | refine zL ?_)
  refine qc ?_
  (repeat refine qb ?_); refine qf rfl (fun hlt => ?_) (fun hlt => ?_)
  · refine qm ?_
    rw [lm] at hlt
    simp only [decide_eq_true_eq] at hlt
    have hlt' : k < l.length := by omega
    have H := match2_h l[k] g (hm _ (List.getElem_mem hlt')) hf hn hb
    have hs := allTT_take (g := g) hlt'
    (repeat refine qb ?_); refine ql ?_
    (repeat refine qb ?_); refine qa ?_
    repeat (first | refine zR ?_ | refine zK ?_ | refine zM ?_ | refine zB ?_ | refine zA ?_ | refine zS ?_ | refine zL ?_)
    refine qw qe rfl rfl (by rw [lm]; omega) rfl ?_
    rw [qJ hlt']
    repeat (first | refine zR ?_ | refine zK ?_ | refine zM ?_ | refine zB ?_ | refine zA ?_ | refine zS ?_ | refine zL ?_)
    refine qc ?_
    (repeat refine qb ?_); refine qa ?_
    repeat (first | refine zR ?_ | refine zK ?_ | refine zM ?_ | refine zB ?_ | refine zA ?_ | refine zS ?_ | refine zL ?_)
    refine qn rfl (qg rfl rfl rfl rfl (H) rfl rfl ?_)
    repeat (first | refine zR ?_ | refine zK ?_ | refine zM ?_ | refine zB ?_ | refine zA ?_ | refine zS ?_ | refine zL ?_)
    refine qc ?_
    (repeat refine qb ?_); refine qa ?_
    repeat (first | refine zR ?_ | refine zK ?_ | refine zM ?_ | refine zB ?_ | refine zA ?_ | refine zS ?_ | refine zL ?_)
    refine qc ?_
    refine ⟨_, _, ?_, qq [1, 5, 8, 9, 10] [] rfl rfl, k + 1, _, _, hlt', rfl, qz hlt' (by omega), ?_, rfl⟩
    · omega
    · rw [← hs, ← ho]
      dsimp only; split <;> omega
  · refine qK ?_
    rw [lm] at hlt
    simp only [decide_eq_false_iff_not] at hlt
    have hkk : k = l.length := by omega
    subst hkk
    rw [List.take_length] at ho
    rw [← ho]
    (repeat refine qb ?_); refine qa ?_
    repeat (first | refine zR ?_ | refine zK ?_ | refine zM ?_ | refine zB ?_ | refine zA ?_ | refine zS ?_ | refine zL ?_)
    refine qc ?_
    (repeat refine qb ?_); refine qk ?_
    exact zg rfl rfl
def TarSm (t : Tar) : Prop := t.length ≤ 1000000 ∧ ∀ x ∈ t, x.length ≤ 1000000 ∧ ∀ y ∈ x, y.length ≤ 1000000
theorem metT_h (t : Tar) (g : List Giv) (hm : ∀ x ∈ t, ∀ y ∈ x, ∀ m ∈ y, m.Fit) (hl : TarSm t) (hf : ∀ x ∈ g, x.Fit) (hn : g.length ≤ 1000000) (hb : ∀ x ∈ g, x.bag.length ≤ 1000000) : Holds Tryz.prog 28 [tgtP t, zP g] (.p (pI (metT t g))) [] := by
  have lt : (t.map fun x => [anyP x]).length = t.length := by simp
  have ht0 := hl.1
  refine qA (ts := [4]) Tryz.func28 (by kernel_rfl) rfl rfl rfl ?_
  (repeat refine qb ?_); refine qa ?_
  repeat (first | refine zR ?_ | refine zK ?_ | refine zM ?_ | refine zB ?_ | refine zA ?_ | refine zS ?_ | refine zL ?_)
  refine qc ?_
  (repeat refine qb ?_); refine qa ?_
  repeat (first | refine zR ?_ | refine zK ?_ | refine zM ?_ | refine zB ?_ | refine zA ?_ | refine zS ?_ | refine zL ?_)
  refine qc ?_
  (repeat refine qb ?_); refine qa ?_
  repeat (first | refine zR ?_ | refine zK ?_ | refine zM ?_ | refine zB ?_ | refine zA ?_ | refine zS ?_ | refine zL ?_)
  refine qc ?_
  (repeat refine qb ?_); refine ql ?_
  refine SW.wk (qq [1, 5, 11, 12, 13] [] rfl rfl) ?_
  refine qO (fun n s => ∃ (k : Nat) (kk o : Int), k ≤ t.length ∧ n = t.length - k ∧ kk = k ∧ o = metT (t.take k) g ∧ s = ⟨34, [(1, .p (zP g)), (5, .p (pI o)), (11, .p (tgtP t)), (12, .p (pI (t.map fun x => [anyP x]).length)), (13, .p (pI kk))], []⟩) t.length ⟨0, 0, 2, Nat.zero_le _, rfl, rfl, rfl, rfl⟩ ?_
  rintro n s ⟨k, _, o, hk, rfl, rfl, ho, rfl⟩
  (repeat refine qb ?_); refine qa ?_
  repeat (first | refine zR ?_ | refine zK ?_ | refine zM ?_ | refine zB ?_ | refine zA ?_ | refine zS ?_ | refine zL ?_)
  refine qc ?_
  (repeat refine qb ?_); refine qf rfl (fun hlt => ?_) (fun hlt => ?_)
  · refine qm ?_
    rw [lt] at hlt
    simp only [decide_eq_true_eq] at hlt
    have hlt' : k < t.length := by omega
    have hs := metT_take (g := g) hlt'
    have hxl := hl.2 _ (List.getElem_mem hlt')
    have hxm := hm _ (List.getElem_mem hlt')
    (repeat refine qb ?_); refine ql ?_
    (repeat refine qb ?_); refine qa ?_
    repeat (first | refine zR ?_ | refine zK ?_ | refine zM ?_ | refine zB ?_ | refine zA ?_ | refine zS ?_ | refine zL ?_)
    refine qw qe rfl rfl (by rw [lt]; omega) rfl ?_
    rw [qJ hlt']
    repeat (first | refine zR ?_ | refine zK ?_ | refine zM ?_ | refine zB ?_ | refine zA ?_ | refine zS ?_ | refine zL ?_)
    refine qc ?_
    generalize t[k] = x at *
    have lx : (x.map fun y => [qaB y]).length = x.length := by simp
    have hx0 := hxl.1
    (repeat refine qb ?_); refine qa ?_
    repeat (first | refine zR ?_ | refine zK ?_ | refine zM ?_ | refine zB ?_ | refine zA ?_ | refine zS ?_ | refine zL ?_)
    refine qc ?_
    (repeat refine qb ?_); refine qa ?_
    repeat (first | refine zR ?_ | refine zK ?_ | refine zM ?_ | refine zB ?_ | refine zA ?_ | refine zS ?_ | refine zL ?_)
    refine qc ?_
    (repeat refine qb ?_); refine ql ?_
    refine SW.wk (qq [1, 5, 8, 11, 12, 13, 17, 18, 19] [] rfl rfl) ?_
    refine qO (fun n s => ∃ (j : Nat) (jj b : Int), j ≤ x.length ∧ n = x.length - j ∧ jj = j ∧ b = anyTT (x.take j) g ∧ s = ⟨34, [(1, .p (zP g)), (5, .p (pI o)), (8, .p (pI b)), (11, .p (tgtP t)), (12, .p (pI (t.map fun x => [anyP x]).length)), (13, .p (pI k)), (17, .p (anyP x)), (18, .p (pI (x.map fun y => [qaB y]).length)), (19, .p (pI jj))], []⟩) x.length ⟨0, 0, 0, Nat.zero_le _, rfl, rfl, rfl, rfl⟩ ?_
    rintro n s ⟨j, _, b, hj, rfl, rfl, hbb, rfl⟩
    (repeat refine qb ?_); refine qa ?_
    repeat (first | refine zR ?_ | refine zK ?_ | refine zM ?_ | refine zB ?_ | refine zA ?_ | refine zS ?_ | refine zL ?_)
    refine qc ?_
    (repeat refine qb ?_); refine qf rfl (fun hlj => ?_) (fun hlj => ?_)
    · refine qm ?_
      rw [lx] at hlj
      simp only [decide_eq_true_eq] at hlj
      have hlj' : j < x.length := by omega
      have hs2 := anyTT_take (g := g) hlj'
      have H := allT_h x[j] g (hxm _ (List.getElem_mem hlj')) (hxl.2 _ (List.getElem_mem hlj')) hf hn hb
      (repeat refine qb ?_); refine ql ?_
      (repeat refine qb ?_); refine qa ?_
      repeat (first | refine zR ?_ | refine zK ?_ | refine zM ?_ | refine zB ?_ | refine zA ?_ | refine zS ?_ | refine zL ?_)
      refine qw qe rfl rfl (by rw [lx]; omega) rfl ?_
      rw [qJ hlj']
      repeat (first | refine zR ?_ | refine zK ?_ | refine zM ?_ | refine zB ?_ | refine zA ?_ | refine zS ?_ | refine zL ?_)
      refine qc ?_
      (repeat refine qb ?_); refine qa ?_
      repeat (first | refine zR ?_ | refine zK ?_ | refine zM ?_ | refine zB ?_ | refine zA ?_ | refine zS ?_ | refine zL ?_)
      refine qn rfl (qg rfl rfl rfl rfl (H) rfl rfl ?_)
      repeat (first | refine zR ?_ | refine zK ?_ | refine zM ?_ | refine zB ?_ | refine zA ?_ | refine zS ?_ | refine zL ?_)
      refine qc ?_
      (repeat refine qb ?_); refine qa ?_
      repeat (first | refine zR ?_ | refine zK ?_ | refine zM ?_ | refine zB ?_ | refine zA ?_ | refine zS ?_ | refine zL ?_)
      refine qc ?_
      refine ⟨_, _, ?_, qq [1, 5, 8, 11, 12, 13, 17, 18, 19] [] rfl rfl, j + 1, _, _, hlj', rfl, qz hlj' (by omega), ?_, rfl⟩
      · omega
      · rw [← hs2, ← hbb]
        dsimp only; split <;> omega
    · refine qK ?_
      rw [lx] at hlj
      simp only [decide_eq_false_iff_not] at hlj
      have hjj : j = x.length := by omega
      subst hjj
      rw [List.take_length] at hbb
      (repeat refine qb ?_); refine qa ?_
      repeat (first | refine zR ?_ | refine zK ?_ | refine zM ?_ | refine zB ?_ | refine zA ?_ | refine zS ?_ | refine zL ?_)
      refine qc ?_
      (repeat refine qb ?_); refine qa ?_
      repeat (first | refine zR ?_ | refine zK ?_ | refine zM ?_ | refine zB ?_ | refine zA ?_ | refine zS ?_ | refine zL ?_)
      refine qc ?_
      refine ⟨_, _, ?_, qq [1, 5, 11, 12, 13] [] rfl rfl, k + 1, _, _, hlt', rfl, qz hlt' (by omega), ?_, rfl⟩
      · omega
      · rw [← hs, ← ho, ← hbb]
        dsimp only; split <;> omega
  · refine qK ?_
    rw [lt] at hlt
    simp only [decide_eq_false_iff_not] at hlt
    have hkk : k = t.length := by omega
    subst hkk
    rw [List.take_length] at ho
    rw [← ho]
    (repeat refine qb ?_); refine qa ?_
    repeat (first | refine zR ?_ | refine zK ?_ | refine zM ?_ | refine zB ?_ | refine zA ?_ | refine zS ?_ | refine zL ?_)
    refine qc ?_
    (repeat refine qb ?_); refine qk ?_
    exact zg rfl rfl
structure GivOk (g : List Giv) : Prop where
  fit : ∀ x ∈ g, x.Fit
  len : g.length ≤ 1000000
  bags : ∀ x ∈ g, x.bag.length ≤ 1000000
end Go.Proofs.YtppfcacnofjmdaaGreatDoor
namespace Go.Proofs.YtppfcacnofjmdaaGreatDoor
set_option linter.unusedVariables false
set_option linter.unusedSimpArgs false
open Go.RowKit
abbrev nilV : PV := .v (.slice none 0 0)
inductive Cv : PV → PV → Prop
  | refl (p : PV) : Cv p p
  | nil (z : Nat) : Cv (.v (.slice none 0 0)) (.sl z [])
  | agg {cs ds : List PV} (hl : cs.length = ds.length) (h : ∀ (i : Nat) (c d : PV), cs[i]? = some c → ds[i]? = some d → Cv c d) : Cv (.agg cs) (.agg ds)
  | sl {z : Nat} {l m : List (List PV)} (hl : l.length = m.length) (he : ∀ (i : Nat) (e f : List PV), l[i]? = some e → m[i]? = some f → e.length = f.length) (h : ∀ (i j : Nat) (e f : List PV) (c d : PV), l[i]? = some e → m[i]? = some f → e[j]? = some c → f[j]? = some d → Cv c d) : Cv (.sl z l) (.sl z m)
def CvL (cs ds : List PV) : Prop := cs.length = ds.length ∧ ∀ (i : Nat) (c d : PV), cs[i]? = some c → ds[i]? = some d → Cv c d
theorem CvL.nil : CvL [] [] := ⟨rfl, fun i c d h => by simp at h⟩
theorem CvL.cons {c d : PV} {cs ds : List PV} (h : Cv c d) (t : CvL cs ds) : CvL (c :: cs) (d :: ds) := ⟨by simp [t.1], fun i x y hx hy => by
  cases i with
  | zero => simp at hx hy; subst hx; subst hy; exact h
  | succ i => exact t.2 i x y (by simpa using hx) (by simpa using hy)⟩
theorem CvL.refl (l : List PV) : CvL l l := ⟨rfl, fun i c d h1 h2 => by rw [h1] at h2; cases h2; exact .refl _⟩
theorem CvL.agg {cs ds : List PV} (h : CvL cs ds) : Cv (.agg cs) (.agg ds) := .agg h.1 h.2
def CvM (l m : List (List PV)) : Prop := l.length = m.length ∧ ∀ (i : Nat) (e f : List PV), l[i]? = some e → m[i]? = some f → CvL e f
theorem CvM.nil : CvM [] [] := ⟨rfl, fun i c d h => by simp at h⟩
theorem CvM.cons {c d : List PV} {cs ds : List (List PV)} (h : CvL c d) (t : CvM cs ds) : CvM (c :: cs) (d :: ds) := ⟨by simp [t.1], fun i x y hx hy => by
  cases i with
  | zero => simp at hx hy; subst hx; subst hy; exact h
  | succ i => exact t.2 i x y (by simpa using hx) (by simpa using hy)⟩
theorem CvM.sl {z : Nat} {l m : List (List PV)} (h : CvM l m) : Cv (.sl z l) (.sl z m) := .sl h.1 (fun i e f h1 h2 => (h.2 i e f h1 h2).1) fun i j e f c d h1 h2 h3 h4 => (h.2 i e f h1 h2).2 j c d h3 h4
theorem Cv.one {p q : PV} (h : Cv p q) : oneP q = oneP p := by
  cases h <;> rfl
theorem RelP.cv {ok : Nat → Prop} {w : World} {p q : PV} (hc : Cv p q) : ∀ {u : Value}, RelP ok w p u → RelP ok w q u := by
  induction hc with
  | refl => exact fun h => h
  | nil z =>
    intro u h
    cases h
    exact .sl (l := []) (Nat.zero_le _) ⟨Nat.zero_le _, Nat.zero_le _⟩ (by simp) (fun h => absurd h (by simp)) (fun b o i j h => by cases h) (fun b o i j e s u h => by cases h)
  | agg hl h ih =>
    intro u hr
    cases hr with
    | @agg _ us hl2 hr =>
      refine .agg (by omega) fun i s u hs hu => ?_
      have hi : i < us.length := (List.getElem?_eq_some_iff.1 hu).1
      exact ih i _ s (List.getElem?_eq_getElem (by omega)) hs (hr i _ u (List.getElem?_eq_getElem (by omega)) hu)
  | @sl z l m hl he h ih =>
    intro u hr
    cases hr with
    | @sl _ _ A c hc hm hle hA hx hr =>
      rw [hl] at hc hm ⊢
      refine .sl hc hm (fun e hem => ?_) (fun h => hA (by omega)) (fun b o i j hAb hi hj => hx b o i j hAb (by omega) hj) (fun b o i j e s u hAb hi hj hu => ?_)
      · obtain ⟨i, hi, rfl⟩ := List.mem_iff_getElem.1 hem
        have hl0 : l[i]? = some (l[i]'(by omega)) := List.getElem?_eq_getElem (by omega)
        have hm0 : m[i]? = some m[i] := List.getElem?_eq_getElem hi
        obtain ⟨q1, q2⟩ := hle _ (List.getElem_mem (show i < l.length by omega))
        have q3 := he i _ _ hl0 hm0
        refine ⟨by omega, fun s hs => ?_⟩
        obtain ⟨j, hj, rfl⟩ := List.mem_iff_getElem.1 hs
        have := (h i j _ _ _ _ hl0 hm0 (List.getElem?_eq_getElem (by omega)) (List.getElem?_eq_getElem hj)).one
        rw [this]
        exact q2 _ (List.getElem_mem _)
      · have hi' : i < m.length := (List.getElem?_eq_some_iff.1 hi).1
        have hl0 : l[i]? = some (l[i]'(by omega)) := List.getElem?_eq_getElem (by omega)
        have q3 := he i _ _ hl0 hi
        have hj' : j < e.length := (List.getElem?_eq_some_iff.1 hj).1
        exact ih i j _ _ _ _ hl0 hi (List.getElem?_eq_getElem (by omega)) hj (hr b o i j _ _ u hAb hl0 (List.getElem?_eq_getElem (by omega)) hu)
theorem Holds.cv {P : Program} {f : FuncId} {args args' : List PV} {r : SV} {own : List (Nat × Box)} (h : Holds P f args r own) (hc : CvL args' args) : Holds P f args' r own :=
  ⟨h.1, fun w Sx vs hSx hl hr => h.2 w Sx vs hSx (by rw [hl, hc.1]) fun i s u hs hu => by
    have hi : i < args.length := (List.getElem?_eq_some_iff.1 hs).1
    have h0 : args'[i]? = some (args'[i]'(by rw [hc.1]; exact hi)) := List.getElem?_eq_getElem _
    exact (hr i _ u h0 hu).cv (hc.2 i _ s h0 hs)⟩
theorem Holds.res {P : Program} {f : FuncId} {args : List PV} {r r' : SV} {own : List (Nat × Box)} (h : Holds P f args r own) (e : r = r') : Holds P f args r' own := e ▸ h
end Go.Proofs.YtppfcacnofjmdaaGreatDoor
namespace Go.Proofs.YtppfcacnofjmdaaGreatDoor
set_option linter.unusedVariables false
set_option linter.unusedSimpArgs false
open Go.RowKit
inductive CvS : SV → SV → Prop
  | refl (s : SV) : CvS s s
  | p {a b : PV} (h : Cv a b) : CvS (.p a) (.p b)
  | two {a b c d : PV} (h : Cv a b) (h2 : Cv c d) : CvS (.tup [.p a, .p c]) (.tup [.p b, .p d])
theorem RelS.cvs {ok : Nat → Prop} {H : Nat → Option Value} {w : World} {s s' : SV} {u : Value} (hc : CvS s s') (h : RelS ok H w s u) : RelS ok H w s' u := by
  cases hc with
  | refl => exact h
  | p hc => exact .p (h.p_inv.cv hc)
  | two h1 h2 =>
    cases h with
    | @tup _ us hl hr =>
      refine .tup hl fun i s u hs hu => ?_
      match i, hs with
      | 0, hs => cases hs; exact .p ((hr 0 _ u rfl hu).p_inv.cv h1)
      | 1, hs => cases hs; exact .p ((hr 1 _ u rfl hu).p_inv.cv h2)
def FinC (T : TT) (rs : List ResultVar) (r : SV) (own' : List (Nat × Box)) (e : SEx) (st : St) : Prop := (e = .normal ∨ e = .ret) ∧ ∃ st' s ρ r0, Wk st st' ∧ resC T st' rs = some s ∧ s.mapR ρ = some r0 ∧ CvS r0 r ∧ ownR ρ st'.own ρ = some own' ∧ renOk ρ = true
theorem qR {P : Program} {T : TT} (hT : zh P T) {f : FuncId} {fn : Func} {c : Code} {args : List SV} {own : List (Nat × Box)} {r : SV} {own' : List (Nat × Box)} {rs : List ResultVar} (hf : P.funcs[f]? = some fn) (hname : (fn.name == "runtime.NumGoroutine") = false) (hb : fn.body = some c)
    (hres : fn.results = rs.toArray) (hn0 : (Nat.ble args.length fn.ntmps && Nat.ble fn.ntmps 900) = true) (h : SW P c (FinC T rs r own') ⟨fn.ntmps, jN 0 args, own⟩) : zZ P f args own r own' := by
  have hn : args.length ≤ fn.ntmps ∧ fn.ntmps ≤ 900 := by
    rw [Bool.and_eq_true] at hn0
    exact ⟨Nat.le_of_ble_eq_true hn0.1, Nat.le_of_ble_eq_true hn0.2⟩
  refine ⟨⟨fn, hf, hname, by rw [hb]; rfl⟩, fun w Sx γ vs hh hl hr => ?_⟩
  refine calls_of_wp hf hb ?_
  have hget : ∀ t, t < args.length → (vs.toArray ++ Array.replicate (fn.ntmps - vs.toArray.size) undef).getD t undef = vs[t]?.getD undef := fun t ht => by
    have : t < vs.length := by omega
    have h2 : (vs.toArray ++ Array.replicate (fn.ntmps - vs.toArray.size) undef)[t]? = vs[t]? := by
      rw [Array.getElem?_append_left (by simpa using this)]; simp
    rw [Array.getD_eq_getD_getElem?, h2]
  have hI : Sim (jX w γ own) Sx γ ⟨fn.ntmps, jN 0 args, own⟩ ⟨vs.toArray ++ Array.replicate (fn.ntmps - vs.toArray.size) undef, []⟩ w := by
    refine ⟨⟨Below.refl _ w, fun _ _ => rfl⟩, ⟨by simp; omega, hn.2⟩, rfl, fun t s ht => ?_, hh⟩
    obtain ⟨_, hx⟩ := argFrS_get ht
    simp only [Nat.sub_zero] at hx
    have hlt : t < args.length := (List.getElem?_eq_some_iff.1 hx).1
    have hv : vs[t]? = some (vs[t]'(by omega)) := List.getElem?_eq_getElem (by omega)
    show RelS _ _ _ _ ((vs.toArray ++ Array.replicate (fn.ntmps - vs.toArray.size) undef).getD t undef)
    rw [hget t hlt, hv]
    exact hr t s _ hx hv
  refine h _ Sx _ _ w _ hI fun e st2 γ' a' w' hI' hq => ?_
  obtain ⟨he, st', s, ρ, r0, hwk, hs, hm, hcv, ho, hρ⟩ := hq
  obtain ⟨γ'', hI''⟩ := hwk _ Sx γ' a' w' hI'
  obtain ⟨γ3, k1, k2⟩ := heap_mapR hI''.heap ho hρ
  obtain ⟨v, k3, k4⟩ := resC_ok hT hI'' hs hres
  have fin : a'.defers = [] ∧ ∃ v, (results fn a'.tmps).run P w' = .ok v w' ∧ ∃ v' γ2 r1 own1, (r1 = r ∧ own1 = own') ∧ Ending.returned v = .returned v' ∧ BelowB (jX w γ own) w' ∧ HeapOk (jX w γ own) Sx γ2 own1 w' ∧ RelS (okO Sx γ2 own1) (hp γ2 own1) w' r1 v' :=
    ⟨hI''.defers, v, k3, v, γ3, r, own', ⟨rfl, rfl⟩, rfl, hI''.below, k1, (k2 s v r0 k4 hm).cvs hcv⟩
  rcases he with rfl | rfl
  · exact fin
  · exact fin
end Go.Proofs.YtppfcacnofjmdaaGreatDoor
namespace Go.Proofs.YtppfcacnofjmdaaGreatDoor
set_option linter.unusedVariables false
set_option linter.unusedSimpArgs false
open Go.RowKit
set_option maxHeartbeats 1000000
theorem idxV_h (l : List Val) (v : Val) (hn : l.length ≤ 1000000) : Holds Tryz.prog 144 [valsP l, .agg v.pv] (.p (pI (if l.findIdx (jh v) < l.length then (l.findIdx (jh v) : Int) else -1))) [] := by
  refine qA (ts := [4]) Tryz.func144 (by kernel_rfl) rfl rfl rfl ?_
  (repeat refine qb ?_); refine qa ?_
  repeat (first | refine zR ?_ | refine zK ?_ | refine zM ?_ | refine zB ?_ | refine zA ?_ | refine zS ?_ | refine zL ?_)
  refine qc ?_
  (repeat refine qb ?_); refine qa ?_
  repeat (first | refine zR ?_ | refine zK ?_ | refine zM ?_ | refine zB ?_ | refine zA ?_ | refine zS ?_ | refine zL ?_)
  refine qc ?_
  (repeat refine qb ?_); refine ql ?_
  refine SW.wk (qq [0, 3, 7, 8] [(3, 3)] rfl rfl) ?_
  refine qO (fun n s => ∃ (k : Nat) (kk : Int), k ≤ l.length ∧ n = l.length - k ∧ kk = k ∧ (∀ x ∈ l.take k, jh v x = false) ∧ s = ⟨19, [(0, .p (valsP l)), (3, .ptr 3 0), (7, .p (pI (l.map Val.pv).length)), (8, .p (pI kk))], [(3, .cells (v.pv.map .p))]⟩) l.length ⟨0, 0, Nat.zero_le _, rfl, rfl, by simp, rfl⟩ ?_
  rintro n s ⟨k, _, hk, rfl, rfl, ha, rfl⟩
  (repeat refine qb ?_); refine qa ?_
  repeat (first | refine zR ?_ | refine zK ?_ | refine zM ?_ | refine zB ?_ | refine zA ?_ | refine zS ?_ | refine zL ?_)
  refine qc ?_
  (repeat refine qb ?_); refine qf rfl (fun hlt => ?_) (fun hlt => ?_)
  · refine qm ?_
    simp only [List.length_map, decide_eq_true_eq] at hlt
    have hlt' : k < l.length := by omega
    (repeat refine qb ?_); refine ql ?_
    (repeat refine qb ?_); refine qa ?_
    repeat (first | refine zR ?_ | refine zK ?_ | refine zM ?_ | refine zB ?_ | refine zA ?_ | refine zS ?_ | refine zL ?_)
    refine qc ?_
    (repeat refine qb ?_); refine zl [] [(0, true), (1, true), (2, true), (3, true), (4, true), (5, true)] (by kernel_rfl) (by kernel_rfl) (by kernel_rfl) ?_
    repeat (first | refine yR ?_ | refine yK ?_ | refine yM ?_ | refine yB ?_ | refine yA ?_ | refine yS ?_ | refine yL ?_)
    refine zi qe rfl rfl rfl (by simp only [List.length_map]; omega) rfl ?_
    rw [qJ hlt']
    repeat (first | refine yR ?_ | refine yK ?_ | refine yM ?_ | refine yB ?_ | refine yA ?_ | refine yS ?_ | refine yL ?_)
    refine zi qe rfl rfl rfl (rfl) rfl ?_
    repeat (first | refine yR ?_ | refine yK ?_ | refine yM ?_ | refine yB ?_ | refine yA ?_ | refine yS ?_ | refine yL ?_)
    refine swm_nil ?_
    (repeat refine qb ?_); refine qf rfl (fun hp => ?_) (fun hp => ?_)
    · have hp' : jh v l[k] = true := by simpa [jh, beq_bytes2, and_assoc] using hp
      (repeat refine qb ?_); refine qa ?_
      repeat (first | refine zR ?_ | refine zK ?_ | refine zM ?_ | refine zB ?_ | refine zA ?_ | refine zS ?_ | refine zL ?_)
      refine qc ?_
      (repeat refine qb ?_); refine qk ?_
      refine zg rfl ?_
      have e : l.findIdx (jh v) = k := (List.findIdx_eq hlt').2 ⟨hp', fun j hj => ha _ (List.mem_take_iff_getElem.2 ⟨j, by omega, rfl⟩)⟩
      rw [e, if_pos hlt']
    · have hp' : jh v l[k] = false := by simpa [jh, beq_bytes2, and_assoc] using hp
      refine qm ?_
      (repeat refine qb ?_); refine qa ?_
      repeat (first | refine zR ?_ | refine zK ?_ | refine zM ?_ | refine zB ?_ | refine zA ?_ | refine zS ?_ | refine zL ?_)
      refine qc ?_
      refine ⟨_, _, ?_, qq [0, 3, 7, 8] [(3, 3)] rfl rfl, k + 1, _, hlt', rfl, qz hlt' (by omega), ?_, rfl⟩
      · omega
      · intro g hg
        rw [List.take_succ_eq_append_getElem hlt', List.mem_append, List.mem_singleton] at hg
        rcases hg with hg | rfl
        · exact ha g hg
        · exact hp'
  · refine qK ?_
    simp only [List.length_map, decide_eq_false_iff_not] at hlt
    have hkk : k = l.length := by omega
    subst hkk
    (repeat refine qb ?_); refine qa ?_
    repeat (first | refine zR ?_ | refine zK ?_ | refine zM ?_ | refine zB ?_ | refine zA ?_ | refine zS ?_ | refine zL ?_)
    refine qc ?_
    (repeat refine qb ?_); refine qk ?_
    refine zg rfl ?_
    rw [List.take_length] at ha
    rw [if_neg]
    have := List.findIdx_eq_length_of_false ha
    omega
theorem contains_h (l : List Val) (v : Val) (hn : l.length ≤ 1000000) : Holds Tryz.prog 115 [valsP l, .agg v.pv] (.p (pB (hasV l v))) [] := by
  refine qA (ts := [4]) Tryz.func115 (by kernel_rfl) rfl rfl rfl ?_
  (repeat refine qb ?_); refine qa ?_
  repeat (first | refine zR ?_ | refine zK ?_ | refine zM ?_ | refine zB ?_ | refine zA ?_ | refine zS ?_ | refine zL ?_)
  refine qc ?_
  (repeat refine qb ?_); refine qa ?_
  repeat (first | refine zR ?_ | refine zK ?_ | refine zM ?_ | refine zB ?_ | refine zA ?_ | refine zS ?_ | refine zL ?_)
  refine qn rfl (qg rfl rfl rfl rfl (idxV_h l v hn) rfl rfl ?_)
  repeat (first | refine zR ?_ | refine zK ?_ | refine zM ?_ | refine zB ?_ | refine zA ?_ | refine zS ?_ | refine zL ?_)
  refine qc ?_
  (repeat refine qb ?_); refine qk ?_
  refine wS rfl ?_
  unfold hasV
  by_cases h : l.findIdx (jh v) < l.length
  · rw [if_pos h]
    have : l.any (jh v) = true := List.any_eq_true.2 ⟨_, List.getElem_mem h, List.findIdx_getElem (w := h)⟩
    rw [show (l.any fun x => jh v x) = true from this]
    simp
  · rw [if_neg h]
    have h2 : ∀ x ∈ l, jh v x = false := List.findIdx_eq_length.1 (Nat.le_antisymm List.findIdx_le_length (by omega))
    rw [show (l.any fun x => jh v x) = false from List.any_eq_false.2 fun x hx => by simp [h2 x hx]]
    rfl
theorem has_h (l : List Val) (v : Val) (hn : l.length ≤ 1000000) : Holds Tryz.prog 91 [valsP l, .agg v.pv] (.p (pB (hasV l v))) [] := by
  refine qA (ts := [4]) Tryz.func91 (by kernel_rfl) rfl rfl rfl ?_
  (repeat refine qb ?_); refine qa ?_
  repeat (first | refine zR ?_ | refine zK ?_ | refine zM ?_ | refine zB ?_ | refine zA ?_ | refine zS ?_ | refine zL ?_)
  refine qc ?_
  (repeat refine qb ?_); refine qa ?_
  repeat (first | refine zR ?_ | refine zK ?_ | refine zM ?_ | refine zB ?_ | refine zA ?_ | refine zS ?_ | refine zL ?_)
  refine qn rfl (qg rfl rfl rfl rfl (contains_h l v hn) rfl rfl ?_)
  repeat (first | refine zR ?_ | refine zK ?_ | refine zM ?_ | refine zB ?_ | refine zA ?_ | refine zS ?_ | refine zL ?_)
  refine qc ?_
  (repeat refine qb ?_); refine qk ?_
  exact wS rfl rfl
end Go.Proofs.YtppfcacnofjmdaaGreatDoor
namespace Go.Proofs.YtppfcacnofjmdaaGreatDoor
set_option linter.unusedVariables false
set_option linter.unusedSimpArgs false
open Go.RowKit
set_option maxHeartbeats 2000000
theorem is_h (x : Itm) (n : Int) : Holds Tryz.prog 60 [.agg x.pv, pI n] (.p (pB (x.is n))) [] := by
  refine qA (ts := [4]) Tryz.func60 (by kernel_rfl) rfl rfl rfl ?_
  (repeat refine qb ?_); refine qa ?_
  repeat (first | refine zR ?_ | refine zK ?_ | refine zM ?_ | refine zB ?_ | refine zA ?_ | refine zS ?_ | refine zL ?_)
  refine qc ?_
  (repeat refine qb ?_); refine qs (by kernel_rfl) ?_
  repeat (refine qr qe rfl (by exact True.intro) rfl ?_)
  refine qr qe rfl (rfl) rfl ?_
  repeat (refine qr qe rfl (by exact True.intro) rfl ?_)
  refine qQ ?_
  (repeat refine qb ?_); refine qk ?_
  refine wS rfl ?_
  unfold Itm.is isT
  rw [Bool.eq_iff_iff]
  simp only [jh, beq_bytes2, Bool.cond_false_right, Bool.and_eq_true, beq_iff_eq, decide_eq_true_eq, and_assoc, and_true]
theorem operands_h (op : Int) : Holds Tryz.prog 74 [pI op] (.p (pI (qL op))) [] := by
  unfold qL
  refine qA (ts := [2]) Tryz.func74 (by kernel_rfl) rfl rfl rfl ?_
  (repeat refine qb ?_); refine qa ?_
  repeat (first | refine zR ?_ | refine zK ?_ | refine zM ?_ | refine zB ?_ | refine zA ?_ | refine zS ?_ | refine zL ?_)
  refine qc ?_
  (repeat refine qb ?_); refine qa ?_
  repeat (first | refine zR ?_ | refine zK ?_ | refine zM ?_ | refine zB ?_ | refine zA ?_ | refine zS ?_ | refine zL ?_)
  refine qc ?_
  (repeat refine qb ?_); refine ql ?_
  (repeat refine qb ?_); refine qa ?_
  repeat (first | refine zR ?_ | refine zK ?_ | refine zM ?_ | refine zB ?_ | refine zA ?_ | refine zS ?_ | refine zL ?_)
  refine qc ?_
  (repeat refine qb ?_); refine qf rfl (fun h1 => ?_) (fun h1 => ?_)
  · have e1 : op = 1 := by simpa using h1
    subst e1
    refine qm ?_
    (repeat refine qb ?_); refine qf rfl (fun h2 => ?_) (fun h2 => ?_)
    · (repeat refine qb ?_); refine qa ?_
      repeat (first | refine zR ?_ | refine zK ?_ | refine zM ?_ | refine zB ?_ | refine zA ?_ | refine zS ?_ | refine zL ?_)
      refine qc ?_
      (repeat refine qb ?_); refine qk ?_
      exact zg rfl rfl
    · cases h2
  · have n1 : ¬ op = 1 := by simpa using h1
    (repeat refine qb ?_); refine qa ?_
    repeat (first | refine zR ?_ | refine zK ?_ | refine zM ?_ | refine zB ?_ | refine zA ?_ | refine zS ?_ | refine zL ?_)
    refine qc ?_
    (repeat refine qb ?_); refine qf rfl (fun h2 => ?_) (fun h2 => ?_)
    · have e1 : op = 2 := by simpa using h2
      subst e1
      (repeat refine qb ?_); refine qa ?_
      repeat (first | refine zR ?_ | refine zK ?_ | refine zM ?_ | refine zB ?_ | refine zA ?_ | refine zS ?_ | refine zL ?_)
      refine qc ?_
      (repeat refine qb ?_); refine qk ?_
      exact zg rfl rfl
    · have n2 : ¬ op = 2 := by simpa using h2
      (repeat refine qb ?_); refine qa ?_
      repeat (first | refine zR ?_ | refine zK ?_ | refine zM ?_ | refine zB ?_ | refine zA ?_ | refine zS ?_ | refine zL ?_)
      refine qc ?_
      (repeat refine qb ?_); refine qf rfl (fun h3 => ?_) (fun h3 => ?_)
      · have e1 : op = 3 := by simpa using h3
        subst e1
        refine qm ?_
        (repeat refine qb ?_); refine qf rfl (fun h4 => ?_) (fun h4 => ?_)
        · (repeat refine qb ?_); refine qa ?_
          repeat (first | refine zR ?_ | refine zK ?_ | refine zM ?_ | refine zB ?_ | refine zA ?_ | refine zS ?_ | refine zL ?_)
          refine qc ?_
          (repeat refine qb ?_); refine qk ?_
          exact zg rfl rfl
        · cases h4
      · have n3 : ¬ op = 3 := by simpa using h3
        (repeat refine qb ?_); refine qa ?_
        repeat (first | refine zR ?_ | refine zK ?_ | refine zM ?_ | refine zB ?_ | refine zA ?_ | refine zS ?_ | refine zL ?_)
        refine qc ?_
        (repeat refine qb ?_); refine qf rfl (fun h4 => ?_) (fun h4 => ?_)
        · have e1 : op = 4 := by simpa using h4
          subst e1
          refine qm ?_
          (repeat refine qb ?_); refine qf rfl (fun h5 => ?_) (fun h5 => ?_)
          · (repeat refine qb ?_); refine qa ?_
            repeat (first | refine zR ?_ | refine zK ?_ | refine zM ?_ | refine zB ?_ | refine zA ?_ | refine zS ?_ | refine zL ?_)
            refine qc ?_
            (repeat refine qb ?_); refine qk ?_
            exact zg rfl rfl
          · cases h5
        · have n4 : ¬ op = 4 := by simpa using h4
          (repeat refine qb ?_); refine qa ?_
          repeat (first | refine zR ?_ | refine zK ?_ | refine zM ?_ | refine zB ?_ | refine zA ?_ | refine zS ?_ | refine zL ?_)
          refine qc ?_
          (repeat refine qb ?_); refine qf rfl (fun h5 => ?_) (fun h5 => ?_)
          · have e1 : op = 11 := by simpa using h5
            subst e1
            (repeat refine qb ?_); refine qa ?_
            repeat (first | refine zR ?_ | refine zK ?_ | refine zM ?_ | refine zB ?_ | refine zA ?_ | refine zS ?_ | refine zL ?_)
            refine qc ?_
            (repeat refine qb ?_); refine qk ?_
            exact zg rfl rfl
          · have n5 : ¬ op = 11 := by simpa using h5
            refine qm ?_
            (repeat refine qb ?_); refine qa ?_
            repeat (first | refine zR ?_ | refine zK ?_ | refine zM ?_ | refine zB ?_ | refine zA ?_ | refine zS ?_ | refine zL ?_)
            refine qc ?_
            (repeat refine qb ?_); refine qk ?_
            exact zg rfl (by rw [if_neg (by omega), if_neg (by omega)]; rfl)
theorem truth_h (b : Bool) : Holds Tryz.prog 90 [pB b] (.p (.agg (itmT b).pv)) [] := by
  refine .ofW ?_
  refine qR (T := TTab) qe Tryz.func90 (by kernel_rfl) rfl rfl rfl ?_
  (repeat refine qb ?_); refine qa ?_
  repeat (first | refine zR ?_ | refine zK ?_ | refine zM ?_ | refine zB ?_ | refine zA ?_ | refine zS ?_ | refine zL ?_)
  refine qc ?_
  (repeat refine qb ?_); refine qa ?_
  repeat (first | refine zR ?_ | refine zK ?_ | refine zM ?_ | refine zB ?_ | refine zA ?_ | refine zS ?_ | refine zL ?_)
  refine qc ?_
  (repeat refine qb ?_); refine qa ?_
  repeat (first | refine zR ?_ | refine zK ?_ | refine zM ?_ | refine zB ?_ | refine zA ?_ | refine zS ?_ | refine zL ?_)
  refine qc ?_
  cases b with
  | true =>
    (repeat refine qb ?_); refine qf rfl (fun h => ?_) (fun h => ?_)
    · (repeat refine qb ?_); refine qa ?_
      repeat (first | refine zR ?_ | refine zK ?_ | refine zM ?_ | refine zB ?_ | refine zA ?_ | refine zS ?_ | refine zL ?_)
      refine qc ?_
      (repeat refine qb ?_); refine qa ?_
      repeat (first | refine zR ?_ | refine zK ?_ | refine zM ?_ | refine zB ?_ | refine zA ?_ | refine zS ?_ | refine zL ?_)
      refine qc ?_
      (repeat refine qb ?_); refine qk ?_
      exact ⟨Or.inr rfl, _, _, [], _, Wk.refl _, rfl, rfl, .p (CvL.agg (.cons (.nil 3) (.refl _))), rfl, rfl⟩
    · cases h
  | false =>
    (repeat refine qb ?_); refine qf rfl (fun h => ?_) (fun h => ?_)
    · cases h
    · refine qm ?_
      (repeat refine qb ?_); refine qa ?_
      repeat (first | refine zR ?_ | refine zK ?_ | refine zM ?_ | refine zB ?_ | refine zA ?_ | refine zS ?_ | refine zL ?_)
      refine qc ?_
      (repeat refine qb ?_); refine qk ?_
      exact ⟨Or.inr rfl, _, _, [], _, Wk.refl _, rfl, rfl, .p (CvL.agg (.cons (.nil 3) (.refl _))), rfl, rfl⟩
end Go.Proofs.YtppfcacnofjmdaaGreatDoor
namespace Go.Proofs.YtppfcacnofjmdaaGreatDoor
set_option linter.unusedVariables false
set_option linter.unusedSimpArgs false
open Go.RowKit
set_option maxHeartbeats 4000000
def jz (S : List Itm) : List (Nat × Box) := [(1000000, .row 115 5 (S.map Itm.pv))]
theorem ze {S : List Itm} {lo i : Nat} {x : Itm} (h : (S.drop lo)[i]? = some x) : (S.map Itm.pv).getD (lo + i) [] = x.pv := by
  rw [List.getElem?_drop] at h
  rw [List.getD_eq_getElem?_getD, List.getElem?_map, h]; rfl
theorem errS_at : ∀ {l : List Itm} {k : Nat} (hk : k < l.length), errS (l.take k) = 0 → l[k].e ≠ 0 → errS l = l[k].e
  | x :: r, 0, _, _, h => by simp only [List.getElem_cons_zero] at h ⊢; rw [errS, if_neg h]
  | x :: r, k + 1, hk, h0, h => by
    rw [List.take_succ_cons, errS] at h0
    by_cases hx : x.e = 0
    · rw [if_pos hx] at h0
      rw [errS, if_pos hx]
      exact errS_at (by simpa using hk) h0 (by simpa using h)
    · rw [if_neg hx] at h0; exact absurd h0 hx
theorem wv : ∀ {l : List Itm} {k : Nat} (hk : k < l.length), errS (l.take k) = 0 → l[k].e = 0 → errS (l.take (k + 1)) = 0
  | x :: r, 0, _, _, h => by simp only [List.getElem_cons_zero] at h; rw [Nat.zero_add, List.take_succ_cons, List.take_zero, errS, if_pos h]; rfl
  | x :: r, k + 1, hk, h0, h => by
    rw [List.take_succ_cons, errS] at h0
    by_cases hx : x.e = 0
    · rw [if_pos hx] at h0
      rw [List.take_succ_cons, errS, if_pos hx]
      exact wv (by simpa using hk) h0 (by simpa using h)
    · rw [if_neg hx] at h0; exact absurd h0 hx
theorem node_lit (val : Val) (attr : Atr) (S : List Itm) (lo : Nat) (g : List Giv) : zZ Tryz.prog 75 [.p (.agg (Nod.mk 1 val attr).pv), .view 1000000 5 lo S.length, .p (zP g)] (jz S) (.p (.agg (zc (Nod.mk 1 val attr) (S.drop lo) g).pv)) (jz S) := by
  have e : zc (Nod.mk 1 val attr) (S.drop lo) g = ⟨[], val, 0⟩ := rfl
  rw [e]
  refine qR (T := TTab) qe Tryz.func75 (by kernel_rfl) rfl rfl rfl ?_
  (repeat refine qb ?_); refine qa ?_
  repeat (first | refine zR ?_ | refine zK ?_ | refine zM ?_ | refine zB ?_ | refine zA ?_ | refine zS ?_ | refine zL ?_)
  refine qc ?_
  (repeat refine qb ?_); refine qa ?_
  repeat (first | refine zR ?_ | refine zK ?_ | refine zM ?_ | refine zB ?_ | refine zA ?_ | refine zS ?_ | refine zL ?_)
  refine qc ?_
  (repeat refine qb ?_); refine ql ?_
  (repeat refine qb ?_); refine qa ?_
  repeat (first | refine zR ?_ | refine zK ?_ | refine zM ?_ | refine zB ?_ | refine zA ?_ | refine zS ?_ | refine zL ?_)
  refine qc ?_
  (repeat refine qb ?_); refine qf rfl (fun h1 => ?_) (fun h1 => ?_)
  · (repeat refine qb ?_); refine qa ?_
    repeat (first | refine zR ?_ | refine zK ?_ | refine zM ?_ | refine zB ?_ | refine zA ?_ | refine zS ?_ | refine zL ?_)
    refine qc ?_
    (repeat refine qb ?_); refine qk ?_
    exact ⟨Or.inr rfl, _, _, [(1000000, 1000000)], _, Wk.refl _, rfl, rfl, .p (CvL.agg (.cons (.nil 3) (.refl _))), rfl, rfl⟩
  · cases h1
theorem node_attr (val : Val) (attr : Atr) (S : List Itm) (lo : Nat) (g : List Giv) (hn : g.length ≤ 1000000) (hb : ∀ x ∈ g, x.bag.length ≤ 1000000) : zZ Tryz.prog 75 [.p (.agg (Nod.mk 2 val attr).pv), .view 1000000 5 lo S.length, .p (zP g)] (jz S) (.p (.agg (zc (Nod.mk 2 val attr) (S.drop lo) g).pv)) (jz S) := by
  have e : zc (Nod.mk 2 val attr) (S.drop lo) g = ⟨(getS attr g).1, noVal, (getS attr g).2⟩ := rfl
  rw [e]
  refine qR (T := TTab) qe Tryz.func75 (by kernel_rfl) rfl rfl rfl ?_
  (repeat refine qb ?_); refine qa ?_
  repeat (first | refine zR ?_ | refine zK ?_ | refine zM ?_ | refine zB ?_ | refine zA ?_ | refine zS ?_ | refine zL ?_)
  refine qc ?_
  (repeat refine qb ?_); refine qa ?_
  repeat (first | refine zR ?_ | refine zK ?_ | refine zM ?_ | refine zB ?_ | refine zA ?_ | refine zS ?_ | refine zL ?_)
  refine qc ?_
  (repeat refine qb ?_); refine ql ?_
  (repeat refine qb ?_); refine qa ?_
  repeat (first | refine zR ?_ | refine zK ?_ | refine zM ?_ | refine zB ?_ | refine zA ?_ | refine zS ?_ | refine zL ?_)
  refine qc ?_
  (repeat refine qb ?_); refine qf rfl (fun h1 => ?_) (fun h1 => ?_)
  · cases h1
  · (repeat refine qb ?_); refine qa ?_
    repeat (first | refine zR ?_ | refine zK ?_ | refine zM ?_ | refine zB ?_ | refine zA ?_ | refine zS ?_ | refine zL ?_)
    refine qc ?_
    (repeat refine qb ?_); refine qf rfl (fun h2 => ?_) (fun h2 => ?_)
    · (repeat refine qb ?_); refine qa ?_
      repeat (first | refine zR ?_ | refine zK ?_ | refine zM ?_ | refine zB ?_ | refine zA ?_ | refine zS ?_ | refine zL ?_)
      refine qn rfl (qD rfl rfl rfl rfl (get_h attr g hn hb) rfl rfl rfl ?_)
      repeat (first | refine zR ?_ | refine zK ?_ | refine zM ?_ | refine zB ?_ | refine zA ?_ | refine zS ?_ | refine zL ?_)
      refine qc ?_
      (repeat refine qb ?_); refine qa ?_
      repeat (first | refine zR ?_ | refine zK ?_ | refine zM ?_ | refine zB ?_ | refine zA ?_ | refine zS ?_ | refine zL ?_)
      refine qc ?_
      (repeat refine qb ?_); refine qk ?_
      exact ⟨Or.inr rfl, _, _, [(1000000, 1000000)], _, Wk.refl _, rfl, rfl, .refl _, rfl, rfl⟩
    · cases h2
theorem drop_one {S : List Itm} {lo : Nat} (h : lo + 1 = S.length) : ∃ x, S.drop lo = [x] := List.length_eq_one_iff.1 (by rw [List.length_drop]; omega)
theorem drop_two {S : List Itm} {lo : Nat} (h : lo + 2 = S.length) : ∃ x y, S.drop lo = [x, y] := by
  have : (S.drop lo).length = 2 := by rw [List.length_drop]; omega
  match hd : S.drop lo, this with
  | [x, y], _ => exact ⟨x, y, rfl⟩
theorem wg {op : Int} {val : Val} {attr : Atr} {l : List Itm} {g : List Giv} (h1 : ¬ op = 1) (h2 : ¬ op = 2) (hd : decS op l = false) : zc (Nod.mk op val attr) l g = if errS l ≠ 0 then ⟨[], noVal, errS l⟩ else lastS op l := by
  unfold zc
  simp only
  rw [if_neg h1, if_neg h2, hd, if_neg (by simp)]
theorem node_one_h (val : Val) (attr : Atr) (S : List Itm) (lo : Nat) (g : List Giv) (hlo : lo + 1 = S.length) (hl : S.length ≤ 1000000) : zZ Tryz.prog 75 [.p (.agg (Nod.mk 3 val attr).pv), .view 1000000 5 lo S.length, .p (zP g)] (jz S) (.p (.agg (zc (Nod.mk 3 val attr) (S.drop lo) g).pv)) (jz S) := by
  have hN := wg (val := val) (attr := attr) (g := g) (op := 3) (l := S.drop lo) (by omega) (by omega) rfl
  refine qR (T := TTab) qe Tryz.func75 (by kernel_rfl) rfl rfl rfl ?_
  (repeat refine qb ?_); refine qa ?_
  repeat (first | refine zR ?_ | refine zK ?_ | refine zM ?_ | refine zB ?_ | refine zA ?_ | refine zS ?_ | refine zL ?_)
  refine qc ?_
  (repeat refine qb ?_); refine qa ?_
  repeat (first | refine zR ?_ | refine zK ?_ | refine zM ?_ | refine zB ?_ | refine zA ?_ | refine zS ?_ | refine zL ?_)
  refine qc ?_
  (repeat refine qb ?_); refine ql ?_
  (repeat refine qb ?_); refine qa ?_
  repeat (first | refine zR ?_ | refine zK ?_ | refine zM ?_ | refine zB ?_ | refine zA ?_ | refine zS ?_ | refine zL ?_)
  refine qc ?_
  (repeat refine qb ?_); refine qf rfl (fun h1 => ?_) (fun h1 => ?_)
  · cases h1
  · (repeat refine qb ?_); refine qa ?_
    repeat (first | refine zR ?_ | refine zK ?_ | refine zM ?_ | refine zB ?_ | refine zA ?_ | refine zS ?_ | refine zL ?_)
    refine qc ?_
    (repeat refine qb ?_); refine qf rfl (fun h2 => ?_) (fun h2 => ?_)
    · cases h2
    · (repeat refine qb ?_); refine qa ?_
      repeat (first | refine zR ?_ | refine zK ?_ | refine zM ?_ | refine zB ?_ | refine zA ?_ | refine zS ?_ | refine zL ?_)
      refine qc ?_
      (repeat refine qb ?_); refine qf rfl (fun h3 => ?_) (fun h3 => ?_)
      · cases h3
      · (repeat refine qb ?_); refine qa ?_
        repeat (first | refine zR ?_ | refine zK ?_ | refine zM ?_ | refine zB ?_ | refine zA ?_ | refine zS ?_ | refine zL ?_)
        refine qc ?_
        (repeat refine qb ?_); refine qf rfl (fun h4 => ?_) (fun h4 => ?_)
        · cases h4
        · refine qm ?_
          refine SW.wk (qq [1, 3, 6] [(1000000, 1000000), (3, 3), (6, 6)] rfl rfl) ?_
          (repeat refine qb ?_); refine qa ?_
          repeat (first | refine zR ?_ | refine zK ?_ | refine zM ?_ | refine zB ?_ | refine zA ?_ | refine zS ?_ | refine zL ?_)
          refine qc ?_
          (repeat refine qb ?_); refine qa ?_
          repeat (first | refine zR ?_ | refine zK ?_ | refine zM ?_ | refine zB ?_ | refine zA ?_ | refine zS ?_ | refine zL ?_)
          refine qc ?_
          (repeat refine qb ?_); refine ql ?_
          refine SW.wk (jP 10 900 52 3 rfl rfl) ?_
          refine SW.wk (qq [1, 3, 6, 10, 55, 56, 57] [(1000000, 1000000), (3, 3), (6, 6), (900, 0)] rfl rfl) ?_
          refine qO (fun m s => ∃ (k : Nat) (kk : Int), k ≤ (S.drop lo).length ∧ m = (S.drop lo).length - k ∧ kk = k ∧ errS ((S.drop lo).take k) = 0 ∧ s = ⟨122, [(1, .view 1000000 5 lo S.length), (3, .ptr 3 0), (6, .ptr 6 0), (10, .row 0), (55, .view 1000000 5 lo S.length), (56, .p (pI ((S.length - lo : Nat) : Int))), (57, .p (pI kk))], [(1000000, .row 115 5 (S.map Itm.pv)), (3, .cells ((Nod.mk 3 val attr).pv.map .p)), (6, .cells (([.v (.slice none 0 0), pI 0, pI 0, pS ⟨#[]⟩, pI 0] : List PV).map .p)), (0, .row 52 3 ((((S.drop lo).take k).map Itm.v).map Val.pv))]⟩) (S.drop lo).length ⟨0, 0, Nat.zero_le _, rfl, rfl, rfl, rfl⟩ ?_
          rintro m s ⟨k, _, hk, rfl, rfl, he0, rfl⟩
          (repeat refine qb ?_); refine qa ?_
          repeat (first | refine zR ?_ | refine zK ?_ | refine zM ?_ | refine zB ?_ | refine zA ?_ | refine zS ?_ | refine zL ?_)
          refine qc ?_
          (repeat refine qb ?_); refine qf rfl (fun hlt => ?_) (fun hlt => ?_)
          · refine qm ?_
            have hlt' : k < (S.drop lo).length := by rw [List.length_drop]; simpa using hlt
            have hk2 : k < S.length - lo := by rwa [List.length_drop] at hlt'
            have hget : (S.drop lo)[k]? = some (S.drop lo)[k] := List.getElem?_eq_getElem hlt'
            (repeat refine qb ?_); refine ql ?_
            (repeat refine qb ?_); refine qa ?_
            repeat (first | refine zR ?_ | refine zK ?_ | refine zM ?_ | refine zB ?_ | refine zA ?_ | refine zS ?_ | refine zL ?_)
            refine qw qe rfl rfl (by omega) rfl ?_
            repeat (first | refine zR ?_ | refine zK ?_ | refine zM ?_ | refine zB ?_ | refine zA ?_ | refine zS ?_ | refine zL ?_)
            refine qw qe rfl (za rfl rfl rfl rfl rfl (show (S.map Itm.pv).getD (lo + Int.toNat (k : Int)) [] = (S.drop lo)[k].pv from ze hget) rfl) (by rw [List.length_map, Int.toNat_natCast]; omega) rfl ?_
            repeat (first | refine zR ?_ | refine zK ?_ | refine zM ?_ | refine zB ?_ | refine zA ?_ | refine zS ?_ | refine zL ?_)
            refine qc ?_
            (repeat refine qb ?_); refine qa ?_
            repeat (first | refine zR ?_ | refine zK ?_ | refine zM ?_ | refine zB ?_ | refine zA ?_ | refine zS ?_ | refine zL ?_)
            refine qc ?_
            (repeat refine qb ?_); refine qf rfl (fun hne => ?_) (fun hne => ?_)
            · have hne' : (S.drop lo)[k].e ≠ 0 := by simpa using hne
              have e1 := errS_at hlt' he0 hne'
              rw [hN, e1, if_pos hne']
              (repeat refine qb ?_); refine qa ?_
              repeat (first | refine zR ?_ | refine zK ?_ | refine zM ?_ | refine zB ?_ | refine zA ?_ | refine zS ?_ | refine zL ?_)
              refine qc ?_
              (repeat refine qb ?_); refine qk ?_
              exact ⟨Or.inr rfl, _, _, [(1000000, 1000000)], _, Wk.refl _, rfl, rfl, .p (CvL.agg (.cons (.nil 3) (.refl _))), rfl, rfl⟩
            · have hne' : (S.drop lo)[k].e = 0 := by simpa using hne
              refine qm ?_
              (repeat refine qb ?_); refine qa ?_
              repeat (first | refine zR ?_ | refine zK ?_ | refine zM ?_ | refine zB ?_ | refine zA ?_ | refine zS ?_ | refine zL ?_)
              refine qn rfl (qp qe rfl rfl rfl rfl rfl rfl rfl rfl rfl rfl rfl rfl rfl rfl rfl rfl (by simp only [List.length_append, List.length_map, List.length_take, List.length_drop]; unfold reachBytes; simp; omega) (by simp only [List.length_append, List.length_map, List.length_take, List.length_drop]; simp; omega) ?_)
              repeat (first | refine zR ?_ | refine zK ?_ | refine zM ?_ | refine zB ?_ | refine zA ?_ | refine zS ?_ | refine zL ?_)
              refine qc ?_
              (repeat refine qb ?_); refine qa ?_
              repeat (first | refine zR ?_ | refine zK ?_ | refine zM ?_ | refine zB ?_ | refine zA ?_ | refine zS ?_ | refine zL ?_)
              refine qc ?_
              refine ⟨_, _, ?_, qq [1, 3, 6, 10, 55, 56, 57] [(1000000, 1000000), (3, 3), (6, 6), (71, 0)] rfl rfl, k + 1, _, hlt', rfl, qz hlt' (by rw [List.length_drop]; omega), wv hlt' he0 hne', ?_⟩
              · omega
              · rw [List.take_succ_eq_append_getElem hlt', List.map_append, List.map_append]; rfl
          · refine qK ?_
            have hkk : k = (S.drop lo).length := by
              have : ¬ (k : Int) < ((S.length - lo : Nat) : Int) := by simpa using hlt
              rw [List.length_drop] at hk ⊢
              omega
            subst hkk
            rw [List.take_length] at he0 ⊢
            rw [hN, if_neg (by simp [he0])]
            clear hN
            (repeat refine qb ?_); refine qa ?_
            repeat (first | refine zR ?_ | refine zK ?_ | refine zM ?_ | refine zB ?_ | refine zA ?_ | refine zS ?_ | refine zL ?_)
            refine qc ?_
            obtain ⟨x, hx⟩ := drop_one hlo
            have h0 : (S.drop lo)[0]? = some x := by rw [hx]; rfl
            rw [hx]
            (repeat refine qb ?_); refine ql ?_
            (repeat refine qb ?_); refine qa ?_
            repeat (first | refine zR ?_ | refine zK ?_ | refine zM ?_ | refine zB ?_ | refine zA ?_ | refine zS ?_ | refine zL ?_)
            refine qc ?_
            (repeat refine qb ?_); refine qf rfl (fun h5 => ?_) (fun h5 => ?_)
            · (repeat refine qb ?_); refine qa ?_
              repeat (first | refine zR ?_ | refine zK ?_ | refine zM ?_ | refine zB ?_ | refine zA ?_ | refine zS ?_ | refine zL ?_)
              refine qw qe rfl rfl (by omega) rfl ?_
              repeat (first | refine zR ?_ | refine zK ?_ | refine zM ?_ | refine zB ?_ | refine zA ?_ | refine zS ?_ | refine zL ?_)
              refine qw qe rfl (za rfl rfl rfl rfl rfl (show (S.map Itm.pv).getD (lo + Int.toNat 0) [] = x.pv from ze h0) rfl) (by rw [List.length_map]; omega) rfl ?_
              repeat (first | refine zR ?_ | refine zK ?_ | refine zM ?_ | refine zB ?_ | refine zA ?_ | refine zS ?_ | refine zL ?_)
              refine qc ?_
              (repeat refine qb ?_); refine qf rfl (fun h6 => ?_) (fun h6 => ?_)
              · have h7 : ¬ x.bag.length = 1 := by
                  intro h7
                  simp at h6
                  omega
                have e2 : lastS 3 [x] = ⟨[], noVal, 4⟩ := by unfold lastS; rw [if_pos rfl]; exact if_neg h7
                rw [e2]
                (repeat refine qb ?_); refine qa ?_
                repeat (first | refine zR ?_ | refine zK ?_ | refine zM ?_ | refine zB ?_ | refine zA ?_ | refine zS ?_ | refine zL ?_)
                refine qc ?_
                (repeat refine qb ?_); refine qk ?_
                exact ⟨Or.inr rfl, _, _, [(1000000, 1000000)], _, Wk.refl _, rfl, rfl, .p (CvL.agg (.cons (.nil 3) (.refl _))), rfl, rfl⟩
              · have h7 : x.bag.length = 1 := by
                  have : ((x.bag.map Val.pv).length : Int) = 1 := by simpa using h6
                  rw [List.length_map] at this
                  omega
                obtain ⟨v, hv⟩ := List.length_eq_one_iff.1 h7
                have e2 : lastS 3 [x] = ⟨[], v, 0⟩ := by
                  unfold lastS
                  rw [if_pos rfl]
                  show (if x.bag.length = 1 then _ else _) = _
                  rw [if_pos h7]
                  show Itm.mk [] (x.bag.getD 0 noVal) 0 = _
                  rw [hv]; rfl
                rw [e2]
                refine qm ?_
                (repeat refine qb ?_); refine qa ?_
                repeat (first | refine zR ?_ | refine zK ?_ | refine zM ?_ | refine zB ?_ | refine zA ?_ | refine zS ?_ | refine zL ?_)
                refine qw qe rfl rfl (by omega) rfl ?_
                repeat (first | refine zR ?_ | refine zK ?_ | refine zM ?_ | refine zB ?_ | refine zA ?_ | refine zS ?_ | refine zL ?_)
                refine qw qe rfl (za rfl rfl rfl rfl rfl (show (S.map Itm.pv).getD (lo + Int.toNat 0) [] = x.pv from ze h0) rfl) (by rw [List.length_map]; omega) rfl ?_
                repeat (first | refine zR ?_ | refine zK ?_ | refine zM ?_ | refine zB ?_ | refine zA ?_ | refine zS ?_ | refine zL ?_)
                refine qw qe rfl rfl (by rw [List.length_map, h7]; omega) rfl ?_
                rw [show (x.bag.map Val.pv).getD (Int.toNat 0) [] = v.pv by rw [hv]; rfl]
                repeat (first | refine zR ?_ | refine zK ?_ | refine zM ?_ | refine zB ?_ | refine zA ?_ | refine zS ?_ | refine zL ?_)
                refine qc ?_
                (repeat refine qb ?_); refine qk ?_
                exact ⟨Or.inr rfl, _, _, [(1000000, 1000000)], _, Wk.refl _, rfl, rfl, .p (CvL.agg (.cons (.nil 3) (.refl _))), rfl, rfl⟩
            · cases h5
theorem node_size_h (val : Val) (attr : Atr) (S : List Itm) (lo : Nat) (g : List Giv) (hlo : lo + 1 = S.length) (hl : S.length ≤ 1000000) : zZ Tryz.prog 75 [.p (.agg (Nod.mk 4 val attr).pv), .view 1000000 5 lo S.length, .p (zP g)] (jz S) (.p (.agg (zc (Nod.mk 4 val attr) (S.drop lo) g).pv)) (jz S) := by
  have hN := wg (val := val) (attr := attr) (g := g) (op := 4) (l := S.drop lo) (by omega) (by omega) rfl
  refine qR (T := TTab) qe Tryz.func75 (by kernel_rfl) rfl rfl rfl ?_
  (repeat refine qb ?_); refine qa ?_
  repeat (first | refine zR ?_ | refine zK ?_ | refine zM ?_ | refine zB ?_ | refine zA ?_ | refine zS ?_ | refine zL ?_)
  refine qc ?_
  (repeat refine qb ?_); refine qa ?_
  repeat (first | refine zR ?_ | refine zK ?_ | refine zM ?_ | refine zB ?_ | refine zA ?_ | refine zS ?_ | refine zL ?_)
  refine qc ?_
  (repeat refine qb ?_); refine ql ?_
  (repeat refine qb ?_); refine qa ?_
  repeat (first | refine zR ?_ | refine zK ?_ | refine zM ?_ | refine zB ?_ | refine zA ?_ | refine zS ?_ | refine zL ?_)
  refine qc ?_
  (repeat refine qb ?_); refine qf rfl (fun h1 => ?_) (fun h1 => ?_)
  · cases h1
  · (repeat refine qb ?_); refine qa ?_
    repeat (first | refine zR ?_ | refine zK ?_ | refine zM ?_ | refine zB ?_ | refine zA ?_ | refine zS ?_ | refine zL ?_)
    refine qc ?_
    (repeat refine qb ?_); refine qf rfl (fun h2 => ?_) (fun h2 => ?_)
    · cases h2
    · (repeat refine qb ?_); refine qa ?_
      repeat (first | refine zR ?_ | refine zK ?_ | refine zM ?_ | refine zB ?_ | refine zA ?_ | refine zS ?_ | refine zL ?_)
      refine qc ?_
      (repeat refine qb ?_); refine qf rfl (fun h3 => ?_) (fun h3 => ?_)
      · cases h3
      · (repeat refine qb ?_); refine qa ?_
        repeat (first | refine zR ?_ | refine zK ?_ | refine zM ?_ | refine zB ?_ | refine zA ?_ | refine zS ?_ | refine zL ?_)
        refine qc ?_
        (repeat refine qb ?_); refine qf rfl (fun h4 => ?_) (fun h4 => ?_)
        · cases h4
        · refine qm ?_
          refine SW.wk (qq [1, 3, 6] [(1000000, 1000000), (3, 3), (6, 6)] rfl rfl) ?_
          (repeat refine qb ?_); refine qa ?_
          repeat (first | refine zR ?_ | refine zK ?_ | refine zM ?_ | refine zB ?_ | refine zA ?_ | refine zS ?_ | refine zL ?_)
          refine qc ?_
          (repeat refine qb ?_); refine qa ?_
          repeat (first | refine zR ?_ | refine zK ?_ | refine zM ?_ | refine zB ?_ | refine zA ?_ | refine zS ?_ | refine zL ?_)
          refine qc ?_
          (repeat refine qb ?_); refine ql ?_
          refine SW.wk (jP 10 900 52 3 rfl rfl) ?_
          refine SW.wk (qq [1, 3, 6, 10, 55, 56, 57] [(1000000, 1000000), (3, 3), (6, 6), (900, 0)] rfl rfl) ?_
          refine qO (fun m s => ∃ (k : Nat) (kk : Int), k ≤ (S.drop lo).length ∧ m = (S.drop lo).length - k ∧ kk = k ∧ errS ((S.drop lo).take k) = 0 ∧ s = ⟨122, [(1, .view 1000000 5 lo S.length), (3, .ptr 3 0), (6, .ptr 6 0), (10, .row 0), (55, .view 1000000 5 lo S.length), (56, .p (pI ((S.length - lo : Nat) : Int))), (57, .p (pI kk))], [(1000000, .row 115 5 (S.map Itm.pv)), (3, .cells ((Nod.mk 4 val attr).pv.map .p)), (6, .cells (([.v (.slice none 0 0), pI 0, pI 0, pS ⟨#[]⟩, pI 0] : List PV).map .p)), (0, .row 52 3 ((((S.drop lo).take k).map Itm.v).map Val.pv))]⟩) (S.drop lo).length ⟨0, 0, Nat.zero_le _, rfl, rfl, rfl, rfl⟩ ?_
          rintro m s ⟨k, _, hk, rfl, rfl, he0, rfl⟩
          (repeat refine qb ?_); refine qa ?_
          repeat (first | refine zR ?_ | refine zK ?_ | refine zM ?_ | refine zB ?_ | refine zA ?_ | refine zS ?_ | refine zL ?_)
          refine qc ?_
          (repeat refine qb ?_); refine qf rfl (fun hlt => ?_) (fun hlt => ?_)
          · refine qm ?_
            have hlt' : k < (S.drop lo).length := by rw [List.length_drop]; simpa using hlt
            have hk2 : k < S.length - lo := by rwa [List.length_drop] at hlt'
            have hget : (S.drop lo)[k]? = some (S.drop lo)[k] := List.getElem?_eq_getElem hlt'
            (repeat refine qb ?_); refine ql ?_
            (repeat refine qb ?_); refine qa ?_
            repeat (first | refine zR ?_ | refine zK ?_ | refine zM ?_ | refine zB ?_ | refine zA ?_ | refine zS ?_ | refine zL ?_)
            refine qw qe rfl rfl (by omega) rfl ?_
            repeat (first | refine zR ?_ | refine zK ?_ | refine zM ?_ | refine zB ?_ | refine zA ?_ | refine zS ?_ | refine zL ?_)
            refine qw qe rfl (za rfl rfl rfl rfl rfl (show (S.map Itm.pv).getD (lo + Int.toNat (k : Int)) [] = (S.drop lo)[k].pv from ze hget) rfl) (by rw [List.length_map, Int.toNat_natCast]; omega) rfl ?_
            repeat (first | refine zR ?_ | refine zK ?_ | refine zM ?_ | refine zB ?_ | refine zA ?_ | refine zS ?_ | refine zL ?_)
            refine qc ?_
            (repeat refine qb ?_); refine qa ?_
            repeat (first | refine zR ?_ | refine zK ?_ | refine zM ?_ | refine zB ?_ | refine zA ?_ | refine zS ?_ | refine zL ?_)
            refine qc ?_
            (repeat refine qb ?_); refine qf rfl (fun hne => ?_) (fun hne => ?_)
            · have hne' : (S.drop lo)[k].e ≠ 0 := by simpa using hne
              have e1 := errS_at hlt' he0 hne'
              rw [hN, e1, if_pos hne']
              (repeat refine qb ?_); refine qa ?_
              repeat (first | refine zR ?_ | refine zK ?_ | refine zM ?_ | refine zB ?_ | refine zA ?_ | refine zS ?_ | refine zL ?_)
              refine qc ?_
              (repeat refine qb ?_); refine qk ?_
              exact ⟨Or.inr rfl, _, _, [(1000000, 1000000)], _, Wk.refl _, rfl, rfl, .p (CvL.agg (.cons (.nil 3) (.refl _))), rfl, rfl⟩
            · have hne' : (S.drop lo)[k].e = 0 := by simpa using hne
              refine qm ?_
              (repeat refine qb ?_); refine qa ?_
              repeat (first | refine zR ?_ | refine zK ?_ | refine zM ?_ | refine zB ?_ | refine zA ?_ | refine zS ?_ | refine zL ?_)
              refine qn rfl (qp qe rfl rfl rfl rfl rfl rfl rfl rfl rfl rfl rfl rfl rfl rfl rfl rfl (by simp only [List.length_append, List.length_map, List.length_take, List.length_drop]; unfold reachBytes; simp; omega) (by simp only [List.length_append, List.length_map, List.length_take, List.length_drop]; simp; omega) ?_)
              repeat (first | refine zR ?_ | refine zK ?_ | refine zM ?_ | refine zB ?_ | refine zA ?_ | refine zS ?_ | refine zL ?_)
              refine qc ?_
              (repeat refine qb ?_); refine qa ?_
              repeat (first | refine zR ?_ | refine zK ?_ | refine zM ?_ | refine zB ?_ | refine zA ?_ | refine zS ?_ | refine zL ?_)
              refine qc ?_
              refine ⟨_, _, ?_, qq [1, 3, 6, 10, 55, 56, 57] [(1000000, 1000000), (3, 3), (6, 6), (71, 0)] rfl rfl, k + 1, _, hlt', rfl, qz hlt' (by rw [List.length_drop]; omega), wv hlt' he0 hne', ?_⟩
              · omega
              · rw [List.take_succ_eq_append_getElem hlt', List.map_append, List.map_append]; rfl
          · refine qK ?_
            have hkk : k = (S.drop lo).length := by
              have : ¬ (k : Int) < ((S.length - lo : Nat) : Int) := by simpa using hlt
              rw [List.length_drop] at hk ⊢
              omega
            subst hkk
            rw [List.take_length] at he0 ⊢
            rw [hN, if_neg (by simp [he0])]
            clear hN
            (repeat refine qb ?_); refine qa ?_
            repeat (first | refine zR ?_ | refine zK ?_ | refine zM ?_ | refine zB ?_ | refine zA ?_ | refine zS ?_ | refine zL ?_)
            refine qc ?_
            obtain ⟨x, hx⟩ := drop_one hlo
            have h0 : (S.drop lo)[0]? = some x := by rw [hx]; rfl
            rw [hx]
            (repeat refine qb ?_); refine ql ?_
            (repeat refine qb ?_); refine qa ?_
            repeat (first | refine zR ?_ | refine zK ?_ | refine zM ?_ | refine zB ?_ | refine zA ?_ | refine zS ?_ | refine zL ?_)
            refine qc ?_
            (repeat refine qb ?_); refine qf rfl (fun h5 => ?_) (fun h5 => ?_)
            · cases h5
            · (repeat refine qb ?_); refine qa ?_
              repeat (first | refine zR ?_ | refine zK ?_ | refine zM ?_ | refine zB ?_ | refine zA ?_ | refine zS ?_ | refine zL ?_)
              refine qc ?_
              (repeat refine qb ?_); refine qf rfl (fun h6 => ?_) (fun h6 => ?_)
              · have e2 : lastS 4 [x] = ⟨[], ⟨2, x.bag.length, ⟨#[]⟩⟩, 0⟩ := rfl
                rw [e2]
                (repeat refine qb ?_); refine qa ?_
                repeat (first | refine zR ?_ | refine zK ?_ | refine zM ?_ | refine zB ?_ | refine zA ?_ | refine zS ?_ | refine zL ?_)
                refine qw qe rfl rfl (by omega) rfl ?_
                repeat (first | refine zR ?_ | refine zK ?_ | refine zM ?_ | refine zB ?_ | refine zA ?_ | refine zS ?_ | refine zL ?_)
                refine qw qe rfl (za rfl rfl rfl rfl rfl (show (S.map Itm.pv).getD (lo + Int.toNat 0) [] = x.pv from ze h0) rfl) (by rw [List.length_map]; omega) rfl ?_
                repeat (first | refine zR ?_ | refine zK ?_ | refine zM ?_ | refine zB ?_ | refine zA ?_ | refine zS ?_ | refine zL ?_)
                rw [List.length_map]
                refine qc ?_
                (repeat refine qb ?_); refine qk ?_
                exact ⟨Or.inr rfl, _, _, [(1000000, 1000000)], _, Wk.refl _, rfl, rfl, .p (CvL.agg (.cons (.nil 3) (.refl _))), rfl, rfl⟩
              · cases h6
theorem node_has_h (val : Val) (attr : Atr) (S : List Itm) (lo : Nat) (g : List Giv) (hlo : lo + 2 = S.length) (hl : S.length ≤ 1000000) (hS : ∀ x ∈ S, x.Fit) : zZ Tryz.prog 75 [.p (.agg (Nod.mk 5 val attr).pv), .view 1000000 5 lo S.length, .p (zP g)] (jz S) (.p (.agg (zc (Nod.mk 5 val attr) (S.drop lo) g).pv)) (jz S) := by
  have hN := wg (val := val) (attr := attr) (g := g) (op := 5) (l := S.drop lo) (by omega) (by omega) rfl
  refine qR (T := TTab) qe Tryz.func75 (by kernel_rfl) rfl rfl rfl ?_
  (repeat refine qb ?_); refine qa ?_
  repeat (first | refine zR ?_ | refine zK ?_ | refine zM ?_ | refine zB ?_ | refine zA ?_ | refine zS ?_ | refine zL ?_)
  refine qc ?_
  (repeat refine qb ?_); refine qa ?_
  repeat (first | refine zR ?_ | refine zK ?_ | refine zM ?_ | refine zB ?_ | refine zA ?_ | refine zS ?_ | refine zL ?_)
  refine qc ?_
  (repeat refine qb ?_); refine ql ?_
  (repeat refine qb ?_); refine qa ?_
  repeat (first | refine zR ?_ | refine zK ?_ | refine zM ?_ | refine zB ?_ | refine zA ?_ | refine zS ?_ | refine zL ?_)
  refine qc ?_
  (repeat refine qb ?_); refine qf rfl (fun h1 => ?_) (fun h1 => ?_)
  · cases h1
  · (repeat refine qb ?_); refine qa ?_
    repeat (first | refine zR ?_ | refine zK ?_ | refine zM ?_ | refine zB ?_ | refine zA ?_ | refine zS ?_ | refine zL ?_)
    refine qc ?_
    (repeat refine qb ?_); refine qf rfl (fun h2 => ?_) (fun h2 => ?_)
    · cases h2
    · (repeat refine qb ?_); refine qa ?_
      repeat (first | refine zR ?_ | refine zK ?_ | refine zM ?_ | refine zB ?_ | refine zA ?_ | refine zS ?_ | refine zL ?_)
      refine qc ?_
      (repeat refine qb ?_); refine qf rfl (fun h3 => ?_) (fun h3 => ?_)
      · cases h3
      · (repeat refine qb ?_); refine qa ?_
        repeat (first | refine zR ?_ | refine zK ?_ | refine zM ?_ | refine zB ?_ | refine zA ?_ | refine zS ?_ | refine zL ?_)
        refine qc ?_
        (repeat refine qb ?_); refine qf rfl (fun h4 => ?_) (fun h4 => ?_)
        · cases h4
        · refine qm ?_
          refine SW.wk (qq [1, 3, 6] [(1000000, 1000000), (3, 3), (6, 6)] rfl rfl) ?_
          (repeat refine qb ?_); refine qa ?_
          repeat (first | refine zR ?_ | refine zK ?_ | refine zM ?_ | refine zB ?_ | refine zA ?_ | refine zS ?_ | refine zL ?_)
          refine qc ?_
          (repeat refine qb ?_); refine qa ?_
          repeat (first | refine zR ?_ | refine zK ?_ | refine zM ?_ | refine zB ?_ | refine zA ?_ | refine zS ?_ | refine zL ?_)
          refine qc ?_
          (repeat refine qb ?_); refine ql ?_
          refine SW.wk (jP 10 900 52 3 rfl rfl) ?_
          refine SW.wk (qq [1, 3, 6, 10, 55, 56, 57] [(1000000, 1000000), (3, 3), (6, 6), (900, 0)] rfl rfl) ?_
          refine qO (fun m s => ∃ (k : Nat) (kk : Int), k ≤ (S.drop lo).length ∧ m = (S.drop lo).length - k ∧ kk = k ∧ errS ((S.drop lo).take k) = 0 ∧ s = ⟨122, [(1, .view 1000000 5 lo S.length), (3, .ptr 3 0), (6, .ptr 6 0), (10, .row 0), (55, .view 1000000 5 lo S.length), (56, .p (pI ((S.length - lo : Nat) : Int))), (57, .p (pI kk))], [(1000000, .row 115 5 (S.map Itm.pv)), (3, .cells ((Nod.mk 5 val attr).pv.map .p)), (6, .cells (([.v (.slice none 0 0), pI 0, pI 0, pS ⟨#[]⟩, pI 0] : List PV).map .p)), (0, .row 52 3 ((((S.drop lo).take k).map Itm.v).map Val.pv))]⟩) (S.drop lo).length ⟨0, 0, Nat.zero_le _, rfl, rfl, rfl, rfl⟩ ?_
          rintro m s ⟨k, _, hk, rfl, rfl, he0, rfl⟩
          (repeat refine qb ?_); refine qa ?_
          repeat (first | refine zR ?_ | refine zK ?_ | refine zM ?_ | refine zB ?_ | refine zA ?_ | refine zS ?_ | refine zL ?_)
          refine qc ?_
          (repeat refine qb ?_); refine qf rfl (fun hlt => ?_) (fun hlt => ?_)
          · refine qm ?_
            have hlt' : k < (S.drop lo).length := by rw [List.length_drop]; simpa using hlt
            have hk2 : k < S.length - lo := by rwa [List.length_drop] at hlt'
            have hget : (S.drop lo)[k]? = some (S.drop lo)[k] := List.getElem?_eq_getElem hlt'
            (repeat refine qb ?_); refine ql ?_
            (repeat refine qb ?_); refine qa ?_
            repeat (first | refine zR ?_ | refine zK ?_ | refine zM ?_ | refine zB ?_ | refine zA ?_ | refine zS ?_ | refine zL ?_)
            refine qw qe rfl rfl (by omega) rfl ?_
            repeat (first | refine zR ?_ | refine zK ?_ | refine zM ?_ | refine zB ?_ | refine zA ?_ | refine zS ?_ | refine zL ?_)
            refine qw qe rfl (za rfl rfl rfl rfl rfl (show (S.map Itm.pv).getD (lo + Int.toNat (k : Int)) [] = (S.drop lo)[k].pv from ze hget) rfl) (by rw [List.length_map, Int.toNat_natCast]; omega) rfl ?_
            repeat (first | refine zR ?_ | refine zK ?_ | refine zM ?_ | refine zB ?_ | refine zA ?_ | refine zS ?_ | refine zL ?_)
            refine qc ?_
            (repeat refine qb ?_); refine qa ?_
            repeat (first | refine zR ?_ | refine zK ?_ | refine zM ?_ | refine zB ?_ | refine zA ?_ | refine zS ?_ | refine zL ?_)
            refine qc ?_
            (repeat refine qb ?_); refine qf rfl (fun hne => ?_) (fun hne => ?_)
            · have hne' : (S.drop lo)[k].e ≠ 0 := by simpa using hne
              have e1 := errS_at hlt' he0 hne'
              rw [hN, e1, if_pos hne']
              (repeat refine qb ?_); refine qa ?_
              repeat (first | refine zR ?_ | refine zK ?_ | refine zM ?_ | refine zB ?_ | refine zA ?_ | refine zS ?_ | refine zL ?_)
              refine qc ?_
              (repeat refine qb ?_); refine qk ?_
              exact ⟨Or.inr rfl, _, _, [(1000000, 1000000)], _, Wk.refl _, rfl, rfl, .p (CvL.agg (.cons (.nil 3) (.refl _))), rfl, rfl⟩
            · have hne' : (S.drop lo)[k].e = 0 := by simpa using hne
              refine qm ?_
              (repeat refine qb ?_); refine qa ?_
              repeat (first | refine zR ?_ | refine zK ?_ | refine zM ?_ | refine zB ?_ | refine zA ?_ | refine zS ?_ | refine zL ?_)
              refine qn rfl (qp qe rfl rfl rfl rfl rfl rfl rfl rfl rfl rfl rfl rfl rfl rfl rfl rfl (by simp only [List.length_append, List.length_map, List.length_take, List.length_drop]; unfold reachBytes; simp; omega) (by simp only [List.length_append, List.length_map, List.length_take, List.length_drop]; simp; omega) ?_)
              repeat (first | refine zR ?_ | refine zK ?_ | refine zM ?_ | refine zB ?_ | refine zA ?_ | refine zS ?_ | refine zL ?_)
              refine qc ?_
              (repeat refine qb ?_); refine qa ?_
              repeat (first | refine zR ?_ | refine zK ?_ | refine zM ?_ | refine zB ?_ | refine zA ?_ | refine zS ?_ | refine zL ?_)
              refine qc ?_
              refine ⟨_, _, ?_, qq [1, 3, 6, 10, 55, 56, 57] [(1000000, 1000000), (3, 3), (6, 6), (71, 0)] rfl rfl, k + 1, _, hlt', rfl, qz hlt' (by rw [List.length_drop]; omega), wv hlt' he0 hne', ?_⟩
              · omega
              · rw [List.take_succ_eq_append_getElem hlt', List.map_append, List.map_append]; rfl
          · refine qK ?_
            have hkk : k = (S.drop lo).length := by
              have : ¬ (k : Int) < ((S.length - lo : Nat) : Int) := by simpa using hlt
              rw [List.length_drop] at hk ⊢
              omega
            subst hkk
            rw [List.take_length] at he0 ⊢
            rw [hN, if_neg (by simp [he0])]
            clear hN
            (repeat refine qb ?_); refine qa ?_
            repeat (first | refine zR ?_ | refine zK ?_ | refine zM ?_ | refine zB ?_ | refine zA ?_ | refine zS ?_ | refine zL ?_)
            refine qc ?_
            obtain ⟨x, y, hx⟩ := drop_two hlo
            have h0 : (S.drop lo)[0]? = some x := by rw [hx]; rfl
            have h1' : (S.drop lo)[1]? = some y := by rw [hx]; rfl
            have hxl : x.bag.length ≤ 1000000 := (hS x (List.mem_of_mem_drop (i := lo) (by rw [hx]; simp))).len
            rw [hx]
            (repeat refine qb ?_); refine ql ?_
            (repeat refine qb ?_); refine qa ?_
            repeat (first | refine zR ?_ | refine zK ?_ | refine zM ?_ | refine zB ?_ | refine zA ?_ | refine zS ?_ | refine zL ?_)
            refine qc ?_
            (repeat refine qb ?_); refine qf rfl (fun h5 => ?_) (fun h5 => ?_)
            · cases h5
            · (repeat refine qb ?_); refine qa ?_
              repeat (first | refine zR ?_ | refine zK ?_ | refine zM ?_ | refine zB ?_ | refine zA ?_ | refine zS ?_ | refine zL ?_)
              refine qc ?_
              (repeat refine qb ?_); refine qf rfl (fun h6 => ?_) (fun h6 => ?_)
              · cases h6
              · (repeat refine qb ?_); refine qa ?_
                repeat (first | refine zR ?_ | refine zK ?_ | refine zM ?_ | refine zB ?_ | refine zA ?_ | refine zS ?_ | refine zL ?_)
                refine qc ?_
                (repeat refine qb ?_); refine qf rfl (fun h7 => ?_) (fun h7 => ?_)
                · have e2 : lastS 5 [x, y] = itmT (hasV x.bag y.v) := rfl
                  rw [e2]
                  (repeat refine qb ?_); refine zl [6] [(0, true), (1, true), (2, true), (3, true), (4, true), (5, true), (6, true), (7, true), (8, false), (9, false), (10, false)] (by kernel_rfl) (by kernel_rfl) (by kernel_rfl) ?_
                  repeat (first | refine yR ?_ | refine yK ?_ | refine yM ?_ | refine yB ?_ | refine yA ?_ | refine yS ?_ | refine yL ?_)
                  refine zi qe rfl rfl rfl (by omega) rfl ?_
                  repeat (first | refine yR ?_ | refine yK ?_ | refine yM ?_ | refine yB ?_ | refine yA ?_ | refine yS ?_ | refine yL ?_)
                  refine zi qe rfl rfl (za rfl rfl rfl rfl rfl (show (S.map Itm.pv).getD (lo + Int.toNat 0) [] = x.pv from ze h0) rfl) (by rw [List.length_map]; omega) rfl ?_
                  repeat (first | refine yR ?_ | refine yK ?_ | refine yM ?_ | refine yB ?_ | refine yA ?_ | refine yS ?_ | refine yL ?_)
                  refine zi qe rfl rfl rfl (by omega) rfl ?_
                  repeat (first | refine yR ?_ | refine yK ?_ | refine yM ?_ | refine yB ?_ | refine yA ?_ | refine yS ?_ | refine yL ?_)
                  refine zi qe rfl rfl (za rfl rfl rfl rfl rfl (show (S.map Itm.pv).getD (lo + Int.toNat 1) [] = y.pv from ze h1') rfl) (by rw [List.length_map]; show lo + 1 < _; omega) rfl ?_
                  repeat (first | refine yR ?_ | refine yK ?_ | refine yM ?_ | refine yB ?_ | refine yA ?_ | refine yS ?_ | refine yL ?_)
                  refine qak rfl rfl rfl (qg rfl rfl rfl rfl (has_h x.bag y.v hxl) rfl rfl ?_)
                  repeat (first | refine yR ?_ | refine yK ?_ | refine yM ?_ | refine yB ?_ | refine yA ?_ | refine yS ?_ | refine yL ?_)
                  refine qak rfl rfl rfl (qD rfl rfl rfl rfl (truth_h (hasV x.bag y.v)) rfl rfl rfl ?_)
                  repeat (first | refine yR ?_ | refine yK ?_ | refine yM ?_ | refine yB ?_ | refine yA ?_ | refine yS ?_ | refine yL ?_)
                  refine swm_nil ?_
                  (repeat refine qb ?_); refine qk ?_
                  exact ⟨Or.inr rfl, _, _, [(1000000, 1000000)], _, Wk.refl _, rfl, rfl, .refl _, rfl, rfl⟩
                · cases h7
theorem jE (op : Int) (hop : 6 ≤ op ∧ op ≤ 11) (val : Val) (attr : Atr) (S : List Itm) (lo : Nat) (g : List Giv) (hl : S.length ≤ 1000000) (hlo : lo ≤ S.length) (hS : ∀ x ∈ S, x.Fit) : zZ Tryz.prog 75 [.p (.agg (Nod.mk op val attr).pv), .view 1000000 5 lo S.length, .p (zP g)] (jz S) (.p (.agg (zc (Nod.mk op val attr) (S.drop lo) g).pv)) (jz S) := by
  have no : ∀ {k : Int}, (op == k) = true → k < 6 ∨ 11 < k → False := fun {k} h h2 => by
    have e : op = k := by simpa using h
    omega
  have hN := wg (val := val) (attr := attr) (g := g) (op := op) (l := S.drop lo) (by omega) (by omega) (by
    unfold decS
    rw [show decide (op = 12) = false from decide_eq_false (by omega), show decide (op = 13) = false from decide_eq_false (by omega)]; rfl)
  refine qR (T := TTab) qe Tryz.func75 (by kernel_rfl) rfl rfl rfl ?_
  (repeat refine qb ?_); refine qa ?_
  repeat (first | refine zR ?_ | refine zK ?_ | refine zM ?_ | refine zB ?_ | refine zA ?_ | refine zS ?_ | refine zL ?_)
  refine qc ?_
  (repeat refine qb ?_); refine qa ?_
  repeat (first | refine zR ?_ | refine zK ?_ | refine zM ?_ | refine zB ?_ | refine zA ?_ | refine zS ?_ | refine zL ?_)
  refine qc ?_
  (repeat refine qb ?_); refine ql ?_
  (repeat refine qb ?_); refine qa ?_
  repeat (first | refine zR ?_ | refine zK ?_ | refine zM ?_ | refine zB ?_ | refine zA ?_ | refine zS ?_ | refine zL ?_)
  refine qc ?_
  (repeat refine qb ?_); refine qf rfl (fun h1 => ?_) (fun h1 => ?_)
  · exact (no h1 (by omega)).elim
  · (repeat refine qb ?_); refine qa ?_
    repeat (first | refine zR ?_ | refine zK ?_ | refine zM ?_ | refine zB ?_ | refine zA ?_ | refine zS ?_ | refine zL ?_)
    refine qc ?_
    (repeat refine qb ?_); refine qf rfl (fun h2 => ?_) (fun h2 => ?_)
    · exact (no h2 (by omega)).elim
    · (repeat refine qb ?_); refine qa ?_
      repeat (first | refine zR ?_ | refine zK ?_ | refine zM ?_ | refine zB ?_ | refine zA ?_ | refine zS ?_ | refine zL ?_)
      refine qc ?_
      (repeat refine qb ?_); refine qf rfl (fun h3 => ?_) (fun h3 => ?_)
      · exact (no h3 (by omega)).elim
      · (repeat refine qb ?_); refine qa ?_
        repeat (first | refine zR ?_ | refine zK ?_ | refine zM ?_ | refine zB ?_ | refine zA ?_ | refine zS ?_ | refine zL ?_)
        refine qc ?_
        (repeat refine qb ?_); refine qf rfl (fun h4 => ?_) (fun h4 => ?_)
        · exact (no h4 (by omega)).elim
        · refine qm ?_
          refine SW.wk (qq [1, 3, 6] [(1000000, 1000000), (3, 3), (6, 6)] rfl rfl) ?_
          (repeat refine qb ?_); refine qa ?_
          repeat (first | refine zR ?_ | refine zK ?_ | refine zM ?_ | refine zB ?_ | refine zA ?_ | refine zS ?_ | refine zL ?_)
          refine qc ?_
          (repeat refine qb ?_); refine qa ?_
          repeat (first | refine zR ?_ | refine zK ?_ | refine zM ?_ | refine zB ?_ | refine zA ?_ | refine zS ?_ | refine zL ?_)
          refine qc ?_
          (repeat refine qb ?_); refine ql ?_
          refine SW.wk (jP 10 900 52 3 rfl rfl) ?_
          refine SW.wk (qq [1, 3, 6, 10, 55, 56, 57] [(1000000, 1000000), (3, 3), (6, 6), (900, 0)] rfl rfl) ?_
          refine qO (fun m s => ∃ (k : Nat) (kk : Int), k ≤ (S.drop lo).length ∧ m = (S.drop lo).length - k ∧ kk = k ∧ errS ((S.drop lo).take k) = 0 ∧ s = ⟨122, [(1, .view 1000000 5 lo S.length), (3, .ptr 3 0), (6, .ptr 6 0), (10, .row 0), (55, .view 1000000 5 lo S.length), (56, .p (pI ((S.length - lo : Nat) : Int))), (57, .p (pI kk))], [(1000000, .row 115 5 (S.map Itm.pv)), (3, .cells ((Nod.mk op val attr).pv.map .p)), (6, .cells (([.v (.slice none 0 0), pI 0, pI 0, pS ⟨#[]⟩, pI 0] : List PV).map .p)), (0, .row 52 3 ((((S.drop lo).take k).map Itm.v).map Val.pv))]⟩) (S.drop lo).length ⟨0, 0, Nat.zero_le _, rfl, rfl, rfl, rfl⟩ ?_
          rintro m s ⟨k, _, hk, rfl, rfl, he0, rfl⟩
          (repeat refine qb ?_); refine qa ?_
          repeat (first | refine zR ?_ | refine zK ?_ | refine zM ?_ | refine zB ?_ | refine zA ?_ | refine zS ?_ | refine zL ?_)
          refine qc ?_
          (repeat refine qb ?_); refine qf rfl (fun hlt => ?_) (fun hlt => ?_)
          · refine qm ?_
            have hlt' : k < (S.drop lo).length := by rw [List.length_drop]; simpa using hlt
            have hk2 : k < S.length - lo := by rwa [List.length_drop] at hlt'
            have hget : (S.drop lo)[k]? = some (S.drop lo)[k] := List.getElem?_eq_getElem hlt'
            (repeat refine qb ?_); refine ql ?_
            (repeat refine qb ?_); refine qa ?_
            repeat (first | refine zR ?_ | refine zK ?_ | refine zM ?_ | refine zB ?_ | refine zA ?_ | refine zS ?_ | refine zL ?_)
            refine qw qe rfl rfl (by omega) rfl ?_
            repeat (first | refine zR ?_ | refine zK ?_ | refine zM ?_ | refine zB ?_ | refine zA ?_ | refine zS ?_ | refine zL ?_)
            refine qw qe rfl (za rfl rfl rfl rfl rfl (show (S.map Itm.pv).getD (lo + Int.toNat (k : Int)) [] = (S.drop lo)[k].pv from ze hget) rfl) (by rw [List.length_map, Int.toNat_natCast]; omega) rfl ?_
            repeat (first | refine zR ?_ | refine zK ?_ | refine zM ?_ | refine zB ?_ | refine zA ?_ | refine zS ?_ | refine zL ?_)
            refine qc ?_
            (repeat refine qb ?_); refine qa ?_
            repeat (first | refine zR ?_ | refine zK ?_ | refine zM ?_ | refine zB ?_ | refine zA ?_ | refine zS ?_ | refine zL ?_)
            refine qc ?_
            (repeat refine qb ?_); refine qf rfl (fun hne => ?_) (fun hne => ?_)
            · have hne' : (S.drop lo)[k].e ≠ 0 := by simpa using hne
              have e1 := errS_at hlt' he0 hne'
              rw [hN, e1, if_pos hne']
              (repeat refine qb ?_); refine qa ?_
              repeat (first | refine zR ?_ | refine zK ?_ | refine zM ?_ | refine zB ?_ | refine zA ?_ | refine zS ?_ | refine zL ?_)
              refine qc ?_
              (repeat refine qb ?_); refine qk ?_
              exact ⟨Or.inr rfl, _, _, [(1000000, 1000000)], _, Wk.refl _, rfl, rfl, .p (CvL.agg (.cons (.nil 3) (.refl _))), rfl, rfl⟩
            · have hne' : (S.drop lo)[k].e = 0 := by simpa using hne
              refine qm ?_
              (repeat refine qb ?_); refine qa ?_
              repeat (first | refine zR ?_ | refine zK ?_ | refine zM ?_ | refine zB ?_ | refine zA ?_ | refine zS ?_ | refine zL ?_)
              refine qn rfl (qp qe rfl rfl rfl rfl rfl rfl rfl rfl rfl rfl rfl rfl rfl rfl rfl rfl (by simp only [List.length_append, List.length_map, List.length_take, List.length_drop]; unfold reachBytes; simp; omega) (by simp only [List.length_append, List.length_map, List.length_take, List.length_drop]; simp; omega) ?_)
              repeat (first | refine zR ?_ | refine zK ?_ | refine zM ?_ | refine zB ?_ | refine zA ?_ | refine zS ?_ | refine zL ?_)
              refine qc ?_
              (repeat refine qb ?_); refine qa ?_
              repeat (first | refine zR ?_ | refine zK ?_ | refine zM ?_ | refine zB ?_ | refine zA ?_ | refine zS ?_ | refine zL ?_)
              refine qc ?_
              refine ⟨_, _, ?_, qq [1, 3, 6, 10, 55, 56, 57] [(1000000, 1000000), (3, 3), (6, 6), (71, 0)] rfl rfl, k + 1, _, hlt', rfl, qz hlt' (by rw [List.length_drop]; omega), wv hlt' he0 hne', ?_⟩
              · omega
              · rw [List.take_succ_eq_append_getElem hlt', List.map_append, List.map_append]; rfl
          · refine qK ?_
            have hkk : k = (S.drop lo).length := by
              have : ¬ (k : Int) < ((S.length - lo : Nat) : Int) := by simpa using hlt
              rw [List.length_drop] at hk ⊢
              omega
            subst hkk
            rw [List.take_length] at he0 ⊢
            rw [hN, if_neg (by simp [he0])]
            clear hN
            (repeat refine qb ?_); refine qa ?_
            repeat (first | refine zR ?_ | refine zK ?_ | refine zM ?_ | refine zB ?_ | refine zA ?_ | refine zS ?_ | refine zL ?_)
            refine qc ?_
            (repeat refine qb ?_); refine ql ?_
            (repeat refine qb ?_); refine qa ?_
            repeat (first | refine zR ?_ | refine zK ?_ | refine zM ?_ | refine zB ?_ | refine zA ?_ | refine zS ?_ | refine zL ?_)
            refine qc ?_
            (repeat refine qb ?_); refine qf rfl (fun h5 => ?_) (fun h5 => ?_)
            · exact (no h5 (by omega)).elim
            · (repeat refine qb ?_); refine qa ?_
              repeat (first | refine zR ?_ | refine zK ?_ | refine zM ?_ | refine zB ?_ | refine zA ?_ | refine zS ?_ | refine zL ?_)
              refine qc ?_
              (repeat refine qb ?_); refine qf rfl (fun h6 => ?_) (fun h6 => ?_)
              · exact (no h6 (by omega)).elim
              · (repeat refine qb ?_); refine qa ?_
                repeat (first | refine zR ?_ | refine zK ?_ | refine zM ?_ | refine zB ?_ | refine zA ?_ | refine zS ?_ | refine zL ?_)
                refine qc ?_
                (repeat refine qb ?_); refine qf rfl (fun h7 => ?_) (fun h7 => ?_)
                · exact (no h7 (by omega)).elim
                · refine qm ?_
                  have e2 : lastS op (S.drop lo) = ⟨[], (qN op ((S.drop lo).map Itm.v)).1, (qN op ((S.drop lo).map Itm.v)).2⟩ := by
                    unfold lastS
                    rw [if_neg (by omega), if_neg (by omega), if_neg (by omega)]
                  rw [e2]
                  (repeat refine qb ?_); refine qa ?_
                  repeat (first | refine zR ?_ | refine zK ?_ | refine zM ?_ | refine zB ?_ | refine zA ?_ | refine zS ?_ | refine zL ?_)
                  refine qn rfl (qg rfl rfl rfl rfl (call_h op ((S.drop lo).map Itm.v) (fun v hv => by obtain ⟨x, hx, rfl⟩ := List.mem_map.1 hv; exact (hS x (List.mem_of_mem_drop hx)).v)) rfl rfl ?_)
                  repeat (first | refine zR ?_ | refine zK ?_ | refine zM ?_ | refine zB ?_ | refine zA ?_ | refine zS ?_ | refine zL ?_)
                  refine qc ?_
                  generalize qN op ((S.drop lo).map Itm.v) = r
                  (repeat refine qb ?_); refine qa ?_
                  repeat (first | refine zR ?_ | refine zK ?_ | refine zM ?_ | refine zB ?_ | refine zA ?_ | refine zS ?_ | refine zL ?_)
                  refine qc ?_
                  (repeat refine qb ?_); refine qk ?_
                  exact ⟨Or.inr rfl, _, _, [(1000000, 1000000)], _, Wk.refl _, rfl, rfl, .p (CvL.agg (.cons (.nil 3) (.refl _))), rfl, rfl⟩
theorem node_12_h (val : Val) (attr : Atr) (S : List Itm) (lo : Nat) (g : List Giv) (hl : S.length ≤ 1000000) (hlo : lo + 2 = S.length) (hS : ∀ x ∈ S, x.Fit) : zZ Tryz.prog 75 [.p (.agg (Nod.mk 12 val attr).pv), .view 1000000 5 lo S.length, .p (zP g)] (jz S) (.p (.agg (zc (Nod.mk 12 val attr) (S.drop lo) g).pv)) (jz S) := by
  obtain ⟨x, y, hx⟩ := drop_two hlo
  have h0 : (S.drop lo)[0]? = some x := by rw [hx]; rfl
  have h1' : (S.drop lo)[1]? = some y := by rw [hx]; rfl
  have hd0 : decS 12 (S.drop lo) = (x.is 0 || y.is 0) := by rw [hx]; rfl
  cases hdec : (x.is 0 || y.is 0) with
  | true =>
    have e : zc (Nod.mk 12 val attr) (S.drop lo) g = itmT false := by
      unfold zc
      simp only
      rw [if_neg (by omega), if_neg (by omega), hd0, hdec, if_pos rfl]; rfl
    rw [e]
    refine qR (T := TTab) qe Tryz.func75 (by kernel_rfl) rfl rfl rfl ?_
    (repeat refine qb ?_); refine qa ?_
    repeat (first | refine zR ?_ | refine zK ?_ | refine zM ?_ | refine zB ?_ | refine zA ?_ | refine zS ?_ | refine zL ?_)
    refine qc ?_
    (repeat refine qb ?_); refine qa ?_
    repeat (first | refine zR ?_ | refine zK ?_ | refine zM ?_ | refine zB ?_ | refine zA ?_ | refine zS ?_ | refine zL ?_)
    refine qc ?_
    (repeat refine qb ?_); refine ql ?_
    (repeat refine qb ?_); refine qa ?_
    repeat (first | refine zR ?_ | refine zK ?_ | refine zM ?_ | refine zB ?_ | refine zA ?_ | refine zS ?_ | refine zL ?_)
    refine qc ?_
    (repeat refine qb ?_); refine qf rfl (fun h1 => ?_) (fun h1 => ?_)
    · cases h1
    · (repeat refine qb ?_); refine qa ?_
      repeat (first | refine zR ?_ | refine zK ?_ | refine zM ?_ | refine zB ?_ | refine zA ?_ | refine zS ?_ | refine zL ?_)
      refine qc ?_
      (repeat refine qb ?_); refine qf rfl (fun h2 => ?_) (fun h2 => ?_)
      · cases h2
      · (repeat refine qb ?_); refine qa ?_
        repeat (first | refine zR ?_ | refine zK ?_ | refine zM ?_ | refine zB ?_ | refine zA ?_ | refine zS ?_ | refine zL ?_)
        refine qc ?_
        (repeat refine qb ?_); refine qf rfl (fun h3 => ?_) (fun h3 => ?_)
        rotate_left
        · cases h3
        refine qm ?_
        (repeat refine qb ?_); refine qf rfl (fun h4 => ?_) (fun h4 => ?_)
        rotate_left
        · cases h4
        (repeat refine qb ?_); refine qa ?_
        repeat (first | refine zR ?_ | refine zK ?_ | refine zM ?_ | refine zB ?_ | refine zA ?_ | refine zS ?_ | refine zL ?_)
        refine qc ?_
        (repeat refine qb ?_); refine qs (by kernel_rfl) ?_
        repeat (refine qr qe rfl (by exact True.intro) rfl ?_)
        refine qr qe rfl (by omega) rfl ?_
        refine qr qe (za rfl rfl rfl rfl rfl (show (S.map Itm.pv).getD (lo + Int.toNat 0) [] = x.pv from ze h0) rfl) (by rw [List.length_map]; omega) rfl ?_
        repeat (refine qr qe rfl (by exact True.intro) rfl ?_)
        refine zj rfl rfl rfl rfl (is_h x _) rfl rfl ?_
        repeat (refine qr qe rfl (by exact True.intro) rfl ?_)
        refine qr qe rfl (by omega) rfl ?_
        refine qr qe (za rfl rfl rfl rfl rfl (show (S.map Itm.pv).getD (lo + Int.toNat 1) [] = y.pv from ze h1') rfl) (by rw [List.length_map]; show lo + 1 < _; omega) rfl ?_
        repeat (refine qr qe rfl (by exact True.intro) rfl ?_)
        refine zj rfl rfl rfl rfl (is_h y _) rfl rfl ?_
        repeat (refine qr qe rfl (by exact True.intro) rfl ?_)
        refine qQ ?_
        (repeat refine qb ?_); refine qf rfl (fun h9 => ?_) (fun h9 => ?_)
        · (repeat refine qb ?_); refine qa ?_
          repeat (first | refine zR ?_ | refine zK ?_ | refine zM ?_ | refine zB ?_ | refine zA ?_ | refine zS ?_ | refine zL ?_)
          refine qn rfl (qD rfl rfl rfl rfl (truth_h false) rfl rfl rfl ?_)
          repeat (first | refine zR ?_ | refine zK ?_ | refine zM ?_ | refine zB ?_ | refine zA ?_ | refine zS ?_ | refine zL ?_)
          refine qc ?_
          (repeat refine qb ?_); refine qk ?_
          exact ⟨Or.inr rfl, _, _, [(1000000, 1000000)], _, Wk.refl _, rfl, rfl, .refl _, rfl, rfl⟩
        · have h9' : (x.is 0 || y.is 0) = false := by
            rw [← h9]
            show _ = (bif x.is 0 then true else y.is 0)
            cases x.is 0 <;> rfl
          rw [hdec] at h9'
          cases h9'
  | false =>
    have hN := wg (val := val) (attr := attr) (g := g) (op := 12) (l := S.drop lo) (by omega) (by omega) (hd0.trans hdec)
    refine qR (T := TTab) qe Tryz.func75 (by kernel_rfl) rfl rfl rfl ?_
    (repeat refine qb ?_); refine qa ?_
    repeat (first | refine zR ?_ | refine zK ?_ | refine zM ?_ | refine zB ?_ | refine zA ?_ | refine zS ?_ | refine zL ?_)
    refine qc ?_
    (repeat refine qb ?_); refine qa ?_
    repeat (first | refine zR ?_ | refine zK ?_ | refine zM ?_ | refine zB ?_ | refine zA ?_ | refine zS ?_ | refine zL ?_)
    refine qc ?_
    (repeat refine qb ?_); refine ql ?_
    (repeat refine qb ?_); refine qa ?_
    repeat (first | refine zR ?_ | refine zK ?_ | refine zM ?_ | refine zB ?_ | refine zA ?_ | refine zS ?_ | refine zL ?_)
    refine qc ?_
    (repeat refine qb ?_); refine qf rfl (fun h1 => ?_) (fun h1 => ?_)
    · cases h1
    · (repeat refine qb ?_); refine qa ?_
      repeat (first | refine zR ?_ | refine zK ?_ | refine zM ?_ | refine zB ?_ | refine zA ?_ | refine zS ?_ | refine zL ?_)
      refine qc ?_
      (repeat refine qb ?_); refine qf rfl (fun h2 => ?_) (fun h2 => ?_)
      · cases h2
      · (repeat refine qb ?_); refine qa ?_
        repeat (first | refine zR ?_ | refine zK ?_ | refine zM ?_ | refine zB ?_ | refine zA ?_ | refine zS ?_ | refine zL ?_)
        refine qc ?_
        (repeat refine qb ?_); refine qf rfl (fun h3 => ?_) (fun h3 => ?_)
        rotate_left
        · cases h3
        refine qm ?_
        (repeat refine qb ?_); refine qf rfl (fun h4 => ?_) (fun h4 => ?_)
        rotate_left
        · cases h4
        (repeat refine qb ?_); refine qa ?_
        repeat (first | refine zR ?_ | refine zK ?_ | refine zM ?_ | refine zB ?_ | refine zA ?_ | refine zS ?_ | refine zL ?_)
        refine qc ?_
        (repeat refine qb ?_); refine qs (by kernel_rfl) ?_
        repeat (refine qr qe rfl (by exact True.intro) rfl ?_)
        refine qr qe rfl (by omega) rfl ?_
        refine qr qe (za rfl rfl rfl rfl rfl (show (S.map Itm.pv).getD (lo + Int.toNat 0) [] = x.pv from ze h0) rfl) (by rw [List.length_map]; omega) rfl ?_
        repeat (refine qr qe rfl (by exact True.intro) rfl ?_)
        refine zj rfl rfl rfl rfl (is_h x _) rfl rfl ?_
        repeat (refine qr qe rfl (by exact True.intro) rfl ?_)
        refine qr qe rfl (by omega) rfl ?_
        refine qr qe (za rfl rfl rfl rfl rfl (show (S.map Itm.pv).getD (lo + Int.toNat 1) [] = y.pv from ze h1') rfl) (by rw [List.length_map]; show lo + 1 < _; omega) rfl ?_
        repeat (refine qr qe rfl (by exact True.intro) rfl ?_)
        refine zj rfl rfl rfl rfl (is_h y _) rfl rfl ?_
        repeat (refine qr qe rfl (by exact True.intro) rfl ?_)
        refine qQ ?_
        (repeat refine qb ?_); refine qf rfl (fun h9 => ?_) (fun h9 => ?_)
        · have h9' : (x.is 0 || y.is 0) = true := by
            rw [← h9]
            show _ = (bif x.is 0 then true else y.is 0)
            cases x.is 0 <;> rfl
          rw [hdec] at h9'
          cases h9'
        · refine qm ?_
          clear h0 h1' hx
          refine SW.wk (qq [1, 3, 6] [(1000000, 1000000), (3, 3), (6, 6)] rfl rfl) ?_
          (repeat refine qb ?_); refine qa ?_
          repeat (first | refine zR ?_ | refine zK ?_ | refine zM ?_ | refine zB ?_ | refine zA ?_ | refine zS ?_ | refine zL ?_)
          refine qc ?_
          (repeat refine qb ?_); refine qa ?_
          repeat (first | refine zR ?_ | refine zK ?_ | refine zM ?_ | refine zB ?_ | refine zA ?_ | refine zS ?_ | refine zL ?_)
          refine qc ?_
          (repeat refine qb ?_); refine ql ?_
          refine SW.wk (jP 10 900 52 3 rfl rfl) ?_
          refine SW.wk (qq [1, 3, 6, 10, 55, 56, 57] [(1000000, 1000000), (3, 3), (6, 6), (900, 0)] rfl rfl) ?_
          refine qO (fun m s => ∃ (k : Nat) (kk : Int), k ≤ (S.drop lo).length ∧ m = (S.drop lo).length - k ∧ kk = k ∧ errS ((S.drop lo).take k) = 0 ∧ s = ⟨122, [(1, .view 1000000 5 lo S.length), (3, .ptr 3 0), (6, .ptr 6 0), (10, .row 0), (55, .view 1000000 5 lo S.length), (56, .p (pI ((S.length - lo : Nat) : Int))), (57, .p (pI kk))], [(1000000, .row 115 5 (S.map Itm.pv)), (3, .cells ((Nod.mk 12 val attr).pv.map .p)), (6, .cells (([.v (.slice none 0 0), pI 0, pI 0, pS ⟨#[]⟩, pI 0] : List PV).map .p)), (0, .row 52 3 ((((S.drop lo).take k).map Itm.v).map Val.pv))]⟩) (S.drop lo).length ⟨0, 0, Nat.zero_le _, rfl, rfl, rfl, rfl⟩ ?_
          rintro m s ⟨k, _, hk, rfl, rfl, he0, rfl⟩
          (repeat refine qb ?_); refine qa ?_
          repeat (first | refine zR ?_ | refine zK ?_ | refine zM ?_ | refine zB ?_ | refine zA ?_ | refine zS ?_ | refine zL ?_)
          refine qc ?_
          (repeat refine qb ?_); refine qf rfl (fun hlt => ?_) (fun hlt => ?_)
          · refine qm ?_
            have hlt' : k < (S.drop lo).length := by rw [List.length_drop]; simpa using hlt
            have hk2 : k < S.length - lo := by rwa [List.length_drop] at hlt'
            have hget : (S.drop lo)[k]? = some (S.drop lo)[k] := List.getElem?_eq_getElem hlt'
            (repeat refine qb ?_); refine ql ?_
            (repeat refine qb ?_); refine qa ?_
            repeat (first | refine zR ?_ | refine zK ?_ | refine zM ?_ | refine zB ?_ | refine zA ?_ | refine zS ?_ | refine zL ?_)
            refine qw qe rfl rfl (by omega) rfl ?_
            repeat (first | refine zR ?_ | refine zK ?_ | refine zM ?_ | refine zB ?_ | refine zA ?_ | refine zS ?_ | refine zL ?_)
            refine qw qe rfl (za rfl rfl rfl rfl rfl (show (S.map Itm.pv).getD (lo + Int.toNat (k : Int)) [] = (S.drop lo)[k].pv from ze hget) rfl) (by rw [List.length_map, Int.toNat_natCast]; omega) rfl ?_
            repeat (first | refine zR ?_ | refine zK ?_ | refine zM ?_ | refine zB ?_ | refine zA ?_ | refine zS ?_ | refine zL ?_)
            refine qc ?_
            (repeat refine qb ?_); refine qa ?_
            repeat (first | refine zR ?_ | refine zK ?_ | refine zM ?_ | refine zB ?_ | refine zA ?_ | refine zS ?_ | refine zL ?_)
            refine qc ?_
            (repeat refine qb ?_); refine qf rfl (fun hne => ?_) (fun hne => ?_)
            · have hne' : (S.drop lo)[k].e ≠ 0 := by simpa using hne
              have e1 := errS_at hlt' he0 hne'
              rw [hN, e1, if_pos hne']
              (repeat refine qb ?_); refine qa ?_
              repeat (first | refine zR ?_ | refine zK ?_ | refine zM ?_ | refine zB ?_ | refine zA ?_ | refine zS ?_ | refine zL ?_)
              refine qc ?_
              (repeat refine qb ?_); refine qk ?_
              exact ⟨Or.inr rfl, _, _, [(1000000, 1000000)], _, Wk.refl _, rfl, rfl, .p (CvL.agg (.cons (.nil 3) (.refl _))), rfl, rfl⟩
            · have hne' : (S.drop lo)[k].e = 0 := by simpa using hne
              refine qm ?_
              (repeat refine qb ?_); refine qa ?_
              repeat (first | refine zR ?_ | refine zK ?_ | refine zM ?_ | refine zB ?_ | refine zA ?_ | refine zS ?_ | refine zL ?_)
              refine qn rfl (qp qe rfl rfl rfl rfl rfl rfl rfl rfl rfl rfl rfl rfl rfl rfl rfl rfl (by simp only [List.length_append, List.length_map, List.length_take, List.length_drop]; unfold reachBytes; simp; omega) (by simp only [List.length_append, List.length_map, List.length_take, List.length_drop]; simp; omega) ?_)
              repeat (first | refine zR ?_ | refine zK ?_ | refine zM ?_ | refine zB ?_ | refine zA ?_ | refine zS ?_ | refine zL ?_)
              refine qc ?_
              (repeat refine qb ?_); refine qa ?_
              repeat (first | refine zR ?_ | refine zK ?_ | refine zM ?_ | refine zB ?_ | refine zA ?_ | refine zS ?_ | refine zL ?_)
              refine qc ?_
              refine ⟨_, _, ?_, qq [1, 3, 6, 10, 55, 56, 57] [(1000000, 1000000), (3, 3), (6, 6), (71, 0)] rfl rfl, k + 1, _, hlt', rfl, qz hlt' (by rw [List.length_drop]; omega), wv hlt' he0 hne', ?_⟩
              · omega
              · rw [List.take_succ_eq_append_getElem hlt', List.map_append, List.map_append]; rfl
          · refine qK ?_
            have hkk : k = (S.drop lo).length := by
              have : ¬ (k : Int) < ((S.length - lo : Nat) : Int) := by simpa using hlt
              rw [List.length_drop] at hk ⊢
              omega
            subst hkk
            rw [List.take_length] at he0 ⊢
            rw [hN, if_neg (by simp [he0])]
            clear hN
            (repeat refine qb ?_); refine qa ?_
            repeat (first | refine zR ?_ | refine zK ?_ | refine zM ?_ | refine zB ?_ | refine zA ?_ | refine zS ?_ | refine zL ?_)
            refine qc ?_
            (repeat refine qb ?_); refine ql ?_
            (repeat refine qb ?_); refine qa ?_
            repeat (first | refine zR ?_ | refine zK ?_ | refine zM ?_ | refine zB ?_ | refine zA ?_ | refine zS ?_ | refine zL ?_)
            refine qc ?_
            (repeat refine qb ?_); refine qf rfl (fun h5 => ?_) (fun h5 => ?_)
            · cases h5
            · (repeat refine qb ?_); refine qa ?_
              repeat (first | refine zR ?_ | refine zK ?_ | refine zM ?_ | refine zB ?_ | refine zA ?_ | refine zS ?_ | refine zL ?_)
              refine qc ?_
              (repeat refine qb ?_); refine qf rfl (fun h6 => ?_) (fun h6 => ?_)
              · cases h6
              · (repeat refine qb ?_); refine qa ?_
                repeat (first | refine zR ?_ | refine zK ?_ | refine zM ?_ | refine zB ?_ | refine zA ?_ | refine zS ?_ | refine zL ?_)
                refine qc ?_
                (repeat refine qb ?_); refine qf rfl (fun h7 => ?_) (fun h7 => ?_)
                · cases h7
                · refine qm ?_
                  have e2 : lastS 12 (S.drop lo) = ⟨[], (qN 12 ((S.drop lo).map Itm.v)).1, (qN 12 ((S.drop lo).map Itm.v)).2⟩ := rfl
                  rw [e2]
                  (repeat refine qb ?_); refine qa ?_
                  repeat (first | refine zR ?_ | refine zK ?_ | refine zM ?_ | refine zB ?_ | refine zA ?_ | refine zS ?_ | refine zL ?_)
                  refine qn rfl (qg rfl rfl rfl rfl (call_h 12 ((S.drop lo).map Itm.v) (fun v hv => by obtain ⟨x, hx, rfl⟩ := List.mem_map.1 hv; exact (hS x (List.mem_of_mem_drop hx)).v)) rfl rfl ?_)
                  repeat (first | refine zR ?_ | refine zK ?_ | refine zM ?_ | refine zB ?_ | refine zA ?_ | refine zS ?_ | refine zL ?_)
                  refine qc ?_
                  generalize qN 12 ((S.drop lo).map Itm.v) = r
                  (repeat refine qb ?_); refine qa ?_
                  repeat (first | refine zR ?_ | refine zK ?_ | refine zM ?_ | refine zB ?_ | refine zA ?_ | refine zS ?_ | refine zL ?_)
                  refine qc ?_
                  (repeat refine qb ?_); refine qk ?_
                  exact ⟨Or.inr rfl, _, _, [(1000000, 1000000)], _, Wk.refl _, rfl, rfl, .p (CvL.agg (.cons (.nil 3) (.refl _))), rfl, rfl⟩
theorem node_13_h (val : Val) (attr : Atr) (S : List Itm) (lo : Nat) (g : List Giv) (hl : S.length ≤ 1000000) (hlo : lo + 2 = S.length) (hS : ∀ x ∈ S, x.Fit) : zZ Tryz.prog 75 [.p (.agg (Nod.mk 13 val attr).pv), .view 1000000 5 lo S.length, .p (zP g)] (jz S) (.p (.agg (zc (Nod.mk 13 val attr) (S.drop lo) g).pv)) (jz S) := by
  obtain ⟨x, y, hx⟩ := drop_two hlo
  have h0 : (S.drop lo)[0]? = some x := by rw [hx]; rfl
  have h1' : (S.drop lo)[1]? = some y := by rw [hx]; rfl
  have hd0 : decS 13 (S.drop lo) = (x.is 1 || y.is 1) := by rw [hx]; rfl
  cases hdec : (x.is 1 || y.is 1) with
  | true =>
    have e : zc (Nod.mk 13 val attr) (S.drop lo) g = itmT true := by
      unfold zc
      simp only
      rw [if_neg (by omega), if_neg (by omega), hd0, hdec, if_pos rfl]; rfl
    rw [e]
    refine qR (T := TTab) qe Tryz.func75 (by kernel_rfl) rfl rfl rfl ?_
    (repeat refine qb ?_); refine qa ?_
    repeat (first | refine zR ?_ | refine zK ?_ | refine zM ?_ | refine zB ?_ | refine zA ?_ | refine zS ?_ | refine zL ?_)
    refine qc ?_
    (repeat refine qb ?_); refine qa ?_
    repeat (first | refine zR ?_ | refine zK ?_ | refine zM ?_ | refine zB ?_ | refine zA ?_ | refine zS ?_ | refine zL ?_)
    refine qc ?_
    (repeat refine qb ?_); refine ql ?_
    (repeat refine qb ?_); refine qa ?_
    repeat (first | refine zR ?_ | refine zK ?_ | refine zM ?_ | refine zB ?_ | refine zA ?_ | refine zS ?_ | refine zL ?_)
    refine qc ?_
    (repeat refine qb ?_); refine qf rfl (fun h1 => ?_) (fun h1 => ?_)
    · cases h1
    · (repeat refine qb ?_); refine qa ?_
      repeat (first | refine zR ?_ | refine zK ?_ | refine zM ?_ | refine zB ?_ | refine zA ?_ | refine zS ?_ | refine zL ?_)
      refine qc ?_
      (repeat refine qb ?_); refine qf rfl (fun h2 => ?_) (fun h2 => ?_)
      · cases h2
      · (repeat refine qb ?_); refine qa ?_
        repeat (first | refine zR ?_ | refine zK ?_ | refine zM ?_ | refine zB ?_ | refine zA ?_ | refine zS ?_ | refine zL ?_)
        refine qc ?_
        (repeat refine qb ?_); refine qf rfl (fun h3 => ?_) (fun h3 => ?_)
        · cases h3
        (repeat refine qb ?_); refine qa ?_
        repeat (first | refine zR ?_ | refine zK ?_ | refine zM ?_ | refine zB ?_ | refine zA ?_ | refine zS ?_ | refine zL ?_)
        refine qc ?_
        (repeat refine qb ?_); refine qf rfl (fun h4 => ?_) (fun h4 => ?_)
        rotate_left
        · cases h4
        (repeat refine qb ?_); refine qa ?_
        repeat (first | refine zR ?_ | refine zK ?_ | refine zM ?_ | refine zB ?_ | refine zA ?_ | refine zS ?_ | refine zL ?_)
        refine qc ?_
        (repeat refine qb ?_); refine qs (by kernel_rfl) ?_
        repeat (refine qr qe rfl (by exact True.intro) rfl ?_)
        refine qr qe rfl (by omega) rfl ?_
        refine qr qe (za rfl rfl rfl rfl rfl (show (S.map Itm.pv).getD (lo + Int.toNat 0) [] = x.pv from ze h0) rfl) (by rw [List.length_map]; omega) rfl ?_
        repeat (refine qr qe rfl (by exact True.intro) rfl ?_)
        refine zj rfl rfl rfl rfl (is_h x _) rfl rfl ?_
        repeat (refine qr qe rfl (by exact True.intro) rfl ?_)
        refine qr qe rfl (by omega) rfl ?_
        refine qr qe (za rfl rfl rfl rfl rfl (show (S.map Itm.pv).getD (lo + Int.toNat 1) [] = y.pv from ze h1') rfl) (by rw [List.length_map]; show lo + 1 < _; omega) rfl ?_
        repeat (refine qr qe rfl (by exact True.intro) rfl ?_)
        refine zj rfl rfl rfl rfl (is_h y _) rfl rfl ?_
        repeat (refine qr qe rfl (by exact True.intro) rfl ?_)
        refine qQ ?_
        (repeat refine qb ?_); refine qf rfl (fun h9 => ?_) (fun h9 => ?_)
        · (repeat refine qb ?_); refine qa ?_
          repeat (first | refine zR ?_ | refine zK ?_ | refine zM ?_ | refine zB ?_ | refine zA ?_ | refine zS ?_ | refine zL ?_)
          refine qn rfl (qD rfl rfl rfl rfl (truth_h true) rfl rfl rfl ?_)
          repeat (first | refine zR ?_ | refine zK ?_ | refine zM ?_ | refine zB ?_ | refine zA ?_ | refine zS ?_ | refine zL ?_)
          refine qc ?_
          (repeat refine qb ?_); refine qk ?_
          exact ⟨Or.inr rfl, _, _, [(1000000, 1000000)], _, Wk.refl _, rfl, rfl, .refl _, rfl, rfl⟩
        · have h9' : (x.is 1 || y.is 1) = false := by
            rw [← h9]
            show _ = (bif x.is 1 then true else y.is 1)
            cases x.is 1 <;> rfl
          rw [hdec] at h9'
          cases h9'
  | false =>
    have hN := wg (val := val) (attr := attr) (g := g) (op := 13) (l := S.drop lo) (by omega) (by omega) (hd0.trans hdec)
    refine qR (T := TTab) qe Tryz.func75 (by kernel_rfl) rfl rfl rfl ?_
    (repeat refine qb ?_); refine qa ?_
    repeat (first | refine zR ?_ | refine zK ?_ | refine zM ?_ | refine zB ?_ | refine zA ?_ | refine zS ?_ | refine zL ?_)
    refine qc ?_
    (repeat refine qb ?_); refine qa ?_
    repeat (first | refine zR ?_ | refine zK ?_ | refine zM ?_ | refine zB ?_ | refine zA ?_ | refine zS ?_ | refine zL ?_)
    refine qc ?_
    (repeat refine qb ?_); refine ql ?_
    (repeat refine qb ?_); refine qa ?_
    repeat (first | refine zR ?_ | refine zK ?_ | refine zM ?_ | refine zB ?_ | refine zA ?_ | refine zS ?_ | refine zL ?_)
    refine qc ?_
    (repeat refine qb ?_); refine qf rfl (fun h1 => ?_) (fun h1 => ?_)
    · cases h1
    · (repeat refine qb ?_); refine qa ?_
      repeat (first | refine zR ?_ | refine zK ?_ | refine zM ?_ | refine zB ?_ | refine zA ?_ | refine zS ?_ | refine zL ?_)
      refine qc ?_
      (repeat refine qb ?_); refine qf rfl (fun h2 => ?_) (fun h2 => ?_)
      · cases h2
      · (repeat refine qb ?_); refine qa ?_
        repeat (first | refine zR ?_ | refine zK ?_ | refine zM ?_ | refine zB ?_ | refine zA ?_ | refine zS ?_ | refine zL ?_)
        refine qc ?_
        (repeat refine qb ?_); refine qf rfl (fun h3 => ?_) (fun h3 => ?_)
        · cases h3
        (repeat refine qb ?_); refine qa ?_
        repeat (first | refine zR ?_ | refine zK ?_ | refine zM ?_ | refine zB ?_ | refine zA ?_ | refine zS ?_ | refine zL ?_)
        refine qc ?_
        (repeat refine qb ?_); refine qf rfl (fun h4 => ?_) (fun h4 => ?_)
        rotate_left
        · cases h4
        (repeat refine qb ?_); refine qa ?_
        repeat (first | refine zR ?_ | refine zK ?_ | refine zM ?_ | refine zB ?_ | refine zA ?_ | refine zS ?_ | refine zL ?_)
        refine qc ?_
        (repeat refine qb ?_); refine qs (by kernel_rfl) ?_
        repeat (refine qr qe rfl (by exact True.intro) rfl ?_)
        refine qr qe rfl (by omega) rfl ?_
        refine qr qe (za rfl rfl rfl rfl rfl (show (S.map Itm.pv).getD (lo + Int.toNat 0) [] = x.pv from ze h0) rfl) (by rw [List.length_map]; omega) rfl ?_
        repeat (refine qr qe rfl (by exact True.intro) rfl ?_)
        refine zj rfl rfl rfl rfl (is_h x _) rfl rfl ?_
        repeat (refine qr qe rfl (by exact True.intro) rfl ?_)
        refine qr qe rfl (by omega) rfl ?_
        refine qr qe (za rfl rfl rfl rfl rfl (show (S.map Itm.pv).getD (lo + Int.toNat 1) [] = y.pv from ze h1') rfl) (by rw [List.length_map]; show lo + 1 < _; omega) rfl ?_
        repeat (refine qr qe rfl (by exact True.intro) rfl ?_)
        refine zj rfl rfl rfl rfl (is_h y _) rfl rfl ?_
        repeat (refine qr qe rfl (by exact True.intro) rfl ?_)
        refine qQ ?_
        (repeat refine qb ?_); refine qf rfl (fun h9 => ?_) (fun h9 => ?_)
        · have h9' : (x.is 1 || y.is 1) = true := by
            rw [← h9]
            show _ = (bif x.is 1 then true else y.is 1)
            cases x.is 1 <;> rfl
          rw [hdec] at h9'
          cases h9'
        · refine qm ?_
          clear h0 h1' hx
          refine SW.wk (qq [1, 3, 6] [(1000000, 1000000), (3, 3), (6, 6)] rfl rfl) ?_
          (repeat refine qb ?_); refine qa ?_
          repeat (first | refine zR ?_ | refine zK ?_ | refine zM ?_ | refine zB ?_ | refine zA ?_ | refine zS ?_ | refine zL ?_)
          refine qc ?_
          (repeat refine qb ?_); refine qa ?_
          repeat (first | refine zR ?_ | refine zK ?_ | refine zM ?_ | refine zB ?_ | refine zA ?_ | refine zS ?_ | refine zL ?_)
          refine qc ?_
          (repeat refine qb ?_); refine ql ?_
          refine SW.wk (jP 10 900 52 3 rfl rfl) ?_
          refine SW.wk (qq [1, 3, 6, 10, 55, 56, 57] [(1000000, 1000000), (3, 3), (6, 6), (900, 0)] rfl rfl) ?_
          refine qO (fun m s => ∃ (k : Nat) (kk : Int), k ≤ (S.drop lo).length ∧ m = (S.drop lo).length - k ∧ kk = k ∧ errS ((S.drop lo).take k) = 0 ∧ s = ⟨122, [(1, .view 1000000 5 lo S.length), (3, .ptr 3 0), (6, .ptr 6 0), (10, .row 0), (55, .view 1000000 5 lo S.length), (56, .p (pI ((S.length - lo : Nat) : Int))), (57, .p (pI kk))], [(1000000, .row 115 5 (S.map Itm.pv)), (3, .cells ((Nod.mk 13 val attr).pv.map .p)), (6, .cells (([.v (.slice none 0 0), pI 0, pI 0, pS ⟨#[]⟩, pI 0] : List PV).map .p)), (0, .row 52 3 ((((S.drop lo).take k).map Itm.v).map Val.pv))]⟩) (S.drop lo).length ⟨0, 0, Nat.zero_le _, rfl, rfl, rfl, rfl⟩ ?_
          rintro m s ⟨k, _, hk, rfl, rfl, he0, rfl⟩
          (repeat refine qb ?_); refine qa ?_
          repeat (first | refine zR ?_ | refine zK ?_ | refine zM ?_ | refine zB ?_ | refine zA ?_ | refine zS ?_ | refine zL ?_)
          refine qc ?_
          (repeat refine qb ?_); refine qf rfl (fun hlt => ?_) (fun hlt => ?_)
          · refine qm ?_
            have hlt' : k < (S.drop lo).length := by rw [List.length_drop]; simpa using hlt
            have hk2 : k < S.length - lo := by rwa [List.length_drop] at hlt'
            have hget : (S.drop lo)[k]? = some (S.drop lo)[k] := List.getElem?_eq_getElem hlt'
            (repeat refine qb ?_); refine ql ?_
            (repeat refine qb ?_); refine qa ?_
            repeat (first | refine zR ?_ | refine zK ?_ | refine zM ?_ | refine zB ?_ | refine zA ?_ | refine zS ?_ | refine zL ?_)
            refine qw qe rfl rfl (by omega) rfl ?_
            repeat (first | refine zR ?_ | refine zK ?_ | refine zM ?_ | refine zB ?_ | refine zA ?_ | refine zS ?_ | refine zL ?_)
            refine qw qe rfl (za rfl rfl rfl rfl rfl (show (S.map Itm.pv).getD (lo + Int.toNat (k : Int)) [] = (S.drop lo)[k].pv from ze hget) rfl) (by rw [List.length_map, Int.toNat_natCast]; omega) rfl ?_
            repeat (first | refine zR ?_ | refine zK ?_ | refine zM ?_ | refine zB ?_ | refine zA ?_ | refine zS ?_ | refine zL ?_)
            refine qc ?_
            (repeat refine qb ?_); refine qa ?_
            repeat (first | refine zR ?_ | refine zK ?_ | refine zM ?_ | refine zB ?_ | refine zA ?_ | refine zS ?_ | refine zL ?_)
            refine qc ?_
            (repeat refine qb ?_); refine qf rfl (fun hne => ?_) (fun hne => ?_)
            · have hne' : (S.drop lo)[k].e ≠ 0 := by simpa using hne
              have e1 := errS_at hlt' he0 hne'
              rw [hN, e1, if_pos hne']
              (repeat refine qb ?_); refine qa ?_
              repeat (first | refine zR ?_ | refine zK ?_ | refine zM ?_ | refine zB ?_ | refine zA ?_ | refine zS ?_ | refine zL ?_)
              refine qc ?_
              (repeat refine qb ?_); refine qk ?_
              exact ⟨Or.inr rfl, _, _, [(1000000, 1000000)], _, Wk.refl _, rfl, rfl, .p (CvL.agg (.cons (.nil 3) (.refl _))), rfl, rfl⟩
            · have hne' : (S.drop lo)[k].e = 0 := by simpa using hne
              refine qm ?_
              (repeat refine qb ?_); refine qa ?_
              repeat (first | refine zR ?_ | refine zK ?_ | refine zM ?_ | refine zB ?_ | refine zA ?_ | refine zS ?_ | refine zL ?_)
              refine qn rfl (qp qe rfl rfl rfl rfl rfl rfl rfl rfl rfl rfl rfl rfl rfl rfl rfl rfl (by simp only [List.length_append, List.length_map, List.length_take, List.length_drop]; unfold reachBytes; simp; omega) (by simp only [List.length_append, List.length_map, List.length_take, List.length_drop]; simp; omega) ?_)
              repeat (first | refine zR ?_ | refine zK ?_ | refine zM ?_ | refine zB ?_ | refine zA ?_ | refine zS ?_ | refine zL ?_)
              refine qc ?_
              (repeat refine qb ?_); refine qa ?_
              repeat (first | refine zR ?_ | refine zK ?_ | refine zM ?_ | refine zB ?_ | refine zA ?_ | refine zS ?_ | refine zL ?_)
              refine qc ?_
              refine ⟨_, _, ?_, qq [1, 3, 6, 10, 55, 56, 57] [(1000000, 1000000), (3, 3), (6, 6), (71, 0)] rfl rfl, k + 1, _, hlt', rfl, qz hlt' (by rw [List.length_drop]; omega), wv hlt' he0 hne', ?_⟩
              · omega
              · rw [List.take_succ_eq_append_getElem hlt', List.map_append, List.map_append]; rfl
          · refine qK ?_
            have hkk : k = (S.drop lo).length := by
              have : ¬ (k : Int) < ((S.length - lo : Nat) : Int) := by simpa using hlt
              rw [List.length_drop] at hk ⊢
              omega
            subst hkk
            rw [List.take_length] at he0 ⊢
            rw [hN, if_neg (by simp [he0])]
            clear hN
            (repeat refine qb ?_); refine qa ?_
            repeat (first | refine zR ?_ | refine zK ?_ | refine zM ?_ | refine zB ?_ | refine zA ?_ | refine zS ?_ | refine zL ?_)
            refine qc ?_
            (repeat refine qb ?_); refine ql ?_
            (repeat refine qb ?_); refine qa ?_
            repeat (first | refine zR ?_ | refine zK ?_ | refine zM ?_ | refine zB ?_ | refine zA ?_ | refine zS ?_ | refine zL ?_)
            refine qc ?_
            (repeat refine qb ?_); refine qf rfl (fun h5 => ?_) (fun h5 => ?_)
            · cases h5
            · (repeat refine qb ?_); refine qa ?_
              repeat (first | refine zR ?_ | refine zK ?_ | refine zM ?_ | refine zB ?_ | refine zA ?_ | refine zS ?_ | refine zL ?_)
              refine qc ?_
              (repeat refine qb ?_); refine qf rfl (fun h6 => ?_) (fun h6 => ?_)
              · cases h6
              · (repeat refine qb ?_); refine qa ?_
                repeat (first | refine zR ?_ | refine zK ?_ | refine zM ?_ | refine zB ?_ | refine zA ?_ | refine zS ?_ | refine zL ?_)
                refine qc ?_
                (repeat refine qb ?_); refine qf rfl (fun h7 => ?_) (fun h7 => ?_)
                · cases h7
                · refine qm ?_
                  have e2 : lastS 13 (S.drop lo) = ⟨[], (qN 13 ((S.drop lo).map Itm.v)).1, (qN 13 ((S.drop lo).map Itm.v)).2⟩ := rfl
                  rw [e2]
                  (repeat refine qb ?_); refine qa ?_
                  repeat (first | refine zR ?_ | refine zK ?_ | refine zM ?_ | refine zB ?_ | refine zA ?_ | refine zS ?_ | refine zL ?_)
                  refine qn rfl (qg rfl rfl rfl rfl (call_h 13 ((S.drop lo).map Itm.v) (fun v hv => by obtain ⟨x, hx, rfl⟩ := List.mem_map.1 hv; exact (hS x (List.mem_of_mem_drop hx)).v)) rfl rfl ?_)
                  repeat (first | refine zR ?_ | refine zK ?_ | refine zM ?_ | refine zB ?_ | refine zA ?_ | refine zS ?_ | refine zL ?_)
                  refine qc ?_
                  generalize qN 13 ((S.drop lo).map Itm.v) = r
                  (repeat refine qb ?_); refine qa ?_
                  repeat (first | refine zR ?_ | refine zK ?_ | refine zM ?_ | refine zB ?_ | refine zA ?_ | refine zS ?_ | refine zL ?_)
                  refine qc ?_
                  (repeat refine qb ?_); refine qk ?_
                  exact ⟨Or.inr rfl, _, _, [(1000000, 1000000)], _, Wk.refl _, rfl, rfl, .p (CvL.agg (.cons (.nil 3) (.refl _))), rfl, rfl⟩
end Go.Proofs.YtppfcacnofjmdaaGreatDoor
namespace Go.Proofs.YtppfcacnofjmdaaGreatDoor
set_option linter.unusedVariables false
set_option linter.unusedSimpArgs false
open Go.RowKit
set_option maxHeartbeats 1000000
def stepR : Option (List Bool) → SV
  | some _ => .tup [.row 0, .p (pB true)]
  | none => .tup [.p (.v (.slice none 0 0)), .p (pB false)]
def stepO : Option (List Bool) → List (Nat × Box)
  | some l => [(0, .row 4 1 (jA l))]
  | none => []
theorem step_h (l : List Bool) (hl : l.length ≤ 1000000) (n : Nod) (hn : n.Fit) : zZ Tryz.prog 89 [.row 1000000, .p (.agg n.pv)] [(1000000, .row 4 1 (jA l))] (stepR (zy l n)) (stepO (zy l n)) := by
  have H1 := wants_h n.op
  cases hw : zu n.op with
  | none =>
    rw [hw] at H1
    simp only [Option.getD_none, Option.isSome_none] at H1
    have e : zy l n = none := by simp [zy, hw]
    rw [e]
    refine ja (ts := [4,5]) Tryz.func89 (by kernel_rfl) rfl rfl rfl ?_
    (repeat refine qb ?_); refine qa ?_
    repeat (first | refine zR ?_ | refine zK ?_ | refine zM ?_ | refine zB ?_ | refine zA ?_ | refine zS ?_ | refine zL ?_)
    refine qc ?_
    (repeat refine qb ?_); refine qa ?_
    repeat (first | refine zR ?_ | refine zK ?_ | refine zM ?_ | refine zB ?_ | refine zA ?_ | refine zS ?_ | refine zL ?_)
    refine qn rfl (qD rfl rfl rfl rfl (H1) rfl rfl rfl ?_)
    repeat (first | refine zR ?_ | refine zK ?_ | refine zM ?_ | refine zB ?_ | refine zA ?_ | refine zS ?_ | refine zL ?_)
    refine qc ?_
    (repeat refine qb ?_); refine qs (by kernel_rfl) ?_
    repeat (refine qr qe rfl (by exact True.intro) rfl ?_)
    refine zj rfl rfl rfl rfl (fields_h n hn) rfl rfl ?_
    repeat (refine qr qe rfl (by exact True.intro) rfl ?_)
    refine qQ ?_
    (repeat refine qb ?_); refine qf rfl (fun h => ?_) (fun h => ?_)
    · (repeat refine qb ?_); refine qa ?_
      repeat (first | refine zR ?_ | refine zK ?_ | refine zM ?_ | refine zB ?_ | refine zA ?_ | refine zS ?_ | refine zL ?_)
      refine qc ?_
      (repeat refine qb ?_); refine qk ?_
      exact ⟨Or.inr rfl, _, _, [], Wk.refl _, rfl, rfl, rfl, rfl⟩
    · simp at h
  | some w =>
    rw [hw] at H1
    simp only [Option.getD_some, Option.isSome_some] at H1
    have hwl : w.length ≤ 2 := by
      unfold zu at hw
      repeat' split at hw
      all_goals (cases hw; try simp)
    refine ja (ts := [4,5]) Tryz.func89 (by kernel_rfl) rfl rfl rfl ?_
    (repeat refine qb ?_); refine qa ?_
    repeat (first | refine zR ?_ | refine zK ?_ | refine zM ?_ | refine zB ?_ | refine zA ?_ | refine zS ?_ | refine zL ?_)
    refine qc ?_
    (repeat refine qb ?_); refine qa ?_
    repeat (first | refine zR ?_ | refine zK ?_ | refine zM ?_ | refine zB ?_ | refine zA ?_ | refine zS ?_ | refine zL ?_)
    refine qn rfl (qD rfl rfl rfl rfl (H1) rfl rfl rfl ?_)
    repeat (first | refine zR ?_ | refine zK ?_ | refine zM ?_ | refine zB ?_ | refine zA ?_ | refine zS ?_ | refine zL ?_)
    refine qc ?_
    (repeat refine qb ?_); refine qs (by kernel_rfl) ?_
    repeat (refine qr qe rfl (by exact True.intro) rfl ?_)
    refine zj rfl rfl rfl rfl (fields_h n hn) rfl rfl ?_
    repeat (refine qr qe rfl (by exact True.intro) rfl ?_)
    refine qQ ?_
    have ll : (jA l).length = l.length := by simp [jA]
    have lw : (jA w).length = w.length := by simp [jA]
    (repeat refine qb ?_); refine qf rfl (fun h => ?_) (fun h => ?_)
    · have e : zy l n = none := by
        simp only [zy, hw]
        rw [if_neg]
        intro ⟨h1, h2, _⟩
        simp [h1, ll, lw] at h
        omega
      rw [e]
      (repeat refine qb ?_); refine qa ?_
      repeat (first | refine zR ?_ | refine zK ?_ | refine zM ?_ | refine zB ?_ | refine zA ?_ | refine zS ?_ | refine zL ?_)
      refine qc ?_
      (repeat refine qb ?_); refine qk ?_
      exact ⟨Or.inr rfl, _, _, [], Wk.refl _, rfl, rfl, rfl, rfl⟩
    · have hf : ji n = true := by
        cases hq : ji n with
        | true => rfl
        | false => simp [hq] at h
      have hle : w.length ≤ l.length := by
        simp [hf, ll, lw] at h
        omega
      obtain ⟨left, hleft⟩ : ∃ left : Nat, left = l.length - w.length := ⟨_, rfl⟩
      refine qm ?_
      (repeat refine qb ?_); refine qa ?_
      repeat (first | refine zR ?_ | refine zK ?_ | refine zM ?_ | refine zB ?_ | refine zA ?_ | refine zS ?_ | refine zL ?_)
      refine qc ?_
      (repeat refine qb ?_); refine qa ?_
      repeat (first | refine zR ?_ | refine zK ?_ | refine zM ?_ | refine zB ?_ | refine zA ?_ | refine zS ?_ | refine zL ?_)
      refine qc ?_
      (repeat refine qb ?_); refine ql ?_
      refine SW.wk (qq [0, 3, 8, 36, 37, 38] [(1000000, 1000000), (3, 3)] rfl rfl) ?_
      refine qO (fun m s => ∃ (k : Nat) (kk L : Int), k ≤ w.length ∧ m = w.length - k ∧ kk = k ∧ L = left ∧ (l.drop left).take k = w.take k ∧ s = ⟨60, [(0, .row 1000000), (3, .ptr 3 0), (8, .p (pI L)), (36, .p (.sl 1 (jA w))), (37, .p (pI (jA w).length)), (38, .p (pI kk))], [(1000000, .row 4 1 (jA l)), (3, .cells (n.pv.map .p))]⟩) w.length ⟨0, 0, _, Nat.zero_le _, rfl, rfl, ?_, by simp, rfl⟩ ?_
      · show IntKind.i64.wrap (((jA l).length : Int) - (jA w).length) = _
        rw [ll, lw, IntWalk.i64_in _ (by omega)]; omega
      rintro m s ⟨k, _, _, hk, rfl, rfl, rfl, ha, rfl⟩
      (repeat refine qb ?_); refine qa ?_
      repeat (first | refine zR ?_ | refine zK ?_ | refine zM ?_ | refine zB ?_ | refine zA ?_ | refine zS ?_ | refine zL ?_)
      refine qc ?_
      (repeat refine qb ?_); refine qf rfl (fun hlt => ?_) (fun hlt => ?_)
      · refine qm ?_
        rw [lw] at hlt
        simp only [decide_eq_true_eq] at hlt
        have hlt' : k < w.length := by omega
        have hk2 : left + k < l.length := by omega
        (repeat refine qb ?_); refine ql ?_
        (repeat refine qb ?_); refine qa ?_
        repeat (first | refine zR ?_ | refine zK ?_ | refine zM ?_ | refine zB ?_ | refine zA ?_ | refine zS ?_ | refine zL ?_)
        refine qw qe rfl rfl (by rw [lw]; omega) rfl ?_
        rw [show (jA w).getD (Int.toNat (k : Int)) [] = [pB w[k]] from qJ hlt']
        repeat (first | refine zR ?_ | refine zK ?_ | refine zM ?_ | refine zB ?_ | refine zA ?_ | refine zS ?_ | refine zL ?_)
        refine qc ?_
        (repeat refine qb ?_); refine qa ?_
        repeat (first | refine zR ?_ | refine zK ?_ | refine zM ?_ | refine zB ?_ | refine zA ?_ | refine zS ?_ | refine zL ?_)
        have ew : IntKind.i64.wrap ((left : Int) + k) = ((left + k : Nat) : Int) := by rw [IntWalk.i64_in _ (by omega)]; omega
        rw [ew]
        refine qw qe rfl rfl (by rw [ll]; omega) rfl ?_
        repeat (first | refine zR ?_ | refine zK ?_ | refine zM ?_ | refine zB ?_ | refine zA ?_ | refine zS ?_ | refine zL ?_)
        refine qw qe rfl (za rfl rfl rfl rfl rfl (show (jA l).getD (Int.toNat ((left + k : Nat) : Int)) [] = [pB l[left + k]] from qJ hk2) rfl) (by rw [ll]; simp; omega) rfl ?_
        repeat (first | refine zR ?_ | refine zK ?_ | refine zM ?_ | refine zB ?_ | refine zA ?_ | refine zS ?_ | refine zL ?_)
        refine qc ?_
        (repeat refine qb ?_); refine qf rfl (fun hp => ?_) (fun hp => ?_)
        · have e : zy l n = none := by
            simp only [zy, hw]
            rw [if_neg]
            intro ⟨_, _, h3⟩
            rw [← hleft] at h3
            have h4 : w[k] = l[left + k] := by
              have := congrArg (fun x => x[k]?) h3
              simp only [List.getElem?_drop] at this
              rw [List.getElem?_eq_getElem hk2, List.getElem?_eq_getElem hlt'] at this
              exact (Option.some.inj this).symm
            rw [h4] at hp
            simp at hp
          rw [e]
          (repeat refine qb ?_); refine qa ?_
          repeat (first | refine zR ?_ | refine zK ?_ | refine zM ?_ | refine zB ?_ | refine zA ?_ | refine zS ?_ | refine zL ?_)
          refine qc ?_
          (repeat refine qb ?_); refine qk ?_
          exact ⟨Or.inr rfl, _, _, [], Wk.refl _, rfl, rfl, rfl, rfl⟩
        · refine qm ?_
          (repeat refine qb ?_); refine qa ?_
          repeat (first | refine zR ?_ | refine zK ?_ | refine zM ?_ | refine zB ?_ | refine zA ?_ | refine zS ?_ | refine zL ?_)
          refine qc ?_
          refine ⟨_, _, ?_, qq [0, 3, 8, 36, 37, 38] [(1000000, 1000000), (3, 3)] rfl rfl, k + 1, _, _, hlt', rfl, qz hlt' (by omega), rfl, ?_, rfl⟩
          · omega
          · have h4 : l[left + k] = w[k] := by simpa using hp
            rw [List.take_succ_eq_append_getElem hlt', List.take_succ_eq_append_getElem (by simp; omega), ha, List.getElem_drop, h4]
      · refine qK ?_
        rw [lw] at hlt
        simp only [decide_eq_false_iff_not] at hlt
        have hkk : k = w.length := by omega
        subst hkk
        have hd : l.drop left = w := by
          rw [List.take_length] at ha
          rw [← ha, List.take_of_length_le (by simp; omega)]
        have e : zy l n = some (l.take left ++ [decide (n.op = 2)]) := by
          simp only [zy, hw]
          rw [if_pos ⟨hf, hle, by rw [← hleft]; exact hd⟩, hleft]
        rw [e]
        (repeat refine qb ?_); refine zl [1000000] [(0, true), (1, true), (2, true), (3, true), (4, true), (5, true), (6, false), (7, false), (8, true), (9, true)] (by kernel_rfl) (by kernel_rfl) (by kernel_rfl) ?_
        repeat (first | refine yR ?_ | refine yK ?_ | refine yM ?_ | refine yB ?_ | refine yA ?_ | refine yS ?_ | refine yL ?_)
        refine zi qe rfl rfl rfl (by rw [ll]; omega) rfl ?_
        repeat (first | refine yR ?_ | refine yK ?_ | refine yM ?_ | refine yB ?_ | refine yA ?_ | refine yS ?_ | refine yL ?_)
        refine qak rfl rfl rfl (ActOk.shrink 54 999 rfl rfl rfl rfl (qp qe rfl rfl rfl rfl rfl rfl rfl rfl rfl rfl rfl rfl rfl rfl rfl rfl (by simp [reachBytes, jA]; omega) (by simp [jA]; omega) ?_))
        repeat (first | refine yR ?_ | refine yK ?_ | refine yM ?_ | refine yB ?_ | refine yA ?_ | refine yS ?_ | refine yL ?_)
        refine swm_nil ?_
        (repeat refine qb ?_); refine qk ?_
        have e2 : List.take (Int.toNat (left : Int)) (jA l) ++ [[pB (n.op == 2)]] = jA (l.take left ++ [decide (n.op = 2)]) := by
          have : (n.op == 2) = decide (n.op = 2) := by rw [Bool.eq_iff_iff]; simp
          rw [this]
          simp [jA, List.map_take]
        refine ⟨Or.inr rfl, _, _, [(59, 0)], Wk.refl _, rfl, rfl, ?_, rfl⟩
        show some [(0, Box.row 4 1 (List.take (Int.toNat (left : Int)) (jA l) ++ [[pB (n.op == 2)]]))] = _
        rw [e2]; rfl
theorem stepsS_some : ∀ {l : List Nod} {a m : List Bool} {k : Nat} (hk : k < l.length), qW a (l.take k) = some m → qW a (l.take (k + 1)) = zy m l[k]
  | n :: r, a, m, 0, _, h => by
    simp [qW] at h
    subst h
    simp only [Nat.zero_add, List.take_succ_cons, List.take_zero, qW, List.getElem_cons_zero]
    cases zy a n <;> rfl
  | n :: r, a, m, k + 1, hk, h => by
    rw [List.take_succ_cons, qW] at h ⊢
    cases hs : zy a n with
    | none => rw [hs] at h; cases h
    | some b =>
      rw [hs] at h
      simp only at h ⊢
      rw [stepsS_some (by simpa using hk) h]; rfl
theorem stepsS_none : ∀ {l : List Nod} {a : List Bool} (k : Nat), qW a (l.take k) = none → qW a l = none
  | [], a, k, h => by simp [qW] at h
  | n :: r, a, 0, h => by simp [qW] at h
  | n :: r, a, k + 1, h => by
    rw [List.take_succ_cons, qW] at h
    rw [qW]
    cases hs : zy a n with
    | none => rfl
    | some b => rw [hs] at h; simp only at h ⊢; exact stepsS_none k h
theorem stepS_len {l l' : List Bool} {n : Nod} (h : zy l n = some l') : l'.length ≤ l.length + 1 := by
  unfold zy at h
  split at h
  · cases h
  · split at h
    · cases h; simp
    · cases h
theorem expr_h (l : List Nod) (hf : ∀ x ∈ l, x.Fit) : Holds Tryz.prog 73 [qar l] (.p (pI (zo l))) [] := by
  refine qA (ts := [2]) Tryz.func73 (by kernel_rfl) rfl rfl rfl ?_
  refine sw_len (t := 0) (z := 7) (l := l.map Nod.pv) rfl fun hlen => ?_
  rw [List.length_map] at hlen
  unfold reachBytes at hlen
  have lm : (l.map Nod.pv).length = l.length := by simp
  (repeat refine qb ?_); refine qa ?_
  repeat (first | refine zR ?_ | refine zK ?_ | refine zM ?_ | refine zB ?_ | refine zA ?_ | refine zS ?_ | refine zL ?_)
  refine qc ?_
  (repeat refine qb ?_); refine qa ?_
  repeat (first | refine zR ?_ | refine zK ?_ | refine zM ?_ | refine zB ?_ | refine zA ?_ | refine zS ?_ | refine zL ?_)
  refine qc ?_
  rw [lm]
  (repeat refine qb ?_); refine qf rfl (fun h => ?_) (fun h => ?_)
  · (repeat refine qb ?_); refine qa ?_
    repeat (first | refine zR ?_ | refine zK ?_ | refine zM ?_ | refine zB ?_ | refine zA ?_ | refine zS ?_ | refine zL ?_)
    refine qc ?_
    (repeat refine qb ?_); refine qk ?_
    refine zg rfl ?_
    have h0 : 32 < l.length := by simp at h; omega
    simp [zo, h0]
  · have h0 : ¬ 32 < l.length := by simp at h; omega
    refine qm ?_
    (repeat refine qb ?_); refine qa ?_
    repeat (first | refine zR ?_ | refine zK ?_ | refine zM ?_ | refine zB ?_ | refine zA ?_ | refine zS ?_ | refine zL ?_)
    refine qc ?_
    (repeat refine qb ?_); refine qa ?_
    repeat (first | refine zR ?_ | refine zK ?_ | refine zM ?_ | refine zB ?_ | refine zA ?_ | refine zS ?_ | refine zL ?_)
    refine qc ?_
    (repeat refine qb ?_); refine qa ?_
    repeat (first | refine zR ?_ | refine zK ?_ | refine zM ?_ | refine zB ?_ | refine zA ?_ | refine zS ?_ | refine zL ?_)
    refine qc ?_
    (repeat refine qb ?_); refine ql ?_
    refine SW.wk (jP 3 900 4 1 rfl rfl) ?_
    refine SW.wk (qq [0, 3, 10, 11, 12] [(900, 0)] rfl rfl) ?_
    refine qO (fun m s => ∃ (k : Nat) (kk : Int) (made : List Bool), k ≤ l.length ∧ m = l.length - k ∧ kk = k ∧ qW [] (l.take k) = some made ∧ made.length ≤ k ∧ s = ⟨38, [(0, .p (qar l)), (3, .row 0), (10, .p (qar l)), (11, .p (pI l.length)), (12, .p (pI kk))], [(0, .row 4 1 (jA made))]⟩) l.length ⟨0, 0, [], Nat.zero_le _, rfl, rfl, by simp [qW], Nat.le_refl _, by rw [← lm]; rfl⟩ ?_
    rintro m s ⟨k, _, made, hk, rfl, rfl, ha, hml, rfl⟩
    (repeat refine qb ?_); refine qa ?_
    repeat (first | refine zR ?_ | refine zK ?_ | refine zM ?_ | refine zB ?_ | refine zA ?_ | refine zS ?_ | refine zL ?_)
    refine qc ?_
    (repeat refine qb ?_); refine qf rfl (fun hlt => ?_) (fun hlt => ?_)
    · refine qm ?_
      simp only [decide_eq_true_eq] at hlt
      have hlt' : k < l.length := by omega
      have hst := stepsS_some hlt' ha
      (repeat refine qb ?_); refine ql ?_
      (repeat refine qb ?_); refine qa ?_
      repeat (first | refine zR ?_ | refine zK ?_ | refine zM ?_ | refine zB ?_ | refine zA ?_ | refine zS ?_ | refine zL ?_)
      refine qw qe rfl rfl (by rw [lm]; omega) rfl ?_
      rw [qJ hlt']
      repeat (first | refine zR ?_ | refine zK ?_ | refine zM ?_ | refine zB ?_ | refine zA ?_ | refine zS ?_ | refine zL ?_)
      refine qc ?_
      have H := step_h made (by omega) l[k] (hf _ (List.getElem_mem hlt'))
      cases hs : zy made l[k] with
      | none =>
        rw [hs] at H
        (repeat refine qb ?_); refine qa ?_
        repeat (first | refine zR ?_ | refine zK ?_ | refine zM ?_ | refine zB ?_ | refine zA ?_ | refine zS ?_ | refine zL ?_)
        refine qn rfl (zr [(0, 1000000)] rfl rfl rfl rfl rfl rfl (H) rfl rfl rfl ?_)
        repeat (first | refine zR ?_ | refine zK ?_ | refine zM ?_ | refine zB ?_ | refine zA ?_ | refine zS ?_ | refine zL ?_)
        refine qc ?_
        (repeat refine qb ?_); refine qa ?_
        repeat (first | refine zR ?_ | refine zK ?_ | refine zM ?_ | refine zB ?_ | refine zA ?_ | refine zS ?_ | refine zL ?_)
        refine qc ?_
        (repeat refine qb ?_); refine qf rfl (fun h => ?_) (fun h => ?_)
        · (repeat refine qb ?_); refine qa ?_
          repeat (first | refine zR ?_ | refine zK ?_ | refine zM ?_ | refine zB ?_ | refine zA ?_ | refine zS ?_ | refine zL ?_)
          refine qc ?_
          (repeat refine qb ?_); refine qk ?_
          refine zg rfl ?_
          rw [zo, if_neg h0, stepsS_none (k + 1) (by rw [hst, hs])]
        · cases h
      | some l' =>
        rw [hs] at H
        (repeat refine qb ?_); refine qa ?_
        repeat (first | refine zR ?_ | refine zK ?_ | refine zM ?_ | refine zB ?_ | refine zA ?_ | refine zS ?_ | refine zL ?_)
        refine qn rfl (zr [(0, 1000000)] rfl rfl rfl rfl rfl rfl (H) rfl rfl rfl ?_)
        repeat (first | refine zR ?_ | refine zK ?_ | refine zM ?_ | refine zB ?_ | refine zA ?_ | refine zS ?_ | refine zL ?_)
        refine qc ?_
        (repeat refine qb ?_); refine qa ?_
        repeat (first | refine zR ?_ | refine zK ?_ | refine zM ?_ | refine zB ?_ | refine zA ?_ | refine zS ?_ | refine zL ?_)
        refine qc ?_
        (repeat refine qb ?_); refine qf rfl (fun h => ?_) (fun h => ?_)
        · cases h
        · refine qm ?_
          (repeat refine qb ?_); refine qa ?_
          repeat (first | refine zR ?_ | refine zK ?_ | refine zM ?_ | refine zB ?_ | refine zA ?_ | refine zS ?_ | refine zL ?_)
          refine qc ?_
          refine ⟨_, _, ?_, qq [0, 3, 10, 11, 12] [(20000, 0)] rfl rfl, k + 1, _, l', hlt', rfl, qz hlt' (by omega), by rw [hst, hs], ?_, rfl⟩
          · omega
          · have := stepS_len hs; omega
    · refine qK ?_
      simp only [decide_eq_false_iff_not] at hlt
      have hkk : k = l.length := by omega
      subst hkk
      rw [List.take_length] at ha
      have ex : zo l = if l = [] ∨ made = [false] then 0 else 1 := by rw [zo, if_neg h0, ha]
      cases l with
      | nil =>
        (repeat refine qb ?_); refine qa ?_
        repeat (first | refine zR ?_ | refine zK ?_ | refine zM ?_ | refine zB ?_ | refine zA ?_ | refine zS ?_ | refine zL ?_)
        refine qc ?_
        (repeat refine qb ?_); refine qf rfl (fun h => ?_) (fun h => ?_)
        · cases h
        · refine qm ?_
          (repeat refine qb ?_); refine qa ?_
          repeat (first | refine zR ?_ | refine zK ?_ | refine zM ?_ | refine zB ?_ | refine zA ?_ | refine zS ?_ | refine zL ?_)
          refine qc ?_
          (repeat refine qb ?_); refine qk ?_
          exact zg rfl (by rw [ex]; rfl)
      | cons n r =>
        (repeat refine qb ?_); refine qa ?_
        repeat (first | refine zR ?_ | refine zK ?_ | refine zM ?_ | refine zB ?_ | refine zA ?_ | refine zS ?_ | refine zL ?_)
        rw [show decide ((((n :: r).map Nod.pv).length : Int) > 0) = true by simp]
        repeat (first | refine zR ?_ | refine zK ?_ | refine zM ?_ | refine zB ?_ | refine zA ?_ | refine zS ?_ | refine zL ?_)
        by_cases h1 : made.length = 1
        · obtain ⟨b, rfl⟩ : ∃ b, made = [b] := List.length_eq_one_iff.1 h1
          repeat (first | refine zR ?_ | refine zK ?_ | refine zM ?_ | refine zB ?_ | refine zA ?_ | refine zS ?_ | refine zL ?_)
          refine qw qe rfl rfl (by simp [jA]) rfl ?_
          repeat (first | refine zR ?_ | refine zK ?_ | refine zM ?_ | refine zB ?_ | refine zA ?_ | refine zS ?_ | refine zL ?_)
          refine qw qe rfl rfl (by simp [jA]) rfl ?_
          repeat (first | refine zR ?_ | refine zK ?_ | refine zM ?_ | refine zB ?_ | refine zA ?_ | refine zS ?_ | refine zL ?_)
          refine qc ?_
          (repeat refine qb ?_); refine qf rfl (fun h => ?_) (fun h => ?_)
          · have hb : b = true := by simpa [jA] using h
            (repeat refine qb ?_); refine qa ?_
            repeat (first | refine zR ?_ | refine zK ?_ | refine zM ?_ | refine zB ?_ | refine zA ?_ | refine zS ?_ | refine zL ?_)
            refine qc ?_
            (repeat refine qb ?_); refine qk ?_
            exact zg rfl (by rw [ex, hb]; rfl)
          · have hb : b = false := by simpa [jA] using h
            refine qm ?_
            (repeat refine qb ?_); refine qa ?_
            repeat (first | refine zR ?_ | refine zK ?_ | refine zM ?_ | refine zB ?_ | refine zA ?_ | refine zS ?_ | refine zL ?_)
            refine qc ?_
            (repeat refine qb ?_); refine qk ?_
            exact zg rfl (by rw [ex, hb]; rfl)
        · rw [show (((jA made).length : Int) != 1) = true by simp [jA]; omega]
          repeat (first | refine zR ?_ | refine zK ?_ | refine zM ?_ | refine zB ?_ | refine zA ?_ | refine zS ?_ | refine zL ?_)
          refine qc ?_
          (repeat refine qb ?_); refine qf rfl (fun h => ?_) (fun h => ?_)
          · (repeat refine qb ?_); refine qa ?_
            repeat (first | refine zR ?_ | refine zK ?_ | refine zM ?_ | refine zB ?_ | refine zA ?_ | refine zS ?_ | refine zL ?_)
            refine qc ?_
            (repeat refine qb ?_); refine qk ?_
            exact zg rfl (by rw [ex, if_neg (by rintro (h | rfl); cases h; exact h1 rfl)])
          · cases h
end Go.Proofs.YtppfcacnofjmdaaGreatDoor
