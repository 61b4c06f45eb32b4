/-
  What the statement leans on, part 7: Within, EvSets, LawKit0, LawL, Laid.
-/
import Derived.Test.YtppfcacnofjmdaaGreatDoorRows
import Derived.Lib.LaidTab
import Derived.LaidLaws
import Derived.LaidHandle
import Derived.Stop.Joined
import Derived.ChangeSame
import Derived.ChangeVars
import Derived.JoinedOf
import Derived.RowKitTokens
import Derived.Test.YtppfcacnofjmdaaGreatDoorPk1
import Derived.Test.YtppfcacnofjmdaaGreatDoorPk2
import Derived.Test.YtppfcacnofjmdaaGreatDoorPk3
import Derived.Test.YtppfcacnofjmdaaGreatDoorPk4
import Derived.Test.YtppfcacnofjmdaaGreatDoorPk5
import Derived.Test.YtppfcacnofjmdaaGreatDoorPk6
namespace Go.Proofs.YtppfcacnofjmdaaGreatDoor
set_option linter.unusedVariables false
set_option linter.unusedSimpArgs false
open Go.RowKit
set_option maxHeartbeats 1000000
theorem within_h (n lo hi : Int) (hn : R64 n) (h1 : 0 ≤ lo) (h2 : lo ≤ hi) (h3 : hi ≤ 4611686018427387904) : Holds Tryz.prog 22 [pI n, pI lo, pI hi] (.p (pI (lo + n % (hi - lo + 1)))) [] := by
  obtain ⟨hn, hn'⟩ := hn
  have r0 := Int.emod_nonneg n (show hi - lo + 1 ≠ 0 by omega)
  have r1 := Int.emod_lt_of_pos n (show 0 < hi - lo + 1 by omega)
  have e : (n.tmod (hi - lo + 1) = n % (hi - lo + 1) ∧ 0 ≤ n % (hi - lo + 1)) ∨ (n.tmod (hi - lo + 1) = n % (hi - lo + 1) - (hi - lo + 1) ∧ n % (hi - lo + 1) - (hi - lo + 1) < 0) := by
    rw [Int.tmod_eq_emod]
    have hab : ((hi - lo + 1).natAbs : Int) = hi - lo + 1 := by omega
    split
    · left; omega
    · right; omega
  generalize hr : n % (hi - lo + 1) = r at *
  have w1 : IntKind.i64.wrap (IntKind.i64.wrap (hi - lo) + 1) = hi - lo + 1 := by
    rw [IntWalk.i64_in (hi - lo) (by omega), IntWalk.i64_in _ (by omega)]
  refine qA (ts := [6]) Tryz.func22 (by kernel_rfl) rfl rfl rfl ?_
  (repeat refine qb ?_); refine qa ?_
  repeat (first | refine zR ?_ | refine zK ?_ | refine zM ?_ | refine zB ?_ | refine zA ?_ | refine zS ?_ | refine zL ?_)
  refine qc ?_
  (repeat refine qb ?_); refine qa ?_
  repeat (first | refine zR ?_ | refine zK ?_ | refine zM ?_ | refine zB ?_ | refine zA ?_ | refine zS ?_ | refine zL ?_)
  rw [w1]
  refine qw qe rfl rfl (by omega) rfl ?_
  repeat (first | refine zR ?_ | refine zK ?_ | refine zM ?_ | refine zB ?_ | refine zA ?_ | refine zS ?_ | refine zL ?_)
  refine qc ?_
  (repeat refine qb ?_); refine qa ?_
  repeat (first | refine zR ?_ | refine zK ?_ | refine zM ?_ | refine zB ?_ | refine zA ?_ | refine zS ?_ | refine zL ?_)
  refine qc ?_
  (repeat refine qb ?_); refine qf rfl (fun h => ?_) (fun h => ?_)
  · rcases e with ⟨e, hneg⟩ | ⟨e, hneg⟩
    · rw [e] at h; simp at h; omega
    · (repeat refine qb ?_); refine qa ?_
      repeat (first | refine zR ?_ | refine zK ?_ | refine zM ?_ | refine zB ?_ | refine zA ?_ | refine zS ?_ | refine zL ?_)
      refine qc ?_
      (repeat refine qb ?_); refine qa ?_
      repeat (first | refine zR ?_ | refine zK ?_ | refine zM ?_ | refine zB ?_ | refine zA ?_ | refine zS ?_ | refine zL ?_)
      refine qc ?_
      (repeat refine qb ?_); refine qk ?_
      refine zg rfl ?_
      rw [e, IntWalk.i64_in (r - (hi - lo + 1) + hi) (by omega), IntWalk.i64_in (r - (hi - lo + 1) + hi - lo) (by omega), IntWalk.i64_in (r - (hi - lo + 1) + hi - lo + 1) (by omega), IntWalk.i64_in _ (by omega)]
      omega
  · rcases e with ⟨e, hneg⟩ | ⟨e, hneg⟩
    · refine qm ?_
      (repeat refine qb ?_); refine qa ?_
      repeat (first | refine zR ?_ | refine zK ?_ | refine zM ?_ | refine zB ?_ | refine zA ?_ | refine zS ?_ | refine zL ?_)
      refine qc ?_
      (repeat refine qb ?_); refine qk ?_
      refine zg rfl ?_
      rw [e, IntWalk.i64_in _ (by omega)]
    · rw [e] at h; simp at h; omega
theorem slice_min {α : Type} (f : α → List PV) (l : List α) (N : Int) (n : Nat) (hN : N = n) : ((l.map f).drop (Int.toNat 0)).take (Int.toNat (if N < (l.map f).length then N else (l.map f).length) - Int.toNat 0) = (l.take n).map f := by
  subst hN
  simp only [List.length_map, Int.toNat_zero, List.drop_zero, Nat.sub_zero]
  rw [List.map_take]
  split
  · rfl
  · rw [List.take_of_length_le (by simp), List.take_of_length_le (by simp; omega)]
end Go.Proofs.YtppfcacnofjmdaaGreatDoor
namespace Go.Proofs.YtppfcacnofjmdaaGreatDoor
set_option linter.unusedVariables false
set_option linter.unusedSimpArgs false
open Go.RowKit
set_option maxHeartbeats 4000000
def sZz : ByteArray := ⟨#[122, 122, 95, 97, 114, 111, 117, 110, 100]⟩
theorem setOf_f {n : Nat} {p : Pol} (h : PolF n p) {k : Int} (hk : R64 k) : PolF (n + 1) (wW sZz k p) :=
  ⟨⟨by show sZz.size ≤ reachBytes; decide, (fun x hx => by cases hx), (fun x hx => by cases hx), (fun x hx => by cases hx), by show 0 ≤ reachBytes; decide, by show 1 ≤ reachBytes; decide⟩, hk, fun q hq => by
    have : q = p := by
      have hq' : q ∈ [p] := hq
      simpa using hq'
    rw [this]; exact h⟩
theorem setOf_sz {p : Pol} {k : Int} : (wW sZz k p).sz = p.sz + 4 := by
  have h2 : (wW sZz k p).sz = 1 + 0 + txt sZz + tsz [] + osz [] + qT rusz [] + qT Pol.sz [p] := Pol.sz_eq (wW sZz k p)
  have h3 : txt sZz = 2 := rfl
  have h4 : tsz ([] : Tar) = 1 := rfl
  have h5 : osz ([] : List Obli) = 0 := rfl
  have h6 : qT rusz ([] : List Rul) = 0 := rfl
  have h7 : qT Pol.sz [p] = p.sz := by simp [qT]
  omega
theorem setOf_cv (p : Pol) (k : Int) : CvL [.agg [pS sZz, pB true, pI k, nilV, nilV, .sl 7 [[pS p.id, pB p.set, pI p.alg, tgtP p.target, .sl 5 (p.rules.map zt), .sl 7 (p.kids.map polP), zQ p.obls]], nilV]] [.agg (polP (wW sZz k p))] := by
  have e : polP (wW sZz k p) = [pS sZz, pB true, pI k, tgtP [], .sl 5 [], .sl 7 [polP p], zQ []] := rfl
  rw [e, zf p]
  exact .cons (CvL.agg (.cons (.refl _) (.cons (.refl _) (.cons (.refl _) (.cons (.nil 1) (.cons (.nil 5) (.cons (.refl _) (.cons (.nil 3) .nil)))))))) .nil
theorem setOfG_cv (p : Pol) (k : Int) (g : List Giv) : CvL [.agg [pS sZz, pB true, pI k, nilV, nilV, .sl 7 [[pS p.id, pB p.set, pI p.alg, tgtP p.target, .sl 5 (p.rules.map zt), .sl 7 (p.kids.map polP), zQ p.obls]], nilV], zP g] [.agg (polP (wW sZz k p)), zP g] := by
  have e : polP (wW sZz k p) = [pS sZz, pB true, pI k, tgtP [], .sl 5 [], .sl 7 [polP p], zQ []] := rfl
  rw [e, zf p]
  exact .cons (CvL.agg (.cons (.refl _) (.cons (.refl _) (.cons (.refl _) (.cons (.nil 1) (.cons (.nil 5) (.cons (.refl _) (.cons (.nil 3) .nil)))))))) (.cons (.refl _) .nil)
theorem evalSets_h {n : Nat} (p : Pol) (hf : PolF n p) (g : List Giv) (hg : ∀ x ∈ g, x.Fit) (k : Int) (hk : R64 k) : Holds Tryz.prog 4 [.agg (polP p), zP g, pI k] (.p (pB true)) [] := by
  have HW := within_h k 0 5 hk (by omega) (by omega) (by omega)
  obtain ⟨j, hje, hj⟩ : ∃ j : Int, 0 + k % (5 - 0 + 1) = j ∧ (0 ≤ j ∧ j ≤ 5) := ⟨_, rfl, by omega⟩
  rw [hje] at HW
  obtain ⟨K, hK, hK6⟩ : ∃ K : Int, 1 + j = K ∧ (1 ≤ K ∧ K ≤ 6) := ⟨_, rfl, by omega⟩
  have hS := small_h p hf
  have hsf := setOf_f hf (k := K) ⟨by omega, by omega⟩
  have hR := (right_h (wW sZz K p) (polF_fit 4 hsf)).cv (setOf_cv p K)
  have hE0 := fun h hG => evPol_h p hf h g hG
  have hQ0 := fun h hG => (evPol_h (wW sZz K p) hsf h g hG).cv (setOfG_cv p K g)
  have hsz2 := setOf_sz (p := p) (k := K)
  rw [zf] at hS hE0 ⊢
  refine qA (ts := [6]) Tryz.func4 (by kernel_rfl) rfl rfl rfl ?_
  (repeat refine qb ?_); refine qa ?_
  repeat (first | refine zR ?_ | refine zK ?_ | refine zM ?_ | refine zB ?_ | refine zA ?_ | refine zS ?_ | refine zL ?_)
  refine qc ?_
  (repeat refine qb ?_); refine qa ?_
  repeat (first | refine zR ?_ | refine zK ?_ | refine zM ?_ | refine zB ?_ | refine zA ?_ | refine zS ?_ | refine zL ?_)
  refine qn rfl (qg rfl rfl rfl rfl (HW) rfl rfl ?_)
  repeat (first | refine zR ?_ | refine zK ?_ | refine zM ?_ | refine zB ?_ | refine zA ?_ | refine zS ?_ | refine zL ?_)
  rw [show IntKind.i64.wrap (1 + j) = K from by rw [IntWalk.i64_in _ (by omega)]; exact hK]
  refine qc ?_
  (repeat refine qb ?_); refine qa ?_
  repeat (first | refine zR ?_ | refine zK ?_ | refine zM ?_ | refine zB ?_ | refine zA ?_ | refine zS ?_ | refine zL ?_)
  refine qc ?_
  refine SW.wk (zN (k := 19) rfl) ?_
  refine SW.wk (qq [1, 3, 7, 8] [(3, 3), (8, 8)] rfl rfl) ?_
  change SW _ _ _ ⟨107, [(1, .p (zP g)), (3, .ptr 3 0), (7, .p (pI K)), (8, .ptr 8 0)], [(3, .cells [.p (pS p.id), .p (pB p.set), .p (pI p.alg), .p (tgtP p.target), .p (.sl 5 (p.rules.map zt)), .p (.sl 7 (p.kids.map polP)), .p (zQ p.obls)]), (8, .cells [.p (pS sZz), .p (pB true), .p (pI K), .p nilV, .p nilV, .p (.sl 7 [[pS p.id, pB p.set, pI p.alg, tgtP p.target, .sl 5 (p.rules.map zt), .sl 7 (p.kids.map polP), zQ p.obls]]), .p nilV])]⟩
  (repeat refine qb ?_); refine qa ?_
  repeat (first | refine zR ?_ | refine zK ?_ | refine zM ?_ | refine zB ?_ | refine zA ?_ | refine zS ?_ | refine zL ?_)
  refine qn rfl (act_call_E rfl rfl rfl rfl (hS) rfl ?_)
  rintro _ ⟨b1, rfl, h1⟩
  cases b1 with
  | false =>
    repeat (first | refine zR ?_ | refine zK ?_ | refine zM ?_ | refine zB ?_ | refine zA ?_ | refine zS ?_ | refine zL ?_)
    refine qc ?_
    (repeat refine qb ?_); refine qf rfl (fun hc => ?_) (fun hc => ?_)
    · (repeat refine qb ?_); refine qa ?_
      repeat (first | refine zR ?_ | refine zK ?_ | refine zM ?_ | refine zB ?_ | refine zA ?_ | refine zS ?_ | refine zL ?_)
      refine qn rfl (qg rfl rfl rfl rfl (jB) rfl rfl ?_)
      repeat (first | refine zR ?_ | refine zK ?_ | refine zM ?_ | refine zB ?_ | refine zA ?_ | refine zS ?_ | refine zL ?_)
      refine qc ?_
      (repeat refine qb ?_); refine qk ?_
      exact wS rfl rfl
    · cases hc
  | true =>
    repeat (first | refine zR ?_ | refine zK ?_ | refine zM ?_ | refine zB ?_ | refine zA ?_ | refine zS ?_ | refine zL ?_)
    refine qn rfl (act_call_E rfl rfl rfl rfl (few_h g hg) rfl ?_)
    rintro _ ⟨b2, rfl, h2⟩
    cases b2 with
    | false =>
      repeat (first | refine zR ?_ | refine zK ?_ | refine zM ?_ | refine zB ?_ | refine zA ?_ | refine zS ?_ | refine zL ?_)
      refine qc ?_
      (repeat refine qb ?_); refine qf rfl (fun hc => ?_) (fun hc => ?_)
      · (repeat refine qb ?_); refine qa ?_
        repeat (first | refine zR ?_ | refine zK ?_ | refine zM ?_ | refine zB ?_ | refine zA ?_ | refine zS ?_ | refine zL ?_)
        refine qn rfl (qg rfl rfl rfl rfl (jB) rfl rfl ?_)
        repeat (first | refine zR ?_ | refine zK ?_ | refine zM ?_ | refine zB ?_ | refine zA ?_ | refine zS ?_ | refine zL ?_)
        refine qc ?_
        (repeat refine qb ?_); refine qk ?_
        exact wS rfl rfl
      · cases hc
    | true =>
      repeat (first | refine zR ?_ | refine zK ?_ | refine zM ?_ | refine zB ?_ | refine zA ?_ | refine zS ?_ | refine zL ?_)
      refine qn rfl (qg rfl rfl rfl rfl (hR) rfl rfl ?_)
      repeat (first | refine zR ?_ | refine zK ?_ | refine zM ?_ | refine zB ?_ | refine zA ?_ | refine zS ?_ | refine zL ?_)
      by_cases h0 : zb (wW sZz K p) = 0
      rotate_left
      · rw [show (zb (wW sZz K p) != 0) = true by simpa using h0]
        repeat (first | refine zR ?_ | refine zK ?_ | refine zM ?_ | refine zB ?_ | refine zA ?_ | refine zS ?_ | refine zL ?_)
        refine qc ?_
        (repeat refine qb ?_); refine qf rfl (fun hc => ?_) (fun hc => ?_)
        · (repeat refine qb ?_); refine qa ?_
          repeat (first | refine zR ?_ | refine zK ?_ | refine zM ?_ | refine zB ?_ | refine zA ?_ | refine zS ?_ | refine zL ?_)
          refine qn rfl (qg rfl rfl rfl rfl (jB) rfl rfl ?_)
          repeat (first | refine zR ?_ | refine zK ?_ | refine zM ?_ | refine zB ?_ | refine zA ?_ | refine zS ?_ | refine zL ?_)
          refine qc ?_
          (repeat refine qb ?_); refine qk ?_
          exact wS rfl rfl
        · cases hc
      rw [show (zb (wW sZz K p) != 0) = false by simpa using h0]
      repeat (first | refine zR ?_ | refine zK ?_ | refine zM ?_ | refine zB ?_ | refine zA ?_ | refine zS ?_ | refine zL ?_)
      refine qc ?_
      (repeat refine qb ?_); refine qf rfl (fun hc => ?_) (fun hc => ?_)
      · cases hc
      refine qm ?_
      have hsz := h1 rfl
      have hG := givOk_of hg (h2 rfl)
      have hE := hE0 (by omega) hG
      have hQ := hQ0 (by omega) hG
      obtain ⟨hrp, hset⟩ := eval_set g h0
      have hx := decide_obls (g := g) hsz
      have hmx := qaa g 4 p
      rw [evalS_right hrp] at hE
      rw [evalS_right h0, hset] at hQ
      clear hE0 hQ0 hS hR hset
      generalize qF g 4 p = x at *
      have m0 := mkE_eq hmx (b := (0, 0)) (by simp [mks])
      have m1 := mkE_eq hmx (b := (2, 0)) (by simp [mks])
      have m2 := mkE_eq hmx (b := (0, 2)) (by simp [mks])
      have hRX := results_h x hmx hx
      obtain ⟨m, o⟩ := x
      unfold wantSet at hQ
      simp only at hQ m0 m1 m2
      refine SW.wk (qq [1, 3, 7, 8] [(3, 3), (8, 8)] rfl rfl) ?_
      (repeat refine qb ?_); refine qa ?_
      repeat (first | refine zR ?_ | refine zK ?_ | refine zM ?_ | refine zB ?_ | refine zA ?_ | refine zS ?_ | refine zL ?_)
      refine qn rfl (qD rfl rfl rfl rfl (hE) rfl rfl rfl ?_)
      repeat (first | refine zR ?_ | refine zK ?_ | refine zM ?_ | refine zB ?_ | refine zA ?_ | refine zS ?_ | refine zL ?_)
      refine qc ?_
      (repeat refine qb ?_); refine qa ?_
      repeat (first | refine zR ?_ | refine zK ?_ | refine zM ?_ | refine zB ?_ | refine zA ?_ | refine zS ?_ | refine zL ?_)
      refine qn rfl (qD rfl rfl rfl rfl (hQ) rfl rfl rfl ?_)
      repeat (first | refine zR ?_ | refine zK ?_ | refine zM ?_ | refine zB ?_ | refine zA ?_ | refine zS ?_ | refine zL ?_)
      refine qc ?_
      (repeat refine qb ?_); refine qa ?_
      repeat (first | refine zR ?_ | refine zK ?_ | refine zM ?_ | refine zB ?_ | refine zA ?_ | refine zS ?_ | refine zL ?_)
      refine qc ?_
      (repeat refine qb ?_); refine qf rfl (fun c0 => ?_) (fun c0 => ?_)
      · cases c0
      refine qm ?_
      (repeat refine qb ?_); refine qa ?_
      repeat (first | refine zR ?_ | refine zK ?_ | refine zM ?_ | refine zB ?_ | refine zA ?_ | refine zS ?_ | refine zL ?_)
      refine qc ?_
      refine SW.wk (qq [7, 9, 11, 13] [(9, 9), (11, 11), (13, 13)] rfl rfl) ?_
      (repeat refine qb ?_); refine ql ?_
      (repeat refine qb ?_); refine qs (by kernel_rfl) ?_
      repeat (refine qr qe rfl (by exact True.intro) rfl ?_)
      refine qQ ?_
      (repeat refine qb ?_); refine qf rfl (fun c4 => ?_) (fun c4 => ?_)
      · have e : K = 4 ∧ m ≠ (0, 0) ∧ m ≠ (2, 0) ∧ m ≠ (0, 2) := by
          change (bif (bif (bif (K == 4) then !mkE m (0, 0) else false) then !mkE m (2, 0) else false) then !mkE m (0, 2) else false) = true at c4
          rw [m0, m1, m2] at c4
          revert c4
          by_cases a : K = 4 <;> by_cases b : m = (0, 0) <;> by_cases c : m = (2, 0) <;> by_cases d : m = (0, 2) <;> simp [a, b, c, d]
        rw [if_pos e]
        (repeat refine qb ?_); refine qa ?_
        repeat (first | refine zR ?_ | refine zK ?_ | refine zM ?_ | refine zB ?_ | refine zA ?_ | refine zS ?_ | refine zL ?_)
        refine qc ?_
        (repeat refine qb ?_); refine qa ?_
        repeat (first | refine zR ?_ | refine zK ?_ | refine zM ?_ | refine zB ?_ | refine zA ?_ | refine zS ?_ | refine zL ?_)
        refine qn rfl (qg rfl rfl rfl rfl ((resultsN_h (1, 1) (by simp [mks]))) rfl rfl ?_)
        repeat (first | refine zR ?_ | refine zK ?_ | refine zM ?_ | refine zB ?_ | refine zA ?_ | refine zS ?_ | refine zL ?_)
        refine qn rfl (qg rfl rfl rfl rfl (jB) rfl rfl ?_)
        repeat (first | refine zR ?_ | refine zK ?_ | refine zM ?_ | refine zB ?_ | refine zA ?_ | refine zS ?_ | refine zL ?_)
        refine qc ?_
        (repeat refine qb ?_); refine qk ?_
        exact wS rfl rfl
      have n4 : ¬ (K = 4 ∧ m ≠ (0, 0) ∧ m ≠ (2, 0) ∧ m ≠ (0, 2)) := by
        change (bif (bif (bif (K == 4) then !mkE m (0, 0) else false) then !mkE m (2, 0) else false) then !mkE m (0, 2) else false) = false at c4
        rw [m0, m1, m2] at c4
        revert c4
        by_cases a : K = 4 <;> by_cases b : m = (0, 0) <;> by_cases c : m = (2, 0) <;> by_cases d : m = (0, 2) <;> simp [a, b, c, d]
      rw [if_neg n4]
      (repeat refine qb ?_); refine qs (by kernel_rfl) ?_
      repeat (refine qr qe rfl (by exact True.intro) rfl ?_)
      refine qQ ?_
      (repeat refine qb ?_); refine qf rfl (fun c5 => ?_) (fun c5 => ?_)
      · have e : K = 5 ∧ m ≠ (2, 0) ∧ m ≠ (0, 2) := by
          change (bif (bif (K == 5) then !mkE m (2, 0) else false) then !mkE m (0, 2) else false) = true at c5
          rw [m1, m2] at c5
          revert c5
          by_cases a : K = 5 <;> by_cases c : m = (2, 0) <;> by_cases d : m = (0, 2) <;> simp [a, c, d]
        rw [if_pos e]
        (repeat refine qb ?_); refine qa ?_
        repeat (first | refine zR ?_ | refine zK ?_ | refine zM ?_ | refine zB ?_ | refine zA ?_ | refine zS ?_ | refine zL ?_)
        refine qc ?_
        (repeat refine qb ?_); refine qa ?_
        repeat (first | refine zR ?_ | refine zK ?_ | refine zM ?_ | refine zB ?_ | refine zA ?_ | refine zS ?_ | refine zL ?_)
        refine qn rfl (qg rfl rfl rfl rfl ((resultsN_h (0, 2) (by simp [mks]))) rfl rfl ?_)
        repeat (first | refine zR ?_ | refine zK ?_ | refine zM ?_ | refine zB ?_ | refine zA ?_ | refine zS ?_ | refine zL ?_)
        refine qn rfl (qg rfl rfl rfl rfl (jB) rfl rfl ?_)
        repeat (first | refine zR ?_ | refine zK ?_ | refine zM ?_ | refine zB ?_ | refine zA ?_ | refine zS ?_ | refine zL ?_)
        refine qc ?_
        (repeat refine qb ?_); refine qk ?_
        exact wS rfl rfl
      have n5 : ¬ (K = 5 ∧ m ≠ (2, 0) ∧ m ≠ (0, 2)) := by
        change (bif (bif (K == 5) then !mkE m (2, 0) else false) then !mkE m (0, 2) else false) = false at c5
        rw [m1, m2] at c5
        revert c5
        by_cases a : K = 5 <;> by_cases c : m = (2, 0) <;> by_cases d : m = (0, 2) <;> simp [a, c, d]
      rw [if_neg n5]
      (repeat refine qb ?_); refine qs (by kernel_rfl) ?_
      repeat (refine qr qe rfl (by exact True.intro) rfl ?_)
      refine qQ ?_
      (repeat refine qb ?_); refine qf rfl (fun c6 => ?_) (fun c6 => ?_)
      · have e : K = 6 ∧ m ≠ (2, 0) ∧ m ≠ (0, 2) := by
          change (bif (bif (K == 6) then !mkE m (2, 0) else false) then !mkE m (0, 2) else false) = true at c6
          rw [m1, m2] at c6
          revert c6
          by_cases a : K = 6 <;> by_cases c : m = (2, 0) <;> by_cases d : m = (0, 2) <;> simp [a, c, d]
        rw [if_pos e]
        (repeat refine qb ?_); refine qa ?_
        repeat (first | refine zR ?_ | refine zK ?_ | refine zM ?_ | refine zB ?_ | refine zA ?_ | refine zS ?_ | refine zL ?_)
        refine qc ?_
        (repeat refine qb ?_); refine qa ?_
        repeat (first | refine zR ?_ | refine zK ?_ | refine zM ?_ | refine zB ?_ | refine zA ?_ | refine zS ?_ | refine zL ?_)
        refine qn rfl (qg rfl rfl rfl rfl ((resultsN_h (2, 0) (by simp [mks]))) rfl rfl ?_)
        repeat (first | refine zR ?_ | refine zK ?_ | refine zM ?_ | refine zB ?_ | refine zA ?_ | refine zS ?_ | refine zL ?_)
        refine qn rfl (qg rfl rfl rfl rfl (jB) rfl rfl ?_)
        repeat (first | refine zR ?_ | refine zK ?_ | refine zM ?_ | refine zB ?_ | refine zA ?_ | refine zS ?_ | refine zL ?_)
        refine qc ?_
        (repeat refine qb ?_); refine qk ?_
        exact wS rfl rfl
      have n6 : ¬ (K = 6 ∧ m ≠ (2, 0) ∧ m ≠ (0, 2)) := by
        change (bif (bif (K == 6) then !mkE m (2, 0) else false) then !mkE m (0, 2) else false) = false at c6
        rw [m1, m2] at c6
        revert c6
        by_cases a : K = 6 <;> by_cases c : m = (2, 0) <;> by_cases d : m = (0, 2) <;> simp [a, c, d]
      rw [if_neg n6]
      refine qm ?_
      (repeat refine qb ?_); refine qa ?_
      repeat (first | refine zR ?_ | refine zK ?_ | refine zM ?_ | refine zB ?_ | refine zA ?_ | refine zS ?_ | refine zL ?_)
      refine qn rfl (qg rfl rfl rfl rfl (hRX) rfl rfl ?_)
      repeat (first | refine zR ?_ | refine zK ?_ | refine zM ?_ | refine zB ?_ | refine zA ?_ | refine zS ?_ | refine zL ?_)
      refine qn rfl (qg rfl rfl rfl rfl (jB) rfl rfl ?_)
      repeat (first | refine zR ?_ | refine zK ?_ | refine zM ?_ | refine zB ?_ | refine zA ?_ | refine zS ?_ | refine zL ?_)
      refine qc ?_
      (repeat refine qb ?_); refine qk ?_
      exact wS rfl rfl
end Go.Proofs.YtppfcacnofjmdaaGreatDoor
namespace Go.Proofs.YtppfcacnofjmdaaGreatDoor
set_option linter.unusedVariables false
set_option linter.unusedSimpArgs false
open Go.RowKit
inductive RelsP (w : World) : List PV → List Value → Prop
  | nil : RelsP w [] []
  | cons {x : PV} {u : Value} {xs : List PV} {us : List Value} (h : RelP (fun _ => True) w x u) (r : RelsP w xs us) : RelsP w (x :: xs) (u :: us)
theorem RelsP.get {w : World} {xs : List PV} {us : List Value} (h : RelsP w xs us) : us.length = xs.length ∧ ∀ (i : Nat) (s : PV) (u : Value), xs[i]? = some s → us[i]? = some u → RelP (fun _ => True) w s u := by
  induction h with
  | nil => exact ⟨rfl, fun i s u h => by simp at h⟩
  | cons h r ih =>
    refine ⟨by simp [ih.1], fun i s u hs hu => ?_⟩
    cases i with
    | zero => simp at hs hu; subst hs; subst hu; exact h
    | succ i => exact ih.2 i s u (by simpa using hs) (by simpa using hu)
theorem law_callsG {P : Program} {f : FuncId} {args : List PV} {us : List Value} {W : World} (hg : GlOk (entry W) fun _ => False) (H : Holds P f args (.p (.v (.bool true))) []) (hr : RelsP W args us) : Calls P f us.toArray W fun e w' => e = .returned (.bool true) ∧ Below W.heap.size W w' := by
  obtain ⟨h1, h2⟩ := hr.get
  refine (H.2 W (fun _ => False) us ⟨fun _ h => h.elim, hg⟩ h1 fun i s u hs hu => (h2 i s u hs hu).weak fun _ _ _ => fun h => h).mono fun e w' ⟨v, γ, he, hb, _, hv⟩ => ?_
  have := hv.v_inv
  subst this
  exact ⟨he, hb⟩
theorem rel_agg {w : World} {cs : List Value} {x : List PV} (h : rPV (fun _ => True) w cs x) : RelP (fun _ => True) w (.agg x) (.agg cs.toArray) := .agg h.1 h.2
theorem rel_int {w : World} (k : IntKind) (n : Int) : RelP (fun _ => True) w (.v (.int k n)) (.int k n) := .v rfl
theorem rel_bool {w : World} (n : Bool) : RelP (fun _ => True) w (.v (.bool n)) (.bool n) := .v rfl
theorem rel_str {w : World} (n : ByteArray) : RelP (fun _ => True) w (.v (.string n)) (.string n) := .v rfl
end Go.Proofs.YtppfcacnofjmdaaGreatDoor
namespace Go.Proofs.YtppfcacnofjmdaaGreatDoor
set_option linter.unusedSimpArgs false
open Go.ChangeShapes Go.WideShapes Go.ChangeAt Go.RowKit
set_option linter.unusedVariables false
theorem law_liftL {H : Type} {enc : TypeId × Value → H} {C : Checked} {os : Os} {f : FuncId} {fn : Func} {s : ChangeSpec} {bt : TypeId} {laid : List (String × DataW Unit)}
    (own : ownKnob C.prog.godebug = none) (started : os.Started) (noInit : C.prog.inits.idxOf? f = none) (hfn : C.prog.funcs[f]? = some fn)
    (witness : ∃ (w : World) (tape : Tape) (i : Input), w.os = os ∧ (w.forCall tape i).Shaped C.prog ∧ i.vars = [] ∧ Input.okWide C.prog (w.forCall tape i) .any w.heap.size f i ∧
      ((s.pre enc C.prog fn [] false (w.forCall tape i).memory i.args ∧ laidMetH C.prog laid (w.forCall tape i).memory) ∧ sizedMet enc C.prog fn (OpenSpec.ofChange s) false (w.forCall tape i).memory i.args) ∧ ({} : Assume).holds C.prog (lone (Frame.enter C.prog f i.args .normal) [] (w.forCall tape i)))
    (hl : laidOutB C.prog = true) (hts : ∀ t ∈ fn.params.toList, C.prog.readableRec t = true ∧ t < C.prog.types.size) (hvars : s.vars = []) (hvt : s.plain.varTypes C.prog = [])
    (hspec : ∀ (W : World) (args : Array Value) (ds : List (DataW H)) (ps : List MemPlace), DataW.TrodAll enc C.prog W 0 (fun _ => true) true fn.params.toList args.toList ds ps → s.fn H ds = { results := [.lit (.bool true)], args := ds })
    (hres : fn.resultTypes = #[bt]) (hbt : C.prog.underlying bt = some .bool)
    (walk : ∀ (W : World) (base : Nat) (args : Array Value) (ds : List (DataW H)) (ps : List MemPlace), laidMetH C.prog laid W →
      (∀ (j : Nat) t v, fn.params[j]? = some t → args[j]? = some v → Value.okWide C.prog W .any base t v) →
      DataW.TrodAll enc C.prog W 0 (fun _ => true) true fn.params.toList args.toList ds ps →
      (∀ n ∈ DataW.weightsEach C.prog fn.params.toList ds, n ≤ reachBytes) →
      Calls C.prog f args W fun e W' => e = .returned (.bool true) ∧ Below W.heap.size W W') :
    ReturnsInHanded {} C os f .any (fun w args => (s.pre enc C.prog fn [] false w args ∧ laidMetH C.prog laid w) ∧ sizedMet enc C.prog fn (OpenSpec.ofChange s) false w args) (s.post enc C.prog fn false true false false) := by
  refine returnsInHanded_of_change_and (X := fun w _ => laidMetH C.prog laid w) (fun _ _ _ hh h => h.of_heap hh) own started noInit hfn witness ?_
  intro W base args ds gs before hval hW _ hsz hL _
  have hlt : ∀ p ∈ before, p.block < W.heap.size := fun p hp => hW.lt p hp
  have hW0 := hW
  obtain ⟨p, q, hA, hV, rfl, hz, hn⟩ := hW0
  rw [hvars] at hV
  obtain ⟨rfl, rfl⟩ := trodVars_none hV
  have hsp := hspec W args ds p hA
  refine (walk W base args ds p hL hval hA ?_).mono fun e W' ⟨he, hb⟩ => ?_
  · intro n hn
    rw [hvt, List.append_nil, List.append_nil] at hsz
    exact of_decide_eq_true (List.all_eq_true.1 hsz n hn)
  · subst he
    refine ⟨_, rfl, ds, [], p ++ [], [], p, [], hW, ?_, ?_, ?_, World.keptBut_mono (fun x hx => ⟨hx, Or.inr (Or.inl (by simpa using hx))⟩) (hb.frame (· ∈ p ++ [])), fun h => by cases h⟩
    · rw [List.append_nil, hsp, hres]
      exact trodAll_mk1 (shut_bool hbt _)
    · rw [List.append_nil, hsp]
      exact qap hl hb hts (fun x hx => hlt x (by simpa using hx)) (fun x hx => by simpa using hlt x (by simpa using hx)) hA
    · rw [List.append_nil, hsp, hvars]
      rfl
theorem laidMet_tail {P : Program} {x : String × DataW Unit} {l : List (String × DataW Unit)} {W : World} (h : laidMet P (x :: l) W) : laidMet P l W := by
  obtain ⟨ps, ⟨g, t, cs, fuel, p, q, h1, h2, h3, h4, h5, h6⟩, hn, hb⟩ := h
  subst h6
  exact ⟨q, h5, (List.nodup_append.1 hn).2.1, fun b off hm => hb b off (List.mem_append_right _ hm)⟩
theorem block_of_tab {P : Program} {W : World} {name : String} {k : IntKind} {zs : List Int} {g : Nat} (h : Lib.TabIs P W name k zs) (hg : P.globalNamed name = some g) {us : List Value} (hu : us = zs.map fun z => Value.int k z) : g < W.heap.size ∧ ∃ ty m, W.heap[g]? = some (.cells us.toArray ty m) := by
  unfold Lib.TabIs World.var? at h
  rw [hg] at h
  simp only [Option.bind_some] at h
  split at h
  · rename_i cs ty m hb
    cases h
    exact ⟨(Array.getElem?_eq_some_iff.1 hb).1, ty, m, by rw [hb, hu]⟩
  · cases h
end Go.Proofs.YtppfcacnofjmdaaGreatDoor
namespace Go.Proofs.YtppfcacnofjmdaaGreatDoor
open Go.RowKit
theorem own_none : ownKnob Tryz.prog.godebug = none := by kernel_rfl
theorem gl_of_laid {rest : List (String × DataW Unit)} {W : World} (h : laidMet Tryz.prog (("math/bits.deBruijn32tab", Rows.laid_math_bits_deBruijn32tab) :: ("math/bits.deBruijn64tab", Rows.laid_math_bits_deBruijn64tab) :: ("internal/strconv.uint64pow10", Rows.laid_internal_strconv_uint64pow10) :: rest) W) : GlOk (entry W) fun _ => False := by
  have b0 := block_of_tab (g := 4) (us := [.int .u8 0, .int .u8 1, .int .u8 28, .int .u8 2, .int .u8 29, .int .u8 14, .int .u8 24, .int .u8 3, .int .u8 30, .int .u8 22, .int .u8 20, .int .u8 15, .int .u8 25, .int .u8 17, .int .u8 4, .int .u8 8, .int .u8 31, .int .u8 27, .int .u8 13, .int .u8 23, .int .u8 21, .int .u8 19, .int .u8 16, .int .u8 7, .int .u8 26, .int .u8 12, .int .u8 18, .int .u8 6, .int .u8 11, .int .u8 5, .int .u8 10, .int .u8 9]) (Lib.tabIs_of_head (k := .u8) (zs := [0, 1, 28, 2, 29, 14, 24, 3, 30, 22, 20, 15, 25, 17, 4, 8, 31, 27, 13, 23, 21, 19, 16, 7, 26, 12, 18, 6, 11, 5, 10, 9]) (g := 4) (t := 262) (e := 5) (n := 32) (by kernel_rfl) (by kernel_rfl) Tryz.underlying262 Tryz.underlying5 (by kernel_rfl) (by kernel_rfl) h) (by kernel_rfl) rfl
  have b1 := block_of_tab (g := 5) (us := [.int .u8 0, .int .u8 1, .int .u8 56, .int .u8 2, .int .u8 57, .int .u8 49, .int .u8 28, .int .u8 3, .int .u8 61, .int .u8 58, .int .u8 42, .int .u8 50, .int .u8 38, .int .u8 29, .int .u8 17, .int .u8 4, .int .u8 62, .int .u8 47, .int .u8 59, .int .u8 36, .int .u8 45, .int .u8 43, .int .u8 51, .int .u8 22, .int .u8 53, .int .u8 39, .int .u8 33, .int .u8 30, .int .u8 24, .int .u8 18, .int .u8 12, .int .u8 5, .int .u8 63, .int .u8 55, .int .u8 48, .int .u8 27, .int .u8 60, .int .u8 41, .int .u8 37, .int .u8 16, .int .u8 46, .int .u8 35, .int .u8 44, .int .u8 21, .int .u8 52, .int .u8 32, .int .u8 23, .int .u8 11, .int .u8 54, .int .u8 26, .int .u8 40, .int .u8 15, .int .u8 34, .int .u8 20, .int .u8 31, .int .u8 10, .int .u8 25, .int .u8 14, .int .u8 19, .int .u8 9, .int .u8 13, .int .u8 8, .int .u8 7, .int .u8 6]) (Lib.tabIs_of_head (k := .u8) (zs := [0, 1, 56, 2, 57, 49, 28, 3, 61, 58, 42, 50, 38, 29, 17, 4, 62, 47, 59, 36, 45, 43, 51, 22, 53, 39, 33, 30, 24, 18, 12, 5, 63, 55, 48, 27, 60, 41, 37, 16, 46, 35, 44, 21, 52, 32, 23, 11, 54, 26, 40, 15, 34, 20, 31, 10, 25, 14, 19, 9, 13, 8, 7, 6]) (g := 5) (t := 263) (e := 5) (n := 64) (by kernel_rfl) (by kernel_rfl) Tryz.underlying263 Tryz.underlying5 (by kernel_rfl) (by kernel_rfl) (laidMet_tail h)) (by kernel_rfl) rfl
  have b2 := block_of_tab (g := 3) (us := [.int .u64 1, .int .u64 10, .int .u64 100, .int .u64 1000, .int .u64 10000, .int .u64 100000, .int .u64 1000000, .int .u64 10000000, .int .u64 100000000, .int .u64 1000000000, .int .u64 10000000000, .int .u64 100000000000, .int .u64 1000000000000, .int .u64 10000000000000, .int .u64 100000000000000, .int .u64 1000000000000000, .int .u64 10000000000000000, .int .u64 100000000000000000, .int .u64 1000000000000000000, .int .u64 10000000000000000000]) (Lib.tabIs_of_head (k := .u64) (zs := [1, 10, 100, 1000, 10000, 100000, 1000000, 10000000, 100000000, 1000000000, 10000000000, 100000000000, 1000000000000, 10000000000000, 100000000000000, 1000000000000000, 10000000000000000, 100000000000000000, 1000000000000000000, 10000000000000000000]) (g := 3) (t := 257) (e := 236) (n := 20) (by kernel_rfl) (by kernel_rfl) Tryz.underlying257 Tryz.underlying236 (by kernel_rfl) (by kernel_rfl) (laidMet_tail (laidMet_tail h))) (by kernel_rfl) rfl
  intro g us hg
  simp only [GTab, qE] at hg
  repeat' split at hg
  all_goals first | cases hg; done | skip
  all_goals (subst_vars; cases hg)
  all_goals first | exact ⟨b0.1, fun h => h, b0.2⟩ | exact ⟨b1.1, fun h => h, b1.2⟩ | exact ⟨b2.1, fun h => h, b2.2⟩
noncomputable def lowB : Nat := (World.holding Tryz.prog default ⟨#[], #[], []⟩).heap.size
noncomputable def worldB (os : Os) : World :=
  let w0 := World.holding Tryz.prog os ⟨#[.cells #[.string ⟨#[118, 97, 108, 117, 101, 32, 111, 117, 116, 32, 111, 102, 32, 114, 97, 110, 103, 101]⟩] 249, .cells #[.string ⟨#[105, 110, 118, 97, 108, 105, 100, 32, 115, 121, 110, 116, 97, 120]⟩] 249], #[], []⟩
  { w0 with heap := ((((((((((w0.heap).modify 4 fun | .cells _ t frozen => .cells #[.int .u8 0, .int .u8 1, .int .u8 28, .int .u8 2, .int .u8 29, .int .u8 14, .int .u8 24, .int .u8 3, .int .u8 30, .int .u8 22, .int .u8 20, .int .u8 15, .int .u8 25, .int .u8 17, .int .u8 4, .int .u8 8, .int .u8 31, .int .u8 27, .int .u8 13, .int .u8 23, .int .u8 21, .int .u8 19, .int .u8 16, .int .u8 7, .int .u8 26, .int .u8 12, .int .u8 18, .int .u8 6, .int .u8 11, .int .u8 5, .int .u8 10, .int .u8 9] t frozen | o => o)).modify 5 fun | .cells _ t frozen => .cells #[.int .u8 0, .int .u8 1, .int .u8 56, .int .u8 2, .int .u8 57, .int .u8 49, .int .u8 28, .int .u8 3, .int .u8 61, .int .u8 58, .int .u8 42, .int .u8 50, .int .u8 38, .int .u8 29, .int .u8 17, .int .u8 4, .int .u8 62, .int .u8 47, .int .u8 59, .int .u8 36, .int .u8 45, .int .u8 43, .int .u8 51, .int .u8 22, .int .u8 53, .int .u8 39, .int .u8 33, .int .u8 30, .int .u8 24, .int .u8 18, .int .u8 12, .int .u8 5, .int .u8 63, .int .u8 55, .int .u8 48, .int .u8 27, .int .u8 60, .int .u8 41, .int .u8 37, .int .u8 16, .int .u8 46, .int .u8 35, .int .u8 44, .int .u8 21, .int .u8 52, .int .u8 32, .int .u8 23, .int .u8 11, .int .u8 54, .int .u8 26, .int .u8 40, .int .u8 15, .int .u8 34, .int .u8 20, .int .u8 31, .int .u8 10, .int .u8 25, .int .u8 14, .int .u8 19, .int .u8 9, .int .u8 13, .int .u8 8, .int .u8 7, .int .u8 6] t frozen | o => o)).modify 3 fun | .cells _ t frozen => .cells #[.int .u64 1, .int .u64 10, .int .u64 100, .int .u64 1000, .int .u64 10000, .int .u64 100000, .int .u64 1000000, .int .u64 10000000, .int .u64 100000000, .int .u64 1000000000, .int .u64 10000000000, .int .u64 100000000000, .int .u64 1000000000000, .int .u64 10000000000000, .int .u64 100000000000000, .int .u64 1000000000000000, .int .u64 10000000000000000, .int .u64 100000000000000000, .int .u64 1000000000000000000, .int .u64 10000000000000000000] t frozen | o => o)).modify 2 fun | .cells _ t frozen => .cells #[.iface 247 (.pointer (some ⟨lowB + 0, 0, none⟩))] t frozen | o => o)).modify 1 fun | .cells _ t frozen => .cells #[.iface 247 (.pointer (some ⟨lowB + 1, 0, none⟩))] t frozen | o => o) }
theorem worldB_met (os : Os) (args : Array Value) : laidMet Tryz.prog [("math/bits.deBruijn32tab", Rows.laid_math_bits_deBruijn32tab), ("math/bits.deBruijn64tab", Rows.laid_math_bits_deBruijn64tab), ("internal/strconv.uint64pow10", Rows.laid_internal_strconv_uint64pow10), ("strconv.ErrRange", Rows.laid_strconv_ErrRange), ("strconv.ErrSyntax", Rows.laid_strconv_ErrSyntax)] ((worldB os).forCall (fun _ _ => 0) ⟨#[], args, []⟩).memory :=
  laidMet_of_run' 100 (by kernel_rfl) (by kernel_rfl)
end Go.Proofs.YtppfcacnofjmdaaGreatDoor
