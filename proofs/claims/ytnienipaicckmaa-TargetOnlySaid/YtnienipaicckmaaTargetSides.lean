/-
  TargetSides: the walk.
-/
import Derived.Test.YtnienipaicckmaaTargetGrows
import Derived.WalkLawsBesides
import Derived.WalkSpells
import Derived.Deep.Cut
import Derived.Deep.Light
namespace Go.Proofs.Ytnienipaicckmaa
open Go.RowKit
set_option linter.unusedSimpArgs false
set_option linter.unusedVariables false
attribute [local go_sem] ext_cell ext_frozen extB_cell extB_frozen
attribute [local go_sem low] alloc_cell alloc_frozen
attribute [local go_sem ↓] eql_val

def mQ (op m : Int) : Mat := ⟨⟨3, nameX, false⟩, op, ⟨2, m, ⟨#[]⟩⟩⟩
def gQ (l : List Val) : List Giv := [⟨3, nameX, l⟩]
def numV (n : Int) : Val := ⟨2, n, ⟨#[]⟩⟩
theorem fit_numV {n : Int} (h : R64 n) : (numV n).Fit := ⟨r64_small 2 (by omega), h, Nat.zero_le _⟩
theorem mQ_fit {op m : Int} (ho : R64 op) (hm : R64 m) : (mQ op m).Fit := ⟨⟨r64_small 3 (by omega), by show nameX.size ≤ _; decide⟩, ho, fit_numV hm⟩
theorem getQ (op m : Int) (l : List Val) : getS (mQ op m).attr (gQ l) = (l, 0) := by
  have e : isG 3 nameX ⟨3, nameX, l⟩ = true := by simp [isG]
  have e2 : bagS 3 nameX (gQ l) = l := by simp [bagS, gQ, List.find?_cons, e]
  unfold getS
  rw [show bagS (mQ op m).attr.cat (mQ op m).attr.name (gQ l) = l from e2]
  simp [mQ]
theorem matchQ (op m : Int) (l : List Val) : matchS (mQ op m) (gQ l) = if l.any (okV (mQ op m)) then 2 else if l.any (badV (mQ op m)) then 1 else 0 := by
  unfold matchS
  rw [getQ]; rfl
def bestS (op m : Int) (l : List Val) : Int := l.foldl (fun o v => max o (matchS (mQ op m) (gQ [v]))) 0
theorem best_step {op m : Int} {l : List Val} {k : Nat} (hk : k < l.length) : bestS op m (l.take (k + 1)) = max (bestS op m (l.take k)) (matchS (mQ op m) (gQ [l[k]])) := fold_step hk
theorem bestQ (op m : Int) (l : List Val) : matchS (mQ op m) (gQ l) = bestS op m l := by
  refine eq_of_ge_iff fun c => ?_
  rw [show (bestS op m l ≤ c ↔ _) from max_iff (fun v => matchS (mQ op m) (gQ [v])) l 0 c]
  rw [matchQ]
  simp only [matchQ, List.any_cons, List.any_nil, Bool.or_false]
  by_cases h1 : l.any (okV (mQ op m)) = true
  · rw [if_pos h1]
    obtain ⟨v, hv, hv1⟩ := List.any_eq_true.1 h1
    constructor
    · intro h; refine ⟨by omega, fun x _ => ?_⟩; split; exact h; split <;> omega
    · rintro ⟨_, h⟩; have := h v hv; rw [if_pos hv1] at this; exact this
  · rw [if_neg h1]
    have n1 : ∀ v ∈ l, okV (mQ op m) v = false := fun v hv => by
      cases hq : okV (mQ op m) v with
      | false => rfl
      | true => exact absurd (List.any_eq_true.2 ⟨v, hv, hq⟩) h1
    by_cases h2 : l.any (badV (mQ op m)) = true
    · rw [if_pos h2]
      obtain ⟨v, hv, hv1⟩ := List.any_eq_true.1 h2
      constructor
      · intro h; refine ⟨by omega, fun x hx => ?_⟩; rw [n1 x hx]; simp only [Bool.false_eq_true, if_false]; split <;> omega
      · rintro ⟨_, h⟩; have := h v hv; rw [n1 v hv, hv1] at this; simpa using this
    · rw [if_neg h2]
      constructor
      · intro h; refine ⟨h, fun x hx => ?_⟩
        have : badV (mQ op m) x = false := by
          cases hq : badV (mQ op m) x with
          | false => rfl
          | true => exact absurd (List.any_eq_true.2 ⟨x, hx, hq⟩) h2
        rw [n1 x hx, this]; simpa using h
      · rintro ⟨h, _⟩; exact h
theorem right_num (n : Int) : (Val.mk 2 n ⟨#[]⟩).right = true := rfl
theorem lessQ (a b : Int) : lessS ⟨2, a, ⟨#[]⟩⟩ ⟨2, b, ⟨#[]⟩⟩ = (decide (a < b), 0) := by
  simp [lessS, right_num, textsS]
theorem oneQ (n m : Int) : matchS (mQ 1 m) (gQ [numV n]) = (if n = m then 2 else 0) ∧ matchS (mQ 2 m) (gQ [numV n]) = (if n < m then 2 else 0) ∧ matchS (mQ 3 m) (gQ [numV n]) = (if m < n then 2 else 0) := by
  refine ⟨?_, ?_, ?_⟩ <;> rw [matchQ] <;> simp [okV, badV, againstS, mQ, numV, sameV, lessQ]
  all_goals try (rw [empty_size]; rfl)

theorem side1_any (op m : Int) (l : List Giv) (L : Option Addr) (c ba bm : Nat) (w : World) (ho : R64 op) (hm : R64 m) (hn : l.length ≤ 1000000) (hb : ∀ g ∈ l, g.bag.length ≤ 1000000) (h : SlAt rGiv 3 w L l)
    (c0 : w.cell? ⟨ba, 0, none⟩ = some (.int .i64 3)) (c1 : w.cell? ⟨ba, 1, none⟩ = some (.string ⟨#[120]⟩)) (c2 : w.cell? ⟨ba, 2, none⟩ = some (.bool false)) (c3 : w.cell? ⟨bm, 0, none⟩ = some (.int .i64 m)) :
    Calls Try.prog 18 #[.int .i64 op, .slice L l.length c, .pointer (some ⟨ba, 0, none⟩), .pointer (some ⟨bm, 0, none⟩)] w fun e w' => e = .returned (.int .i64 (matchS (mQ op m) l)) ∧ Below w.heap.size w w' := by
  have k0 := (lt_of_cell c0).1
  have k3 := (lt_of_cell c3).1
  simp only at k0 k3
  replace h := hide h
  replace hb := hide hb
  go_enter Try.func18, Try.ntmps18
  go_upto_region 1 with (fail)
  refine wp_region_move [(0, true), (1, true), (2, true), (5, true), (3, false), (4, true), (6, false), (7, true)] (by kernel_rfl) (by kernel_rfl) (by kernel_rfl) ?_
  repeat (first | (refine move_read (by rfl) (by rfl) (by rfl) ?_; intro K hK; go_big_quiet_op; go_big_quiet_on) | (refine move_skip (by rfl) (by rfl) ?_; simp only [Act.put, List.setIfInBounds_toArray, List.set_cons_zero, List.set_cons_succ]))
  refine move_act (by rfl) (by rfl) ?_; intro Q' hQ'
  go_wp2_with (fail)
  (refine (num13_any _ _).mono ?_; rintro e w2 ⟨rfl, hB2⟩)
  go_wp2
  refine hQ'.out _ _ ?_ ?_
  · exact (by repeat (first | exact Below.refl _ _ | assumption | refine Below.alloc1 ?_ _ | refine Below.drew ?_ | refine below_drewl ?_ | refine Below.setCell ?_ (by first | exact Nat.le_refl _ | (simp; done) | omega | (simp; omega)) _ | refine Below.lift ?_ (by assumption)))
  clear hQ' Q'
  repeat (first | (refine move_read (by rfl) (by rfl) (by rfl) ?_; intro K hK; go_big_quiet_op; go_big_quiet_on) | (refine move_skip (by rfl) (by rfl) ?_; simp only [Act.put, List.setIfInBounds_toArray, List.set_cons_zero, List.set_cons_succ]))
  replace hB2 : Below w.heap.size w w2 := ⟨hB2.os, hB2.tape, hB2.output, hB2.size, hB2.block⟩
  refine move_act (by rfl) (by rfl) ?_; intro Q' hQ'
  go_wp2_with (fail)
  (refine (match_any (mQ op m) l _ _ _ (mQ_fit ho hm) hn hb.out (h.out.keep keeps_giv hB2)).mono ?_; rintro e w3 ⟨rfl, hB3⟩)
  go_wp2
  refine hQ'.out _ _ ?_ ?_
  · exact (by repeat (first | exact Below.refl _ _ | assumption | refine Below.alloc1 ?_ _ | refine Below.drew ?_ | refine below_drewl ?_ | refine Below.setCell ?_ (by first | exact Nat.le_refl _ | (simp; done) | omega | (simp; omega)) _ | refine Below.lift ?_ (by assumption)))
  clear hQ' Q'
  repeat (first | (refine move_read (by rfl) (by rfl) (by rfl) ?_; intro K hK; go_big_quiet_op; go_big_quiet_on) | (refine move_skip (by rfl) (by rfl) ?_; simp only [Act.put, List.setIfInBounds_toArray, List.set_cons_zero, List.set_cons_succ]))
  refine move_done ?_
  go_wp2
  go_ret
  exact ⟨rfl, Below.lift hB2 hB3⟩
abbrev fV : RF Val := fun _ => rVal
theorem good_V : Good fV := good_plain rVal fun _ _ _ _ h => h
theorem forget_V : Forget fV rVal := forget_plain rVal
theorem cells_val {w : World} {cs : List Value} {x : Val} (h : rVal w cs x) : ∀ u ∈ cs, u.oneCell' = true := by
  obtain ⟨rfl, _⟩ := h
  intro u hu
  simp [Val.cells] at hu
  rcases hu with rfl | rfl | rfl <;> rfl
theorem slat_val1 (w : World) (t : TypeId) (b : Nat) (x : Val) (ok : Nat → Prop) (hb : b = w.heap.size) (hx : x.Fit) :
    SlAt (fun w cs y => (∀ u ∈ cs, u.oneCell' = true) ∧ fV ok w cs y) 3 (w.alloc (.cells #[.int .i64 x.kind, .int .i64 x.n, .string x.s] t)) (some ⟨b, 0, none⟩) [x] := by
  subst hb
  exact slat_of (R := fun w cs y => (∀ u ∈ cs, u.oneCell' = true) ∧ fV ok w cs y) w t [x] Val.cells (fun _ => rfl) (fun w' y hy => by
    obtain rfl : y = x := by simpa using hy
    exact ⟨cells_val (w := w') ⟨rfl, hx⟩, rfl, hx⟩)
theorem SlAt.ints {w : World} {A : Option Addr} {l : List Int} (h : SlAt rInt 1 w A l) {k : Nat} (hk : k < l.length) : ∃ b o, A = some ⟨b, o, none⟩ ∧ b < w.heap.size ∧ w.cell? ⟨b, o + k, none⟩ = some (.int .i64 l[k]) ∧ R64 l[k] := by
  obtain ⟨b, o, cs, hA, hlt, _, hc, rfl, hf⟩ := h.at_ hk
  have := hc 0 _ rfl
  rw [Nat.mul_one, Nat.add_zero] at this
  exact ⟨b, o, hA, hlt, this, hf⟩
/-- request of one attribute, as the contracts say it -/
theorem gQ_ok (l : List Val) (h : l.length ≤ 16) : (gQ l).length ≤ 1000000 ∧ ∀ g ∈ gQ l, g.bag.length ≤ 1000000 := by
  refine ⟨by simp [gQ], fun g hg => ?_⟩
  obtain rfl : g = ⟨3, nameX, l⟩ := by simpa [gQ] using hg
  show l.length ≤ _
  omega
theorem takeMap_len (l : List Int) (k : Nat) : ((l.take k).map numV).length = min k l.length := by simp
theorem takeMap_step {l : List Int} {k : Nat} (hk : k < l.length) : (l.take (k + 1)).map numV = (l.take k).map numV ++ [numV l[k]] := by
  rw [List.take_succ_eq_append_getElem hk, List.map_append]; rfl
theorem side1Q (op m : Int) (v : List Val) (G : Option Addr) (c ba bm : Nat) (w : World) (ho : R64 op) (hm : R64 m) (hv : v.length ≤ 16) (h : SlAt rGiv 3 w G (gQ v))
    (cc : w.cell? ⟨ba, 0, none⟩ = some (.int .i64 3) ∧ w.cell? ⟨ba, 1, none⟩ = some (.string ⟨#[120]⟩) ∧ w.cell? ⟨ba, 2, none⟩ = some (.bool false) ∧ w.cell? ⟨bm, 0, none⟩ = some (.int .i64 m)) :
    Calls Try.prog 18 #[.int .i64 op, .slice G 1 c, .pointer (some ⟨ba, 0, none⟩), .pointer (some ⟨bm, 0, none⟩)] w fun e w' => e = .returned (.int .i64 (matchS (mQ op m) (gQ v))) ∧ Below w.heap.size w w' := by
  obtain ⟨d0, d1, d2, d3⟩ := cc
  have key := side1_any op m (gQ v) G c ba bm w ho hm (gQ_ok v hv).1 (gQ_ok v hv).2 h d0 d1 d2 d3
  have e : (gQ v).length = 1 := rfl
  rw [e] at key
  exact key
set_option maxRecDepth 100000 in
set_option maxHeartbeats 4000000 in
theorem targetSides_any (n m : Int) (l : List Int) (L : Option Addr) (c : Nat) (w : World) (hn : R64 n) (hm : R64 m) (hl : l.length ≤ c) (hc : l.length ≤ reachBytes ∧ c ≤ maxLen) (h : SlAt rInt 1 w L l) :
    Calls Try.prog 4 #[.int .i64 n, .int .i64 m, .slice L l.length c] w fun e w' => e = .returned (.bool true) ∧ Below w.heap.size w w' := by
  have hlr : l.length ≤ 140737488351232 := hc.1
  replace h := hide h
  obtain ⟨i0, hi, hz0, hz1, hz2⟩ := info_parts info_val
  have I0 := hide (And.intro hi (And.intro hz0 (And.intro hz1 hz2)))
  clear hi hz0 hz1 hz2
  obtain ⟨a1, h1⟩ : ∃ a, a = matchS (mQ 1 m) (gQ [numV n]) := ⟨_, rfl⟩
  obtain ⟨a2, h2⟩ : ∃ a, a = matchS (mQ 2 m) (gQ [numV n]) := ⟨_, rfl⟩
  obtain ⟨a3, h3⟩ : ∃ a, a = matchS (mQ 3 m) (gQ [numV n]) := ⟨_, rfl⟩
  obtain ⟨o1, o2, o3⟩ := oneQ n m
  rw [← h1] at o1
  rw [← h2] at o2
  rw [← h3] at o3
  have b1 : 0 ≤ a1 ∧ a1 ≤ 2 := by rw [o1]; split <;> omega
  have b2 : 0 ≤ a2 ∧ a2 ≤ 2 := by rw [o2]; split <;> omega
  have b3 : 0 ≤ a3 ∧ a3 ≤ 2 := by rw [o3]; split <;> omega
  have n1 : (a1 + a2 + a3 != 2) = false := by
    rw [o1, o2, o3, bne_eq_false_iff_eq]
    by_cases x1 : n = m <;> by_cases x2 : n < m <;> by_cases x3 : m < n <;> simp [x1, x2, x3] <;> omega
  have n2 : (!((a2 == 2) == decide (n < m))) = false := by
    rw [o2]
    by_cases x2 : n < m <;> simp [x2]
  replace h1 := hide h1.symm
  replace h2 := hide h2.symm
  replace h3 := hide h3.symm
  clear o1 o2 o3
  obtain ⟨b11, b12⟩ := b1
  obtain ⟨b21, b22⟩ := b2
  obtain ⟨b31, b32⟩ := b3
  go_enter Try.func4, Try.ntmps4
  go_upto_region 3 with (fail)
  refine wp_region_lit ?_
  repeat (first | (refine wpL_read (by rfl) (by rfl) ?_; intro K hK; go_big_quiet_op; go_big_quiet_on) | (refine wpL_skip (by rfl) ?_; simp only [Act.put, List.setIfInBounds_toArray, List.set_cons_zero, List.set_cons_succ]))
  refine wpL_act (by rfl) ?_; intro Q' hQ'
  go_wp2_with (fail)
  (refine (num13_any _ _).mono ?_; rintro e w1 ⟨rfl, hB1⟩)
  go_wp2
  refine hQ'.out _ _ ?_
  clear hQ' Q'
  repeat (first | (refine wpL_read (by rfl) (by rfl) ?_; intro K hK; go_big_quiet_op; go_big_quiet_on) | (refine wpL_skip (by rfl) ?_; simp only [Act.put, List.setIfInBounds_toArray, List.set_cons_zero, List.set_cons_succ]))
  refine wpL_act (by rfl) ?_; intro Q' hQ'
  go_wp2_with (fail)
  refine hQ'.out _ _ ?_
  clear hQ' Q'
  repeat (first | (refine wpL_read (by rfl) (by rfl) ?_; intro K hK; go_big_quiet_op; go_big_quiet_on) | (refine wpL_skip (by rfl) ?_; simp only [Act.put, List.setIfInBounds_toArray, List.set_cons_zero, List.set_cons_succ]))
  refine wpL_act (by rfl) ?_; intro Q' hQ'
  go_wp2_with (fail)
  (refine (x13_any [numV n] _ 1 _ (by simp) (by simp [reachBytes, maxLen]) (slat_at1 _ _ _ (numV n) (by simp) (fit_numV hn))).mono ?_; rintro e w2 ⟨A2, rfl, hA2, hB2⟩)
  go_wp2
  refine hQ'.out _ _ ?_
  clear hQ' Q'
  repeat (first | (refine wpL_read (by rfl) (by rfl) ?_; intro K hK; go_big_quiet_op; go_big_quiet_on) | (refine wpL_skip (by rfl) ?_; simp only [Act.put, List.setIfInBounds_toArray, List.set_cons_zero, List.set_cons_succ]))
  refine wpL_done ?_
  have hBb : Below (w.heap.size + 2) ((w.alloc (.cells #[.int .i64 m] 3)).alloc (.cells #[.int .i64 3, .string ⟨#[120]⟩, .bool false] 23)) w2 := by
    refine (hB1.mono (by simp)).trans (((Below.refl _ _).alloc ?_ _).trans (hB2.mono ?_))
    · have := hB1.size; simp at this; omega
    · have := hB1.size; simp at this; simp; omega
  obtain ⟨W, hW⟩ : ∃ W, W = (w.alloc (.cells #[.int .i64 m] 3)).alloc (.cells #[.int .i64 3, .string ⟨#[120]⟩, .bool false] 23) := ⟨_, rfl⟩
  rw [← hW] at hBb
  have hWs : W.heap.size = w.heap.size + 2 := by rw [hW]; simp
  have cc : W.cell? ⟨w.heap.size + 1, 0, none⟩ = some (.int .i64 3) ∧ W.cell? ⟨w.heap.size + 1, 1, none⟩ = some (.string ⟨#[120]⟩) ∧ W.cell? ⟨w.heap.size + 1, 2, none⟩ = some (.bool false) ∧ W.cell? ⟨w.heap.size, 0, none⟩ = some (.int .i64 m) := by
    rw [hW]; simp [go_sem]
  have hWw : Below w.heap.size w W := by rw [hW]; exact (by repeat (first | exact Below.refl _ _ | assumption | refine Below.alloc1 ?_ _ | refine Below.drew ?_ | refine below_drewl ?_ | refine Below.setCell ?_ (by first | exact Nat.le_refl _ | (simp; done) | omega | (simp; omega)) _ | refine Below.lift ?_ (by assumption)))
  rw [← hWs] at hBb
  -- what holds of every world from here on
  have CC : ∀ w', Below W.heap.size W w' → w'.cell? ⟨w.heap.size + 1, 0, none⟩ = some (.int .i64 3) ∧ w'.cell? ⟨w.heap.size + 1, 1, none⟩ = some (.string ⟨#[120]⟩) ∧ w'.cell? ⟨w.heap.size + 1, 2, none⟩ = some (.bool false) ∧ w'.cell? ⟨w.heap.size, 0, none⟩ = some (.int .i64 m) := fun w' hb => by
    refine ⟨?_, ?_, ?_, ?_⟩
    · exact (hb.cell (p := ⟨w.heap.size + 1, 0, none⟩) (by show w.heap.size + 1 < _; omega)).trans cc.1
    · exact (hb.cell (p := ⟨w.heap.size + 1, 1, none⟩) (by show w.heap.size + 1 < _; omega)).trans cc.2.1
    · exact (hb.cell (p := ⟨w.heap.size + 1, 2, none⟩) (by show w.heap.size + 1 < _; omega)).trans cc.2.2.1
    · exact (hb.cell (p := ⟨w.heap.size, 0, none⟩) (by show w.heap.size < _; omega)).trans cc.2.2.2
  replace CC := hide CC
  have ask : ∀ (w' : World) (op : Int) (v : List Val) (G : Option Addr) (cg : Nat), R64 op → v.length ≤ 16 → Below W.heap.size W w' → SlAt rGiv 3 w' G (gQ v) →
      Calls Try.prog 18 #[.int .i64 op, .slice G 1 cg, .pointer (some ⟨w.heap.size + 1, 0, none⟩), .pointer (some ⟨w.heap.size, 0, none⟩)] w' fun e w'' => e = .returned (.int .i64 (matchS (mQ op m) (gQ v))) ∧ Below w'.heap.size w' w'' := fun w' op v G cg ho hv hb hs => by
    exact side1Q op m v G cg (w.heap.size + 1) w.heap.size w' ho hm hv hs (CC.out w' hb)
  replace ask := hide ask
  replace hWs := hide hWs
  replace hW := hide hW
  clear cc
  replace hA2 := hide (show SlAt rGiv 3 w2 A2 (gQ [numV n]) from hA2)
  go_upto_region 4 with (fail)
  refine wp_region_move [(0, true), (1, true), (3, true), (4, true), (7, true), (8, true), (2, false), (5, false), (6, true), (9, false), (10, true), (11, true), (12, true), (13, true), (14, true), (17, true), (18, true), (19, true), (15, false), (16, true), (20, true), (21, true)] (by kernel_rfl) (by kernel_rfl) (by kernel_rfl) ?_
  repeat (first | (refine move_read (by rfl) (by rfl) (by rfl) ?_; intro K hK; go_big_quiet_op; go_big_quiet_on) | (refine move_skip (by rfl) (by rfl) ?_; simp only [Act.put, List.setIfInBounds_toArray, List.set_cons_zero, List.set_cons_succ]))
  refine move_act (by rfl) (by rfl) ?_; intro Q' hQ'
  go_wp2_with (fail)
  (refine (ask.out _ 1 [numV n] A2 1 (r64_small 1 (by omega)) (by simp) hBb.drew (hA2.out.keep keeps_giv (Below.refl _ _).drew)).mono ?_; rw [h1.out]; rintro e w3 ⟨rfl, hB3⟩)
  go_wp2
  refine hQ'.out _ _ ?_ ?_
  · exact (by repeat (first | exact Below.refl _ _ | assumption | refine Below.alloc1 ?_ _ | refine Below.drew ?_ | refine below_drewl ?_ | refine Below.setCell ?_ (by first | exact Nat.le_refl _ | (simp; done) | omega | (simp; omega)) _ | refine Below.lift ?_ (by assumption)))
  clear hQ' Q'
  repeat (first | (refine move_read (by rfl) (by rfl) (by rfl) ?_; intro K hK; go_big_quiet_op; go_big_quiet_on) | (refine move_skip (by rfl) (by rfl) ?_; simp only [Act.put, List.setIfInBounds_toArray, List.set_cons_zero, List.set_cons_succ]))
  replace hB3 : Below w2.heap.size w2 w3 := ⟨hB3.os, hB3.tape, hB3.output, hB3.size, hB3.block⟩
  refine move_act (by rfl) (by rfl) ?_; intro Q' hQ'
  go_wp2_with (fail)
  (refine (ask.out _ 2 [numV n] A2 1 (r64_small 2 (by omega)) (by simp) (Below.lift hBb hB3) (hA2.out.keep keeps_giv hB3)).mono ?_; rw [h2.out]; rintro e w4 ⟨rfl, hB4⟩)
  go_wp2
  refine hQ'.out _ _ ?_ ?_
  · exact (by repeat (first | exact Below.refl _ _ | assumption | refine Below.alloc1 ?_ _ | refine Below.drew ?_ | refine below_drewl ?_ | refine Below.setCell ?_ (by first | exact Nat.le_refl _ | (simp; done) | omega | (simp; omega)) _ | refine Below.lift ?_ (by assumption)))
  clear hQ' Q'
  repeat (first | (refine move_read (by rfl) (by rfl) (by rfl) ?_; intro K hK; go_big_quiet_op; go_big_quiet_on) | (refine move_skip (by rfl) (by rfl) ?_; simp only [Act.put, List.setIfInBounds_toArray, List.set_cons_zero, List.set_cons_succ]))
  replace hB4 : Below w2.heap.size w2 w4 := Below.lift hB3 hB4
  refine move_act (by rfl) (by rfl) ?_; intro Q' hQ'
  go_wp2_with (fail)
  (refine (ask.out _ 3 [numV n] A2 1 (r64_small 3 (by omega)) (by simp) (Below.lift hBb hB4) (hA2.out.keep keeps_giv hB4)).mono ?_; rw [h3.out]; rintro e w5 ⟨rfl, hB5⟩; have cm := (CC.out w5 (Below.lift hBb (Below.lift hB4 hB5))).2.2.2; have cl := (lt_of_cell cm).1; simp only at cl)
  go_wp2
  refine hQ'.out _ _ ?_ ?_
  · exact (by repeat (first | exact Below.refl _ _ | assumption | refine Below.alloc1 ?_ _ | refine Below.drew ?_ | refine below_drewl ?_ | refine Below.setCell ?_ (by first | exact Nat.le_refl _ | (simp; done) | omega | (simp; omega)) _ | refine Below.lift ?_ (by assumption)))
  clear hQ' Q'
  repeat (first | (refine move_read (by rfl) (by rfl) (by rfl) ?_; intro K hK; go_big_quiet_op; go_big_quiet_on) | (refine move_skip (by rfl) (by rfl) ?_; simp only [Act.put, List.setIfInBounds_toArray, List.set_cons_zero, List.set_cons_succ]))
  replace hB5 : Below w2.heap.size w2 w5 := Below.lift hB4 hB5
  refine move_act (by rfl) (by rfl) ?_; intro Q' hQ'
  go_wp2_with (fail)
  (refine (ask.out _ 2 [numV n] A2 1 (r64_small 2 (by omega)) (by simp) (Below.lift hBb hB5) (hA2.out.keep keeps_giv hB5)).mono ?_; rw [h2.out]; rintro e w6 ⟨rfl, hB6⟩)
  go_wp2
  refine hQ'.out _ _ ?_ ?_
  · exact (by repeat (first | exact Below.refl _ _ | assumption | refine Below.alloc1 ?_ _ | refine Below.drew ?_ | refine below_drewl ?_ | refine Below.setCell ?_ (by first | exact Nat.le_refl _ | (simp; done) | omega | (simp; omega)) _ | refine Below.lift ?_ (by assumption)))
  clear hQ' Q'
  repeat (first | (refine move_read (by rfl) (by rfl) (by rfl) ?_; intro K hK; go_big_quiet_op; go_big_quiet_on) | (refine move_skip (by rfl) (by rfl) ?_; simp only [Act.put, List.setIfInBounds_toArray, List.set_cons_zero, List.set_cons_succ]))
  refine move_done ?_
  have hB60 : Below w.heap.size w w6 := Below.lift hWw (Below.lift hBb (Below.lift hB5 hB6))
  have hBW : Below W.heap.size W w6 := Below.lift hBb (Below.lift hB5 hB6)
  go_upto_region 7 with (fail)
  clear cm cl n1 n2 h1 h2 h3 hB1 hB2 hBb hB3 hB4 hB5 hB6 hA2 b11 b12 b21 b22 b31 b32
  have hz6 := hB60.size
  have hWz := hBW.size
  go_wp2
  go_loopw [10, 11] (fun v i wr => ∃ k : Nat, k ≤ l.length ∧ k ≤ 16 ∧ i = .int .i64 k ∧ RowO fV 3 (fun _ => True) wr w6.heap.size 25 v ((l.take k).map numV) ∧ Below w6.heap.size w6 wr) (fun _ i _ => l.length - (intOf i).toNat)
  case atStart => exact ⟨0, Nat.zero_le _, by omega, rfl, rowO_nil, Below.refl _ _⟩
  case round =>
    obtain ⟨k, hk, hk16, rfl, hrow, hBr⟩ := hrel
    have hB7 : Below w.heap.size w wr := Below.lift hB60 hBr
    have hB7W : Below W.heap.size W wr := Below.lift hBW hBr
    replace hrow := hide hrow
    have hzr := hBr.size
    by_cases hlt : k < l.length ∧ k < 16
    · obtain ⟨hlt, hlt16⟩ := hlt
      obtain ⟨b, o, rfl, hbb, e0, hf⟩ := h.out.ints hlt
      obtain ⟨qc, qf⟩ := bcell hB7
      have hl9 := takeMap_len l k
      replace hl9 := hide hl9
      go_upto_region 10 with (fail)
      refine wp_region_lit ?_
      repeat (first | (refine wpL_read (by rfl) (by rfl) ?_; intro K hK; go_big_quiet_op; go_big_quiet_on) | (refine wpL_skip (by rfl) ?_; simp only [Act.put, List.setIfInBounds_toArray, List.set_cons_zero, List.set_cons_succ]))
      refine wpL_act (by rfl) ?_; intro Q' hQ'
      go_wp2_with (fail)
      (refine (num13_any _ _).mono ?_; rintro e w8 ⟨rfl, hB8⟩)
      go_wp2
      refine hQ'.out _ _ ?_
      clear hQ' Q'
      repeat (first | (refine wpL_read (by rfl) (by rfl) ?_; intro K hK; go_big_quiet_op; go_big_quiet_on) | (refine wpL_skip (by rfl) ?_; simp only [Act.put, List.setIfInBounds_toArray, List.set_cons_zero, List.set_cons_succ]))
      refine wpL_act (by rfl) ?_; intro Q' hQ'
      go_wp2_with (fail)
      refine hQ'.out _ _ ?_
      clear hQ' Q'
      repeat (first | (refine wpL_read (by rfl) (by rfl) ?_; intro K hK; go_big_quiet_op; go_big_quiet_on) | (refine wpL_skip (by rfl) ?_; simp only [Act.put, List.setIfInBounds_toArray, List.set_cons_zero, List.set_cons_succ]))
      (refine wpList_append_row (ok := fun _ => True) good_V (by rfl) _ _ 35 rfl w6.heap.size 25 i0 _ 32 Try.underlying35 I0.out.1 I0.out.2.1 I0.out.2.2.1 I0.out.2.2.2 rfl (by decide) _ ((l.take k).map numV) rfl ?_ _ _ [numV l[k]] rfl ?_ ?_ ?_ ?_ ?_ ?_; exact hrow.out.below good_V (Below.alloc1 hB8 _); exact slat_val1 _ _ _ (numV l[k]) _ (by simp) (fit_numV hf); exact (by simp only [List.length_singleton, maxLen]; rw [hl9.out]; omega); exact (by simp only [List.length_singleton]; rw [hl9.out]; omega); exact (by have := hB8.size; simp only [World.size_alloc]; omega); exact trivial; intro v' w' hrow' hB')
      simp only [Act.put, List.setIfInBounds_toArray, List.set_cons_zero, List.set_cons_succ]
      repeat (first | (refine wpL_read (by rfl) (by rfl) ?_; intro K hK; go_big_quiet_op; go_big_quiet_on) | (refine wpL_skip (by rfl) ?_; simp only [Act.put, List.setIfInBounds_toArray, List.set_cons_zero, List.set_cons_succ]))
      refine wpL_done ?_
      go_wp2
      go_roundw
      case rel => exact ⟨k + 1, by omega, by omega, by go_num, by rw [takeMap_step hlt]; exact hrow', (hBr.trans ((Below.alloc1 hB8 _).mono hzr)).trans hB'⟩
      case measure => simp [intOf]; omega
    · by_cases hlt1 : k < l.length
      · obtain rfl : k = 16 := by omega
        rw [show ((16 : Nat) : Int) = 16 from rfl]
        have q1 : decide ((16 : Int) < (l.length : Int)) = true := by rw [decide_eq_true_eq]; omega
        obtain ⟨bl, hbl⟩ : ∃ bl, bl = (l.take (16)).map numV := ⟨_, rfl⟩
        have hbl16 : bl.length ≤ 16 := by rw [hbl]; simp; omega
        rw [← hbl] at hrow
        replace hbl := hide hbl
        obtain ⟨A10, c10, rfl, hc10, hm10⟩ := hrow.out.shape
        have hsl := hide (hrow.out.slat good_V forget_V)
        clear hrow
        obtain ⟨we, hwe⟩ : ∃ we, we = wr := ⟨_, rfl⟩
        rw [← hwe] at hsl hB7 hB7W
        rw [← hwe]
        clear hwe hBr hzr
        go_upto_region 11 with (fail)
        go_wp2
        obtain ⟨wc, hwc⟩ : ∃ wc, wc = we.alloc (.cells #[.int .i64 1, .int .i64 2, .int .i64 3] 3) := ⟨_, rfl⟩
        have hBc : Below we.heap.size we wc := by rw [hwc]; exact (by repeat (first | exact Below.refl _ _ | assumption | refine Below.alloc1 ?_ _ | refine Below.drew ?_ | refine below_drewl ?_ | refine Below.setCell ?_ (by first | exact Nat.le_refl _ | (simp; done) | omega | (simp; omega)) _ | refine Below.lift ?_ (by assumption)))
        have hzc : wc.heap.size = we.heap.size + 1 := by rw [hwc]; simp
        have cop : ∀ j, j < 3 → wc.cell? ⟨we.heap.size, j, none⟩ = some (.int .i64 ((j : Int) + 1)) := fun j hj => by
          rw [hwc, cell_new]
          match j, hj with
          | 0, _ => rfl
          | 1, _ => rfl
          | 2, _ => rfl
        rw [← hwc]
        replace hwc := hide hwc
        replace cop := hide cop
        replace hzc := hide hzc
        go_loopw [13, 14, 16, 65] (fun _ _ _ i wr2 => ∃ j : Nat, j ≤ 3 ∧ i = .int .i64 j ∧ Below wc.heap.size wc wr2) (fun _ _ _ i _ => 3 - (intOf i).toNat)
        case atStart => exact ⟨0, by omega, rfl, Below.refl _ _⟩
        case round =>
          obtain ⟨j, hj, rfl, hBr⟩ := hrel
          have hBe : Below we.heap.size we wr := Below.lift hBc hBr
          have hBw : Below w.heap.size w wr := Below.lift hB7 hBe
          have hBWr : Below W.heap.size W wr := Below.lift hB7W hBe
          have hzr : we.heap.size < wr.heap.size := by have := hBr.size; have := hzc.out; omega
          by_cases hj3 : j < 3
          · have e0 : wr.cell? ⟨we.heap.size, j, none⟩ = some (.int .i64 ((j : Int) + 1)) := (hBr.cell (p := ⟨we.heap.size, j, none⟩) (by show we.heap.size < _; have := hzc.out; omega)).trans (cop.out j hj3)
            have q2 : decide ((j : Int) < 3) = true := by rw [decide_eq_true_eq]; omega
            go_upto_region 16 with (fail)
            clear e0
            obtain ⟨op, hop⟩ : ∃ op : Int, op = (j : Int) + 1 := ⟨_, rfl⟩
            rw [← hop]
            have hopr : R64 op := r64_small op (by omega)
            replace hop := hide hop
            obtain ⟨wo, rfl⟩ : ∃ wo, wo = wr := ⟨_, rfl⟩
            go_wp2
            go_loopw [14, 16, 71] (fun b _ i wr3 => ∃ k2 : Nat, k2 ≤ bl.length ∧ i = .int .i64 k2 ∧ b = .int .i64 (bestS op m (bl.take k2)) ∧ Below wo.heap.size wo wr3) (fun _ _ i _ => bl.length - (intOf i).toNat)
            case atStart => exact ⟨0, Nat.zero_le _, rfl, rfl, Below.refl _ _⟩
            case round =>
              obtain ⟨k2, hk2, rfl, rfl, hBr3⟩ := hrel
              have hBe3 : Below we.heap.size we wr := Below.lift hBe hBr3
              have hBW3 : Below W.heap.size W wr := Below.lift hBWr hBr3
              by_cases hlt2 : k2 < bl.length
              · obtain ⟨b, o, rfl, hbb, d0, d1, d2, hf⟩ := (hsl.out.keep keeps_val hBe3).val hlt2
                go_upto_region 18 with (fail)
                refine wp_region_lit ?_
                repeat (first | (refine wpL_read (by rfl) (by rfl) ?_; intro K hK; go_big_quiet_op; go_big_quiet_on) | (refine wpL_skip (by rfl) ?_; simp only [Act.put, List.setIfInBounds_toArray, List.set_cons_zero, List.set_cons_succ]))
                refine wpL_act (by rfl) ?_; intro Q' hQ'
                go_wp2_with (fail)
                refine hQ'.out _ _ ?_
                clear hQ' Q'
                repeat (first | (refine wpL_read (by rfl) (by rfl) ?_; intro K hK; go_big_quiet_op; go_big_quiet_on) | (refine wpL_skip (by rfl) ?_; simp only [Act.put, List.setIfInBounds_toArray, List.set_cons_zero, List.set_cons_succ]))
                refine wpL_act (by rfl) ?_; intro Q' hQ'
                go_wp2_with (fail)
                (refine (x13_any [bl[k2]] _ 1 _ (by simp) (by simp [reachBytes, maxLen]) (slat_at1 _ _ _ bl[k2] (by simp) hf)).mono ?_; rintro e w8 ⟨A8, rfl, hA8, hB8⟩)
                go_wp2
                refine hQ'.out _ _ ?_
                clear hQ' Q'
                repeat (first | (refine wpL_read (by rfl) (by rfl) ?_; intro K hK; go_big_quiet_op; go_big_quiet_on) | (refine wpL_skip (by rfl) ?_; simp only [Act.put, List.setIfInBounds_toArray, List.set_cons_zero, List.set_cons_succ]))
                have hB81 : Below wr.heap.size wr w8 := Below.lift (Below.alloc1 (Below.alloc1 (Below.refl _ _) _) _) hB8
                refine wpL_act (by rfl) ?_; intro Q' hQ'
                go_wp2_with (fail)
                (refine (ask.out _ op [bl[k2]] A8 1 hopr (by simp) (Below.lift hBW3 hB81) hA8).mono ?_; rintro e w9 ⟨rfl, hB9⟩)
                go_wp2
                refine hQ'.out _ _ ?_
                clear hQ' Q'
                repeat (first | (refine wpL_read (by rfl) (by rfl) ?_; intro K hK; go_big_quiet_op; go_big_quiet_on) | (refine wpL_skip (by rfl) ?_; simp only [Act.put, List.setIfInBounds_toArray, List.set_cons_zero, List.set_cons_succ]))
                refine wpL_done ?_
                generalize hmx : (if bestS op m (bl.take k2) < matchS (mQ op m) (gQ [bl[k2]]) then matchS (mQ op m) (gQ [bl[k2]]) else bestS op m (bl.take k2)) = mx
                replace hmx := hide hmx
                go_wp2
                go_roundw
                case rel => exact ⟨k2 + 1, by omega, by go_num, by rw [best_step hlt2, ← hmx.out]; congr 1; split <;> omega, Below.lift (Below.lift hBr3 hB81) hB9⟩
                case measure => simp [intOf]; omega
              · obtain rfl : k2 = bl.length := by omega
                rw [List.take_length]
                go_upto_region 20 with (fail)
                refine wp_region_lit ?_
                repeat (first | (refine wpL_read (by rfl) (by rfl) ?_; intro K hK; go_big_quiet_op; go_big_quiet_on) | (refine wpL_skip (by rfl) ?_; simp only [Act.put, List.setIfInBounds_toArray, List.set_cons_zero, List.set_cons_succ]))
                refine wpL_act (by rfl) ?_; intro Q' hQ'
                go_wp2_with (fail)
                (refine (x13_any bl A10 c10 _ hc10 ⟨by unfold reachBytes; omega, hm10⟩ (hsl.out.keep keeps_val hBe3)).mono ?_; rintro e w8 ⟨A8, rfl, hA8, hB8⟩)
                go_wp2
                refine hQ'.out _ _ ?_
                clear hQ' Q'
                repeat (first | (refine wpL_read (by rfl) (by rfl) ?_; intro K hK; go_big_quiet_op; go_big_quiet_on) | (refine wpL_skip (by rfl) ?_; simp only [Act.put, List.setIfInBounds_toArray, List.set_cons_zero, List.set_cons_succ]))
                refine wpL_act (by rfl) ?_; intro Q' hQ'
                go_wp2_with (fail)
                (refine (ask.out _ op bl A8 1 hopr hbl16 (Below.lift hBW3 hB8) hA8).mono ?_; rw [bestQ]; rintro e w9 ⟨rfl, hB9⟩)
                go_wp2
                refine hQ'.out _ _ ?_
                clear hQ' Q'
                repeat (first | (refine wpL_read (by rfl) (by rfl) ?_; intro K hK; go_big_quiet_op; go_big_quiet_on) | (refine wpL_skip (by rfl) ?_; simp only [Act.put, List.setIfInBounds_toArray, List.set_cons_zero, List.set_cons_succ]))
                refine wpL_done ?_
                go_wp2
                go_roundw
                case rel => exact ⟨j + 1, by omega, by go_num, Below.lift (Below.lift (Below.lift hBr hBr3) hB8) hB9⟩
                case measure => simp [intOf]; omega
          · obtain rfl : j = 3 := by omega
            go_wp2_with (go_at_call 3; refine (targetRuns_any _).mono ?_; rintro e w9 ⟨rfl, hB9⟩)
            go_ret
            exact ⟨rfl, Below.lift hBw hB9⟩
      · obtain rfl : k = l.length := by omega
        obtain ⟨bl, hbl⟩ : ∃ bl, bl = (l.take (l.length)).map numV := ⟨_, rfl⟩
        have hbl16 : bl.length ≤ 16 := by rw [hbl]; simp; omega
        rw [← hbl] at hrow
        replace hbl := hide hbl
        obtain ⟨A10, c10, rfl, hc10, hm10⟩ := hrow.out.shape
        have hsl := hide (hrow.out.slat good_V forget_V)
        clear hrow
        obtain ⟨we, hwe⟩ : ∃ we, we = wr := ⟨_, rfl⟩
        rw [← hwe] at hsl hB7 hB7W
        rw [← hwe]
        clear hwe hBr hzr
        go_upto_region 11 with (fail)
        go_wp2
        obtain ⟨wc, hwc⟩ : ∃ wc, wc = we.alloc (.cells #[.int .i64 1, .int .i64 2, .int .i64 3] 3) := ⟨_, rfl⟩
        have hBc : Below we.heap.size we wc := by rw [hwc]; exact (by repeat (first | exact Below.refl _ _ | assumption | refine Below.alloc1 ?_ _ | refine Below.drew ?_ | refine below_drewl ?_ | refine Below.setCell ?_ (by first | exact Nat.le_refl _ | (simp; done) | omega | (simp; omega)) _ | refine Below.lift ?_ (by assumption)))
        have hzc : wc.heap.size = we.heap.size + 1 := by rw [hwc]; simp
        have cop : ∀ j, j < 3 → wc.cell? ⟨we.heap.size, j, none⟩ = some (.int .i64 ((j : Int) + 1)) := fun j hj => by
          rw [hwc, cell_new]
          match j, hj with
          | 0, _ => rfl
          | 1, _ => rfl
          | 2, _ => rfl
        rw [← hwc]
        replace hwc := hide hwc
        replace cop := hide cop
        replace hzc := hide hzc
        go_loopw [13, 14, 16, 65] (fun _ _ _ i wr2 => ∃ j : Nat, j ≤ 3 ∧ i = .int .i64 j ∧ Below wc.heap.size wc wr2) (fun _ _ _ i _ => 3 - (intOf i).toNat)
        case atStart => exact ⟨0, by omega, rfl, Below.refl _ _⟩
        case round =>
          obtain ⟨j, hj, rfl, hBr⟩ := hrel
          have hBe : Below we.heap.size we wr := Below.lift hBc hBr
          have hBw : Below w.heap.size w wr := Below.lift hB7 hBe
          have hBWr : Below W.heap.size W wr := Below.lift hB7W hBe
          have hzr : we.heap.size < wr.heap.size := by have := hBr.size; have := hzc.out; omega
          by_cases hj3 : j < 3
          · have e0 : wr.cell? ⟨we.heap.size, j, none⟩ = some (.int .i64 ((j : Int) + 1)) := (hBr.cell (p := ⟨we.heap.size, j, none⟩) (by show we.heap.size < _; have := hzc.out; omega)).trans (cop.out j hj3)
            have q2 : decide ((j : Int) < 3) = true := by rw [decide_eq_true_eq]; omega
            go_upto_region 16 with (fail)
            clear e0
            obtain ⟨op, hop⟩ : ∃ op : Int, op = (j : Int) + 1 := ⟨_, rfl⟩
            rw [← hop]
            have hopr : R64 op := r64_small op (by omega)
            replace hop := hide hop
            obtain ⟨wo, rfl⟩ : ∃ wo, wo = wr := ⟨_, rfl⟩
            go_wp2
            go_loopw [14, 16, 71] (fun b _ i wr3 => ∃ k2 : Nat, k2 ≤ bl.length ∧ i = .int .i64 k2 ∧ b = .int .i64 (bestS op m (bl.take k2)) ∧ Below wo.heap.size wo wr3) (fun _ _ i _ => bl.length - (intOf i).toNat)
            case atStart => exact ⟨0, Nat.zero_le _, rfl, rfl, Below.refl _ _⟩
            case round =>
              obtain ⟨k2, hk2, rfl, rfl, hBr3⟩ := hrel
              have hBe3 : Below we.heap.size we wr := Below.lift hBe hBr3
              have hBW3 : Below W.heap.size W wr := Below.lift hBWr hBr3
              by_cases hlt2 : k2 < bl.length
              · obtain ⟨b, o, rfl, hbb, d0, d1, d2, hf⟩ := (hsl.out.keep keeps_val hBe3).val hlt2
                go_upto_region 18 with (fail)
                refine wp_region_lit ?_
                repeat (first | (refine wpL_read (by rfl) (by rfl) ?_; intro K hK; go_big_quiet_op; go_big_quiet_on) | (refine wpL_skip (by rfl) ?_; simp only [Act.put, List.setIfInBounds_toArray, List.set_cons_zero, List.set_cons_succ]))
                refine wpL_act (by rfl) ?_; intro Q' hQ'
                go_wp2_with (fail)
                refine hQ'.out _ _ ?_
                clear hQ' Q'
                repeat (first | (refine wpL_read (by rfl) (by rfl) ?_; intro K hK; go_big_quiet_op; go_big_quiet_on) | (refine wpL_skip (by rfl) ?_; simp only [Act.put, List.setIfInBounds_toArray, List.set_cons_zero, List.set_cons_succ]))
                refine wpL_act (by rfl) ?_; intro Q' hQ'
                go_wp2_with (fail)
                (refine (x13_any [bl[k2]] _ 1 _ (by simp) (by simp [reachBytes, maxLen]) (slat_at1 _ _ _ bl[k2] (by simp) hf)).mono ?_; rintro e w8 ⟨A8, rfl, hA8, hB8⟩)
                go_wp2
                refine hQ'.out _ _ ?_
                clear hQ' Q'
                repeat (first | (refine wpL_read (by rfl) (by rfl) ?_; intro K hK; go_big_quiet_op; go_big_quiet_on) | (refine wpL_skip (by rfl) ?_; simp only [Act.put, List.setIfInBounds_toArray, List.set_cons_zero, List.set_cons_succ]))
                have hB81 : Below wr.heap.size wr w8 := Below.lift (Below.alloc1 (Below.alloc1 (Below.refl _ _) _) _) hB8
                refine wpL_act (by rfl) ?_; intro Q' hQ'
                go_wp2_with (fail)
                (refine (ask.out _ op [bl[k2]] A8 1 hopr (by simp) (Below.lift hBW3 hB81) hA8).mono ?_; rintro e w9 ⟨rfl, hB9⟩)
                go_wp2
                refine hQ'.out _ _ ?_
                clear hQ' Q'
                repeat (first | (refine wpL_read (by rfl) (by rfl) ?_; intro K hK; go_big_quiet_op; go_big_quiet_on) | (refine wpL_skip (by rfl) ?_; simp only [Act.put, List.setIfInBounds_toArray, List.set_cons_zero, List.set_cons_succ]))
                refine wpL_done ?_
                generalize hmx : (if bestS op m (bl.take k2) < matchS (mQ op m) (gQ [bl[k2]]) then matchS (mQ op m) (gQ [bl[k2]]) else bestS op m (bl.take k2)) = mx
                replace hmx := hide hmx
                go_wp2
                go_roundw
                case rel => exact ⟨k2 + 1, by omega, by go_num, by rw [best_step hlt2, ← hmx.out]; congr 1; split <;> omega, Below.lift (Below.lift hBr3 hB81) hB9⟩
                case measure => simp [intOf]; omega
              · obtain rfl : k2 = bl.length := by omega
                rw [List.take_length]
                go_upto_region 20 with (fail)
                refine wp_region_lit ?_
                repeat (first | (refine wpL_read (by rfl) (by rfl) ?_; intro K hK; go_big_quiet_op; go_big_quiet_on) | (refine wpL_skip (by rfl) ?_; simp only [Act.put, List.setIfInBounds_toArray, List.set_cons_zero, List.set_cons_succ]))
                refine wpL_act (by rfl) ?_; intro Q' hQ'
                go_wp2_with (fail)
                (refine (x13_any bl A10 c10 _ hc10 ⟨by unfold reachBytes; omega, hm10⟩ (hsl.out.keep keeps_val hBe3)).mono ?_; rintro e w8 ⟨A8, rfl, hA8, hB8⟩)
                go_wp2
                refine hQ'.out _ _ ?_
                clear hQ' Q'
                repeat (first | (refine wpL_read (by rfl) (by rfl) ?_; intro K hK; go_big_quiet_op; go_big_quiet_on) | (refine wpL_skip (by rfl) ?_; simp only [Act.put, List.setIfInBounds_toArray, List.set_cons_zero, List.set_cons_succ]))
                refine wpL_act (by rfl) ?_; intro Q' hQ'
                go_wp2_with (fail)
                (refine (ask.out _ op bl A8 1 hopr hbl16 (Below.lift hBW3 hB8) hA8).mono ?_; rw [bestQ]; rintro e w9 ⟨rfl, hB9⟩)
                go_wp2
                refine hQ'.out _ _ ?_
                clear hQ' Q'
                repeat (first | (refine wpL_read (by rfl) (by rfl) ?_; intro K hK; go_big_quiet_op; go_big_quiet_on) | (refine wpL_skip (by rfl) ?_; simp only [Act.put, List.setIfInBounds_toArray, List.set_cons_zero, List.set_cons_succ]))
                refine wpL_done ?_
                go_wp2
                go_roundw
                case rel => exact ⟨j + 1, by omega, by go_num, Below.lift (Below.lift (Below.lift hBr hBr3) hB8) hB9⟩
                case measure => simp [intOf]; omega
          · obtain rfl : j = 3 := by omega
            go_wp2_with (go_at_call 3; refine (targetRuns_any _).mono ?_; rintro e w9 ⟨rfl, hB9⟩)
            go_ret
            exact ⟨rfl, Below.lift hBw hB9⟩
end Go.Proofs.Ytnienipaicckmaa
