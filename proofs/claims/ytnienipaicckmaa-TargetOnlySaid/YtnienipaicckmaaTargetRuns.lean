/-
  TargetRuns: the walk.
-/
import Derived.Test.YtnienipaicckmaaLaw13
import Derived.Test.YtnienipaicckmaaMove
import Derived.WalkLawsBesides
import Derived.WalkSpells
import Derived.Deep.Cut
import Derived.Deep.Light
import Derived.Deep.RegionHeld3
namespace Go.Proofs.Ytnienipaicckmaa
open Go.RowKit
set_option linter.unusedSimpArgs false
set_option linter.unusedVariables false
attribute [local go_sem] ext_cell ext_frozen
attribute [local go_sem low] alloc_cell alloc_frozen
attribute [local go_sem ↓] eql_val

def mX (must : Bool) : Mat := ⟨⟨3, nameX, must⟩, 1, ⟨2, 1, ⟨#[]⟩⟩⟩
theorem mX_fit (b : Bool) : (mX b).Fit := ⟨⟨r64_small 3 (by omega), by show nameX.size ≤ _; decide⟩, r64_small 1 (by omega), fit_small 2 1 ⟨#[]⟩ (by omega) (r64_small _ (by omega)) (by decide)⟩
theorem slat_at1 (w : World) (t : TypeId) (b : Nat) (x : Val) (hb : b = w.heap.size) (hx : x.Fit) : SlAt rVal 3 (w.alloc (.cells #[.int .i64 x.kind, .int .i64 x.n, .string x.s] t)) (some ⟨b, 0, none⟩) [x] := by
  subst hb; exact slat_new1 w t x hx
theorem slat_at2 (w : World) (t : TypeId) (b : Nat) (x y : Val) (hb : b = w.heap.size) (hx : x.Fit) (hy : y.Fit) : SlAt rVal 3 (w.alloc (.cells #[.int .i64 x.kind, .int .i64 x.n, .string x.s, .int .i64 y.kind, .int .i64 y.n, .string y.s] t)) (some ⟨b, 0, none⟩) [x, y] := by
  subst hb; exact slat_new2 w t x y hx hy
set_option maxRecDepth 100000 in
set_option maxHeartbeats 1000000 in
theorem targetRuns_any (w : World) : Calls Try.prog 3 #[] w fun e w' => e = .returned (.bool true) ∧ Below w.heap.size w w' := by
  have e1 : matchS (mX false) [] = 0 := by kernel_rfl
  have e2 : matchS (mX false) [⟨3, nameX, [⟨2, 2, ⟨#[]⟩⟩, ⟨2, 1, ⟨#[]⟩⟩]⟩] = 2 := by kernel_rfl
  have e3 : matchS (mX false) [⟨3, nameX, [⟨3, 0, ⟨#[97]⟩⟩]⟩] = 1 := by kernel_rfl
  have e4 : matchS (mX true) [] = 1 := by kernel_rfl
  go_enter Try.func3, Try.ntmps3
  go_upto_region 4 with (go_at_call 15; refine (num13_any _ _).mono ?_; rintro e w3 ⟨rfl, hB3⟩; obtain ⟨hc3, hf3⟩ := bcell hB3; have hz3 := hB3.size; try simp only [World.size_alloc, World.size_drew] at hc3 hf3 hz3)
  have f1 : (Val.mk 2 1 ⟨#[]⟩).Fit := fit_small _ _ _ (by omega) (r64_small _ (by omega)) (by decide)
  have f2 : (Val.mk 2 2 ⟨#[]⟩).Fit := fit_small _ _ _ (by omega) (r64_small _ (by omega)) (by decide)
  have f3 : (Val.mk 3 0 ⟨#[97]⟩).Fit := fit_small _ _ _ (by omega) (r64_small _ (by omega)) (by decide)
  replace e1 := hide e1
  replace e2 := hide e2
  replace e3 := hide e3
  replace e4 := hide e4
  refine wp_region_move [(0, true), (1, false), (2, true), (3, true), (4, true), (5, false), (6, false), (7, false), (8, false), (9, false), (10, true), (11, true), (12, true), (13, true), (14, true), (15, false), (16, false), (17, false), (18, true), (19, true), (20, true), (21, true), (22, false), (23, true), (24, true), (25, true)] (by kernel_rfl) (by kernel_rfl) (by kernel_rfl) ?_
  repeat (first | (refine move_read (by rfl) (by rfl) (by rfl) ?_; intro K hK; go_big_quiet_op; go_big_quiet_on) | (refine move_skip (by rfl) (by rfl) ?_; simp only [Act.put, List.setIfInBounds_toArray, List.set_cons_zero, List.set_cons_succ]))
  refine move_act (by rfl) (by rfl) ?_; intro Q' hQ'
  go_wp2_with (fail)
  (refine (match_any (mX false) [] none 0 _ (mX_fit _) (by simp) (by simp) SlAt.nil).mono ?_; rw [e1.out]; rintro e w4 ⟨rfl, hB4⟩; obtain ⟨hc4, hf4⟩ := bcell hB4; have hz4 := hB4.size; try simp only [World.size_alloc, World.size_drew] at hc4 hf4 hz4)
  go_wp2
  refine hQ'.out _ _ ?_ ?_
  · exact (by repeat (first | exact Below.refl _ _ | assumption | refine Below.alloc1 ?_ _ | refine Below.drew ?_ | refine below_drewl ?_ | refine Below.setCell ?_ (by first | exact Nat.le_refl _ | (simp; done) | omega | (simp; omega)) _ | refine Below.lift ?_ (by assumption)))
  clear hQ' Q'
  repeat (first | (refine move_read (by rfl) (by rfl) (by rfl) ?_; intro K hK; go_big_quiet_op; go_big_quiet_on) | (refine move_skip (by rfl) (by rfl) ?_; simp only [Act.put, List.setIfInBounds_toArray, List.set_cons_zero, List.set_cons_succ]))
  refine move_act (by rfl) (by rfl) ?_; intro Q' hQ'
  go_wp2_with (fail)
  (refine (num13_any _ _).mono ?_; rintro e w5 ⟨rfl, hB5⟩; obtain ⟨hc5, hf5⟩ := bcell hB5; have hz5 := hB5.size; try simp only [World.size_alloc, World.size_drew] at hc5 hf5 hz5)
  go_wp2
  refine hQ'.out _ _ ?_ ?_
  · exact (by repeat (first | exact Below.refl _ _ | assumption | refine Below.alloc1 ?_ _ | refine Below.drew ?_ | refine below_drewl ?_ | refine Below.setCell ?_ (by first | exact Nat.le_refl _ | (simp; done) | omega | (simp; omega)) _ | refine Below.lift ?_ (by assumption)))
  clear hQ' Q'
  repeat (first | (refine move_read (by rfl) (by rfl) (by rfl) ?_; intro K hK; go_big_quiet_op; go_big_quiet_on) | (refine move_skip (by rfl) (by rfl) ?_; simp only [Act.put, List.setIfInBounds_toArray, List.set_cons_zero, List.set_cons_succ]))
  refine move_act (by rfl) (by rfl) ?_; intro Q' hQ'
  go_wp2_with (fail)
  (refine (num13_any _ _).mono ?_; rintro e w6 ⟨rfl, hB6⟩; obtain ⟨hc6, hf6⟩ := bcell hB6; have hz6 := hB6.size; try simp only [World.size_alloc, World.size_drew] at hc6 hf6 hz6)
  go_wp2
  refine hQ'.out _ _ ?_ ?_
  · exact (by repeat (first | exact Below.refl _ _ | assumption | refine Below.alloc1 ?_ _ | refine Below.drew ?_ | refine below_drewl ?_ | refine Below.setCell ?_ (by first | exact Nat.le_refl _ | (simp; done) | omega | (simp; omega)) _ | refine Below.lift ?_ (by assumption)))
  clear hQ' Q'
  repeat (first | (refine move_read (by rfl) (by rfl) (by rfl) ?_; intro K hK; go_big_quiet_op; go_big_quiet_on) | (refine move_skip (by rfl) (by rfl) ?_; simp only [Act.put, List.setIfInBounds_toArray, List.set_cons_zero, List.set_cons_succ]))
  refine move_act (by rfl) (by rfl) ?_; intro Q' hQ'
  go_wp2_with (fail)
  refine hQ'.out _ _ ?_ ?_
  · exact (by repeat (first | exact Below.refl _ _ | assumption | refine Below.alloc1 ?_ _ | refine Below.drew ?_ | refine below_drewl ?_ | refine Below.setCell ?_ (by first | exact Nat.le_refl _ | (simp; done) | omega | (simp; omega)) _ | refine Below.lift ?_ (by assumption)))
  clear hQ' Q'
  repeat (first | (refine move_read (by rfl) (by rfl) (by rfl) ?_; intro K hK; go_big_quiet_op; go_big_quiet_on) | (refine move_skip (by rfl) (by rfl) ?_; simp only [Act.put, List.setIfInBounds_toArray, List.set_cons_zero, List.set_cons_succ]))
  refine move_act (by rfl) (by rfl) ?_; intro Q' hQ'
  go_wp2_with (fail)
  (refine (x13_any [⟨2, 2, ⟨#[]⟩⟩, ⟨2, 1, ⟨#[]⟩⟩] _ 2 _ (by simp) (by simp [reachBytes, maxLen]) (slat_at2 _ _ _ _ _ (by simp) f2 f1)).mono ?_; rintro e w7 ⟨B7, rfl, h7, hB7⟩; obtain ⟨hc7, hf7⟩ := bcell hB7; have hz7 := hB7.size; try simp only [World.size_alloc, World.size_drew] at hc7 hf7 hz7)
  go_wp2
  refine hQ'.out _ _ ?_ ?_
  · exact (by repeat (first | exact Below.refl _ _ | assumption | refine Below.alloc1 ?_ _ | refine Below.drew ?_ | refine below_drewl ?_ | refine Below.setCell ?_ (by first | exact Nat.le_refl _ | (simp; done) | omega | (simp; omega)) _ | refine Below.lift ?_ (by assumption)))
  clear hQ' Q'
  repeat (first | (refine move_read (by rfl) (by rfl) (by rfl) ?_; intro K hK; go_big_quiet_op; go_big_quiet_on) | (refine move_skip (by rfl) (by rfl) ?_; simp only [Act.put, List.setIfInBounds_toArray, List.set_cons_zero, List.set_cons_succ]))
  refine move_act (by rfl) (by rfl) ?_; intro Q' hQ'
  go_wp2_with (fail)
  (refine (match_any (mX false) [⟨3, nameX, [⟨2, 2, ⟨#[]⟩⟩, ⟨2, 1, ⟨#[]⟩⟩]⟩] _ 1 _ (mX_fit _) (by simp) (by simp) h7).mono ?_; rw [e2.out]; rintro e w8 ⟨rfl, hB8⟩; obtain ⟨hc8, hf8⟩ := bcell hB8; have hz8 := hB8.size; try simp only [World.size_alloc, World.size_drew] at hc8 hf8 hz8)
  go_wp2
  refine hQ'.out _ _ ?_ ?_
  · exact (by repeat (first | exact Below.refl _ _ | assumption | refine Below.alloc1 ?_ _ | refine Below.drew ?_ | refine below_drewl ?_ | refine Below.setCell ?_ (by first | exact Nat.le_refl _ | (simp; done) | omega | (simp; omega)) _ | refine Below.lift ?_ (by assumption)))
  clear hQ' Q'
  repeat (first | (refine move_read (by rfl) (by rfl) (by rfl) ?_; intro K hK; go_big_quiet_op; go_big_quiet_on) | (refine move_skip (by rfl) (by rfl) ?_; simp only [Act.put, List.setIfInBounds_toArray, List.set_cons_zero, List.set_cons_succ]))
  refine move_act (by rfl) (by rfl) ?_; intro Q' hQ'
  go_wp2_with (fail)
  refine hQ'.out _ _ ?_ ?_
  · exact (by repeat (first | exact Below.refl _ _ | assumption | refine Below.alloc1 ?_ _ | refine Below.drew ?_ | refine below_drewl ?_ | refine Below.setCell ?_ (by first | exact Nat.le_refl _ | (simp; done) | omega | (simp; omega)) _ | refine Below.lift ?_ (by assumption)))
  clear hQ' Q'
  repeat (first | (refine move_read (by rfl) (by rfl) (by rfl) ?_; intro K hK; go_big_quiet_op; go_big_quiet_on) | (refine move_skip (by rfl) (by rfl) ?_; simp only [Act.put, List.setIfInBounds_toArray, List.set_cons_zero, List.set_cons_succ]))
  refine move_act (by rfl) (by rfl) ?_; intro Q' hQ'
  go_wp2_with (fail)
  (refine (x13_any [⟨3, 0, ⟨#[97]⟩⟩] _ 1 _ (by simp) (by simp [reachBytes, maxLen]) (slat_at1 _ _ _ _ (by simp) f3)).mono ?_; rintro e w9 ⟨B9, rfl, h9, hB9⟩; obtain ⟨hc9, hf9⟩ := bcell hB9; have hz9 := hB9.size; try simp only [World.size_alloc, World.size_drew] at hc9 hf9 hz9)
  go_wp2
  refine hQ'.out _ _ ?_ ?_
  · exact (by repeat (first | exact Below.refl _ _ | assumption | refine Below.alloc1 ?_ _ | refine Below.drew ?_ | refine below_drewl ?_ | refine Below.setCell ?_ (by first | exact Nat.le_refl _ | (simp; done) | omega | (simp; omega)) _ | refine Below.lift ?_ (by assumption)))
  clear hQ' Q'
  repeat (first | (refine move_read (by rfl) (by rfl) (by rfl) ?_; intro K hK; go_big_quiet_op; go_big_quiet_on) | (refine move_skip (by rfl) (by rfl) ?_; simp only [Act.put, List.setIfInBounds_toArray, List.set_cons_zero, List.set_cons_succ]))
  refine move_act (by rfl) (by rfl) ?_; intro Q' hQ'
  go_wp2_with (fail)
  (refine (match_any (mX false) [⟨3, nameX, [⟨3, 0, ⟨#[97]⟩⟩]⟩] _ 1 _ (mX_fit _) (by simp) (by simp) h9).mono ?_; rw [e3.out]; rintro e w10 ⟨rfl, hB10⟩; obtain ⟨hc10, hf10⟩ := bcell hB10; have hz10 := hB10.size; try simp only [World.size_alloc, World.size_drew] at hc10 hf10 hz10)
  go_wp2
  refine hQ'.out _ _ ?_ ?_
  · exact (by repeat (first | exact Below.refl _ _ | assumption | refine Below.alloc1 ?_ _ | refine Below.drew ?_ | refine below_drewl ?_ | refine Below.setCell ?_ (by first | exact Nat.le_refl _ | (simp; done) | omega | (simp; omega)) _ | refine Below.lift ?_ (by assumption)))
  clear hQ' Q'
  repeat (first | (refine move_read (by rfl) (by rfl) (by rfl) ?_; intro K hK; go_big_quiet_op; go_big_quiet_on) | (refine move_skip (by rfl) (by rfl) ?_; simp only [Act.put, List.setIfInBounds_toArray, List.set_cons_zero, List.set_cons_succ]))
  refine move_act (by rfl) (by rfl) ?_; intro Q' hQ'
  go_wp2_with (fail)
  (refine (match_any (mX true) [] none 0 _ (mX_fit _) (by simp) (by simp) SlAt.nil).mono ?_; rw [e4.out]; rintro e w11 ⟨rfl, hB11⟩; obtain ⟨hc11, hf11⟩ := bcell hB11; have hz11 := hB11.size; try simp only [World.size_alloc, World.size_drew] at hc11 hf11 hz11)
  go_wp2
  refine hQ'.out _ _ ?_ ?_
  · exact (by repeat (first | exact Below.refl _ _ | assumption | refine Below.alloc1 ?_ _ | refine Below.drew ?_ | refine below_drewl ?_ | refine Below.setCell ?_ (by first | exact Nat.le_refl _ | (simp; done) | omega | (simp; omega)) _ | refine Below.lift ?_ (by assumption)))
  clear hQ' Q'
  repeat (first | (refine move_read (by rfl) (by rfl) (by rfl) ?_; intro K hK; go_big_quiet_op; go_big_quiet_on) | (refine move_skip (by rfl) (by rfl) ?_; simp only [Act.put, List.setIfInBounds_toArray, List.set_cons_zero, List.set_cons_succ]))
  refine move_done ?_
  go_wp2
  go_ret
  exact ⟨rfl, (by repeat (first | exact Below.refl _ _ | assumption | refine Below.alloc1 ?_ _ | refine Below.drew ?_ | refine below_drewl ?_ | refine Below.setCell ?_ (by first | exact Nat.le_refl _ | (simp; done) | omega | (simp; omega)) _ | refine Below.lift ?_ (by assumption)))⟩
end Go.Proofs.Ytnienipaicckmaa
