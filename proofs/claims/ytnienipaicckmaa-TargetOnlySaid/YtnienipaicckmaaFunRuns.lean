/-
  Layer 6's closed sentence (FunRuns): the walk.
-/
import Derived.Test.YtnienipaicckmaaRef1
import Derived.WalkLawsBesides
import Derived.WalkSpells
import Derived.Deep.Cut
import Derived.Deep.Light
namespace Go.Proofs.Ytnienipaicckmaa
open Go.RowKit
set_option linter.unusedSimpArgs false
set_option linter.unusedVariables false
attribute [local go_sem] ext_cell ext_frozen
attribute [local go_sem low] alloc_cell alloc_frozen
attribute [local go_sem ↓] eql_val







theorem fit_small (k n : Int) (s : ByteArray) (h1 : 0 ≤ k ∧ k < 100) (h2 : R64 n) (h3 : s.size ≤ 100) : (Val.mk k n s).Fit := ⟨⟨by show _ ≤ k; omega, by show k ≤ _; omega⟩, h2, by show s.size ≤ _; unfold reachBytes; omega⟩
theorem r64_small (n : Int) (h : -1000000 ≤ n ∧ n ≤ 1000000) : R64 n := ⟨by omega, by omega⟩
theorem funRuns_any (w : World) : Calls Try.prog 8 #[] w fun e w' => e = .returned (.bool true) ∧ Below w.heap.size w w' := by
  have e1 : addS 9223372036854775807 1 = (0, 3) := by kernel_rfl
  have e2 : mulS (-9223372036854775808) (-1) = (0, 3) := by kernel_rfl
  have e3 : callS 7 [⟨2, 2, ⟨#[]⟩⟩, ⟨2, 3, ⟨#[]⟩⟩] = (⟨1, 1, ⟨#[]⟩⟩, 0) := by kernel_rfl
  have e4 : callS 6 [⟨2, 2, ⟨#[]⟩⟩, ⟨3, 0, ⟨#[50]⟩⟩] = (⟨0, 0, ⟨#[]⟩⟩, 2) := by kernel_rfl
  have e5 : callS 11 [⟨1, 1, ⟨#[]⟩⟩] = (⟨1, 0, ⟨#[]⟩⟩, 0) := by kernel_rfl
  go_enter Try.func8, Try.ntmps8
  go_upto_region 3 with (first | (go_at_call 25; refine (add_any 9223372036854775807 1 _ ⟨by omega, by omega⟩ (r64_small _ (by omega))).mono ?_; rintro e w2 ⟨rfl, rfl⟩) | (go_at_call 26; refine (mul_any (-9223372036854775808) (-1) _ ⟨by omega, by omega⟩ (r64_small _ (by omega))).mono ?_; rintro e w2 ⟨rfl, rfl⟩))
  go_upto_region 4 with (first | (go_at_call 28; refine (num_any _ _).mono ?_; rintro e w3 ⟨rfl, hB3⟩; obtain ⟨hc3, hf3⟩ := bcell hB3; have hz3 := hB3.size; try simp only [World.size_alloc, World.size_drew] at hc3 hf3 hz3) | (go_at_call 27; refine (call_any 7 [⟨2, 2, ⟨#[]⟩⟩, ⟨2, 3, ⟨#[]⟩⟩] _ _ _ (by simp [reachBytes]) (slat_new2 _ _ ⟨2, 2, ⟨#[]⟩⟩ ⟨2, 3, ⟨#[]⟩⟩ (fit_small _ _ _ (by omega) (r64_small _ (by omega)) (by decide)) (fit_small _ _ _ (by omega) (r64_small _ (by omega)) (by decide)))).mono ?_; rintro e w4 ⟨rfl, hB4⟩; obtain ⟨hc4, hf4⟩ := bcell hB4; have hz4 := hB4.size; try simp only [World.size_alloc, World.size_drew] at hc4 hf4 hz4))
  go_upto_region 5 with (first | (go_at_call 28; refine (num_any _ _).mono ?_; rintro e w3 ⟨rfl, hB3⟩; obtain ⟨hc3, hf3⟩ := bcell hB3; have hz3 := hB3.size; try simp only [World.size_alloc, World.size_drew] at hc3 hf3 hz3) | (go_at_call 27; refine (call_any 6 [⟨2, 2, ⟨#[]⟩⟩, ⟨3, 0, ⟨#[50]⟩⟩] _ _ _ (by simp [reachBytes]) (slat_new2 _ _ ⟨2, 2, ⟨#[]⟩⟩ ⟨3, 0, ⟨#[50]⟩⟩ (fit_small _ _ _ (by omega) (r64_small _ (by omega)) (by decide)) (fit_small _ _ _ (by omega) (r64_small _ (by omega)) (by decide)))).mono ?_; rintro e w4 ⟨rfl, hB4⟩; obtain ⟨hc4, hf4⟩ := bcell hB4; have hz4 := hB4.size; try simp only [World.size_alloc, World.size_drew] at hc4 hf4 hz4))
  go_upto_region 6 with (first | (go_at_call 29; refine (ltruth_any _ _).mono ?_; rintro e w3 ⟨rfl, hB3⟩; obtain ⟨hc3, hf3⟩ := bcell hB3; have hz3 := hB3.size; try simp only [World.size_alloc, World.size_drew] at hc3 hf3 hz3) | (go_at_call 27; refine (call_any 11 [⟨1, 1, ⟨#[]⟩⟩] _ _ _ (by simp [reachBytes]) (slat_new1 _ _ ⟨1, 1, ⟨#[]⟩⟩ (fit_small _ _ _ (by omega) (r64_small _ (by omega)) (by decide)))).mono ?_; rintro e w4 ⟨rfl, hB4⟩; obtain ⟨hc4, hf4⟩ := bcell hB4; have hz4 := hB4.size; try simp only [World.size_alloc, World.size_drew] at hc4 hf4 hz4))
  have e6 : sameV ⟨1, 1, ⟨#[]⟩⟩ ⟨1, bitI true, ⟨#[]⟩⟩ = true := by kernel_rfl
  have e7 : sameV ⟨1, 0, ⟨#[]⟩⟩ ⟨1, bitI false, ⟨#[]⟩⟩ = true := by kernel_rfl
  refine wp_spec_draw (by kernel_rfl) (by kernel_rfl) (by kernel_rfl) ?_
  repeat (refine spec_step ?_; intro K hK; go_big_quiet_op; go_big_quiet_on)
  refine spec_step ?_; intro K hK; go_big_quiet_op
  refine ⟨_, fun _ => quiet_ext (ltruth_any _ _), ?_⟩
  go_big_quiet_on
  repeat (refine spec_step ?_; intro K hK; go_big_quiet_op; go_big_quiet_on)
  refine spec_step ?_; intro K hK; go_big_quiet_op
  refine ⟨_, fun _ => quiet_ext (ltruth_any _ _), ?_⟩
  go_big_quiet_on
  repeat (refine spec_step ?_; intro K hK; go_big_quiet_op; go_big_quiet_on)
  refine spec_nil ?_
  intro us w6 hB6
  simp only [junk, Act.put, List.setIfInBounds_toArray, List.set_cons_zero, List.set_cons_succ]
  obtain ⟨hc6, hf6⟩ := bcell hB6; have hz6 := hB6.size; try simp only [World.size_alloc, World.size_drew] at hc6 hf6 hz6
  go_wp2
  go_ret
  exact ⟨rfl, (by repeat (first | exact Below.refl _ _ | assumption | refine Below.alloc1 ?_ _ | refine Below.drew ?_ | refine below_drewl ?_ | refine Below.setCell ?_ (by first | exact Nat.le_refl _ | (simp; done) | omega | (simp; omega)) _ | refine Below.lift ?_ (by assumption)))⟩
end Go.Proofs.Ytnienipaicckmaa
