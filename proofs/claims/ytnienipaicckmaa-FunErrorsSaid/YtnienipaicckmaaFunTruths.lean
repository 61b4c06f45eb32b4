/-
  FunTruths: the walk.
-/
import Derived.Test.YtnienipaicckmaaFunOver
import Derived.WalkLawsBesides
import Derived.WalkSpells
import Derived.Deep.Cut
import Derived.Deep.Light
namespace Go.Proofs.Ytnienipaicckmaa
open Go.RowKit
set_option linter.unusedSimpArgs false
set_option linter.unusedVariables false
attribute [local go_sem] ext_cell ext_frozen
attribute [local go_sem low] alloc_cell alloc_frozen
attribute [local go_sem ↓] eql_val







theorem sameV_refl (x : Val) : sameV x x = true := by simp [sameV]
theorem fit_bit (b : Bool) : (Val.mk 1 (bitI b) ⟨#[]⟩).Fit := fit_small _ _ _ (by omega) (r64_small _ (by cases b <;> simp [bitI])) (by decide)
theorem fit_num {n : Int} (h : R64 n) : (Val.mk 2 n ⟨#[]⟩).Fit := fit_small _ _ _ (by omega) h (by decide)
set_option maxRecDepth 100000 in
set_option maxHeartbeats 1000000 in
theorem funTruths_any (p q : Bool) (m n : Int) (w : World) (hm : R64 m) (hn : R64 n) : Calls Try.prog 12 #[.bool p, .bool q, .int .i64 m, .int .i64 n] w fun e w' => e = .returned (.bool true) ∧ Below w.heap.size w w' := by
  have fp := fit_bit p
  have fq := fit_bit q
  have fm := fit_num hm
  have fn := fit_num hn
  have e1 : callS 12 [⟨1, bitI p, ⟨#[]⟩⟩, ⟨1, bitI q, ⟨#[]⟩⟩] = (⟨1, bitI (p && q), ⟨#[]⟩⟩, 0) := by cases p <;> cases q <;> kernel_rfl
  have e2 : callS 13 [⟨1, bitI p, ⟨#[]⟩⟩, ⟨1, bitI q, ⟨#[]⟩⟩] = (⟨1, bitI (p || q), ⟨#[]⟩⟩, 0) := by cases p <;> cases q <;> kernel_rfl
  have e3 : callS 11 [⟨1, bitI p, ⟨#[]⟩⟩] = (⟨1, bitI (!p), ⟨#[]⟩⟩, 0) := by cases p <;> kernel_rfl
  have sz : (⟨#[]⟩ : ByteArray).size = 0 := rfl
  have r2 : ∀ k, Val.right ⟨2, k, ⟨#[]⟩⟩ = true := fun k => by simp [Val.right, sz]
  have r1 : ∀ x, Val.right ⟨1, bitI x, ⟨#[]⟩⟩ = true := fun x => by cases x <;> simp [Val.right, sz, bitI]
  have e4 : callS 6 [⟨2, m, ⟨#[]⟩⟩, ⟨2, n, ⟨#[]⟩⟩] = (⟨1, bitI (m == n), ⟨#[]⟩⟩, 0) := by
    simp [callS, mayS, r2, sameV, truthS]
    congr 1
  have e5 : callS 7 [⟨2, m, ⟨#[]⟩⟩, ⟨2, n, ⟨#[]⟩⟩] = (⟨1, bitI (decide (m < n)), ⟨#[]⟩⟩, 0) := by simp [callS, mayS, r2, lessS, textsS, truthS]
  have e6 : callS 12 [⟨1, bitI p, ⟨#[]⟩⟩, ⟨2, n, ⟨#[]⟩⟩] = (⟨0, 0, ⟨#[]⟩⟩, 2) := by simp [callS, mayS, r1, r2, allS, noVal]
  have e7 : callS 7 [⟨1, bitI p, ⟨#[]⟩⟩, ⟨1, bitI q, ⟨#[]⟩⟩] = (⟨0, 0, ⟨#[]⟩⟩, 2) := by simp [callS, mayS, r1, lessS, noVal]
  have e8 : callS 8 [⟨2, m, ⟨#[]⟩⟩, ⟨1, bitI q, ⟨#[]⟩⟩] = (⟨0, 0, ⟨#[]⟩⟩, 2) := by simp [callS, mayS, r1, r2, numberS, noVal]
  clear r1 r2 sz
  have sr := sameV_refl
  go_enter Try.func12, Try.ntmps12
  go_upto_region 2 with (first | (go_at_call 29; refine (ltruth_any _ _).mono ?_; rintro e w3 ⟨rfl, hB3⟩; obtain ⟨hc3, hf3⟩ := bcell hB3; have hz3 := hB3.size; try simp only [World.size_alloc] at hc3 hf3 hz3) | (go_at_call 27; refine (call_any 12 [⟨1, bitI p, ⟨#[]⟩⟩, ⟨1, bitI q, ⟨#[]⟩⟩] _ _ _ (by simp [reachBytes]) (slat_new2 _ _ ⟨1, bitI p, ⟨#[]⟩⟩ ⟨1, bitI q, ⟨#[]⟩⟩ fp fq)).mono ?_; rintro e w4 ⟨rfl, hB4⟩; obtain ⟨hc4, hf4⟩ := bcell hB4; have hz4 := hB4.size; try simp only [World.size_alloc] at hc4 hf4 hz4))
  go_upto_region 3 with (first | (go_at_call 29; refine (ltruth_any _ _).mono ?_; rintro e w3 ⟨rfl, hB3⟩; obtain ⟨hc3, hf3⟩ := bcell hB3; have hz3 := hB3.size; try simp only [World.size_alloc] at hc3 hf3 hz3) | (go_at_call 27; refine (call_any 13 [⟨1, bitI p, ⟨#[]⟩⟩, ⟨1, bitI q, ⟨#[]⟩⟩] _ _ _ (by simp [reachBytes]) (slat_new2 _ _ ⟨1, bitI p, ⟨#[]⟩⟩ ⟨1, bitI q, ⟨#[]⟩⟩ fp fq)).mono ?_; rintro e w4 ⟨rfl, hB4⟩; obtain ⟨hc4, hf4⟩ := bcell hB4; have hz4 := hB4.size; try simp only [World.size_alloc] at hc4 hf4 hz4))
  go_upto_region 4 with (first | (go_at_call 29; refine (ltruth_any _ _).mono ?_; rintro e w3 ⟨rfl, hB3⟩; obtain ⟨hc3, hf3⟩ := bcell hB3; have hz3 := hB3.size; try simp only [World.size_alloc] at hc3 hf3 hz3) | (go_at_call 27; refine (call_any 11 [⟨1, bitI p, ⟨#[]⟩⟩] _ _ _ (by simp [reachBytes]) (slat_new1 _ _ ⟨1, bitI p, ⟨#[]⟩⟩ fp)).mono ?_; rintro e w4 ⟨rfl, hB4⟩; obtain ⟨hc4, hf4⟩ := bcell hB4; have hz4 := hB4.size; try simp only [World.size_alloc] at hc4 hf4 hz4))
  go_upto_region 5 with (first | (go_at_call 28; refine (num_any _ _).mono ?_; rintro e w3 ⟨rfl, hB3⟩; obtain ⟨hc3, hf3⟩ := bcell hB3; have hz3 := hB3.size; try simp only [World.size_alloc] at hc3 hf3 hz3) | (go_at_call 27; refine (call_any 6 [⟨2, m, ⟨#[]⟩⟩, ⟨2, n, ⟨#[]⟩⟩] _ _ _ (by simp [reachBytes]) (slat_new2 _ _ ⟨2, m, ⟨#[]⟩⟩ ⟨2, n, ⟨#[]⟩⟩ fm fn)).mono ?_; rintro e w4 ⟨rfl, hB4⟩; obtain ⟨hc4, hf4⟩ := bcell hB4; have hz4 := hB4.size; try simp only [World.size_alloc] at hc4 hf4 hz4))
  go_upto_region 6 with (first | (go_at_call 28; refine (num_any _ _).mono ?_; rintro e w3 ⟨rfl, hB3⟩; obtain ⟨hc3, hf3⟩ := bcell hB3; have hz3 := hB3.size; try simp only [World.size_alloc] at hc3 hf3 hz3) | (go_at_call 27; refine (call_any 7 [⟨2, m, ⟨#[]⟩⟩, ⟨2, n, ⟨#[]⟩⟩] _ _ _ (by simp [reachBytes]) (slat_new2 _ _ ⟨2, m, ⟨#[]⟩⟩ ⟨2, n, ⟨#[]⟩⟩ fm fn)).mono ?_; rintro e w4 ⟨rfl, hB4⟩; obtain ⟨hc4, hf4⟩ := bcell hB4; have hz4 := hB4.size; try simp only [World.size_alloc] at hc4 hf4 hz4))
  go_upto_region 7 with (first | (go_at_call 29; refine (ltruth_any _ _).mono ?_; rintro e w3 ⟨rfl, hB3⟩; obtain ⟨hc3, hf3⟩ := bcell hB3; have hz3 := hB3.size; try simp only [World.size_alloc] at hc3 hf3 hz3) | (go_at_call 28; refine (num_any _ _).mono ?_; rintro e w3 ⟨rfl, hB3⟩; obtain ⟨hc3, hf3⟩ := bcell hB3; have hz3 := hB3.size; try simp only [World.size_alloc] at hc3 hf3 hz3) | (go_at_call 27; refine (call_any 12 [⟨1, bitI p, ⟨#[]⟩⟩, ⟨2, n, ⟨#[]⟩⟩] _ _ _ (by simp [reachBytes]) (slat_new2 _ _ ⟨1, bitI p, ⟨#[]⟩⟩ ⟨2, n, ⟨#[]⟩⟩ fp fn)).mono ?_; rintro e w4 ⟨rfl, hB4⟩; obtain ⟨hc4, hf4⟩ := bcell hB4; have hz4 := hB4.size; try simp only [World.size_alloc] at hc4 hf4 hz4))
  go_upto_region 8 with (first | (go_at_call 29; refine (ltruth_any _ _).mono ?_; rintro e w3 ⟨rfl, hB3⟩; obtain ⟨hc3, hf3⟩ := bcell hB3; have hz3 := hB3.size; try simp only [World.size_alloc] at hc3 hf3 hz3) | (go_at_call 27; refine (call_any 7 [⟨1, bitI p, ⟨#[]⟩⟩, ⟨1, bitI q, ⟨#[]⟩⟩] _ _ _ (by simp [reachBytes]) (slat_new2 _ _ ⟨1, bitI p, ⟨#[]⟩⟩ ⟨1, bitI q, ⟨#[]⟩⟩ fp fq)).mono ?_; rintro e w4 ⟨rfl, hB4⟩; obtain ⟨hc4, hf4⟩ := bcell hB4; have hz4 := hB4.size; try simp only [World.size_alloc] at hc4 hf4 hz4))
  go_upto_region 9 with (first | (go_at_call 28; refine (num_any _ _).mono ?_; rintro e w3 ⟨rfl, hB3⟩; obtain ⟨hc3, hf3⟩ := bcell hB3; have hz3 := hB3.size; try simp only [World.size_alloc] at hc3 hf3 hz3) | (go_at_call 29; refine (ltruth_any _ _).mono ?_; rintro e w3 ⟨rfl, hB3⟩; obtain ⟨hc3, hf3⟩ := bcell hB3; have hz3 := hB3.size; try simp only [World.size_alloc] at hc3 hf3 hz3) | (go_at_call 27; refine (call_any 8 [⟨2, m, ⟨#[]⟩⟩, ⟨1, bitI q, ⟨#[]⟩⟩] _ _ _ (by simp [reachBytes]) (slat_new2 _ _ ⟨2, m, ⟨#[]⟩⟩ ⟨1, bitI q, ⟨#[]⟩⟩ fm fq)).mono ?_; rintro e w4 ⟨rfl, hB4⟩; obtain ⟨hc4, hf4⟩ := bcell hB4; have hz4 := hB4.size; try simp only [World.size_alloc] at hc4 hf4 hz4))
  refine wp_spec (by kernel_rfl) ?_
  repeat (refine spec_step ?_; intro K hK; go_big_quiet_op; go_big_quiet_on)
  refine spec_nil ?_
  intro us
  simp only [junk, Act.put, List.setIfInBounds_toArray, List.set_cons_zero, List.set_cons_succ]
  go_upto_region 10 with (fail)
  refine wp_spec_draw (by kernel_rfl) (by kernel_rfl) (by kernel_rfl) ?_
  repeat (refine spec_step ?_; intro K hK; go_big_quiet_op; go_big_quiet_on)
  refine spec_step ?_; intro K hK; go_big_quiet_op
  refine ⟨_, fun _ => quiet_ext (ltruth_any _ _), ?_⟩
  go_big_quiet_on
  repeat (refine spec_step ?_; intro K hK; go_big_quiet_op; go_big_quiet_on)
  refine spec_step ?_; intro K hK; go_big_quiet_op
  refine ⟨_, fun _ => quiet_ext (ltruth_any _ _), ?_⟩
  go_big_quiet_on
  repeat (refine spec_step ?_; intro K hK; go_big_quiet_op; go_big_quiet_on)
  refine spec_step ?_; intro K hK; go_big_quiet_op
  refine ⟨_, fun _ => quiet_ext (ltruth_any _ _), ?_⟩
  go_big_quiet_on
  repeat (refine spec_step ?_; intro K hK; go_big_quiet_op; go_big_quiet_on)
  refine spec_step ?_; intro K hK; go_big_quiet_op
  refine ⟨_, fun _ => quiet_ext (ltruth_any _ _), ?_⟩
  go_big_quiet_on
  repeat (refine spec_step ?_; intro K hK; go_big_quiet_op; go_big_quiet_on)
  refine spec_step ?_; intro K hK; go_big_quiet_op
  refine ⟨_, fun _ => quiet_ext (ltruth_any _ _), ?_⟩
  go_big_quiet_on
  repeat (refine spec_step ?_; intro K hK; go_big_quiet_op; go_big_quiet_on)
  refine spec_step ?_; intro K hK; go_big_quiet_op
  refine ⟨_, fun _ => quiet_ext (funRuns_any _), ?_⟩
  go_big_quiet_on
  repeat (refine spec_step ?_; intro K hK; go_big_quiet_op; go_big_quiet_on)
  refine spec_nil ?_
  intro us w10 hB10
  simp only [junk, Act.put, List.setIfInBounds_toArray, List.set_cons_zero, List.set_cons_succ]
  obtain ⟨hc10, hf10⟩ := bcell hB10; have hz10 := hB10.size; try simp only [World.size_alloc] at hc10 hf10 hz10
  go_wp2
  go_ret
  exact ⟨rfl, (by repeat (first | exact Below.refl _ _ | assumption | refine Below.alloc1 ?_ _ | refine Below.drew ?_ | refine Below.setCell ?_ (by first | exact Nat.le_refl _ | (simp; done) | omega | (simp; omega)) _ | refine Below.lift ?_ (by assumption)))⟩
end Go.Proofs.Ytnienipaicckmaa
