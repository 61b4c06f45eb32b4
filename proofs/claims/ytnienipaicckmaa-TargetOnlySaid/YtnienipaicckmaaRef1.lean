/-
  Contracts of the references' functions of layers 3 and 6, and of the statements' own small functions.
-/
import Derived.Test.YtnienipaicckmaaFun3
import Derived.WalkLawsBesides
import Derived.WalkSpells
import Derived.Deep.Cut
import Derived.Deep.Light
namespace Go.Proofs.Ytnienipaicckmaa
open Go.RowKit
set_option linter.unusedSimpArgs false
set_option linter.unusedVariables false
attribute [local go_sem] ext_cell ext_frozen
attribute [local go_sem low] alloc_cell alloc_frozen
attribute [local go_sem ↓] eql_val







set_option maxHeartbeats 2000000 in
theorem ref_name_any (s : ByteArray) (w : World) (hs : s.size ≤ reachBytes) :
    Calls Try.prog 60 #[.string s] w fun e w' => e = .returned (.bool (nameS s)) ∧ w = w' := by
  unfold reachBytes at hs
  go_enter Try.func60, Try.ntmps60
  go_wp2
  go_loop [3, 4] (fun i _ => ∃ k : Nat, k ≤ s.size ∧ i = .int .i64 k ∧ Hid (∀ i (h : i < s.size), i < k → okC (i == 0) s[i].toNat = true)) (fun i _ => s.size - (intOf i).toNat)
  case atStart => exact ⟨0, Nat.zero_le _, rfl, fun i _ h => absurd h (by omega)⟩
  case round =>
    obtain ⟨k, hk, rfl, hok⟩ := hrel
    by_cases hlt : k < s.size
    · skip
      go_upto_region 5 with (fail)
      refine wp_spec (by kernel_rfl) ?_
      repeat (refine spec_step ?_; intro K hK; go_big_quiet_op; go_big_quiet_on)
      refine spec_nil ?_
      intro us
      simp only [junk, Act.put, List.setIfInBounds_toArray, List.set_cons_zero, List.set_cons_succ]
      go_wp2
      · go_ret
        refine ⟨ret_bool (nameS_no hlt ?_).symm, rfl⟩
        go_light
        simp [okC] at *
        omega
      · go_round
        case rel =>
          refine ⟨k + 1, by omega, by go_num, name_step hlt hok.out ?_⟩
          go_light
          simp [okC] at *
          omega
        case measure => simp [intOf]; omega
    · obtain rfl : k = s.size := by omega
      have e1 := hide (nameS_end hok.out)
      go_upto_region 7 with (fail)
      refine wp_spec (by kernel_rfl) ?_
      repeat (refine spec_step ?_; intro K hK; go_big_quiet_op; go_big_quiet_on)
      refine spec_nil ?_
      intro us
      simp only [junk, Act.put, List.setIfInBounds_toArray, List.set_cons_zero, List.set_cons_succ]
      go_wp2
      go_ret
      refine ⟨ret_bool ?_, rfl⟩
      rw [e1.out, Bool.eq_iff_iff]
      simp only [Bool.and_eq_true, decide_eq_true_eq]
      omega
theorem ref_right_any (k n : Int) (s : ByteArray) (w : World) (hs : s.size ≤ reachBytes) :
    Calls Try.prog 50 #[.agg #[.int .i64 k, .int .i64 n, .string s]] w fun e w' => e = .returned (.bool (Val.right ⟨k, n, s⟩)) ∧ Below w.heap.size w w' := by
  unfold reachBytes at hs
  have hs' : s.size ≤ reachBytes := hs
  go_enter Try.func50, Try.ntmps50
  go_wp2_with (go_at_call 60; refine (ref_name_any _ _ hs').mono ?_; rintro e w1 ⟨rfl, rfl⟩)
  all_goals
    go_ret
    refine ⟨ret_bool ?_, (Below.refl _ _).alloc (Nat.le_refl _) _⟩
    go_light
    simp only [beq_iff_eq, beq_eq_false_iff_ne, ne_eq] at *
    simp [Val.right, toList_size, *]
    try omega
theorem ref_less_any (k n : Int) (s : ByteArray) (k' n' : Int) (s' : ByteArray) (w : World) (hs : s.size ≤ reachBytes) (hs' : s'.size ≤ reachBytes) :
    Calls Try.prog 44 #[.agg #[.int .i64 k, .int .i64 n, .string s], .agg #[.int .i64 k', .int .i64 n', .string s']] w
      fun e w' => e = .returned (.tuple #[.bool (lessS ⟨k, n, s⟩ ⟨k', n', s'⟩).1, .int .i64 (lessS ⟨k, n, s⟩ ⟨k', n', s'⟩).2]) ∧ Below w.heap.size w w' := by
  go_enter Try.func44, Try.ntmps44
  go_upto_region 1 with (fail)
  refine wp_spec_ext (by kernel_rfl) ?_
  repeat (refine spec_step ?_; intro K hK; go_big_quiet_op; go_big_quiet_on)
  refine spec_step ?_; intro K hK; go_big_quiet_op
  refine ⟨_, fun _ => quiet_ext (ref_right_any _ _ _ _ hs), ?_⟩
  go_big_quiet_on
  repeat (refine spec_step ?_; intro K hK; go_big_quiet_op; go_big_quiet_on)
  refine spec_step ?_; intro K hK; go_big_quiet_op
  refine ⟨_, fun _ => quiet_ext (ref_right_any _ _ _ _ hs'), ?_⟩
  go_big_quiet_on
  repeat (refine spec_step ?_; intro K hK; go_big_quiet_op; go_big_quiet_on)
  refine spec_nil ?_
  intro us w1 hB1
  simp only [junk, Act.put, List.setIfInBounds_toArray, List.set_cons_zero, List.set_cons_succ]
  obtain ⟨hc1, hf1⟩ := bcell hB1; have hz1 := hB1.size; try simp only [World.size_alloc, World.size_drew] at hc1 hf1 hz1
  go_upto_region 3 with (fail)
  · go_ret2
    refine ⟨ret_bi ?_, (by repeat (first | exact Below.refl _ _ | assumption | refine Below.alloc1 ?_ _ | refine Below.drew ?_ | refine below_drewl ?_ | refine Below.setCell ?_ (by first | exact Nat.le_refl _ | (simp; done) | omega | (simp; omega)) _ | refine Below.lift ?_ (by assumption)))⟩
    go_light
    simp_all [lessS]
  · have h : (!{ kind := k, n := n, s := s : Val }.right) = false ∧ (!{ kind := k', n := n', s := s' : Val }.right) = false := by assumption
    have H := hide h
    clear h
    refine wp_spec (by kernel_rfl) ?_
    repeat (refine spec_step ?_; intro K hK; go_big_quiet_op; go_big_quiet_on)
    refine spec_nil ?_
    intro us
    simp only [junk, Act.put, List.setIfInBounds_toArray, List.set_cons_zero, List.set_cons_succ]
    go_upto_region 5 with (fail)
    · go_ret2
      refine ⟨ret_bi ?_, (by repeat (first | exact Below.refl _ _ | assumption | refine Below.alloc1 ?_ _ | refine Below.drew ?_ | refine below_drewl ?_ | refine Below.setCell ?_ (by first | exact Nat.le_refl _ | (simp; done) | omega | (simp; omega)) _ | refine Below.lift ?_ (by assumption)))⟩
      have h := H.out
      go_light
      simp_all [lessS, lessB]
    · skip
      refine wp_spec (by kernel_rfl) ?_
      repeat (refine spec_step ?_; intro K hK; go_big_quiet_op; go_big_quiet_on)
      refine spec_nil ?_
      intro us
      simp only [junk, Act.put, List.setIfInBounds_toArray, List.set_cons_zero, List.set_cons_succ]
      go_wp2
      all_goals
        go_ret2
        refine ⟨ret_bi ?_, (by repeat (first | exact Below.refl _ _ | assumption | refine Below.alloc1 ?_ _ | refine Below.drew ?_ | refine below_drewl ?_ | refine Below.setCell ?_ (by first | exact Nat.le_refl _ | (simp; done) | omega | (simp; omega)) _ | refine Below.lift ?_ (by assumption)))⟩
        have h := H.out
        go_light
        simp_all [lessS, lessB, textsS]
        try (intro h1; simp_all)
theorem ref_add_any (a b : Int) (w : World) (ha : R64 a) (hb : R64 b) :
    Calls Try.prog 31 #[.int .i64 a, .int .i64 b] w fun e w' => e = .returned (.tuple #[.int .i64 (addS a b).1, .int .i64 (addS a b).2]) ∧ w = w' := by
  obtain ⟨ha, ha'⟩ := ha
  obtain ⟨hb, hb'⟩ := hb
  go_enter Try.func31, Try.ntmps31
  go_upto_region 2 with (fail)
  refine wp_spec (by kernel_rfl) ?_
  repeat (refine spec_step ?_; intro K hK; go_big_quiet_op; go_big_quiet_on)
  refine spec_nil ?_
  intro us
  simp only [junk, Act.put, List.setIfInBounds_toArray, List.set_cons_zero, List.set_cons_succ]
  go_wp2
  · go_ret2
    refine ⟨ret_ii ?_, rfl⟩
    go_light
    simp at *
    unfold wrap64 at *
    unfold addS inI
    rw [if_neg (by simp; omega)]
  · go_ret2
    refine ⟨ret_ii ?_, rfl⟩
    go_light
    simp at *
    have hin : -9223372036854775808 ≤ a + b ∧ a + b ≤ 9223372036854775807 := by
      unfold wrap64 at *
      omega
    have : wrap64 (a + b) = a + b := by unfold wrap64; omega
    unfold addS inI
    rw [if_pos (by simp; omega), this]
theorem ref_sub_any (a b : Int) (w : World) (ha : R64 a) (hb : R64 b) :
    Calls Try.prog 32 #[.int .i64 a, .int .i64 b] w fun e w' => e = .returned (.tuple #[.int .i64 (subS a b).1, .int .i64 (subS a b).2]) ∧ w = w' := by
  obtain ⟨ha, ha'⟩ := ha
  obtain ⟨hb, hb'⟩ := hb
  go_enter Try.func32, Try.ntmps32
  go_upto_region 2 with (fail)
  refine wp_spec (by kernel_rfl) ?_
  repeat (refine spec_step ?_; intro K hK; go_big_quiet_op; go_big_quiet_on)
  refine spec_nil ?_
  intro us
  simp only [junk, Act.put, List.setIfInBounds_toArray, List.set_cons_zero, List.set_cons_succ]
  go_wp2
  · go_ret2
    refine ⟨ret_ii ?_, rfl⟩
    go_light
    simp at *
    unfold wrap64 at *
    unfold subS inI
    rw [if_neg (by simp; omega)]
  · go_ret2
    refine ⟨ret_ii ?_, rfl⟩
    go_light
    simp at *
    have hin : -9223372036854775808 ≤ a - b ∧ a - b ≤ 9223372036854775807 := by
      unfold wrap64 at *
      omega
    have : wrap64 (a - b) = a - b := by unfold wrap64; omega
    unfold subS inI
    rw [if_pos (by simp; omega), this]

theorem ref_mul_any (a b : Int) (w : World) (ha : R64 a) (hb : R64 b) :
    Calls Try.prog 33 #[.int .i64 a, .int .i64 b] w fun e w' => e = .returned (.tuple #[.int .i64 (mulS a b).1, .int .i64 (mulS a b).2]) ∧ w = w' := by
  obtain ⟨ha, ha'⟩ := ha
  obtain ⟨hb, hb'⟩ := hb
  by_cases h0 : a = 0 ∨ b = 0
  · have hr : Hid (mulS a b = (0, 0)) := by
      show _ = _
      rcases h0 with rfl | rfl <;> simp [mulS, inI]
    have h1 : ((a == 0) || (b == 0)) = true := by simpa using h0
    clear h0
    go_enter Try.func33, Try.ntmps33
    go_upto_region 1 with (fail)
    refine wp_spec (by kernel_rfl) ?_
    repeat (refine spec_step ?_; intro K hK; go_big_quiet_op; go_big_quiet_on)
    refine spec_nil ?_
    intro us
    simp only [junk, Act.put, List.setIfInBounds_toArray, List.set_cons_zero, List.set_cons_succ]
    go_wp2
    go_ret2
    exact ⟨ret_ii hr.out, rfl⟩
  · have ha0 : a ≠ 0 := fun h => h0 (Or.inl h)
    have hb0 : b ≠ 0 := fun h => h0 (Or.inr h)
    have H := hide (mul_over hb hb' ha ha' hb0)
    have h1 : (a == 0) = false := by simpa using ha0
    have h2 : (b == 0) = false := by simpa using hb0
    clear h0 ha0
    go_enter Try.func33, Try.ntmps33
    go_upto_region 1 with (fail)
    refine wp_spec (by kernel_rfl) ?_
    repeat (refine spec_step ?_; intro K hK; go_big_quiet_op; go_big_quiet_on)
    refine spec_nil ?_
    intro us
    simp only [junk, Act.put, List.setIfInBounds_toArray, List.set_cons_zero, List.set_cons_succ]
    go_upto_region 4 with (fail)
    refine wp_spec (by kernel_rfl) ?_
    repeat (refine spec_step ?_; intro K hK; go_big_quiet_op; go_big_quiet_on)
    refine spec_nil ?_
    intro us
    simp only [junk, Act.put, List.setIfInBounds_toArray, List.set_cons_zero, List.set_cons_succ]
    go_wp2
    · go_ret2
      refine ⟨ret_ii ?_, rfl⟩
      have h := H.out
      rw [Int.mul_comm b a] at h
      go_light
      unfold mulS
      rw [h.1 (by simp at *; omega)]
      rfl
    · go_ret2
      refine ⟨ret_ii ?_, rfl⟩
      have h := H.out
      rw [Int.mul_comm b a] at h
      go_light
      have hin : inI (a * b) = true := by
        cases hc : inI (a * b) with
        | true => rfl
        | false =>
          exfalso
          have := h.2 hc
          simp at *
          omega
      unfold mulS
      rw [hin]
      simp only [inI, Bool.and_eq_true, decide_eq_true_eq] at hin
      have : wrap64 (a * b) = a * b := by unfold wrap64; omega
      rw [this]; rfl
theorem ref_bool_any (b : Bool) (w : World) :
    Calls Try.prog 51 #[.bool b] w fun e w' => e = .returned (.agg #[.int .i64 1, .int .i64 (bitI b), .string ⟨#[]⟩]) ∧ Below w.heap.size w w' := by
  cases b
  · go_enter Try.func51, Try.ntmps51
    go_wp2
    refine bodyPost_ret (v := .agg #[.int .i64 1, .int .i64 0, .string ⟨#[]⟩]) (by simp [results, Try.results51, go_sem, ↓IntWalk.iteOmega]) rfl ?_
    exact ⟨rfl, (by repeat (first | exact Below.refl _ _ | assumption | refine Below.alloc1 ?_ _ | refine Below.drew ?_ | refine below_drewl ?_ | refine Below.setCell ?_ (by first | exact Nat.le_refl _ | (simp; done) | omega | (simp; omega)) _ | refine Below.lift ?_ (by assumption)))⟩
  · go_enter Try.func51, Try.ntmps51
    go_wp2
    refine bodyPost_ret (v := .agg #[.int .i64 1, .int .i64 1, .string ⟨#[]⟩]) (by simp [results, Try.results51, go_sem, ↓IntWalk.iteOmega]) rfl ?_
    exact ⟨rfl, (by repeat (first | exact Below.refl _ _ | assumption | refine Below.alloc1 ?_ _ | refine Below.drew ?_ | refine below_drewl ?_ | refine Below.setCell ?_ (by first | exact Nat.le_refl _ | (simp; done) | omega | (simp; omega)) _ | refine Below.lift ?_ (by assumption)))⟩
theorem within_any (n lo hi : Int) (w : World) (hn : R64 n) (h1 : 0 ≤ lo) (h2 : lo ≤ hi) (h3 : hi ≤ 4611686018427387904) :
    Calls Try.prog 35 #[.int .i64 n, .int .i64 lo, .int .i64 hi] w fun e w' => e = .returned (.int .i64 (lo + n % (hi - lo + 1))) ∧ w = w' := by
  obtain ⟨hn, hn'⟩ := hn
  have r0 := Int.emod_nonneg n (show hi - lo + 1 ≠ 0 by omega)
  have r1 := Int.emod_lt_of_pos n (show 0 < hi - lo + 1 by omega)
  have e : (n.tmod (hi - lo + 1) = n % (hi - lo + 1) ∧ 0 ≤ n % (hi - lo + 1)) ∨ (n.tmod (hi - lo + 1) = n % (hi - lo + 1) - (hi - lo + 1) ∧ n % (hi - lo + 1) - (hi - lo + 1) < 0) := by
    rw [Int.tmod_eq_emod]
    have hab : ((hi - lo + 1).natAbs : Int) = hi - lo + 1 := by omega
    split
    · left; omega
    · right; omega
  generalize n % (hi - lo + 1) = r at *
  rcases e with ⟨e, hneg⟩ | ⟨e, hneg⟩
  · go_enter Try.func35, Try.ntmps35
    go_wp2
    go_ret
    exact ⟨rfl, rfl⟩
  · go_enter Try.func35, Try.ntmps35
    go_wp2
    go_ret
    exact ⟨ret_int (by omega), rfl⟩
theorem num_any (n : Int) (w : World) :
    Calls Try.prog 28 #[.int .i64 n] w fun e w' => e = .returned (.agg #[.int .i64 2, .int .i64 n, .string ⟨#[]⟩]) ∧ Below w.heap.size w w' := by
  go_enter Try.func28, Try.ntmps28
  go_wp2
  refine bodyPost_ret (v := .agg #[.int .i64 2, .int .i64 n, .string ⟨#[]⟩]) (by simp [results, Try.results28, go_sem, ↓IntWalk.iteOmega]) rfl ?_
  exact ⟨rfl, (by repeat (first | exact Below.refl _ _ | assumption | refine Below.alloc1 ?_ _ | refine Below.drew ?_ | refine below_drewl ?_ | refine Below.setCell ?_ (by first | exact Nat.le_refl _ | (simp; done) | omega | (simp; omega)) _ | refine Below.lift ?_ (by assumption)))⟩
theorem ltruth_any (b : Bool) (w : World) :
    Calls Try.prog 29 #[.bool b] w fun e w' => e = .returned (.agg #[.int .i64 1, .int .i64 (bitI b), .string ⟨#[]⟩]) ∧ Below w.heap.size w w' := by
  cases b
  · go_enter Try.func29, Try.ntmps29
    go_wp2
    refine bodyPost_ret (v := .agg #[.int .i64 1, .int .i64 0, .string ⟨#[]⟩]) (by simp [results, Try.results29, go_sem, ↓IntWalk.iteOmega]) rfl ?_
    exact ⟨rfl, (by repeat (first | exact Below.refl _ _ | assumption | refine Below.alloc1 ?_ _ | refine Below.drew ?_ | refine below_drewl ?_ | refine Below.setCell ?_ (by first | exact Nat.le_refl _ | (simp; done) | omega | (simp; omega)) _ | refine Below.lift ?_ (by assumption)))⟩
  · go_enter Try.func29, Try.ntmps29
    go_wp2
    refine bodyPost_ret (v := .agg #[.int .i64 1, .int .i64 1, .string ⟨#[]⟩]) (by simp [results, Try.results29, go_sem, ↓IntWalk.iteOmega]) rfl ?_
    exact ⟨rfl, (by repeat (first | exact Below.refl _ _ | assumption | refine Below.alloc1 ?_ _ | refine Below.drew ?_ | refine below_drewl ?_ | refine Below.setCell ?_ (by first | exact Nat.le_refl _ | (simp; done) | omega | (simp; omega)) _ | refine Below.lift ?_ (by assumption)))⟩
end Go.Proofs.Ytnienipaicckmaa
