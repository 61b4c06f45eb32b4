/-
  FunOver: the walk.
-/
import Derived.Test.YtnienipaicckmaaFunBack
import Derived.WalkLawsBesides
import Derived.WalkSpells
import Derived.Deep.Cut
import Derived.Deep.Light
namespace Go.Proofs.Ytnienipaicckmaa
open Go.RowKit
set_option linter.unusedSimpArgs false
set_option linter.unusedVariables false
attribute [local go_sem] ext_cell ext_frozen
attribute [local go_sem low] alloc_cell alloc_frozen
attribute [local go_sem ↓] eql_val







theorem within_some (n lo hi : Int) (w : World) (hn : R64 n) (h1 : 0 ≤ lo) (h2 : lo ≤ hi) (h3 : hi ≤ 4611686018427387904) :
    Calls Try.prog 35 #[.int .i64 n, .int .i64 lo, .int .i64 hi] w fun e w' => ∃ p : Int, e = .returned (.int .i64 p) ∧ lo ≤ p ∧ p ≤ hi ∧ w = w' :=
  (within_any n lo hi w hn h1 h2 h3).mono fun e w' ⟨he, hw⟩ => ⟨_, he, by have := Int.emod_nonneg n (show hi - lo + 1 ≠ 0 by omega); omega, by have := Int.emod_lt_of_pos n (show 0 < hi - lo + 1 by omega); omega, hw⟩
theorem mul_small {s t : Int} (h1 : -1073741824 ≤ s) (h2 : s ≤ 1073741824) (h3 : -1073741824 ≤ t) (h4 : t ≤ 1073741824) : -1152921504606846976 ≤ s * t ∧ s * t ≤ 1152921504606846976 := by
  have a1 : 0 ≤ (1073741824 - s) * (1073741824 - t) := Int.mul_nonneg (by omega) (by omega)
  have a2 : 0 ≤ (1073741824 + s) * (1073741824 + t) := Int.mul_nonneg (by omega) (by omega)
  have a3 : 0 ≤ (1073741824 - s) * (1073741824 + t) := Int.mul_nonneg (by omega) (by omega)
  have a4 : 0 ≤ (1073741824 + s) * (1073741824 - t) := Int.mul_nonneg (by omega) (by omega)
  rw [Int.sub_mul, Int.mul_sub, Int.mul_sub] at a1
  rw [Int.add_mul, Int.mul_add, Int.mul_add] at a2
  rw [Int.sub_mul, Int.mul_add, Int.mul_add] at a3
  rw [Int.add_mul, Int.mul_sub, Int.mul_sub] at a4
  omega
theorem funOver_any (a b : Int) (w : World) (ha : R64 a) (hb : R64 b) : Calls Try.prog 11 #[.int .i64 a, .int .i64 b] w fun e w' => e = .returned (.bool true) ∧ Below w.heap.size w w' := by
  go_enter Try.func11, Try.ntmps11
  go_upto_region 2 with ((first | (go_at_call 35; (with_reducible refine (within_some a 0 2147483648 _ ha (by omega) (by omega) (by omega)).mono ?_); rintro e w2 ⟨p, rfl, p1, p2, rfl⟩; obtain ⟨s, rfl⟩ : ∃ s, p = s + 1073741824 := ⟨p - 1073741824, by omega⟩) | (go_at_call 35; (with_reducible refine (within_some b 0 2147483648 _ hb (by omega) (by omega) (by omega)).mono ?_); rintro e w2 ⟨q, rfl, q1, q2, rfl⟩; obtain ⟨t, rfl⟩ : ∃ t, q = t + 1073741824 := ⟨q - 1073741824, by omega⟩)))
  have m := mul_small (s := s) (t := t) (by omega) (by omega) (by omega) (by omega)
  obtain ⟨m1, m2⟩ := m
  have e1 : mulS s t = (s * t, 0) := by simp [mulS, inI]; omega
  have e2 : addS s t = (s + t, 0) := by simp [addS, inI]; omega
  have rs : R64 s := ⟨by omega, by omega⟩
  have rt : R64 t := ⟨by omega, by omega⟩
  go_upto_region 6 with (first | (go_at_call 26; (with_reducible refine (mul_any s t _ rs rt).mono ?_); rintro e w2 ⟨rfl, rfl⟩) | (go_at_call 25; (with_reducible refine (add_any s t _ rs rt).mono ?_); rintro e w2 ⟨rfl, rfl⟩))
  go_upto_region 7 with (go_at_call 35; (with_reducible refine (within_some a 0 4611686018427387904 _ ha (by omega) (by omega) (by omega)).mono ?_); rintro e w2 ⟨k, rfl, k1, k2, rfl⟩)
  have r1 : R64 (9223372036854775807 - k) := ⟨by omega, by omega⟩
  have r2 : R64 (-9223372036854775808 + k) := ⟨by omega, by omega⟩
  have r3 : R64 k := ⟨by omega, by omega⟩
  have r4 : R64 (k + 1) := ⟨by omega, by omega⟩
  have f1 : addS (9223372036854775807 - k) k = (9223372036854775807, 0) := by simp [addS, inI]
  have f2 : addS (9223372036854775807 - k) (k + 1) = (0, 3) := by simp [addS, inI]; omega
  have f3 : subS (-9223372036854775808 + k) k = (-9223372036854775808, 0) := by simp [subS, inI]
  have f4 : subS (-9223372036854775808 + k) (k + 1) = (0, 3) := by simp [subS, inI]; omega
  go_upto_region 8 with (go_at_call 25; (with_reducible refine (add_any (9223372036854775807 - k) k _ r1 r3).mono ?_); rintro e w2 ⟨rfl, rfl⟩)
  go_upto_region 9 with (go_at_call 25; (with_reducible refine (add_any (9223372036854775807 - k) (k + 1) _ r1 r4).mono ?_); rintro e w2 ⟨rfl, rfl⟩)
  go_upto_region 10 with (go_at_call 30; (with_reducible refine (sub_any (-9223372036854775808 + k) k _ r2 r3).mono ?_); rintro e w2 ⟨rfl, rfl⟩)
  go_upto_region 11 with (go_at_call 30; (with_reducible refine (sub_any (-9223372036854775808 + k) (k + 1) _ r2 r4).mono ?_); rintro e w2 ⟨rfl, rfl⟩)
  go_wp2_with (go_at_call 8; (with_reducible refine (funRuns_any _).mono ?_); rintro e w2 ⟨rfl, hB2⟩)
  go_ret
  exact ⟨rfl, hB2⟩
end Go.Proofs.Ytnienipaicckmaa
