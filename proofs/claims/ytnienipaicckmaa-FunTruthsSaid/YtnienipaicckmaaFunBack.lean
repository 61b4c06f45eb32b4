/-
  FunBack: the walk.
-/
import Derived.Test.YtnienipaicckmaaFunRuns
import Derived.WalkLawsBesides
import Derived.WalkSpells
import Derived.Deep.Cut
import Derived.Deep.Light
namespace Go.Proofs.Ytnienipaicckmaa
open Go.RowKit
set_option linter.unusedSimpArgs false
set_option linter.unusedVariables false
attribute [local go_sem] ext_cell ext_frozen
attribute [local go_sem low] alloc_cell alloc_frozen
attribute [local go_sem ↓] eql_val







theorem addS_comm (a b : Int) : addS b a = addS a b := by unfold addS; rw [Int.add_comm]
theorem mulS_comm (a b : Int) : mulS b a = mulS a b := by unfold mulS; rw [Int.mul_comm]
theorem addS_cases (a b : Int) : (addS a b = (a + b, 0) ∧ R64 (a + b)) ∨ addS a b = (0, 3) := by
  cases h : inI (a + b) with
  | true =>
    left
    refine ⟨by simp [addS, h], ?_⟩
    simpa [inI, R64] using h
  | false => right; simp [addS, h]
theorem mulS_cases (a b : Int) : (mulS a b = (a * b, 0) ∧ R64 (a * b)) ∨ mulS a b = (0, 3) := by
  cases h : inI (a * b) with
  | true =>
    left
    refine ⟨by simp [mulS, h], ?_⟩
    simpa [inI, R64] using h
  | false => right; simp [mulS, h]
theorem inI_of {a : Int} (h : R64 a) : inI a = true := by simpa [inI, R64] using h
theorem funBack_any (a b : Int) (w : World) (ha : R64 a) (hb : R64 b) : Calls Try.prog 10 #[.int .i64 a, .int .i64 b] w fun e w' => e = .returned (.bool true) ∧ Below w.heap.size w w' := by
  have one : mulS a 1 = (a, 0) := by simp [mulS, inI_of ha]
  have none : subS a a = (0, 0) := by simp [subS, inI]
  have back : subS (a + b) b = (a, 0) := by simp [subS, Int.add_sub_cancel, inI_of ha]
  have c1 := addS_comm a b
  have c2 := mulS_comm a b
  have ha' := ha
  have hb' := hb
  obtain ⟨ha1, ha2⟩ := ha'
  obtain ⟨hb1, hb2⟩ := hb'
  have q1 : b ≠ 0 → (a * b).tmod b = 0 := fun _ => Int.mul_tmod_left ..
  have q2 : b ≠ 0 → (a * b).tdiv b = a := fun h0 => Int.mul_tdiv_cancel _ h0
  have one1 : R64 1 := r64_small 1 (by omega)
  rcases addS_cases a b with ⟨s1, r1⟩ | s1 <;> rcases mulS_cases a b with ⟨s2, r2⟩ | s2 <;> rcases Bool.eq_false_or_eq_true (b == 0) with h0 | h0
  all_goals
    first | have q3 := q1 (by simpa using h0) | skip
    first | have q4 := q2 (by simpa using h0) | skip
    have h0' : (b != 0) = !(b == 0) := rfl
    rw [h0] at h0'
    simp only [Bool.not_true, Bool.not_false] at h0'
    first | have h1 : ¬ b = 0 := by simpa using h0 | skip
    clear q1 q2
    go_enter Try.func10, Try.ntmps10
    go_upto_region 2 with (go_at_call 25; refine (add_any a b _ ha hb).mono ?_; rintro e w2 ⟨rfl, rfl⟩)
    go_upto_region 3 with (go_at_call 25; refine (add_any b a _ hb ha).mono ?_; rintro e w2 ⟨rfl, rfl⟩)
    go_upto_region 4 with (go_at_call 26; refine (mul_any a b _ ha hb).mono ?_; rintro e w2 ⟨rfl, rfl⟩)
    go_upto_region 5 with (go_at_call 26; refine (mul_any b a _ hb ha).mono ?_; rintro e w2 ⟨rfl, rfl⟩)
    go_upto_region 11 with (go_at_call 30; refine (sub_any (a + b) b _ r1 hb).mono ?_; rintro e w2 ⟨rfl, rfl⟩)
    go_upto_region 13 with (fail)
    go_upto_region 14 with (go_at_call 26; refine (mul_any a 1 _ ha one1).mono ?_; rintro e w2 ⟨rfl, rfl⟩)
    go_upto_region 15 with (go_at_call 30; refine (sub_any a a _ ha ha).mono ?_; rintro e w2 ⟨rfl, rfl⟩)
    go_wp2_with (go_at_call 8; refine (funRuns_any _).mono ?_; rintro e w2 ⟨rfl, hB2⟩)
    go_ret
    exact ⟨rfl, hB2⟩
end Go.Proofs.Ytnienipaicckmaa
