/-
  Layer 3 (value): what the statements on values say of plain values.
-/
import Derived.Test.YtiiagdnmbpdlaaaDoorSpec
namespace Go.Proofs.YtiiagdnmbpdlaaaDoor
set_option linter.unusedVariables false
set_option linter.unusedSimpArgs false
open Go.RowKit

theorem bl_irrefl : ∀ l : List UInt8, Op.bytesLess l l = false
  | [] => rfl
  | a :: r => by
    rw [Op.bytesLess, bl_irrefl r]
    simp
theorem u8_lt (a b : UInt8) : a < b ↔ a.toNat < b.toNat := Iff.rfl
theorem u8_eq {a b : UInt8} (h : a.toNat = b.toNat) : a = b := UInt8.toNat_inj.1 h
theorem bl_cons (a b : UInt8) (x y : List UInt8) : Op.bytesLess (a :: x) (b :: y) = true ↔ a.toNat < b.toNat ∨ (a = b ∧ Op.bytesLess x y = true) := by
  rw [Op.bytesLess]
  simp [u8_lt]
theorem bl_asymm : ∀ {x y : List UInt8}, Op.bytesLess x y = true → Op.bytesLess y x = false
  | [], [], h => by cases h
  | [], b :: y, h => rfl
  | a :: x, [], h => by cases h
  | a :: x, b :: y, h => by
    rw [bl_cons] at h
    cases hc : Op.bytesLess (b :: y) (a :: x) with
    | false => rfl
    | true =>
      rw [bl_cons] at hc
      rcases h with h | ⟨rfl, h⟩
      · rcases hc with hc | ⟨rfl, hc⟩ <;> omega
      · rcases hc with hc | ⟨_, hc⟩
        · omega
        · rw [bl_asymm h] at hc; cases hc
theorem bl_tri : ∀ {x y : List UInt8}, Op.bytesLess x y = false → Op.bytesLess y x = false → x = y
  | [], [], _, _ => rfl
  | [], b :: y, h, _ => by cases h
  | a :: x, [], _, h => by cases h
  | a :: x, b :: y, h1, h2 => by
    have n1 : ¬ (a.toNat < b.toNat ∨ (a = b ∧ Op.bytesLess x y = true)) := fun h => by rw [← bl_cons] at h; rw [h] at h1; cases h1
    have n2 : ¬ (b.toNat < a.toNat ∨ (b = a ∧ Op.bytesLess y x = true)) := fun h => by rw [← bl_cons] at h; rw [h] at h2; cases h2
    have e : a = b := u8_eq (by omega)
    subst e
    have e := bl_tri (x := x) (y := y) (by simpa using n1) (by simpa using n2)
    rw [e]
theorem bl_trans : ∀ {x y z : List UInt8}, Op.bytesLess x y = true → Op.bytesLess y z = true → Op.bytesLess x z = true
  | [], [], _, h, _ => by cases h
  | [], _ :: _, [], _, h => by cases h
  | [], _ :: _, _ :: _, _, _ => rfl
  | _ :: _, [], _, h, _ => by cases h
  | _ :: _, _ :: _, [], _, h => by cases h
  | a :: x, b :: y, c :: z, h1, h2 => by
    rw [bl_cons] at h1 h2 ⊢
    rcases h1 with h1 | ⟨rfl, h1⟩
    · rcases h2 with h2 | ⟨rfl, h2⟩
      · exact .inl (by omega)
      · exact .inl h1
    · rcases h2 with h2 | ⟨rfl, h2⟩
      · exact .inl h2
      · exact .inr ⟨rfl, bl_trans h1 h2⟩
theorem right_text {a : Val} (h : a.right = true) (ht : textsS a.kind = true) : a.n = 0 := by
  unfold textsS at ht
  rw [Bool.or_eq_true, decide_eq_true_eq, decide_eq_true_eq] at ht
  unfold Val.right at h
  rcases ht with e | e
  · rw [if_neg (by omega), if_neg (by omega), if_pos e, Bool.and_eq_true] at h
    exact of_decide_eq_true h.1
  · rw [if_neg (by omega), if_neg (by omega), if_neg (by omega), if_neg (by omega), if_pos e, Bool.and_eq_true] at h
    exact of_decide_eq_true h.1
theorem right_num {a : Val} (h : a.right = true) (h1 : a.kind ≠ 1) (ht : textsS a.kind = false) : a.s.size = 0 := by
  unfold textsS at ht
  rw [Bool.or_eq_false_iff, decide_eq_false_iff_not, decide_eq_false_iff_not] at ht
  unfold Val.right at h
  rw [if_neg h1] at h
  by_cases e2 : a.kind = 2
  · rw [if_pos e2] at h; exact of_decide_eq_true h
  · rw [if_neg e2, if_neg ht.1] at h
    by_cases e4 : a.kind = 4
    · rw [if_pos e4, Bool.and_eq_true] at h; exact of_decide_eq_true h.2
    · rw [if_neg e4, if_neg ht.2] at h; cases h
theorem less_zero {a b : Val} (h : (lessS a b).2 = 0) : a.right = true ∧ b.right = true ∧ a.kind = b.kind ∧ a.kind ≠ 1 ∧ (lessS a b).1 = if textsS a.kind then lessB a.s b.s else decide (a.n < b.n) := by
  unfold lessS at h ⊢
  cases ha : a.right <;> cases hb : b.right <;> simp [ha, hb] at h ⊢
  split at h
  · simp at h
  · rename_i hk
    have hk' : a.kind = b.kind ∧ a.kind ≠ 1 := ⟨Classical.byContradiction fun h => hk (.inl h), fun h => hk (.inr h)⟩
    refine ⟨hk'.1, hk'.2, ?_⟩
    rw [if_neg hk]
    split <;> rfl
theorem less_err {a b : Val} (h : (lessS a b).2 ≠ 0) : (lessS a b).1 = false := by
  by_cases h1 : (!a.right || !b.right) = true
  · unfold lessS; rw [if_pos h1]
  · by_cases h2 : a.kind ≠ b.kind ∨ a.kind = 1
    · unfold lessS; rw [if_neg h1, if_pos h2]
    · exfalso; apply h; unfold lessS; rw [if_neg h1, if_neg h2]; split <;> rfl
theorem less_of {a b : Val} (ha : a.right = true) (hb : b.right = true) (hk : a.kind = b.kind) (h1 : a.kind ≠ 1) : (lessS a b).2 = 0 := by
  unfold lessS
  simp only [ha, hb, Bool.not_true, Bool.or_self, Bool.false_eq_true, if_false]
  rw [if_neg (by rintro (h | h); exact h hk; exact h1 h)]
  split <;> rfl
theorem less_swap (a b : Val) : (lessS a b).2 = (lessS b a).2 := by
  unfold lessS
  cases ha : a.right <;> cases hb : b.right <;> simp
  by_cases hk : a.kind ≠ b.kind ∨ a.kind = 1
  · rw [if_pos hk, if_pos (by rcases hk with h | h; exact .inl (Ne.symm h); exact (Classical.em (b.kind = a.kind)).elim (fun e => .inr (by omega)) .inl)]
  · have hk' : a.kind = b.kind ∧ a.kind ≠ 1 := ⟨Classical.byContradiction fun h => hk (.inl h), fun h => hk (.inr h)⟩
    have hk2 : ¬ (b.kind ≠ a.kind ∨ b.kind = 1) := by rintro (h | h); exact h hk'.1.symm; omega
    rw [if_neg hk, if_neg hk2]
    split <;> split <;> rfl
theorem same_iff {a b : Val} : sameV a b = true ↔ a = b := by
  cases a; cases b
  simp [sameV, and_assoc]
theorem less_one {a b : Val} (h : (lessS a b).2 = 0) : ((lessS a b).1 && (lessS b a).1) = false ∧ ((lessS a b).1 || (lessS b a).1) = !(sameV a b) := by
  have h' := h
  rw [less_swap] at h'
  obtain ⟨ra, rb, hk, k1, e1⟩ := less_zero h
  obtain ⟨_, _, _, _, e2⟩ := less_zero h'
  rw [e1, e2, ← hk]
  cases ht : textsS a.kind with
  | true =>
    have na := right_text ra ht
    have nb := right_text rb (by rw [← hk]; exact ht)
    have hs : sameV a b = decide (a.s = b.s) := by simp [sameV, hk, na, nb]
    rw [hs]
    simp only [if_true, lessB]
    by_cases e : a.s = b.s
    · rw [e]; simp [bl_irrefl]
    · cases h1 : Op.bytesLess a.s.toList b.s.toList with
      | true => rw [bl_asymm h1]; simp [e]
      | false =>
        cases h2 : Op.bytesLess b.s.toList a.s.toList with
        | true => simp [e]
        | false => exact absurd (toList_inj (bl_tri h1 h2)) e
  | false =>
    have sa := right_num ra k1 ht
    have sb := right_num rb (by rw [← hk]; exact k1) (by rw [← hk]; exact ht)
    have es : a.s = b.s := by rw [← empty_size] at sa sb; rw [sa, sb]
    have hs : sameV a b = decide (a.n = b.n) := by simp [sameV, hk, es]
    rw [hs]
    simp only [Bool.false_eq_true, if_false]
    by_cases h1 : a.n < b.n <;> by_cases h2 : b.n < a.n <;> by_cases h3 : a.n = b.n <;> simp [h1, h2, h3] <;> omega
theorem less_on {a b c : Val} (h : (lessS a b).2 = 0) (h2 : (lessS b c).2 = 0) : (lessS a c).2 = 0 ∧ ((lessS a b).1 = true → (lessS b c).1 = true → (lessS a c).1 = true) := by
  obtain ⟨ra, rb, hk, k1, e1⟩ := less_zero h
  obtain ⟨_, rc, hk2, _, e2⟩ := less_zero h2
  have h3 := less_of ra rc (hk.trans hk2) k1
  obtain ⟨_, _, _, _, e3⟩ := less_zero h3
  refine ⟨h3, ?_⟩
  rw [e1, e2, e3, ← hk]
  cases ht : textsS a.kind with
  | true => exact fun h1 h2 => bl_trans h1 h2
  | false =>
    simp only [Bool.false_eq_true, if_false, decide_eq_true_eq]
    omega
end Go.Proofs.YtiiagdnmbpdlaaaDoor
