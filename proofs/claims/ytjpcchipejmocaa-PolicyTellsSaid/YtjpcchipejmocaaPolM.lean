/-
  Layer 8 in plain words: fewer names met, fewer rules so far, more levels left: what was right stays right.
-/
import Derived.Test.YtjpcchipejmocaaPolS
namespace Go.Proofs.Ytjpcchipejmocaa
set_option linter.unusedVariables false
set_option linter.unusedSimpArgs false
def Wlk.le (w v : Wlk) : Prop := (∀ s, hasS w.met s = true → hasS v.met s = true) ∧ w.rules ≤ v.rules
theorem Wlk.le_refl (w : Wlk) : w.le w := ⟨fun _ h => h, Int.le_refl _⟩
theorem hasS_snoc (m : List ByteArray) (s t : ByteArray) : hasS (m ++ [s]) t = (hasS m t || decide (t = s)) := by simp [hasS]
theorem Wlk.le_snoc {w v : Wlk} (h : w.le v) (s : ByteArray) {a b : Int} (hab : a ≤ b) : Wlk.le ⟨w.met ++ [s], a⟩ ⟨v.met ++ [s], b⟩ := by
  refine ⟨fun t ht => ?_, hab⟩
  simp only [hasS_snoc, Bool.or_eq_true] at ht ⊢
  exact ht.imp (h.1 t) id
theorem nameOk_le {w v : Wlk} (h : w.le v) {s : ByteArray} (hs : nameOk v.met s = true) : nameOk w.met s = true := by
  unfold nameOk at hs ⊢
  simp only [Bool.and_eq_true, Bool.not_eq_true'] at hs ⊢
  refine ⟨?_, hs.2⟩
  cases hw : hasS w.met s with
  | false => rfl
  | true => rw [h.1 s hw] at hs; cases hs.1
theorem ruleS_le {w v : Wlk} (h : w.le v) {r : Rul} (h0 : (ruleS v r).1 = 0) : (ruleS w r).1 = 0 ∧ (ruleS w r).2.le (ruleS v r).2 := by
  unfold ruleS at h0 ⊢
  by_cases hv : nameOk v.met r.id = true
  · have hw := nameOk_le h hv
    rw [if_pos hv] at h0 ⊢
    rw [if_pos hw]
    have h2 := h.2
    simp only at h0 ⊢
    by_cases h64 : 64 < v.rules + 1
    · rw [if_pos h64] at h0; cases h0
    · rw [if_neg h64] at h0
      rw [if_neg (by omega)]
      exact ⟨h0, Wlk.le_snoc h r.id (by omega)⟩
  · rw [if_neg hv] at h0; cases h0
theorem headS_le {w v : Wlk} (h : w.le v) {p : Pol} (h0 : (headS v p).1 = 0) : (headS w p).1 = 0 ∧ (headS w p).2.le (headS v p).2 := by
  unfold headS at h0 ⊢
  by_cases hv : nameOk v.met p.id = true
  · have hw := nameOk_le h hv
    simp only [hv, hw, Bool.true_and, nameM, if_true] at h0 ⊢
    exact ⟨h0, Wlk.le_snoc h p.id h.2⟩
  · simp [hv] at h0
theorem seqS_le {α : Type} {f f' : Wlk → α → Int × Wlk} (hf : ∀ w v x, w.le v → (f v x).1 = 0 → (f' w x).1 = 0 ∧ (f' w x).2.le (f v x).2) : ∀ {l : List α} {w v : Wlk}, w.le v → (seqS f v l).1 = 0 → (seqS f' w l).1 = 0 ∧ (seqS f' w l).2.le (seqS f v l).2
  | [], w, v, h, _ => ⟨rfl, h⟩
  | x :: r, w, v, h, h0 => by
    rw [seqS] at h0 ⊢
    rw [seqS]
    by_cases hx : (f v x).1 = 0
    · rw [if_pos hx] at h0 ⊢
      obtain ⟨h1, h2⟩ := hf w v x h hx
      rw [if_pos h1]
      exact seqS_le hf h2 h0
    · rw [if_neg hx] at h0; exact absurd h0 hx
theorem polS_le : ∀ {n m : Nat} (_ : n ≤ m) {w v : Wlk} {p : Pol}, w.le v → (polS n v p).1 = 0 → (polS m w p).1 = 0 ∧ (polS m w p).2.le (polS n v p).2
  | 0, m, _, w, v, p, h, h0 => by rw [polS] at h0; cases h0
  | n + 1, 0, hnm, _, _, _, _, _ => by omega
  | n + 1, m + 1, hnm, w, v, p, h, h0 => by
    rw [polS] at h0 ⊢
    rw [polS]
    by_cases h1 : (headS v p).1 = 0
    · rw [if_pos h1] at h0 ⊢
      obtain ⟨g1, g2⟩ := headS_le h h1
      rw [if_pos g1]
      by_cases h2 : (seqS ruleS (headS v p).2 p.rules).1 = 0
      · rw [if_pos h2] at h0 ⊢
        obtain ⟨k1, k2⟩ := seqS_le (f := ruleS) (f' := ruleS) (fun w v x h h0 => ruleS_le h h0) g2 h2
        rw [if_pos k1]
        exact seqS_le (f := polS n) (f' := polS m) (fun w v x h h0 => polS_le (by omega) h h0) k2 h0
      · rw [if_neg h2] at h0; exact absurd h0 h2
    · rw [if_neg h1] at h0; exact absurd h0 h1
/-- what is right within a row is right by itself -/
theorem seqS_each {α : Type} {f : Wlk → α → Int × Wlk} {Q : α → Prop} (hf : ∀ w x, (f w x).1 = 0 → Q x) : ∀ {l : List α} {w : Wlk}, (seqS f w l).1 = 0 → ∀ x ∈ l, Q x
  | [], w, _, x, hx => by simp at hx
  | y :: r, w, h0, x, hx => by
    rw [seqS] at h0
    by_cases hy : (f w y).1 = 0
    · rw [if_pos hy] at h0
      rcases List.mem_cons.1 hx with rfl | hx
      · exact hf w _ hy
      · exact seqS_each hf h0 x hx
    · rw [if_neg hy] at h0; exact absurd h0 hy
theorem le_start (w : Wlk) (h : 0 ≤ w.rules) : Wlk.le ⟨[], 0⟩ w := ⟨fun s hs => by simp [hasS] at hs, h⟩
theorem ruleS_lim {w : Wlk} {r : Rul} (hw : 0 ≤ w.rules ∧ w.rules ≤ 64) (h : (ruleS w r).1 = 0) : 0 ≤ (ruleS w r).2.rules ∧ (ruleS w r).2.rules ≤ 64 := by
  unfold ruleS at h ⊢
  split at h
  · rename_i hn
    rw [if_pos hn]
    simp only at h ⊢
    split at h
    · cases h
    · omega
  · cases h
theorem seqS_lim {α : Type} {f : Wlk → α → Int × Wlk} {P : Wlk → Prop} (hf : ∀ w x, P w → (f w x).1 = 0 → P (f w x).2) : ∀ {l : List α} {w : Wlk}, P w → (seqS f w l).1 = 0 → P (seqS f w l).2
  | [], w, hw, _ => hw
  | x :: r, w, hw, h => by
    rw [seqS] at h ⊢
    by_cases h0 : (f w x).1 = 0
    · rw [if_pos h0] at h ⊢
      exact seqS_lim hf (hf w x hw h0) h
    · rw [if_neg h0] at h; exact absurd h h0
abbrev lim (w : Wlk) : Prop := 0 ≤ w.rules ∧ w.rules ≤ 64
theorem polS_lim : ∀ (n : Nat) (w : Wlk) (p : Pol), lim w → (polS n w p).1 = 0 → lim (polS n w p).2
  | 0, w, p, _, h => by cases h
  | n + 1, w, p, hw, h => by
    have h1 : lim (headS w p).2 := hw
    rw [polS] at h ⊢
    split at h
    · rename_i h2
      rw [if_pos h2]
      split at h
      · rename_i h3
        rw [if_pos h3]
        exact seqS_lim (P := lim) (fun w x hw h => polS_lim n w x hw h) (seqS_lim (P := lim) (fun w x hw h => ruleS_lim hw h) h1 h3) h
      · rename_i h3; exact absurd h h3
    · rename_i h2; exact absurd h h2
end Go.Proofs.Ytjpcchipejmocaa
