/-
  The plain laws of chapter 13: targets in another order, behind each other.
-/
import Derived.Test.YtnienipaicckmaaTarget
namespace Go.Proofs.Ytnienipaicckmaa
open Go.RowKit

theorem min_iff {α : Type} (f : α → Int) (l : List α) : ∀ (z c : Int), c ≤ l.foldl (fun o x => min o (f x)) z ↔ c ≤ z ∧ ∀ x ∈ l, c ≤ f x := by
  induction l with
  | nil => intro z c; simp
  | cons x l ih =>
    intro z c
    simp only [List.foldl_cons, ih, List.mem_cons, forall_eq_or_imp]
    constructor
    · rintro ⟨h1, h2⟩; exact ⟨by omega, by omega, h2⟩
    · rintro ⟨h1, h2, h3⟩; exact ⟨by omega, h3⟩
theorem max_iff {α : Type} (f : α → Int) (l : List α) : ∀ (z c : Int), l.foldl (fun o x => max o (f x)) z ≤ c ↔ z ≤ c ∧ ∀ x ∈ l, f x ≤ c := by
  induction l with
  | nil => intro z c; simp
  | cons x l ih =>
    intro z c
    simp only [List.foldl_cons, ih, List.mem_cons, forall_eq_or_imp]
    constructor
    · rintro ⟨h1, h2⟩; exact ⟨by omega, by omega, h2⟩
    · rintro ⟨h1, h2, h3⟩; exact ⟨by omega, h3⟩
theorem eq_of_le_iff {a b : Int} (h : ∀ c, c ≤ a ↔ c ≤ b) : a = b := by
  have h1 := (h a).1 (Int.le_refl _)
  have h2 := (h b).2 (Int.le_refl _)
  omega
theorem eq_of_ge_iff {a b : Int} (h : ∀ c, a ≤ c ↔ b ≤ c) : a = b := by
  have h1 := (h a).1 (Int.le_refl _)
  have h2 := (h b).2 (Int.le_refl _)
  omega
theorem allT_iff (y : List Mat) (g : List Giv) (c : Int) : c ≤ allT y g ↔ c ≤ 2 ∧ ∀ m ∈ y, c ≤ matchS m g := min_iff _ _ _ _
theorem anyT_iff (x : List (List Mat)) (g : List Giv) (c : Int) : anyT x g ≤ c ↔ 0 ≤ c ∧ ∀ y ∈ x, allT y g ≤ c := max_iff _ _ _ _
theorem metS_iff (t : List (List (List Mat))) (g : List Giv) (c : Int) : c ≤ metS t g ↔ c ≤ 2 ∧ ∀ x ∈ t, c ≤ anyT x g := min_iff _ _ _ _

/-- matches twice and the other way round -/
def allBk (y : List Mat) : List Mat := y.reverse.flatMap fun m => [m, m]
def anyBk (x : List (List Mat)) : List (List Mat) := x.reverse.map allBk
def tarBk (t : List (List (List Mat))) : List (List (List Mat)) := t.reverse.map anyBk
theorem allT_bk (y : List Mat) (g : List Giv) : allT (allBk y) g = allT y g := by
  refine eq_of_le_iff fun c => ?_
  rw [allT_iff, allT_iff]
  simp [allBk]
theorem anyT_bk (x : List (List Mat)) (g : List Giv) : anyT (anyBk x) g = anyT x g := by
  refine eq_of_ge_iff fun c => ?_
  rw [anyT_iff, anyT_iff]
  simp [anyBk, allT_bk]
theorem metS_bk (t : List (List (List Mat))) (g : List Giv) : metS (tarBk t) g = metS t g := by
  refine eq_of_le_iff fun c => ?_
  rw [metS_iff, metS_iff]
  simp [tarBk, anyT_bk]
theorem metS_append (t u : List (List (List Mat))) (g : List Giv) : metS (t ++ u) g = min (metS t g) (metS u g) := by
  refine eq_of_le_iff fun c => ?_
  rw [metS_iff, Int.le_min, metS_iff, metS_iff]
  simp only [List.mem_append]
  constructor
  · rintro ⟨h, h'⟩; exact ⟨⟨h, fun x hx => h' x (Or.inl hx)⟩, h, fun x hx => h' x (Or.inr hx)⟩
  · rintro ⟨⟨h, h1⟩, _, h2⟩; exact ⟨h, fun x hx => hx.elim (h1 x) (h2 x)⟩
theorem metS_twice (t : List (List (List Mat))) (g : List Giv) : metS (t ++ t) g = metS t g := by rw [metS_append]; omega
theorem anyT_append (x y : List (List Mat)) (g : List Giv) : anyT (x ++ y) g = max (anyT x g) (anyT y g) := by
  refine eq_of_ge_iff fun c => ?_
  rw [anyT_iff, Int.max_le, anyT_iff, anyT_iff]
  simp only [List.mem_append]
  constructor
  · rintro ⟨h, h'⟩; exact ⟨⟨h, fun x hx => h' x (Or.inl hx)⟩, h, fun x hx => h' x (Or.inr hx)⟩
  · rintro ⟨⟨h, h1⟩, _, h2⟩; exact ⟨h, fun x hx => hx.elim (h1 x) (h2 x)⟩
theorem metS_either (x y : List (List Mat)) (g : List Giv) : metS [x ++ y] g = max (metS [x] g) (metS [y] g) := by
  show min 2 (anyT (x ++ y) g) = max (min 2 (anyT x g)) (min 2 (anyT y g))
  rw [anyT_append]
  omega
theorem drop_step {α : Type} {l : List α} {k : Nat} (hk : k < l.length) : (l.drop k).reverse = (l.drop (k + 1)).reverse ++ [l[k]] := by
  rw [List.drop_eq_getElem_cons hk, List.reverse_cons]
theorem allBk_step {y : List Mat} {k : Nat} (hk : k < y.length) : allBk (y.drop k) = allBk (y.drop (k + 1)) ++ [y[k], y[k]] := by
  unfold allBk
  rw [drop_step hk, List.flatMap_append]; rfl
theorem anyBk_step {x : List (List Mat)} {k : Nat} (hk : k < x.length) : anyBk (x.drop k) = anyBk (x.drop (k + 1)) ++ [allBk x[k]] := by
  unfold anyBk
  rw [drop_step hk, List.map_append]; rfl
theorem tarBk_step {t : List (List (List Mat))} {k : Nat} (hk : k < t.length) : tarBk (t.drop k) = tarBk (t.drop (k + 1)) ++ [anyBk t[k]] := by
  unfold tarBk
  rw [drop_step hk, List.map_append]; rfl
theorem allBk_len (y : List Mat) : (allBk y).length = 2 * y.length := by
  induction y with
  | nil => rfl
  | cons x y ih =>
    unfold allBk at *
    rw [List.reverse_cons, List.flatMap_append, List.length_append, ih]
    simp; omega
theorem anyBk_len (x : List (List Mat)) : (anyBk x).length = x.length := by simp [anyBk]
theorem tarBk_len (t : List (List (List Mat))) : (tarBk t).length = t.length := by simp [tarBk]
end Go.Proofs.Ytnienipaicckmaa
