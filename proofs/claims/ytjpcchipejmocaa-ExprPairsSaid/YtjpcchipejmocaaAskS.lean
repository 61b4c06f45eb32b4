/-
  Layer 11 (ask) in plain words: where an attribute stands, its bag, a request with one more.
-/
import Derived.Test.YtjpcchipejmocaaSpec
namespace Go.Proofs.Ytjpcchipejmocaa
open Go.RowKit
/-- is an attribute of a request the one of that category and name? -/
def isG (cat : Int) (name : ByteArray) (g : Giv) : Bool := decide (g.cat = cat) && decide (g.name = name)
def placeS (cat : Int) (name : ByteArray) (l : List Giv) : Int := if l.findIdx (isG cat name) < l.length then (l.findIdx (isG cat name) : Int) else -1

theorem placeS_at {cat : Int} {name : ByteArray} {l : List Giv} {k : Nat} (hk : k < l.length) (h : ∀ g ∈ l.take k, isG cat name g = false) (hg : isG cat name l[k] = true) : placeS cat name l = k := by
  have e : l.findIdx (isG cat name) = k := (List.findIdx_eq hk).2 ⟨hg, fun j hj => h _ (List.mem_take_iff_getElem.2 ⟨j, by omega, rfl⟩)⟩
  unfold placeS
  rw [e, if_pos hk]
theorem placeS_no {cat : Int} {name : ByteArray} {l : List Giv} (h : ∀ g ∈ l, isG cat name g = false) : placeS cat name l = -1 := by
  have e : l.findIdx (isG cat name) = l.length := List.findIdx_eq_length.2 h
  unfold placeS
  rw [e, if_neg (Nat.lt_irrefl _)]
theorem take_no {α : Type} {p : α → Bool} {l : List α} {k : Nat} (hk : k < l.length) (h : ∀ g ∈ l.take k, p g = false) (hg : p l[k] = false) : ∀ g ∈ l.take (k + 1), p g = false := by
  intro g hm
  rw [List.take_succ_eq_append_getElem hk, List.mem_append, List.mem_singleton] at hm
  rcases hm with hm | rfl
  · exact h g hm
  · exact hg
/-- the bag of a request's attribute -/
def bagS (cat : Int) (name : ByteArray) (l : List Giv) : List Val := match l.find? (isG cat name) with | some g => g.bag | none => []
def getS (a : Atr) (l : List Giv) : List Val × Int := if (bagS a.cat a.name l).isEmpty && a.must then ([], 4) else (bagS a.cat a.name l, 0)
theorem bagS_no {cat : Int} {name : ByteArray} {l : List Giv} (h : ∀ g ∈ l, isG cat name g = false) : bagS cat name l = [] := by
  have : l.find? (isG cat name) = none := List.find?_eq_none.2 fun g hg => by simp [h g hg]
  simp [bagS, this]
theorem bagS_at {cat : Int} {name : ByteArray} {l : List Giv} {k : Nat} (hk : k < l.length) (h : ∀ g ∈ l.take k, isG cat name g = false) (hg : isG cat name l[k] = true) : bagS cat name l = l[k].bag := by
  have e : l = l.take k ++ l[k] :: l.drop (k + 1) := by rw [← List.drop_eq_getElem_cons hk, List.take_append_drop]
  have : l.find? (isG cat name) = some l[k] := by
    conv => lhs; rw [e]
    rw [List.find?_append, List.find?_eq_none.2 fun g hm => by simp [h g hm], List.find?_cons, hg]
    rfl
  simp [bagS, this]
/-- where an attribute stands -/
theorem place_cases (cat : Int) (name : ByteArray) (l : List Giv) : (placeS cat name l = -1 ∧ bagS cat name l = [] ∧ ∀ g ∈ l, isG cat name g = false) ∨ ∃ (k : Nat) (hk : k < l.length), placeS cat name l = k ∧ bagS cat name l = l[k].bag ∧ isG cat name l[k] = true ∧ ∀ g ∈ l.take k, isG cat name g = false := by
  by_cases h : l.findIdx (isG cat name) < l.length
  · right
    have h1 : isG cat name l[l.findIdx (isG cat name)] = true := List.findIdx_getElem (w := h)
    have h2 : ∀ g ∈ l.take (l.findIdx (isG cat name)), isG cat name g = false := by
      intro g hg
      obtain ⟨j, hj, rfl⟩ := List.mem_take_iff_getElem.1 hg
      exact List.not_of_lt_findIdx (by omega)
    exact ⟨_, h, placeS_at h h2 h1, bagS_at h h2 h1, h1, h2⟩
  · left
    have h1 : l.findIdx (isG cat name) = l.length := Nat.le_antisymm List.findIdx_le_length (by omega)
    have h2 := List.findIdx_eq_length.1 h1
    exact ⟨placeS_no h2, bagS_no h2, h2⟩
/-- a request with one attribute put in -/
def withS (l : List Giv) (g : Giv) : List Giv := if l.findIdx (isG g.cat g.name) < l.length then l.set (l.findIdx (isG g.cat g.name)) g else l ++ [g]
theorem find_set {α : Type} (p : α → Bool) (x : α) : ∀ (l : List α) (k : Nat) (hk : k < l.length), p x = false → p l[k] = false → (l.set k x).find? p = l.find? p
  | [], k, hk, _, _ => absurd hk (by simp)
  | y :: l, 0, hk, hx, hy => by
    simp only [List.getElem_cons_zero] at hy
    rw [List.set_cons_zero, List.find?_cons, List.find?_cons, hx, hy]
  | y :: l, k + 1, hk, hx, hy => by
    rw [List.set_cons_succ, List.find?_cons, List.find?_cons]
    cases p y with
    | true => rfl
    | false => exact find_set p x l k (by simpa using hk) hx (by simpa using hy)
theorem isG_same {c c' : Int} {n n' : ByteArray} {g g' : Giv} (h : isG g.cat g.name g' = true) (hn : isG c n g = false) : isG c n g' = false := by
  simp only [isG, Bool.and_eq_true, decide_eq_true_eq] at h
  rw [← hn]
  unfold isG
  rw [h.1, h.2]
theorem bagS_with (c : Int) (n : ByteArray) (l : List Giv) (g : Giv) (h : isG c n g = false) : bagS c n (withS l g) = bagS c n l := by
  unfold bagS withS
  by_cases hlt : l.findIdx (isG g.cat g.name) < l.length
  · rw [if_pos hlt]
    have h1 : isG g.cat g.name l[l.findIdx (isG g.cat g.name)] = true := List.findIdx_getElem (w := hlt)
    rw [find_set _ g l _ hlt h (isG_same (c' := 0) (n' := n) h1 h)]
  · rw [if_neg hlt, List.find?_append]
    cases hf : l.find? (isG c n) with
    | some x => rfl
    | none => simp [List.find?_cons, h]
theorem getS_with (a : Atr) (l : List Giv) (g : Giv) (h : isG a.cat a.name g = false) : getS a (withS l g) = getS a l := by
  unfold getS
  rw [bagS_with _ _ _ _ h]
end Go.Proofs.Ytjpcchipejmocaa
