/-
  ask.With in plain Lean, and what it leaves alone; stores into a row of the call's own. 
-/
import Derived.Test.YtnienipaicckmaaBag
namespace Go.Proofs.Ytnienipaicckmaa
open Go.RowKit

/-- a request with one attribute put in -/
def withS (l : List Giv) (g : Giv) : List Giv := if l.findIdx (isG g.cat g.name) < l.length then l.set (l.findIdx (isG g.cat g.name)) g else l ++ [g]
theorem find_set {α : Type} (p : α → Bool) (x : α) : ∀ (l : List α) (k : Nat) (hk : k < l.length), p x = false → p l[k] = false → (l.set k x).find? p = l.find? p
  | [], k, hk, _, _ => absurd hk (by simp)
  | y :: l, 0, hk, hx, hy => by
    simp only [List.getElem_cons_zero] at hy
    rw [List.set_cons_zero, List.find?_cons, List.find?_cons, hx, hy]
  | y :: l, k + 1, hk, hx, hy => by
    rw [List.set_cons_succ, List.find?_cons, List.find?_cons]
    cases p y with
    | true => rfl
    | false => exact find_set p x l k (by simpa using hk) hx (by simpa using hy)
theorem isG_same {c c' : Int} {n n' : ByteArray} {g g' : Giv} (h : isG g.cat g.name g' = true) (hn : isG c n g = false) : isG c n g' = false := by
  simp only [isG, Bool.and_eq_true, decide_eq_true_eq] at h
  rw [← hn]
  unfold isG
  rw [h.1, h.2]
theorem bagS_with (c : Int) (n : ByteArray) (l : List Giv) (g : Giv) (h : isG c n g = false) : bagS c n (withS l g) = bagS c n l := by
  unfold bagS withS
  by_cases hlt : l.findIdx (isG g.cat g.name) < l.length
  · rw [if_pos hlt]
    have h1 : isG g.cat g.name l[l.findIdx (isG g.cat g.name)] = true := List.findIdx_getElem (w := hlt)
    rw [find_set _ g l _ hlt h (isG_same (c' := 0) (n' := n) h1 h)]
  · rw [if_neg hlt, List.find?_append]
    cases hf : l.find? (isG c n) with
    | some x => rfl
    | none => simp [List.find?_cons, h]
theorem getS_with (a : Atr) (l : List Giv) (g : Giv) (h : isG a.cat a.name g = false) : getS a (withS l g) = getS a l := by
  unfold getS
  rw [bagS_with _ _ _ _ h]
theorem matchS_with (m : Mat) (l : List Giv) (g : Giv) (h : isG m.attr.cat m.attr.name g = false) : matchS m (withS l g) = matchS m l := by
  unfold matchS
  rw [getS_with _ _ _ h]
theorem metS_with (t : List (List (List Mat))) (l : List Giv) (g : Giv) (h : ∀ x ∈ t, ∀ y ∈ x, ∀ m ∈ y, isG m.attr.cat m.attr.name g = false) : metS t (withS l g) = metS t l := by
  refine eq_of_le_iff fun c => ?_
  rw [metS_iff, metS_iff]
  refine and_congr_right fun _ => forall₂_congr fun x hx => ?_
  have e : anyT x (withS l g) = anyT x l := by
    refine eq_of_ge_iff fun c => ?_
    rw [anyT_iff, anyT_iff]
    refine and_congr_right fun _ => forall₂_congr fun y hy => ?_
    have e : allT y (withS l g) = allT y l := by
      refine eq_of_le_iff fun c => ?_
      rw [allT_iff, allT_iff]
      refine and_congr_right fun _ => forall₂_congr fun m hm => ?_
      rw [matchS_with m l g (h x hx y hy m hm)]
    rw [e]
  rw [e]

theorem flat_set {size : Nat} (u : Value) : ∀ (l : List (Cel size)) (i : Nat) (hi : i < l.length) (j : Nat) (c' : Cel size), j < size → c'.val = l[i].val.set j u → (l.flatMap Subtype.val).set (i * size + j) u = (l.set i c').flatMap Subtype.val
  | [], i, hi, _, _, _, _ => absurd hi (by simp)
  | x :: l, 0, hi, j, c', hj, hc => by
    simp only [List.getElem_cons_zero] at hc
    rw [List.set_cons_zero, List.flatMap_cons, List.flatMap_cons, hc, Nat.zero_mul, Nat.zero_add, List.set_append_left _ _ (by rw [x.2.1]; exact hj)]
  | x :: l, i + 1, hi, j, c', hj, hc => by
    simp only [List.getElem_cons_succ] at hc
    rw [List.set_cons_succ, List.flatMap_cons, List.flatMap_cons, List.set_append_right _ _ (by rw [x.2.1, Nat.succ_mul]; omega), x.2.1]
    have e : (i + 1) * size + j - size = i * size + j := by rw [Nat.succ_mul]; omega
    rw [e, flat_set u l i (by simpa using hi) j c' hj hc]
theorem block_setCell {w : World} {b k : Nat} {cs : Array Value} {t : TypeId} {u : Value} {f : Nat × Nat} (h : w.heap[b]? = some (.cells cs t f)) : (w.setCell ⟨b, k, none⟩ u).heap[b]? = some (.cells (cs.setIfInBounds k u) t f) := by
  have hlt := lt_of_block h
  have h' : w.heap[b] = .cells cs t f := by simpa [Array.getElem?_eq_getElem hlt] using h
  show (w.heap.modify b _)[b]? = _
  rw [Array.getElem?_eq_getElem (by simpa using hlt), Array.getElem_modify_self, h']
  rfl
/-- a store into one cell of an element of a row -/
theorem RowO.store {α : Type} {R : RF α} {size : Nat} {ok : Nat → Prop} {w : World} {base : Nat} {e : TypeId} {g n c : Nat} {l : List α} (hR : Good R) (h : RowO R size ok w base e (.slice (some ⟨g, 0, none⟩) n c) l)
    {i j : Nat} (hi : i < l.length) (hj : j < size) (u : Value) (hu : u.oneCell' = true) (x' : α) (hx : ∀ cs, R (okR ok (.slice (some ⟨g, 0, none⟩) n c)) w cs l[i] → R (okR ok (.slice (some ⟨g, 0, none⟩) n c)) w (cs.set j u) x') :
    RowO R size ok (w.setCell ⟨g, i * size + j, none⟩ u) base e (.slice (some ⟨g, 0, none⟩) n c) (l.set i x') := by
  obtain ⟨css, h1, h2, h3⟩ := h
  have hi' : i < css.length := by omega
  have hc' : (css[i].val.set j u).length = size ∧ ∀ v ∈ css[i].val.set j u, v.oneCell' = true := by
    refine ⟨by rw [List.length_set]; exact css[i].2.1, fun v hv => ?_⟩
    rcases List.mem_or_eq_of_mem_set hv with hv | rfl
    · exact css[i].2.2 v hv
    · exact hu
  have hs : SameOn (okR ok (.slice (some ⟨g, 0, none⟩) n c)) w (w.setCell ⟨g, i * size + j, none⟩ u) := ⟨by simp [World.setCell], fun b _ hb => Below.heap_setCell _ _ _ _ (fun he => hb.2 (by rw [he]; rfl))⟩
  refine ⟨css.set i ⟨_, hc'⟩, ?_, by rw [List.length_set, List.length_set, h2], fun k k1 k2 => ?_⟩
  · rcases h1.2 with ⟨hv, _⟩ | ⟨g', cap, cur, hv, hg, hh, hcap, hm, hcs, htake⟩
    · cases hv
    · simp only [Value.slice.injEq, Option.some.injEq, Addr.mk.injEq, and_true] at hv
      obtain ⟨rfl, rfl, rfl⟩ := hv
      refine ⟨by rw [flat_len (fun x : Cel size => x.2.1)], Or.inr ⟨g, c, cur.setIfInBounds (i * size + j) u, by rw [List.length_set], hg, block_setCell hh, by rw [List.length_set]; exact hcap, hm, by simpa using hcs, ?_⟩⟩
      rw [List.length_set, Array.toList_setIfInBounds, List.take_set, htake]
      exact flat_set u css i hi' j ⟨_, hc'⟩ hj rfl
  · simp only [List.length_set] at k1 k2
    by_cases hk : i = k
    · subst hk
      rw [List.getElem_set_self, List.getElem_set_self]
      exact hR.keep _ _ _ _ _ hs (hx _ (h3 i hi' hi))
    · rw [List.getElem_set_ne hk, List.getElem_set_ne hk]
      exact hR.keep _ _ _ _ _ hs (h3 k k1 k2)
end Go.Proofs.Ytnienipaicckmaa
