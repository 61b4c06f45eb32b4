/-
  Layer 12 (expr): what stands on the stack fits; the contract of fun.Call, by the walk over real frames.
-/
import Derived.Test.YtjpcchipejmocaaExS
import Derived.Test.YtjpcchipejmocaaFun3
namespace Go.Proofs.Ytjpcchipejmocaa
open Go.RowKit
structure Itm.Fit (x : Itm) : Prop where
  bag : ∀ v ∈ x.bag, v.Fit
  v : x.v.Fit
  len : x.bag.length ≤ 1000000
theorem noVal_fit : noVal.Fit := ⟨⟨by decide, by decide⟩, ⟨by decide, by decide⟩, by decide⟩
theorem truthS_fit (b : Bool) : (truthS b).Fit := by cases b <;> exact ⟨⟨by decide, by decide⟩, ⟨by decide, by decide⟩, by decide⟩
theorem num_fit {n : Int} (h : R64 n) : (⟨2, n, ⟨#[]⟩⟩ : Val).Fit := ⟨⟨by show _ ≤ (2 : Int); omega, by show (2 : Int) ≤ _; omega⟩, h, by show (⟨#[]⟩ : ByteArray).size ≤ reachBytes; decide⟩
theorem inI_r64 {n : Int} (h : inI n = true) : R64 n := by
  simp only [inI, Bool.and_eq_true, decide_eq_true_eq] at h
  exact ⟨by omega, by omega⟩
theorem number_fit {f : Int → Int → Int × Int} (hf : ∀ a b, (f a b).2 = 0 → R64 (f a b).1) (x y : Val) : (numberS f x y).1.Fit := by
  unfold numberS
  split
  · exact noVal_fit
  · split
    · exact noVal_fit
    · rename_i h
      exact num_fit (hf _ _ (Classical.byContradiction h))
theorem add_fit (a b : Int) : (addS a b).2 = 0 → R64 (addS a b).1 := by
  unfold addS
  split
  · rename_i h; exact fun _ => inI_r64 h
  · intro h; cases h
theorem sub_fit (a b : Int) : (subS a b).2 = 0 → R64 (subS a b).1 := by
  unfold subS
  split
  · rename_i h; exact fun _ => inI_r64 h
  · intro h; cases h
theorem mul_fit (a b : Int) : (mulS a b).2 = 0 → R64 (mulS a b).1 := by
  unfold mulS
  split
  · rename_i h; exact fun _ => inI_r64 h
  · intro h; cases h
theorem callS_fit (op : Int) (l : List Val) : (callS op l).1.Fit := by
  unfold callS
  split
  · exact noVal_fit
  · simp only
    repeat' split
    all_goals first | exact noVal_fit | exact truthS_fit _ | exact number_fit add_fit _ _ | exact number_fit sub_fit _ _ | exact number_fit mul_fit _ _
theorem bagS_mem {cat : Int} {name : ByteArray} {g : List Giv} {Q : List Val → Prop} (h0 : Q []) (h : ∀ x ∈ g, Q x.bag) : Q (bagS cat name g) := by
  rcases place_cases cat name g with ⟨_, hb, _⟩ | ⟨k, hk, _, hb, _⟩
  · rw [hb]; exact h0
  · rw [hb]; exact h _ (List.getElem_mem hk)
theorem getS_mem {a : Atr} {g : List Giv} {Q : List Val → Prop} (h0 : Q []) (h : ∀ x ∈ g, Q x.bag) : Q (getS a g).1 := by
  unfold getS
  split
  · exact h0
  · exact bagS_mem h0 h
theorem nodeS_fit {n : Nod} (hn : n.Fit) {l : List Itm} (hl : ∀ x ∈ l, x.Fit) {g : List Giv} (hg : ∀ x ∈ g, x.Fit) (hb : ∀ x ∈ g, x.bag.length ≤ 1000000) : (nodeS n l g).Fit := by
  have e0 : ∀ v ∈ ([] : List Val), v.Fit := fun v hv => by simp at hv
  have d0 : (l.getD 0 noItm).Fit := by
    cases l with
    | nil => exact ⟨e0, noVal_fit, Nat.zero_le _⟩
    | cons x r => exact hl x (by simp)
  have sz : ∀ {v : Val}, v.Fit → (Itm.mk [] v 0).Fit := fun h => ⟨e0, h, Nat.zero_le _⟩
  have sz' : ∀ {v : Val} (e : Int), v.Fit → (Itm.mk [] v e).Fit := fun _ h => ⟨e0, h, Nat.zero_le _⟩
  unfold nodeS
  split
  · exact sz hn.val
  · split
    · exact ⟨getS_mem (Q := fun b => ∀ v ∈ b, v.Fit) e0 fun x hx => (hg x hx).bag, noVal_fit, getS_mem (Q := fun b => b.length ≤ 1000000) (Nat.zero_le _) hb⟩
    · split
      · exact sz (truthS_fit _)
      · split
        · exact sz' _ noVal_fit
        · unfold lastS
          repeat' split
          · refine sz ?_
            rename_i h1
            match hb : (l.getD 0 noItm).bag, h1 with
            | [v], _ => exact d0.bag v (by rw [hb]; simp)
          · exact sz' _ noVal_fit
          · have := d0.len
            exact sz (num_fit ⟨by omega, by omega⟩)
          · exact sz (truthS_fit _)
          · exact sz' _ (callS_fit _ _)
theorem rel_val {ok : Nat → Prop} {w : World} (x : Val) : RelP ok w (.agg x.pv) x.v := by
  refine .agg rfl fun i s u hs hu => ?_
  match i, hs, hu with
  | 0, hs, hu => cases hs; cases hu; exact .v rfl
  | 1, hs, hu => cases hs; cases hu; exact .v rfl
  | 2, hs, hu => cases hs; cases hu; exact .v rfl
theorem rel_two {ok : Nat → Prop} {H : Nat → Option Value} {w : World} {p q : PV} {u v : Value} (h : RelP ok w p u) (k : RelP ok w q v) : RelS ok H w (.tup [.p p, .p q]) (.tuple #[u, v]) := by
  refine .tup rfl fun i s x hs hx => ?_
  match i, hs, hx with
  | 0, hs, hx => cases hs; cases hx; exact .p h
  | 1, hs, hx => cases hs; cases hx; exact .p k
theorem call_h (op : Int) (l : List Val) (hf : ∀ x ∈ l, x.Fit) : Holds Try.prog 69 [pI op, valsP l] (.tup [.p (.agg (callS op l).1.pv), .p (pI (callS op l).2)]) [] :=
  .of_calls Try.func69 (by kernel_rfl) rfl (fun w vs hl hr => by
    obtain ⟨u, v, rfl⟩ : ∃ u v, vs = [u, v] := by
      match vs, hl with
      | [u, v], _ => exact ⟨u, v, rfl⟩
    have h := valP_ok (hr 0 _ u rfl rfl) rfl
    subst h
    obtain ⟨A, c, rfl, h1, h2, h3⟩ := vals_typed (hr 1 _ v rfl rfl) hf
    exact call_any op l A c w h2.1 h3) rfl fun w => rel_two (rel_val _) (.v rfl)
end Go.Proofs.Ytjpcchipejmocaa
