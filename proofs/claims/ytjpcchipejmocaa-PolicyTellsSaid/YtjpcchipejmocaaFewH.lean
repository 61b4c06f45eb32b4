/-
  Shades: bailiffkeep.Few, out of the walk over real frames; where law 13 is not there.
-/
import Derived.Test.YtjpcchipejmocaaPolH
import Derived.Test.YtjpcchipejmocaaSmall
namespace Go.Proofs.Ytjpcchipejmocaa
set_option linter.unusedVariables false
set_option linter.unusedSimpArgs false
open Go.RowKit
def Upto (k m : Nat) (r : SV) : Prop := ∃ b : Bool, r = .p (pB b) ∧ (b = true → k ≤ m)
theorem upto_ok {k m : Nat} {w : World} {e : Ending} {w' : World} (h : upTo k m w e w') : ∃ r, Upto k m r ∧ flatS r = true ∧ e = .returned (valS r) ∧ Below w.heap.size w w' ∧ RelS (fun _ => True) (fun _ => none) w' r (valS r) := by
  rcases h with ⟨rfl, hb⟩ | ⟨rfl, hk, hb⟩
  · exact ⟨.p (pB false), ⟨false, rfl, fun h => by cases h⟩, rfl, rfl, hb, .p (.v rfl)⟩
  · exact ⟨.p (pB true), ⟨true, rfl, fun _ => hk.out⟩, rfl, rfl, hb, .p (.v rfl)⟩
theorem few_h (l : List Giv) (hf : ∀ x ∈ l, x.Fit) : HoldsE Try.prog 21 [givsP l] (Upto (fsz l) 1200) :=
  .of_calls Try.func21 (by kernel_rfl) rfl fun w vs hl hr => by
    obtain ⟨u, rfl⟩ := one_arg hl
    obtain ⟨A, c, rfl, h1, h2, h3⟩ := givs_typed (hr 0 _ u rfl rfl) hf
    exact (few_any l A c w h2.1 h3).mono fun e w' h => upto_ok h
theorem few_len {l : List Giv} (h : fsz l ≤ 1200) : l.length ≤ 600 ∧ ∀ g ∈ l, g.bag.length ≤ 1200 := by
  refine ⟨by unfold fsz at h; omega, fun g hg => ?_⟩
  have h2 : gsz g ≤ fsz l := by have := sumBy_le (f := gsz) hg; unfold fsz; omega
  have h3 : g.bag.length ≤ gsz g := by unfold gsz; omega
  omega
end Go.Proofs.Ytjpcchipejmocaa
