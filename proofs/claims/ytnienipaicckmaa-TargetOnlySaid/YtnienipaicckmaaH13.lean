/-
  Shades: contracts for the statements on targets, out of walks over real frames.
-/
import Derived.Test.YtnienipaicckmaaConv
import Derived.Test.YtnienipaicckmaaTargetTells
import Derived.Test.YtnienipaicckmaaBag
namespace Go.Proofs.Ytnienipaicckmaa
open Go.RowKit
def Upto (k m : Nat) (r : SV) : Prop := ∃ b : Bool, r = .p (pB b) ∧ (b = true → k ≤ m)
theorem one_arg {vs : List Value} {x : PV} (h : vs.length = [x].length) : ∃ u, vs = [u] := by
  match vs, h with
  | [u], _ => exact ⟨u, rfl⟩
theorem two_args {vs : List Value} {x y : PV} (h : vs.length = [x, y].length) : ∃ u v, vs = [u, v] := by
  match vs, h with
  | [u, v], _ => exact ⟨u, v, rfl⟩
theorem upto_ok {k m : Nat} {w : World} {e : Ending} {w' : World} (h : upTo k m w e w') : ∃ r, Upto k m r ∧ flatS r = true ∧ e = .returned (valS r) ∧ Below w.heap.size w w' ∧ RelS (fun _ => True) (fun _ => none) w' r (valS r) := by
  rcases h with ⟨rfl, hb⟩ | ⟨rfl, hk, hb⟩
  · exact ⟨.p (pB false), ⟨false, rfl, fun h => by cases h⟩, rfl, rfl, hb, .p (.v rfl)⟩
  · exact ⟨.p (pB true), ⟨true, rfl, fun _ => hk.out⟩, rfl, rfl, hb, .p (.v rfl)⟩
theorem small13_h (t : Tar) (hf : ∀ x ∈ t, ∀ l ∈ x, ∀ m ∈ l, m.Fit) : HoldsE Try.prog 19 [tgtP t] (Upto (tsz t) 2999) :=
  .of_calls Try.func19 (by kernel_rfl) rfl fun w vs hl hr => by
    obtain ⟨u, rfl⟩ := one_arg hl
    obtain ⟨A, c, rfl, h1, h2, h3⟩ := tgt_typed (hr 0 _ u rfl rfl) hf
    exact (small13_any t A c w h3 h1 h2).mono fun e w' h => upto_ok h
theorem few_h (l : List Giv) (hf : ∀ x ∈ l, x.Fit) : HoldsE Try.prog 20 [givsP l] (Upto (fsz l) 1200) :=
  .of_calls Try.func20 (by kernel_rfl) rfl fun w vs hl hr => by
    obtain ⟨u, rfl⟩ := one_arg hl
    obtain ⟨A, c, rfl, h1, h2, h3⟩ := givs_typed (hr 0 _ u rfl rfl) hf
    exact (few_any l A c w h2.1 h3).mono fun e w' h => upto_ok h
theorem askRight_h (l : List Giv) (hf : ∀ x ∈ l, x.Fit) : HoldsE Try.prog 36 [givsP l] (fun r => ∃ n, r = .p (pI n)) :=
  .of_calls Try.func36 (by kernel_rfl) rfl fun w vs hl hr => by
    obtain ⟨u, rfl⟩ := one_arg hl
    obtain ⟨A, c, rfl, h1, h2, h3⟩ := givs_typed (hr 0 _ u rfl rfl) hf
    exact (right_ask_any l A c w h2.1 h3).mono fun e w' ⟨⟨r, he⟩, hb⟩ => ⟨_, ⟨r, rfl⟩, rfl, he, hb, .p (.v rfl)⟩
theorem targetRuns_h : Holds Try.prog 3 [] (.p (pB true)) [] :=
  .of_calls Try.func3 (by kernel_rfl) rfl (fun w vs hl _ => by
    have : vs = [] := List.eq_nil_of_length_eq_zero hl
    subst this
    exact targetRuns_any w) rfl fun w => .p (.v rfl)
theorem met_h (t : Tar) (l : List Giv) (ht : tSmall t) (hf : ∀ x ∈ t, ∀ l ∈ x, ∀ m ∈ l, m.Fit) (hn : l.length ≤ 1000000) (hb : ∀ g ∈ l, g.bag.length ≤ 1000000) (hg : ∀ x ∈ l, x.Fit) : Holds Try.prog 22 [tgtP t, givsP l] (.p (pI (metS t l))) [] :=
  .of_calls Try.func22 (by kernel_rfl) rfl (fun w vs hl hr => by
    obtain ⟨u, v, rfl⟩ := two_args hl
    obtain ⟨A, c, rfl, h1, h2, h3⟩ := tgt_typed (hr 0 _ u rfl rfl) hf
    obtain ⟨G, d, rfl, k1, k2, k3⟩ := givs_typed (hr 1 _ v rfl rfl) hg
    exact met_any t l A G c d w ht h3 hn hb k3) rfl fun w => .p (.v rfl)
end Go.Proofs.Ytnienipaicckmaa
