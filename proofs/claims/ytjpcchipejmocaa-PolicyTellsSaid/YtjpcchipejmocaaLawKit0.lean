/-
  Shades: from a law's contract to what the statement's lifting wants.
-/
import Derived.Test.YtjpcchipejmocaaShade4
namespace Go.Proofs.Ytjpcchipejmocaa
set_option linter.unusedVariables false
set_option linter.unusedSimpArgs false
open Go.RowKit
inductive RelsP (w : World) : List PV → List Value → Prop
  | nil : RelsP w [] []
  | cons {x : PV} {u : Value} {xs : List PV} {us : List Value} (h : RelP (fun _ => True) w x u) (r : RelsP w xs us) : RelsP w (x :: xs) (u :: us)
theorem RelsP.get {w : World} {xs : List PV} {us : List Value} (h : RelsP w xs us) : us.length = xs.length ∧ ∀ (i : Nat) (s : PV) (u : Value), xs[i]? = some s → us[i]? = some u → RelP (fun _ => True) w s u := by
  induction h with
  | nil => exact ⟨rfl, fun i s u h => by simp at h⟩
  | cons h r ih =>
    refine ⟨by simp [ih.1], fun i s u hs hu => ?_⟩
    cases i with
    | zero => simp at hs hu; subst hs; subst hu; exact h
    | succ i => exact ih.2 i s u (by simpa using hs) (by simpa using hu)
theorem law_callsG {P : Program} {f : FuncId} {args : List PV} {us : List Value} {W : World} (hg : GlOk (entry W) fun _ => False) (H : Holds P f args (.p (.v (.bool true))) []) (hr : RelsP W args us) : Calls P f us.toArray W fun e w' => e = .returned (.bool true) ∧ Below W.heap.size W w' := by
  obtain ⟨h1, h2⟩ := hr.get
  refine (H.2 W (fun _ => False) us ⟨fun _ h => h.elim, hg⟩ h1 fun i s u hs hu => (h2 i s u hs hu).weak fun _ _ _ => fun h => h).mono fun e w' ⟨v, γ, he, hb, _, hv⟩ => ?_
  have := hv.v_inv
  subst this
  exact ⟨he, hb⟩
theorem rel_agg {w : World} {cs : List Value} {x : List PV} (h : rPV (fun _ => True) w cs x) : RelP (fun _ => True) w (.agg x) (.agg cs.toArray) := .agg h.1 h.2
theorem rel_int {w : World} (k : IntKind) (n : Int) : RelP (fun _ => True) w (.v (.int k n)) (.int k n) := .v rfl
theorem rel_bool {w : World} (n : Bool) : RelP (fun _ => True) w (.v (.bool n)) (.bool n) := .v rfl
theorem rel_str {w : World} (n : ByteArray) : RelP (fun _ => True) w (.v (.string n)) (.string n) := .v rfl
end Go.Proofs.Ytjpcchipejmocaa
