/-
  Rows of values of the call's own: a slice's copy (slices.Clone over api.Value).
-/
import Derived.Test.YtnienipaicckmaaAppend
import Derived.Test.YtnienipaicckmaaValue
import Derived.WalkLawsBesides
import Derived.WalkSpells
import Derived.Deep.Cut
import Derived.Deep.Light
namespace Go.Proofs.Ytnienipaicckmaa
open Go.RowKit
set_option linter.unusedSimpArgs false
set_option linter.unusedVariables false
attribute [local go_sem] ext_cell ext_frozen
attribute [local go_sem low] alloc_cell alloc_frozen
attribute [local go_sem ↓] eql_val

def fVal (x : Val) : List Value := [.int .i64 x.kind, .int .i64 x.n, .string x.s]
theorem fVal_cell (x : Val) : ∀ u ∈ fVal x, u.oneCell' = true := by
  intro u hu
  simp [fVal] at hu
  rcases hu with rfl | rfl | rfl <;> rfl
theorem slat_f1 (w : World) (t : TypeId) (x : Val) (b : Nat) (hb : b = w.heap.size) : SlAt (fun _ cs y => cs = fVal y) 3 (w.alloc (.cells #[.int .i64 x.kind, .int .i64 x.n, .string x.s] t)) (some ⟨b, 0, none⟩) [x] := by
  subst hb
  exact slat_of w t [x] fVal (fun _ => rfl) (fun _ y hy => rfl)
theorem info_val : (Try.prog.info? 25).map (fun i => (i.zero, i.size, i.bytes)) = some (some (.agg #[.int .i64 0, .int .i64 0, .string .empty]), 3, 32) := by kernel_rfl
theorem SlAt.raw {w : World} {A : Option Addr} {l : List Val} (h : SlAt rVal 3 w A l) : SlAt (fun _ cs y => cs = fVal y) 3 w A l := fun hl => by
  obtain ⟨b, o, hA, hlt, hc⟩ := h hl
  refine ⟨b, o, hA, hlt, fun i hi => ?_⟩
  obtain ⟨cs, h1, h2, h3⟩ := hc i hi
  exact ⟨cs, h1, h2, h3.1⟩
theorem SlAt.fits {w : World} {A : Option Addr} {l : List Val} (h : SlAt rVal 3 w A l) : ∀ x ∈ l, x.Fit := by
  intro x hx
  obtain ⟨i, hi, rfl⟩ := List.mem_iff_getElem.1 hx
  obtain ⟨b, o, _, _, _, _, _, hf⟩ := h.val hi
  exact hf
theorem SlAt.none_nil {α : Type} {R : Rp α} {size : Nat} {w : World} {l : List α} (h : SlAt R size w none l) : l = [] := by
  match l, h with
  | [], _ => rfl
  | x :: l, h => obtain ⟨b, o, he, _⟩ := h (by simp); cases he
/-- the result of a function that makes a row of values -/
def makes (l : List Val) (w w' : World) (v : Value) : Prop := ∃ A c, v = .slice A l.length c ∧ SlAt rVal 3 w' A l ∧ Below w.heap.size w w'
set_option maxRecDepth 100000 in
set_option maxHeartbeats 1000000 in
theorem clone_any (l : List Val) (A : Option Addr) (c : Nat) (w : World) (hn : l.length ≤ 1000000) (h : SlAt rVal 3 w A l) :
    Calls Try.prog 56 #[.slice A l.length c] w fun e w' => ∃ v, e = .returned v ∧ makes l w w' v := by
  obtain ⟨i0, hi, hz0, hz1, hz2⟩ := info_parts info_val
  have qT : ∀ (w : World) (a : Option Addr) (n c : Nat), (binOp .eql 35 (.slice a n c) (.slice none 0 0)).run Try.prog w = .ok (.bool a.isNone) w := fun w a n c => Lib.run_eql_slice_nil w _ _ a n c 0 0 Try.underlying35
  rcases A with _ | ad
  · obtain rfl := h.none_nil
    go_enter Try.func56, Try.ntmps56
    go_wp2
    go_ret
    exact ⟨_, rfl, none, 0, rfl, SlAt.nil, (by repeat (first | exact Below.refl _ _ | assumption | refine Below.alloc1 ?_ _ | refine Below.drew ?_ | refine below_drewl ?_ | refine Below.setCell ?_ (by first | exact Nat.le_refl _ | (simp; done) | omega | (simp; omega)) _ | refine Below.lift ?_ (by assumption)))⟩
  · have H := hide h
    clear h
    go_enter Try.func56, Try.ntmps56
    go_wp2_with (at_builtin; refine wpList_append_f (f := fVal) (fun _ => rfl) fVal_cell rfl _ _ 35 rfl w.heap.size 25 i0 _ 32 Try.underlying35 hi hz0 hz1 hz2 rfl (by decide) _ [] rfl (World.ownsRow_made w #[] 0 (Nat.le_refl _) (by simp [maxLen]) rfl) _ _ l rfl (H.out.keep keeps_val (by repeat (first | exact Below.refl _ _ | assumption | refine Below.alloc1 ?_ _ | refine Below.drew ?_ | refine below_drewl ?_ | refine Below.setCell ?_ (by first | exact Nat.le_refl _ | (simp; done) | omega | (simp; omega)) _ | refine Below.lift ?_ (by assumption)))).raw (by simp [maxLen]; omega) (by simp; omega) (by simp) ?_; intro v' w3 hown3 hB3)
    rw [List.nil_append] at hown3
    obtain ⟨A', c', rfl, hc'⟩ := hown3.shape
    go_ret
    exact ⟨_, rfl, A', c', rfl, OwnF.slat (R := rVal) (f := fVal) (fun _ => rfl) hown3 (fun x hx => ⟨rfl, H.out.fits x hx⟩), ((Below.refl _ _).alloc (Nat.le_refl _) _).trans hB3⟩
end Go.Proofs.Ytnienipaicckmaa
