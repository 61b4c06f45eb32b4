/-
  Shades: a slice that is nil is a slice of no elements, wherever it stands.
-/
import Derived.Test.YtjpcchipejmocaaShade5
namespace Go.Proofs.Ytjpcchipejmocaa
set_option linter.unusedVariables false
set_option linter.unusedSimpArgs false
open Go.RowKit
abbrev nilV : PV := .v (.slice none 0 0)

inductive Cv : PV → PV → Prop
  | refl (p : PV) : Cv p p
  | nil (z : Nat) : Cv (.v (.slice none 0 0)) (.sl z [])
  | agg {cs ds : List PV} (hl : cs.length = ds.length) (h : ∀ (i : Nat) (c d : PV), cs[i]? = some c → ds[i]? = some d → Cv c d) : Cv (.agg cs) (.agg ds)
  | sl {z : Nat} {l m : List (List PV)} (hl : l.length = m.length) (he : ∀ (i : Nat) (e f : List PV), l[i]? = some e → m[i]? = some f → e.length = f.length) (h : ∀ (i j : Nat) (e f : List PV) (c d : PV), l[i]? = some e → m[i]? = some f → e[j]? = some c → f[j]? = some d → Cv c d) : Cv (.sl z l) (.sl z m)
def CvL (cs ds : List PV) : Prop := cs.length = ds.length ∧ ∀ (i : Nat) (c d : PV), cs[i]? = some c → ds[i]? = some d → Cv c d
theorem CvL.nil : CvL [] [] := ⟨rfl, fun i c d h => by simp at h⟩
theorem CvL.cons {c d : PV} {cs ds : List PV} (h : Cv c d) (t : CvL cs ds) : CvL (c :: cs) (d :: ds) := ⟨by simp [t.1], fun i x y hx hy => by
  cases i with
  | zero => simp at hx hy; subst hx; subst hy; exact h
  | succ i => exact t.2 i x y (by simpa using hx) (by simpa using hy)⟩
theorem CvL.refl (l : List PV) : CvL l l := ⟨rfl, fun i c d h1 h2 => by rw [h1] at h2; cases h2; exact .refl _⟩
theorem CvL.agg {cs ds : List PV} (h : CvL cs ds) : Cv (.agg cs) (.agg ds) := .agg h.1 h.2
def CvM (l m : List (List PV)) : Prop := l.length = m.length ∧ ∀ (i : Nat) (e f : List PV), l[i]? = some e → m[i]? = some f → CvL e f
theorem CvM.nil : CvM [] [] := ⟨rfl, fun i c d h => by simp at h⟩
theorem CvM.cons {c d : List PV} {cs ds : List (List PV)} (h : CvL c d) (t : CvM cs ds) : CvM (c :: cs) (d :: ds) := ⟨by simp [t.1], fun i x y hx hy => by
  cases i with
  | zero => simp at hx hy; subst hx; subst hy; exact h
  | succ i => exact t.2 i x y (by simpa using hx) (by simpa using hy)⟩
theorem CvM.sl {z : Nat} {l m : List (List PV)} (h : CvM l m) : Cv (.sl z l) (.sl z m) := .sl h.1 (fun i e f h1 h2 => (h.2 i e f h1 h2).1) fun i j e f c d h1 h2 h3 h4 => (h.2 i e f h1 h2).2 j c d h3 h4
theorem Cv.one {p q : PV} (h : Cv p q) : oneP q = oneP p := by
  cases h <;> rfl
theorem RelP.cv {ok : Nat → Prop} {w : World} {p q : PV} (hc : Cv p q) : ∀ {u : Value}, RelP ok w p u → RelP ok w q u := by
  induction hc with
  | refl => exact fun h => h
  | nil z =>
    intro u h
    cases h
    exact .sl (l := []) (Nat.zero_le _) ⟨Nat.zero_le _, Nat.zero_le _⟩ (by simp) (fun h => absurd h (by simp)) (fun b o i j h => by cases h) (fun b o i j e s u h => by cases h)
  | agg hl h ih =>
    intro u hr
    cases hr with
    | @agg _ us hl2 hr =>
      refine .agg (by omega) fun i s u hs hu => ?_
      have hi : i < us.length := (List.getElem?_eq_some_iff.1 hu).1
      exact ih i _ s (List.getElem?_eq_getElem (by omega)) hs (hr i _ u (List.getElem?_eq_getElem (by omega)) hu)
  | @sl z l m hl he h ih =>
    intro u hr
    cases hr with
    | @sl _ _ A c hc hm hle hA hx hr =>
      rw [hl] at hc hm ⊢
      refine .sl hc hm (fun e hem => ?_) (fun h => hA (by omega)) (fun b o i j hAb hi hj => hx b o i j hAb (by omega) hj) (fun b o i j e s u hAb hi hj hu => ?_)
      · obtain ⟨i, hi, rfl⟩ := List.mem_iff_getElem.1 hem
        have hl0 : l[i]? = some (l[i]'(by omega)) := List.getElem?_eq_getElem (by omega)
        have hm0 : m[i]? = some m[i] := List.getElem?_eq_getElem hi
        obtain ⟨q1, q2⟩ := hle _ (List.getElem_mem (show i < l.length by omega))
        have q3 := he i _ _ hl0 hm0
        refine ⟨by omega, fun s hs => ?_⟩
        obtain ⟨j, hj, rfl⟩ := List.mem_iff_getElem.1 hs
        have := (h i j _ _ _ _ hl0 hm0 (List.getElem?_eq_getElem (by omega)) (List.getElem?_eq_getElem hj)).one
        rw [this]
        exact q2 _ (List.getElem_mem _)
      · have hi' : i < m.length := (List.getElem?_eq_some_iff.1 hi).1
        have hl0 : l[i]? = some (l[i]'(by omega)) := List.getElem?_eq_getElem (by omega)
        have q3 := he i _ _ hl0 hi
        have hj' : j < e.length := (List.getElem?_eq_some_iff.1 hj).1
        exact ih i j _ _ _ _ hl0 hi (List.getElem?_eq_getElem (by omega)) hj (hr b o i j _ _ u hAb hl0 (List.getElem?_eq_getElem (by omega)) hu)
theorem Holds.cv {P : Program} {f : FuncId} {args args' : List PV} {r : SV} {own : List (Nat × Box)} (h : Holds P f args r own) (hc : CvL args' args) : Holds P f args' r own :=
  ⟨h.1, fun w Sx vs hSx hl hr => h.2 w Sx vs hSx (by rw [hl, hc.1]) fun i s u hs hu => by
    have hi : i < args.length := (List.getElem?_eq_some_iff.1 hs).1
    have h0 : args'[i]? = some (args'[i]'(by rw [hc.1]; exact hi)) := List.getElem?_eq_getElem _
    exact (hr i _ u h0 hu).cv (hc.2 i _ s h0 hs)⟩
theorem Holds.res {P : Program} {f : FuncId} {args : List PV} {r r' : SV} {own : List (Nat × Box)} (h : Holds P f args r own) (e : r = r') : Holds P f args r' own := e ▸ h
end Go.Proofs.Ytjpcchipejmocaa
