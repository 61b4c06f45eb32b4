/-
  Shades: typed things that came in, as plain trees and back; contracts that were shown by walks over real frames.
-/
import Derived.Test.YtjpcchipejmocaaShade4
import Derived.Test.YtjpcchipejmocaaEnc
import Derived.Test.YtjpcchipejmocaaSmall
import Derived.Test.YtjpcchipejmocaaConvV
namespace Go.Proofs.Ytjpcchipejmocaa
set_option linter.unusedVariables false
set_option linter.unusedSimpArgs false
open Go.RowKit

theorem mat_back {ok : Nat → Prop} {w : World} {cs : List Value} {x : Mat} (h : rPV ok w cs x.pv) : cs = x.cells := rPV_plain (xs := x.cells) h
theorem atr_back {ok : Nat → Prop} {w : World} {cs : List Value} {x : Atr} (h : rPV ok w cs x.pv) : cs = x.cells := rPV_plain (xs := x.cells) h
theorem mat_pv {w : World} {cs : List Value} {x : Mat} (h : rMat w cs x) : rPV (fun _ => True) w cs x.pv := by
  obtain ⟨rfl, _⟩ := h
  exact plain_rPV (xs := x.cells) (fun v hv => by simp [Mat.cells, Atr.cells, Val.cells] at hv; rcases hv with rfl | rfl | rfl | rfl | rfl | rfl | rfl <;> rfl)
theorem mats_typed {ok : Nat → Prop} {w : World} {u : Value} {l : List Mat} (h : RelP ok w (matsP l) u) (hf : ∀ x ∈ l, x.Fit) : ∃ A c, u = .slice A l.length c ∧ l.length ≤ c ∧ (l.length ≤ reachBytes ∧ c ≤ maxLen) ∧ SlAt rMat 7 w A l :=
  sl_typed h fun x hx cs hcs => ⟨mat_back hcs, hf x hx⟩
structure Giv.Fit (x : Giv) : Prop where
  cat : R64 x.cat
  name : x.name.size ≤ reachBytes
  bag : ∀ v ∈ x.bag, v.Fit
theorem giv_back {ok : Nat → Prop} {w : World} {cs : List Value} {x : Giv} (h : rPV ok w cs x.pv) (hf : x.Fit) : rGiv w cs x := by
  have h0 := h.1
  match cs, h0 with
  | [a, b, c], _ =>
    have h1 := h.2 0 _ a rfl rfl
    have h2 := h.2 1 _ b rfl rfl
    have h3 := h.2 2 _ c rfl rfl
    cases h1; cases h2
    obtain ⟨A, d, rfl, g1, g2, g3⟩ := vals_typed h3 hf.bag
    exact ⟨A, d, rfl, hf.cat, hf.name, g1, g2, g3⟩
theorem giv_pv {w : World} {cs : List Value} {x : Giv} (h : rGiv w cs x) : rPV (fun _ => True) w cs x.pv := by
  obtain ⟨A, c, rfl, h1, h2, h3, h4, h5⟩ := h
  refine ⟨rfl, fun j s u hs hu => ?_⟩
  match j with
  | 0 => cases hs; cases hu; exact .v rfl
  | 1 => cases hs; cases hu; exact .v rfl
  | 2 => cases hs; cases hu; exact rel_sl h5 h3 h4 (fun _ => ⟨rfl, rfl⟩) fun x _ cs hcs => val_pv hcs
  | j + 3 => simp [Giv.pv] at hs
theorem givs_typed {ok : Nat → Prop} {w : World} {u : Value} {l : List Giv} (h : RelP ok w (givsP l) u) (hf : ∀ x ∈ l, x.Fit) : ∃ A c, u = .slice A l.length c ∧ l.length ≤ c ∧ (l.length ≤ reachBytes ∧ c ≤ maxLen) ∧ SlAt rGiv 3 w A l :=
  sl_typed h fun x hx cs hcs => giv_back hcs (hf x hx)
theorem givs_rel {w : World} {A : Option Addr} {c : Nat} {l : List Giv} (h : SlAt rGiv 3 w A l) (hl : l.length ≤ c) (hc : l.length ≤ reachBytes ∧ c ≤ maxLen) : RelP (fun _ => True) w (givsP l) (.slice A l.length c) :=
  rel_sl h hl hc (fun _ => ⟨rfl, rfl⟩) fun x _ cs hcs => giv_pv hcs
theorem any_back {ok : Nat → Prop} {w : World} {cs : List Value} {x : List Mat} (h : rPV ok w cs [matsP x]) (hf : ∀ m ∈ x, m.Fit) : rSl rMat 7 w cs x := by
  have h0 := h.1
  match cs, h0 with
  | [a], _ =>
    obtain ⟨A, d, rfl, g1, g2, g3⟩ := mats_typed (h.2 0 _ a rfl rfl) hf
    exact ⟨A, d, rfl, g1, g2, g3⟩
theorem mats_pv {w : World} {cs : List Value} {x : List Mat} (h : rSl rMat 7 w cs x) : rPV (fun _ => True) w cs [matsP x] := by
  obtain ⟨A, c, rfl, h1, h2, h3⟩ := h
  refine ⟨rfl, fun j s u hs hu => ?_⟩
  match j with
  | 0 => cases hs; cases hu; exact rel_sl h3 h1 h2 (fun _ => ⟨rfl, rfl⟩) fun x _ cs hcs => mat_pv hcs
  | j + 1 => simp at hs
theorem anys_back {ok : Nat → Prop} {w : World} {cs : List Value} {x : List (List Mat)} (h : rPV ok w cs [anyP x]) (hf : ∀ l ∈ x, ∀ m ∈ l, m.Fit) : rTar' w cs x := by
  have h0 := h.1
  match cs, h0 with
  | [a], _ =>
    obtain ⟨A, d, rfl, g1, g2, g3⟩ := sl_typed (R := rSl rMat 7) (h.2 0 _ a rfl rfl) fun y hy cs hcs => any_back hcs (hf y hy)
    exact ⟨A, d, rfl, g1, g2, g3⟩
theorem anys_pv {w : World} {cs : List Value} {x : List (List Mat)} (h : rTar' w cs x) : rPV (fun _ => True) w cs [anyP x] := by
  obtain ⟨A, c, rfl, h1, h2, h3⟩ := h
  refine ⟨rfl, fun j s u hs hu => ?_⟩
  match j with
  | 0 => cases hs; cases hu; exact rel_sl h3 h1 h2 (fun _ => ⟨rfl, rfl⟩) fun x _ cs hcs => mats_pv hcs
  | j + 1 => simp at hs
theorem tgt_typed {ok : Nat → Prop} {w : World} {u : Value} {t : Tar} (h : RelP ok w (tgtP t) u) (hf : ∀ x ∈ t, ∀ l ∈ x, ∀ m ∈ l, m.Fit) : ∃ A c, u = .slice A t.length c ∧ t.length ≤ c ∧ (t.length ≤ reachBytes ∧ c ≤ maxLen) ∧ SlAt rTar' 1 w A t :=
  sl_typed h fun x hx cs hcs => anys_back hcs (hf x hx)
theorem tgt_rel {w : World} {A : Option Addr} {c : Nat} {t : Tar} (h : SlAt rTar' 1 w A t) (hl : t.length ≤ c) (hc : t.length ≤ reachBytes ∧ c ≤ maxLen) : RelP (fun _ => True) w (tgtP t) (.slice A t.length c) :=
  rel_sl h hl hc (fun _ => ⟨rfl, rfl⟩) fun x _ cs hcs => anys_pv hcs
/-- what a reading says of the things themselves -/
theorem giv_fit {w : World} {cs : List Value} {x : Giv} (h : rGiv w cs x) : x.Fit := by
  obtain ⟨A, c, rfl, h1, h2, h3, h4, h5⟩ := h
  exact ⟨h1, h2, h5.fit fun _ _ h => h.2⟩
theorem tgt_fit {w : World} {A : Option Addr} {t : Tar} (h : SlAt rTar' 1 w A t) : ∀ x ∈ t, ∀ l ∈ x, ∀ m ∈ l, m.Fit :=
  h.fit fun cs x ⟨_, _, _, _, _, h1⟩ => h1.fit fun cs y ⟨_, _, _, _, _, h2⟩ => h2.fit fun _ _ h => h.2
end Go.Proofs.Ytjpcchipejmocaa
