/-
  Shades: bailiffkeep.Small, out of the walk over real frames; how rules and policies of plain trees are read as typed things.
-/
import Derived.Test.YtjpcchipejmocaaPolW
import Derived.Test.YtjpcchipejmocaaData4
import Derived.Test.YtjpcchipejmocaaSmall
import Derived.Test.YtjpcchipejmocaaFewH
namespace Go.Proofs.Ytjpcchipejmocaa
set_option linter.unusedVariables false
set_option linter.unusedSimpArgs false
open Go.RowKit
theorem rPV_get {ok : Nat → Prop} {w : World} {cs : List Value} {ps : List PV} (h : rPV ok w cs ps) {j : Nat} {p : PV} (hp : ps[j]? = some p) : ∃ u, cs[j]? = some u ∧ RelP ok w p u := by
  have hl : j < cs.length := by rw [h.1]; exact (List.getElem?_eq_some_iff.1 hp).1
  exact ⟨_, List.getElem?_eq_getElem hl, h.2 j p _ hp (List.getElem?_eq_getElem hl)⟩
theorem nod_back {ok : Nat → Prop} {w : World} {cs : List Value} {x : Nod} (h : rPV ok w cs x.pv) (hf : x.Fit) : rNod w cs x :=
  ⟨rPV_plain (xs := [.int .i64 x.op, .int .i64 x.val.kind, .int .i64 x.val.n, .string x.val.s, .int .i64 x.attr.cat, .string x.attr.name, .bool x.attr.must]) h, hf⟩
theorem obl_back {ok : Nat → Prop} {w : World} {cs : List Value} {x : Obli} (h : rPV ok w cs x.pv) (hf : x.Fit) : rObl w cs x :=
  ⟨rPV_plain (xs := [.int .i64 x.on, .int .i64 x.kind, .string x.arg]) h, hf⟩
theorem slv_back {α : Type} {R : Rp α} {f : α → List PV} {z : Nat} {ok : Nat → Prop} {w : World} {u : Value} {l : List α} (h : RelP ok w (.sl z (l.map f)) u) (hf : ∀ x ∈ l, ∀ cs, rPV ok w cs (f x) → R w cs x) : SlV R z w u l := by
  obtain ⟨A, c, rfl, h1, h2, h3⟩ := sl_typed h hf
  exact ⟨A, c, rfl, h1, h2, h3⟩
theorem tar_back {ok : Nat → Prop} {w : World} {u : Value} {t : Tar} (h : RelP ok w (tgtP t) u) (hf : TarFit t) : SlV rTar' 1 w u t := by
  obtain ⟨A, c, rfl, h1, h2, h3⟩ := tgt_typed h hf
  exact ⟨A, c, rfl, h1, h2, h3⟩
theorem rul_back {ok : Nat → Prop} {w : World} {cs : List Value} {x : Rul} (h : rPV ok w cs (ruleP x)) (hf : RulFit x) : rRul w cs x := by
  have hl : cs.length = 5 := h.1
  match cs, hl with
  | [c0, c1, c2, c3, c4], _ =>
    have e0 := valP_ok (h.2 0 _ c0 rfl rfl) rfl
    have e1 := valP_ok (h.2 1 _ c1 rfl rfl) rfl
    subst e0 e1
    exact ⟨c2, c3, c4, rfl, hf.id, tar_back (h.2 2 _ c2 rfl rfl) hf.tgt, slv_back (h.2 3 _ c3 rfl rfl) (fun x hx cs hcs => nod_back hcs (hf.cond x hx)), slv_back (h.2 4 _ c4 rfl rfl) (fun x hx cs hcs => obl_back hcs (hf.obls x hx))⟩
/-- a policy of no more than so many levels, its parts in bounds -/
def PolF : Nat → Pol → Prop
  | 0, _ => False
  | n + 1, p => HeadFit p ∧ R64 p.alg ∧ ∀ k ∈ p.kids, PolF n k
theorem polF_fit : ∀ (m : Nat) {n : Nat} {p : Pol}, PolF n p → PolFit m p
  | 0, _, _, _ => True.intro
  | m + 1, n + 1, p, h => ⟨h.1, fun k hk => polF_fit m (h.2.2 k hk)⟩
theorem polF_of : ∀ {n : Nat} {w : World} {cs : List Value} {p : Pol}, rPolN n w cs p → PolF n p
  | n + 1, w, cs, p, h => by
    have h1 := pol_fit 1 h
    obtain ⟨c3, c4, c5, c6, he, hid, ha, _, _, h5, _⟩ := h
    exact ⟨h1.1, ha, (h5.fit (F := PolF n) fun _ _ h => polF_of h).1⟩
theorem pol_back : ∀ {n : Nat} {ok : Nat → Prop} {w : World} {cs : List Value} {p : Pol}, rPV ok w cs (polP p) → PolF n p → rPolN n w cs p
  | n + 1, ok, w, cs, p, h, hf => by
    rw [polP_eq] at h
    have hl : cs.length = 7 := h.1
    match cs, hl with
    | [c0, c1, c2, c3, c4, c5, c6], _ =>
      have e0 := valP_ok (h.2 0 _ c0 rfl rfl) rfl
      have e1 := valP_ok (h.2 1 _ c1 rfl rfl) rfl
      have e2 := valP_ok (h.2 2 _ c2 rfl rfl) rfl
      subst e0 e1 e2
      exact ⟨c3, c4, c5, c6, rfl, hf.1.id, hf.2.1, tar_back (h.2 3 _ c3 rfl rfl) hf.1.tgt, slv_back (h.2 4 _ c4 rfl rfl) (fun x hx cs hcs => rul_back hcs (hf.1.rules x hx)),
        slv_back (h.2 5 _ c5 rfl rfl) (fun x hx cs hcs => pol_back hcs (hf.2.2 x hx)), slv_back (h.2 6 _ c6 rfl rfl) (fun x hx cs hcs => obl_back hcs (hf.1.obls x hx))⟩
theorem small_h {n : Nat} (p : Pol) (hf : PolF n p) : HoldsE Try.prog 30 [.agg (polP p)] (Upto p.sz 3000) :=
  .of_calls Try.func30 (by kernel_rfl) rfl fun w vs hl hr => by
    obtain ⟨u, rfl⟩ := one_arg hl
    have h := hr 0 _ u rfl rfl
    cases h with
    | @agg _ us hl2 hr2 =>
      have hp := pol_back ⟨hl2, hr2⟩ hf
      match n, hf, hp with
      | n + 1, _, ⟨c3, c4, c5, c6, he, h1⟩ =>
        subst he
        exact (small_any (n + 1) p w c3 c4 c5 c6 ⟨c3, c4, c5, c6, rfl, h1⟩).mono fun e w' h => upto_ok h
end Go.Proofs.Ytjpcchipejmocaa
