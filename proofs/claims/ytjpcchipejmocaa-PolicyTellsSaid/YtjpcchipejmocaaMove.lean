/-
  Regions that draw their order whose calls make memory and hand back what lies in it: reads are taken as soon as they may come up; what acts comes one behind the other.
-/
import Derived.Test.YtjpcchipejmocaaRegion
import Derived.Deep.RegionHeld3
namespace Go.Proofs.Ytjpcchipejmocaa
set_option linter.unusedVariables false
set_option linter.unusedSimpArgs false
open Go.RowKit

section
variable {P : Program} {ops : Array Oper} {md : Region.Mode} {Q : Exit → Act → World → Prop}
/-- operations that yield a value and leave the world as it is, or fail -/
def readB (o : Oper) : Bool := match o.op with
  | .move _ | .assign _ | .pick .. | .load .. | .binOp .. | .unOp .. | .convert .. | .field .. | .fieldAddr .. | .indexAddr .. | .index .. | .slice .. | .build .. | .makeFunc .. | .lookup .. | .extract .. => true
  | .call c => match c.callee with | .builtin .len | .builtin .min | .builtin .max | .builtin .cap => true | _ => false
  | _ => false
theorem value_of {s : Sem Value} {w w' : World} {n : Next} (h : (do pure (.value (← s)) : Sem Next).run P w = .ok n w') : ∃ u, n = .value u := by
  rw [Sem.run_bind] at h
  cases hs : s.run P w with
  | ok v w1 => rw [hs] at h; simp only [Result.andThen_ok, Sem.run_pure, Result.ok.injEq] at h; exact ⟨v, h.1.symm⟩
  | halt x w1 => rw [hs] at h; cases h
theorem read_value {ρ : Operand → Value} {o : Oper} (h : readB o = true) {w w' : World} {n : Next} (hr : (execOp ρ o).run P w = .ok n w') : ∃ u, n = .value u := by
  unfold execOp at hr
  unfold readB at h
  cases ho : o.op <;> simp only [ho] at h hr <;> first | (cases h; done) | exact value_of hr | skip
  case move => simp only [Sem.run_pure, Result.ok.injEq] at hr; exact ⟨_, hr.1.symm⟩
  case assign => simp only [Sem.run_pure, Result.ok.injEq] at hr; exact ⟨_, hr.1.symm⟩
  case pick c x y =>
    rw [Sem.run_bind] at hr
    cases hs : (asBool (ρ c)).run P w with
    | ok v w1 => rw [hs] at hr; simp only [Result.andThen_ok, Sem.run_pure, Result.ok.injEq] at hr; exact ⟨_, hr.1.symm⟩
    | halt x w1 => rw [hs] at hr; cases hr
  case call c =>
    cases hc : c.callee with
    | builtin b =>
      rw [hc] at h
      unfold resolve at hr
      simp only [hc] at hr
      simp only [Sem.run_bind, Sem.run_pure, Result.andThen_ok, invoke] at hr
      cases b <;> simp only at h <;> first | (cases h; done) | exact value_of hr
    | invoke _ _ => rw [hc] at h; cases h
    | value _ => rw [hc] at h; cases h

/-- the walk: (number, does it only read?) -/
def wpMove (P : Program) (ops : Array Oper) (Q : Exit → Act → World → Prop) : List (Nat × Bool) → Act → World → Prop
  | [], a, w => Q .normal a w
  | (i, true) :: r, a, w => ∃ o v, ops[i]? = some o ∧ YieldsIf P ops (fun x => ∃ d, x = ext w d) o v a ∧ wpMove P ops Q r (a.put o.dst v) w
  | (i, false) :: r, a, w => wpOp P ops Q i (fun a' w' => Below w.heap.size w w' ∧ wpMove P ops Q r a' w') a w
def orderB (md : Region.Mode) (ops : Array Oper) : List (Nat × Bool) → Array Bool → Bool
  | [], ls => (Region.ready md ops ls).isEmpty
  | (i, b) :: r, ls => (if b then Region.free md ops ls i && (Region.ready md ops ls).contains i else Region.ready md ops ls == [i]) && orderB md ops r (ls.setIfInBounds i true)
theorem wpAnyH_weak {S S' : World → Prop} (hS : ∀ x, S' x → S x) : ∀ (f : Nat) (ls : Array Bool) (a : Act) (w : World), wpAnyH P md ops Q S' f ls a w → wpAnyH P md ops Q S f ls a w
  | 0, _, _, _, h => h
  | f + 1, _, _, _, h => ⟨h.1, fun i hi => wpOp_mono (fun a' w' h' => ⟨hS _ h'.1, wpAnyH_weak hS f _ a' w' h'.2⟩) (h.2 i hi)⟩
theorem below_drewl {B : Nat} {w w' : World} (h : Below B w w') : Below B w.drew w' := ⟨h.os, h.tape, h.output, h.size, h.block⟩
theorem ext_self (w : World) : ∃ d, w = ext w d := ⟨w, (ext_of (Below.refl _ _)).symm⟩
theorem ext_weak {w w' : World} (h : Below w.heap.size w w') : ∀ x, (∃ d, x = ext w' d) → ∃ d, x = ext w d := fun x ⟨d, hx⟩ => by
  refine ⟨x, (ext_of ?_).symm⟩
  rw [hx]
  exact Below.lift h (ext_below w' d)
theorem anyH_of_move (hs : Region.noSelect ops = true) (hQ : ∀ c a d v w, Q (.panic c) (a.put d v) w → Q (.panic c) a w) : ∀ (r : List (Nat × Bool)) (ls : Array Bool) (a : Act) (w : World),
    orderB md ops r ls = true → wpMove P ops Q r a w → wpAnyH P md ops Q (fun x => ∃ d, x = ext w d) r.length ls a w
  | [], ls, a, w, hB, h => ⟨by simpa [orderB] using hB, h⟩
  | (i, true) :: r, ls, a, w, hB, h => by
    obtain ⟨o, v, ho, hy, hr⟩ := h
    simp only [orderB, if_true, Bool.and_eq_true] at hB
    exact wpAnyH_take ho hs hB.1.1 hB.1.2 (fun c a w h => hQ c a _ _ w h) hy (ext_self w) (anyH_of_move hs hQ r _ _ w hB.2 hr)
  | (i, false) :: r, ls, a, w, hB, h => by
    simp only [orderB, Bool.false_eq_true, if_false, Bool.and_eq_true, beq_iff_eq] at hB
    refine wpAnyH_all hB.1 (by simp) fun j hj => ?_
    obtain rfl : j = i := by simpa using hj
    exact wpOp_mono (fun a' w' h' => ⟨⟨w', (ext_of h'.1).symm⟩, wpAnyH_weak (ext_weak h'.1) _ _ _ _ (anyH_of_move hs hQ r _ _ _ hB.2 h'.2)⟩) h
end

/-- A region that draws its order, in one order. -/
theorem wp_region_move {P : Program} {id : Nat} {Q : Exit → Act → World → Prop} {a : Act} {w : World} {l : List Oper} (order : List (Nat × Bool)) (hm : P.follows .mixedOrders = true) (hs : Region.noSelect l.toArray = true)
    (hB : (orderB .any l.toArray order (Array.replicate l.toArray.size false) && order.length == l.toArray.size) = true)
    (h : wpMove P l.toArray (NoPanic Q) order a w.drew) : (Code.region id l.toArray true).wp P Q a w := by
  simp only [Bool.and_eq_true, beq_iff_eq] at hB
  refine wp_region_noPanic (wp_region_held (S := fun x => ∃ d, x = ext w.drew d) hm ?_)
  have := anyH_of_move (md := .any) (Q := NoPanic Q) hs (fun _ _ _ _ _ h => h) order _ a w.drew hB.1 h
  rw [hB.2] at this
  exact this

/-- operation number i, as it is written -/
def nthO : List Oper → Nat → Option Oper
  | o :: _, 0 => some o
  | _ :: l, n + 1 => nthO l n
  | [], _ => none
theorem nthO_get : ∀ (l : List Oper) (i : Nat), l.toArray[i]? = nthO l i
  | [], i => by simp [nthO]
  | o :: l, 0 => by simp [nthO]
  | o :: l, i + 1 => by have := nthO_get l i; simpa [nthO] using this
section
variable {P : Program} {l : List Oper} {Q : Exit → Act → World → Prop} {i : Nat} {r : List (Nat × Bool)} {a : Act} {w : World} {o : Oper}
theorem move_done (h : Q .normal a w) : wpMove P l.toArray (NoPanic Q) [] a w := h
theorem move_read (hi : nthO l i = some o) (hr : readB o = true) (hw : Region.wanted o (yielded l.toArray a.tmps) = true) (h : ∀ K : Act → Prop, (∀ a, wpMove P l.toArray Q r a w → K a) → o.quiet P a (fun x => ∃ d, x = ext w d) K) : wpMove P l.toArray Q ((i, true) :: r) a w := by
  obtain ⟨v, h1, h2⟩ := h _ (fun _ h => h)
  refine ⟨o, v, (nthO_get l i).trans hi, Or.inl ⟨hw, fun x hx => ?_⟩, h2⟩
  have h3 := h1 x hx
  unfold Oper.quietAt at h3
  cases he : (execOp a.eval o).run P x with
  | halt y w1 => rw [he] at h3; exact h3.elim
  | ok n w1 =>
    obtain ⟨u, rfl⟩ := read_value hr he
    rw [he] at h3
    obtain ⟨rfl, rfl⟩ := h3
    rfl
theorem move_skip {b : Bool} (hi : nthO l i = some o) (hw : Region.wanted o (yielded l.toArray a.tmps) = false) (h : wpMove P l.toArray Q r (a.put o.dst undef) w) : wpMove P l.toArray Q ((i, b) :: r) a w := by
  cases b with
  | true => exact ⟨o, undef, (nthO_get l i).trans hi, Or.inr ⟨hw, rfl⟩, h⟩
  | false =>
    unfold wpMove wpOp
    rw [(nthO_get l i).trans hi]
    simp only [hw, Bool.false_eq_true, if_false]
    exact ⟨Below.refl _ _, h⟩
theorem move_act (hi : nthO l i = some o) (hw : Region.wanted o (yielded l.toArray a.tmps) = true)
    (h : ∀ Q' : Exit → Act → World → Prop, Hid (∀ a' w', Below w.heap.size w w' → wpMove P l.toArray Q r a' w' → Q' .normal a' w') → wpList P l.toArray Q' [o] a w) : wpMove P l.toArray Q ((i, false) :: r) a w := by
  have h1 := h (fun e a' w' => match e with | .normal => Below w.heap.size w w' ∧ wpMove P l.toArray Q r a' w' | e => Q e a' w') (hide fun a' w' hb hr => ⟨hb, hr⟩)
  unfold wpMove wpOp
  rw [(nthO_get l i).trans hi]
  simp only [hw, if_true]
  unfold wpList at h1
  simp only [hw, if_true] at h1
  rcases h1 with h1 | ⟨h1, h2⟩
  · left
    unfold Oper.wp at *
    generalize (execOp a.eval o).run P w = res at *
    cases res with
    | ok n w' =>
      cases n <;> simp only [Oper.upon] at h1 ⊢ <;>
        first
          | exact h1
          | exact Calls.mono h1 (fun e w'' he => by cases e <;> exact he)
          | exact Rows.mono h1 (fun _ _ he => he)
    | halt x w' => cases x <;> simp only [Oper.upon] at h1 ⊢ <;> exact h1
  · exact Or.inr ⟨h1, h2⟩
end

/-! ### The same, where what acts may write to blocks from B on -/
open Classical in
noncomputable def extB (B : Nat) (w d : World) : World := if Below B w d then d else w
theorem extB_below (B : Nat) (w d : World) : Below B w (extB B w d) := by
  unfold extB; split
  · assumption
  · exact Below.refl _ _
theorem extB_of {B : Nat} {w w' : World} (h : Below B w w') : extB B w w' = w' := by unfold extB; rw [if_pos h]
theorem extB_cell (B : Nat) (w d : World) (b o : Nat) : (extB B w d).cell? ⟨b, o, none⟩ = if b < B then w.cell? ⟨b, o, none⟩ else cellIn (extB B w d) ⟨b, o, none⟩ := by
  split
  · rename_i h; exact (extB_below B w d).cell (p := ⟨b, o, none⟩) h
  · rfl
theorem extB_frozen (B : Nat) (w d : World) (b o : Nat) : (extB B w d).frozen? ⟨b, o, none⟩ = if b < B then w.frozen? ⟨b, o, none⟩ else frozenIn (extB B w d) ⟨b, o, none⟩ := by
  split
  · rename_i h; exact (extB_below B w d).frozen (p := ⟨b, o, none⟩) h
  · rfl
theorem extB_self (B : Nat) (w : World) : ∃ d, w = extB B w d := ⟨w, (extB_of (Below.refl _ _)).symm⟩
theorem extB_weak {B : Nat} {w w' : World} (h : Below B w w') : ∀ x, (∃ d, x = extB B w' d) → ∃ d, x = extB B w d := fun x ⟨d, hx⟩ => by
  refine ⟨x, (extB_of ?_).symm⟩
  rw [hx]
  exact h.trans (extB_below B w' d)
section
variable {P : Program} {ops : Array Oper} {md : Region.Mode} {Q : Exit → Act → World → Prop} {B : Nat}
/-- the walk: (number, does it only read?) -/
def wpMoveB (B : Nat) (P : Program) (ops : Array Oper) (Q : Exit → Act → World → Prop) : List (Nat × Bool) → Act → World → Prop
  | [], a, w => Q .normal a w
  | (i, true) :: r, a, w => ∃ o v, ops[i]? = some o ∧ YieldsIf P ops (fun x => ∃ d, x = extB B w d) o v a ∧ wpMoveB B P ops Q r (a.put o.dst v) w
  | (i, false) :: r, a, w => wpOp P ops Q i (fun a' w' => Below B w w' ∧ wpMoveB B P ops Q r a' w') a w
theorem anyH_of_moveB (hs : Region.noSelect ops = true) (hQ : ∀ c a d v w, Q (.panic c) (a.put d v) w → Q (.panic c) a w) : ∀ (r : List (Nat × Bool)) (ls : Array Bool) (a : Act) (w : World),
    orderB md ops r ls = true → wpMoveB B P ops Q r a w → wpAnyH P md ops Q (fun x => ∃ d, x = extB B w d) r.length ls a w
  | [], ls, a, w, hB, h => ⟨by simpa [orderB] using hB, h⟩
  | (i, true) :: r, ls, a, w, hB, h => by
    obtain ⟨o, v, ho, hy, hr⟩ := h
    simp only [orderB, if_true, Bool.and_eq_true] at hB
    exact wpAnyH_take ho hs hB.1.1 hB.1.2 (fun c a w h => hQ c a _ _ w h) hy (extB_self B w) (anyH_of_moveB hs hQ r _ _ w hB.2 hr)
  | (i, false) :: r, ls, a, w, hB, h => by
    simp only [orderB, Bool.false_eq_true, if_false, Bool.and_eq_true, beq_iff_eq] at hB
    refine wpAnyH_all hB.1 (by simp) fun j hj => ?_
    obtain rfl : j = i := by simpa using hj
    exact wpOp_mono (fun a' w' h' => ⟨⟨w', (extB_of h'.1).symm⟩, wpAnyH_weak (extB_weak h'.1) _ _ _ _ (anyH_of_moveB hs hQ r _ _ _ hB.2 h'.2)⟩) h
end
/-- A region that draws its order, in one order. -/
theorem wp_region_moveB (B : Nat) {P : Program} {id : Nat} {Q : Exit → Act → World → Prop} {a : Act} {w : World} {l : List Oper} (order : List (Nat × Bool)) (hm : P.follows .mixedOrders = true) (hs : Region.noSelect l.toArray = true)
    (hB : (orderB .any l.toArray order (Array.replicate l.toArray.size false) && order.length == l.toArray.size) = true)
    (h : wpMoveB B P l.toArray (NoPanic Q) order a w.drew) : (Code.region id l.toArray true).wp P Q a w := by
  simp only [Bool.and_eq_true, beq_iff_eq] at hB
  refine wp_region_noPanic (wp_region_held (S := fun x => ∃ d, x = extB B w.drew d) hm ?_)
  have := anyH_of_moveB (md := .any) (Q := NoPanic Q) hs (fun _ _ _ _ _ h => h) order _ a w.drew hB.1 h
  rw [hB.2] at this
  exact this

section
variable {B : Nat} {P : Program} {l : List Oper} {Q : Exit → Act → World → Prop} {i : Nat} {r : List (Nat × Bool)} {a : Act} {w : World} {o : Oper}
theorem moveB_done (h : Q .normal a w) : wpMoveB B P l.toArray (NoPanic Q) [] a w := h
theorem moveB_read (hi : nthO l i = some o) (hr : readB o = true) (hw : Region.wanted o (yielded l.toArray a.tmps) = true) (h : ∀ K : Act → Prop, (∀ a, wpMoveB B P l.toArray Q r a w → K a) → o.quiet P a (fun x => ∃ d, x = extB B w d) K) : wpMoveB B P l.toArray Q ((i, true) :: r) a w := by
  obtain ⟨v, h1, h2⟩ := h _ (fun _ h => h)
  refine ⟨o, v, (nthO_get l i).trans hi, Or.inl ⟨hw, fun x hx => ?_⟩, h2⟩
  have h3 := h1 x hx
  unfold Oper.quietAt at h3
  cases he : (execOp a.eval o).run P x with
  | halt y w1 => rw [he] at h3; exact h3.elim
  | ok n w1 =>
    obtain ⟨u, rfl⟩ := read_value hr he
    rw [he] at h3
    obtain ⟨rfl, rfl⟩ := h3
    rfl
theorem moveB_skip {b : Bool} (hi : nthO l i = some o) (hw : Region.wanted o (yielded l.toArray a.tmps) = false) (h : wpMoveB B P l.toArray Q r (a.put o.dst undef) w) : wpMoveB B P l.toArray Q ((i, b) :: r) a w := by
  cases b with
  | true => exact ⟨o, undef, (nthO_get l i).trans hi, Or.inr ⟨hw, rfl⟩, h⟩
  | false =>
    unfold wpMoveB wpOp
    rw [(nthO_get l i).trans hi]
    simp only [hw, Bool.false_eq_true, if_false]
    exact ⟨Below.refl _ _, h⟩
theorem moveB_act (hi : nthO l i = some o) (hw : Region.wanted o (yielded l.toArray a.tmps) = true)
    (h : ∀ Q' : Exit → Act → World → Prop, Hid (∀ a' w', Below B w w' → wpMoveB B P l.toArray Q r a' w' → Q' .normal a' w') → wpList P l.toArray Q' [o] a w) : wpMoveB B P l.toArray Q ((i, false) :: r) a w := by
  have h1 := h (fun e a' w' => match e with | .normal => Below B w w' ∧ wpMoveB B P l.toArray Q r a' w' | e => Q e a' w') (hide fun a' w' hb hr => ⟨hb, hr⟩)
  unfold wpMoveB wpOp
  rw [(nthO_get l i).trans hi]
  simp only [hw, if_true]
  unfold wpList at h1
  simp only [hw, if_true] at h1
  rcases h1 with h1 | ⟨h1, h2⟩
  · left
    unfold Oper.wp at *
    generalize (execOp a.eval o).run P w = res at *
    cases res with
    | ok n w' =>
      cases n <;> simp only [Oper.upon] at h1 ⊢ <;>
        first
          | exact h1
          | exact Calls.mono h1 (fun e w'' he => by cases e <;> exact he)
          | exact Rows.mono h1 (fun _ _ he => he)
    | halt x w' => cases x <;> simp only [Oper.upon] at h1 ⊢ <;> exact h1
  · exact Or.inr ⟨h1, h2⟩
end

/-! ### A region of one order, an operation at a time -/
section
variable {P : Program} {ops : Array Oper} {Q : Exit → Act → World → Prop} {a : Act} {w : World} {o : Oper} {rest : List Oper}
theorem wpL_read (hr : readB o = true) (hw : Region.wanted o (yielded ops a.tmps) = true) (h : ∀ K : Act → Prop, (∀ a, wpList P ops Q rest a w → K a) → o.quiet P a (fun x => x = w) K) : wpList P ops Q (o :: rest) a w := by
  obtain ⟨v, h1, h2⟩ := h _ (fun _ h => h)
  have h3 := h1 w rfl
  unfold Oper.quietAt at h3
  unfold wpList
  rw [if_pos hw]
  refine Or.inl ?_
  unfold Oper.wp
  cases he : (execOp a.eval o).run P w with
  | halt y w1 => rw [he] at h3; exact h3.elim
  | ok n w1 =>
    obtain ⟨u, rfl⟩ := read_value hr he
    rw [he] at h3
    obtain ⟨rfl, rfl⟩ := h3
    exact h2
theorem wpL_done (h : Q .normal a w) : wpList P ops Q [] a w := h
theorem wpL_skip (hw : Region.wanted o (yielded ops a.tmps) = false) (h : wpList P ops Q rest (a.put o.dst undef) w) : wpList P ops Q (o :: rest) a w := by
  unfold wpList
  rw [if_neg (by rw [hw]; exact Bool.false_ne_true)]
  exact h
theorem wpL_act (hw : Region.wanted o (yielded ops a.tmps) = true)
    (h : ∀ Q' : Exit → Act → World → Prop, Hid (∀ a' w', wpList P ops Q rest a' w' → Q' .normal a' w') → wpList P ops Q' [o] a w) : wpList P ops Q (o :: rest) a w := by
  have h1 := h (fun e a' w' => match e with | .normal => wpList P ops Q rest a' w' | e => Q e a' w') (hide fun a' w' hr => hr)
  unfold wpList at h1 ⊢
  simp only [hw, if_true] at h1 ⊢
  rcases h1 with h1 | ⟨h1, h2⟩
  · left
    unfold Oper.wp at *
    generalize (execOp a.eval o).run P w = res at *
    cases res with
    | ok n w' =>
      cases n <;> simp only [Oper.upon] at h1 ⊢ <;>
        first
          | exact h1
          | exact Calls.mono h1 (fun e w'' he => by cases e <;> exact he)
          | exact Rows.mono h1 (fun _ _ he => he)
    | halt x w' => cases x <;> simp only [Oper.upon] at h1 ⊢ <;> exact h1
  · exact Or.inr ⟨h1, h2⟩
end
end Go.Proofs.Ytjpcchipejmocaa
