/-
  What the statement leans on, part 3: EvalOk, Itoa, Enc, Err, ValueN, ValH, LexH, LexB, Cvt, CellR, Fork, LexC.
-/
import Derived.Scope
import Derived.Laws.BytesString
import Derived.Shelf.Strconv.Itoa3
import Derived.Shelf.Small.Strs
import Derived.Shelf.Strconv.AtoiAll
import Derived.Test.YtnojoaneboppnaaDoorRows
import Derived.WalkLawsBesides
import Derived.WalkSpells
import Derived.Deep.Cut
import Derived.Deep.Light
import Derived.Test.YtnojoaneboppnaaDoorPk1
import Derived.Test.YtnojoaneboppnaaDoorPk2
namespace Go.Proofs.YtnojoaneboppnaaDoor
set_option linter.unusedVariables false
set_option linter.unusedSimpArgs false
open Go.RowKit
theorem toList_loop (s : ByteArray) : ∀ (n i : Nat) (r : List UInt8), s.size - i = n → ByteArray.toList.loop s i r = r.reverse ++ s.data.toList.drop i
  | 0, i, r, h => by
    unfold ByteArray.toList.loop
    rw [if_neg (by omega), List.drop_of_length_le (by rw [Array.length_toList]; show s.size ≤ i; omega), List.append_nil]
  | n + 1, i, r, h => by
    unfold ByteArray.toList.loop
    have hi : i < s.data.toList.length := by rw [Array.length_toList]; show i < s.size; omega
    rw [if_pos (by omega), toList_loop s n (i + 1) _ (by omega), List.reverse_cons, List.append_assoc, ← List.getElem_cons_drop hi]
    have : s.get! i = s.data.toList[i] := by
      have h2 : i < s.data.size := by rw [Array.length_toList] at hi; exact hi
      show s.data[i]! = _
      rw [getElem!_pos s.data i h2]; simp
    rw [this]; rfl
theorem zI (s : ByteArray) : s.toList = s.data.toList := by
  unfold ByteArray.toList
  rw [toList_loop s _ 0 [] rfl]; rfl
theorem sEq_ok : ∀ a b : List UInt8, sEq a b = (a == b)
  | [], [] => rfl
  | [], _ :: _ => rfl
  | _ :: _, [] => rfl
  | a :: r, b :: s => by
    rw [sEq, sEq_ok r s]
    by_cases h : a = b
    · subst h; simp
    · have : Nat.beq a.toNat b.toNat = false := by
        cases h2 : Nat.beq a.toNat b.toNat with
        | false => rfl
        | true => exact absurd (UInt8.toNat_inj.1 (Nat.eq_of_beq_eq_true h2)) h
      rw [this]; simp [h]
def RdO (P : Program) (K : List Nat) (st : St) (o : Oper) (s : SV) : Prop := ∀ (w0 : Base) (Sx : Nat → Prop) (γ : Nat → Value) (a : Act) (w : World), Sim w0 Sx γ st a w →
  ∃ v, RelS (okO Sx γ st.own) (hp γ st.own) w s v ∧ ∀ x, SameOn (vis K γ st.own) w x → (execOp a.eval o).run P x = .ok (.value v) x
section
variable {P : Program} {T : TT} (hT : qu P T) {K : List Nat} {st : St} {o : Oper} {β : Type} {k : SV → Option β} {b : β}
theorem RdO.of_sem {s : SV} {sem : Act → Sem Value} (he : ∀ a : Act, execOp a.eval o = (do pure (.value (← sem a)) : Sem Next)) (h : ∀ (w0 : Base) (Sx : Nat → Prop) (γ : Nat → Value) (a : Act) (w : World), Sim w0 Sx γ st a w → Rd P K Sx γ st w (sem a) s) : RdO P K st o s := fun w0 Sx γ a w hI => by
  obtain ⟨v, h1, h2⟩ := h w0 Sx γ a w hI
  exact ⟨v, h1, fun x hx => by rw [he]; exact run_v (h2 x hx)⟩
theorem jx {s : SV} {Q : St → Prop} (h : RdO P K st o s) (hd : qI st o.dst = true) (hQ : Q (st.put o.dst s)) : ActOk P [] o st Q := by
  intro w0 Sx γ a w QQ hI
  obtain ⟨v, h1, h2⟩ := h w0 Sx γ a w hI
  unfold Oper.wp
  rw [h2 w (SameOn.refl _ _)]
  refine ⟨γ, _, hQ, hI.put hd h1, SameOn.refl _ _, fun K _ b _ hv => ?_⟩
  rw [zO]; exact hv
include hT in
theorem qn {s : SV} {c : Prop} (h : opR T K st o.op = some (c, s)) (hc : c) : RdO P K st o s := fun _ _ _ _ _ hI => opR_ok hT hI h hc
theorem goF_ok {r : Option (Prop × SV)} {c : Bool} (h : goF r c k = some b) : ∃ p s, r = some (p, s) ∧ c = true ∧ k s = some b := by
  unfold goF at h
  split at h
  · rename_i p s
    cases c with
    | false => cases h
    | true => rw [cond_true, fSV_eq] at h; exact ⟨p, s, rfl, rfl, h⟩
  · cases h
theorem goP_ok {r : Option (Prop × SV)} (h : goP r k = some b) : ∃ p s, r = some (p, s) ∧ k s = some b := by
  unfold goP at h
  split at h
  · exact ⟨_, _, rfl, h⟩
  · cases h
theorem goS_ok {r : Option SV} (h : goS r k = some b) : ∃ s, r = some s ∧ k s = some b := by
  unfold goS at h
  split at h
  · exact ⟨_, rfl, h⟩
  · cases h
theorem binC_ok {op : BinOp} {x y v : Value} {c : Prop} (h : binV op x y = some (c, v)) (hc : binC op x y = true) : c := by
  unfold binV at h
  split at h
  · cases op <;> simp only [binC] at hc <;> dsimp only at h <;>
      first
        | (cases h; exact zb hc)
        | (split at h
           · first
               | (cases h; exact trivial)
               | (cases h; simpa using hc)
               | cases h
           · cases h)
        | cases h
  · cases op <;> simp only [binC] at hc <;> dsimp only at h <;>
      first
        | (cases h; exact trivial)
        | (cases h; have := Nat.le_of_ble_eq_true hc; show ((_ : Nat) : Int) ≤ 9223372036854775807; omega)
        | cases h
  · split at h
    · cases op <;> dsimp only at h <;> first | (cases h; exact trivial) | cases h
    · cases h
  · split at h
    · cases op <;> dsimp only at h <;> first | (cases h; exact trivial) | cases h
    · cases h
  · cases h
theorem rBinC_ok {op : BinOp} {t : TypeId} {x y : Option SV} {s : SV} {c : Prop} (h : rBin T op t x y = some (c, s)) (hc : rBinC T op t x y = true) : c := by
  unfold rBin at h
  split at h
  · split at h
    · split at h
      · cases h; exact trivial
      · cases h
    · cases h
  · rename_i x y _
    simp only [rBinC] at hc
    unfold ofV at h
    split at h
    · rename_i c' v hb
      cases h
      exact binC_ok hb hc
    · cases h
  · rename_i xs ys
    simp only [rBinC] at hc
    split at h
    · rename_i ht
      rw [qt, ht] at hc
      split at h
      · cases op <;> dsimp only at h <;> first | (cases h; exact hc) | cases h
      · cases h
    · cases h
  · cases h
theorem rIndexAddrC_ok {t : TypeId} {x i : Option SV} {s : SV} {c : Prop} (h : zi T st t x i = some (c, s)) (hc : qK T st t x i = true) : c := by
  unfold zi at h
  split at h
  · split at h
    · split at h
      · simp only [qK] at hc
        rename_i z l n
        generalize hb : Nat.beq _ _ = q at h
        cases q with
        | false => cases h
        | true => cases h; exact qM hc
      · simp only [qK, qt] at hc
        split at h
        · rename_i z l hj
          rw [hj] at hc
          generalize hb : Nat.beq _ _ = q at h
          cases q with
          | false => cases h
          | true => cases h; exact qM hc
        · cases h
      · simp only [qK] at hc
        rename_i z lo hi _ n
        generalize hb : Nat.beq _ _ = q at h
        cases q with
        | false => cases h
        | true => cases h; exact qM hc
      · cases h
    · cases h
  · rename_i ht
    split at h
    · split at h
      · simp only [qK, qt, ht] at hc
        cases h; exact qM hc
      · simp only [qK, qt, ht] at hc
        cases h; exact qM hc
      · cases h
    · cases h
  · cases h
theorem rIndexC_ok {t : TypeId} {x i : Option SV} {s : SV} {c : Prop} (h : rIndex T t x i = some (c, s)) (hc : rIndexC T t x i = true) : c := by
  unfold rIndex at h
  split at h
  · split at h
    · simp only [rIndexC] at hc
      cases h; exact qM hc
    · cases h
  · rename_i ht
    split at h
    · split at h
      · split at h
        · simp only [rIndexC, qt, ht] at hc
          cases h; exact qM hc
        · cases h
      · cases h
    · cases h
  · cases h
theorem endsC_ok {n : Nat} {lo hi : Option Operand} {l h : Int} (he : ends st n lo hi = some (l, h)) (hc : endsC st n lo hi = true) : 0 ≤ l ∧ l ≤ h ∧ h ≤ n := by
  unfold endsC at hc
  rw [he] at hc
  simp only [Bool.and_eq_true] at hc
  exact ⟨zb hc.1.1, zb hc.1.2, zb hc.2⟩
theorem rSliceC_ok {t : TypeId} {x : Option SV} {lo hi mx : Option Operand} {s : SV} {c : Prop} (h : rSlice T st t x lo hi mx = some (c, s)) (hc : rSliceC st x lo hi = true) : c := by
  unfold rSlice at h
  split at h
  · cases h
  · split at h
    · split at h
      · simp only [rSliceC] at hc
        split at h
        · rename_i he
          cases h; exact endsC_ok he hc
        · cases h
      · cases h
    · split at h
      · split at h
        · simp only [rSliceC] at hc
          rename_i z xs
          generalize hb : Nat.beq _ _ = q at h
          cases q with
          | false => cases h
          | true =>
            simp only [cond_true] at h
            split at h
            · rename_i he
              cases h; exact endsC_ok he hc
            · cases h
        · simp only [rSliceC, qt] at hc
          split at h
          · rename_i z xs hj
            rw [hj] at hc
            generalize hb : Nat.beq _ _ = q at h
            cases q with
            | false => cases h
            | true =>
              simp only [cond_true] at h
              split at h
              · rename_i he
                cases h; exact endsC_ok he hc
              · cases h
          · cases h
        · simp only [rSliceC] at hc
          rename_i z lo0 hi0
          generalize hb : Nat.beq _ _ = q at h
          cases q with
          | false => cases h
          | true =>
            simp only [cond_true] at h
            split at h
            · rename_i he
              cases h; exact endsC_ok he hc
            · cases h
        · cases h
      · cases h
    · cases h
theorem rLoadC_ok {t : TypeId} {x : Option SV} {s : SV} {c : Prop} (h : rLoad T K st t x = some (c, s)) (hc : rLoadC st x = true) : c := by
  unfold rLoad at h
  split at h
  · split at h
    · split at h
      · cases h; exact trivial
      · cases h
    · split at h
      · cases h
      · split at h
        · split at h
          · cases h; exact trivial
          · cases h
        · cases h
    · split at h
      · cases h
      · simp only [rLoadC, qt] at hc
        split at h
        · rename_i z' l hj
          rw [hj] at hc
          rename_i z kk _ _ _
          generalize hb : Nat.beq _ _ = q at h
          cases q with
          | false => cases h
          | true =>
            simp only [cond_true] at h
            split at h
            · cases h; simpa [Nat.blt, Nat.lt_iff_add_one_le] using hc
            · cases h
        · cases h
    · cases h
  · cases h
theorem rLookupC_ok {t : TypeId} {m key : Option SV} {s : SV} {c : Prop} (h : rLookup T K st t m key = some (c, s)) (hc : rLookupC T st t m = true) : c := by
  unfold rLookup at h
  split at h
  · rename_i ht
    split at h
    · rename_i hkt _
      split at h
      · split at h
        · cases h
        · split at h
          · rename_i es hj
            simp only [rLookupC, qt, ht, hkt, hj] at hc
            generalize hb : kdOk _ _ = q at h
            cases q with
            | false => cases h
            | true => cases h; exact hc
          · cases h
      · cases h
    · cases h
  · cases h
theorem isNil_ok {t : TypeId} {ptr b : Bool} {s : SV} (h : isNil T st t ptr s = some b) (hT : qu P T) {w0 : Base} {Sx : Nat → Prop} {γ : Nat → Value} {a : Act} {w : World} (hI : Sim w0 Sx γ st a w) {u : Value} (hu : RelS (okO Sx γ st.own) (hp γ st.own) w s u) :
    (ptr = false ∧ ∃ e A n c, P.underlying t = some (.slice e) ∧ u = .slice A n c ∧ A.isNone = b) ∨ (ptr = true ∧ ∃ e q, P.underlying t = some (.pointer e) ∧ u = .pointer q ∧ q.isNone = b) := by
  unfold isNil at h
  rw [qt] at h
  split at h
  · rename_i e _ _ ht
    have hd := (hT t _ ht).und
    simp only [qO] at hd
    refine Or.inl ⟨rfl, e, ?_⟩
    split at h
    · cases h; exact ⟨none, 0, 0, hd, hu.v_inv, rfl⟩
    · cases h
      obtain ⟨A, c, hv, hlc, hm, he, hsl⟩ := hu.p_inv.slat
      obtain ⟨b, o, rfl, _⟩ := hsl (by simp)
      exact ⟨_, _, _, hd, hv, rfl⟩
    · rw [qt] at h
      split at h
      · rename_i hj
        cases h
        obtain ⟨A, c, g1, g2, g3, g4, g5⟩ := row_slat hI.heap hj
        obtain ⟨b, o, rfl, _⟩ := g5 (by simp)
        cases hu with
        | row hg => rw [qo hj] at hg; cases hg; exact ⟨_, _, _, hd, g1, rfl⟩
      · cases h
    · cases h
  · rename_i ht
    have hd := (hT t _ ht).und
    simp only [qO] at hd
    obtain ⟨e, hd⟩ := hd
    refine Or.inr ⟨rfl, e, ?_⟩
    split at h
    · cases h; exact ⟨none, hd, hu.v_inv, rfl⟩
    · cases h
      obtain ⟨b, o, rfl⟩ := hu.p_inv.rp_form
      exact ⟨_, hd, rfl, rfl⟩
    · cases h
      obtain ⟨b, g, rfl, _⟩ := hu.ptr_form
      exact ⟨_, hd, rfl, rfl⟩
    · cases h
      obtain ⟨b, g, rfl, _⟩ := hu.eptr_form
      exact ⟨_, hd, rfl, rfl⟩
    · cases h
  · cases h
include hT in
theorem eNil_ok {op : BinOp} {t t' : TypeId} {x y : Operand} {ptr : Bool} (ho : o.op = .binOp op t x y t') (hy : evS st y = some (.p (.v (bif ptr then .pointer none else .slice none 0 0)))) (h : eNil T st op t t' ptr (evS st x) k = some b) : ∃ s, RdO P K st o s ∧ k s = some b := by
  unfold eNil at h
  split at h
  · rename_i s hx hbt
    have e1 : t = t' := Nat.eq_of_beq_eq_true hbt
    subst e1
    have key : ∀ r : Bool, isNil T st t ptr s = some r → (op = .eql → RdO P K st o (.p (.v (.bool r)))) ∧ (op = .neq → RdO P K st o (.p (.v (.bool !r)))) := by
      intro r hr
      have run : ∀ (w0 : Base) (Sx : Nat → Prop) (γ : Nat → Value) (a : Act) (w : World), Sim w0 Sx γ st a w → ∀ z, (op = .eql → (execOp a.eval o).run P z = .ok (.value (.bool r)) z) ∧ (op = .neq → (execOp a.eval o).run P z = .ok (.value (.bool !r)) z) := by
        intro w0 Sx γ a w hI z
        have hyv := (qh hI hy).v_inv
        rcases isNil_ok hr hT hI (qh hI hx) with ⟨rfl, e, A, n, c, hd, hv, rfl⟩ | ⟨rfl, e, q, hd, hv, rfl⟩
        · rw [cond_false] at hyv
          refine ⟨fun hop => ?_, fun hop => ?_⟩ <;> subst hop <;> simp only [execOp, ho, hv, hyv] <;> refine run_v ?_
          · have h1 : (eqGuard .eql t x y (.slice A n c) (.slice none 0 0)).run P z = .ok () z := rfl
            rw [Sem.run_bind, h1]
            simp only [Result.andThen_ok]
            simp [binOp, Op.equal, Op.maxDepth, run_equalIn_nil z 9999 t e A n c hd]
          · have h1 : (eqGuard .neq t x y (.slice A n c) (.slice none 0 0)).run P z = .ok () z := rfl
            rw [Sem.run_bind, h1]
            simp only [Result.andThen_ok]
            simp [binOp, Op.equal, Op.maxDepth, run_equalIn_nil z 9999 t e A n c hd]
        · rw [cond_true] at hyv
          have hq : ∀ d, (Op.equalIn (d + 1) t (.pointer q) (.pointer none)).run P z = .ok q.isNone z := fun d => by
            cases q <;> simp [Op.equalIn, run_underlying hd]
          refine ⟨fun hop => ?_, fun hop => ?_⟩ <;> subst hop <;> simp only [execOp, ho, hv, hyv] <;> refine run_v ?_
          · have h1 : (eqGuard .eql t x y (.pointer q) (.pointer none)).run P z = .ok () z := rfl
            rw [Sem.run_bind, h1]
            simp only [Result.andThen_ok]
            simp [binOp, Op.equal, Op.maxDepth, hq 9999]
          · have h1 : (eqGuard .neq t x y (.pointer q) (.pointer none)).run P z = .ok () z := rfl
            rw [Sem.run_bind, h1]
            simp only [Result.andThen_ok]
            simp [binOp, Op.equal, Op.maxDepth, hq 9999]
      exact ⟨fun hop w0 Sx γ a w hI => ⟨.bool r, .p (.v rfl), fun z _ => (run w0 Sx γ a w hI z).1 hop⟩, fun hop w0 Sx γ a w hI => ⟨.bool !r, .p (.v rfl), fun z _ => (run w0 Sx γ a w hI z).2 hop⟩⟩
    split at h
    · rename_i hr; exact ⟨_, (key _ hr).1 rfl, h⟩
    · rename_i hr; exact ⟨_, (key _ hr).2 rfl, h⟩
    · rename_i hr; exact ⟨_, (key _ hr).2 rfl, h⟩
    · cases h
  · cases h
include hT in
theorem eStr_ok {op : BinOp} {t t' : TypeId} {x y : Operand} {p q : ByteArray} (ho : o.op = .binOp op t x y t') (hx : evS st x = some (.p (.v (.string p)))) (hy : evS st y = some (.p (.v (.string q)))) (h : eStr op p q k = some b) : ∃ s, RdO P K st o s ∧ k s = some b := by
  have key : ∀ {c : Prop} {v : Value}, binV op (.string p) (.string q) = some (c, v) → c → RdO P K st o (.p (.v v)) := fun {c v} hv hc => by
    refine qn hT (c := c) ?_ hc
    rw [ho]
    show rBin T op t (evS st x) (evS st y) = _
    rw [hx, hy]
    show ofV (binV op (.string p) (.string q)) = _
    rw [hv]; rfl
  cases op <;> unfold eStr at h <;> dsimp only at h <;> first
    | (cases h; done)
    | (rw [fBool_eq, sEq_ok, ← zI, ← zI] at h; exact ⟨_, key rfl trivial, h⟩)
    | (rw [fBool_eq, ← zI, ← zI] at h; exact ⟨_, key rfl trivial, h⟩)
    | skip
  · cases hc : Nat.ble (p.size + q.size) 9223372036854775807 with
    | false => rw [hc] at h; cases h
    | true =>
      rw [hc, cond_true, qW] at h
      have e : (⟨⟨p.data.toList ++ q.data.toList⟩⟩ : ByteArray) = p ++ q := by
        apply ByteArray.ext
        rw [ByteArray.data_append]
        apply Array.toList_inj.1
        simp
      rw [e] at h
      refine ⟨_, key (v := .string (p ++ q)) rfl ?_, h⟩
      have := Nat.le_of_ble_eq_true hc
      show ((_ : Nat) : Int) ≤ 9223372036854775807; omega
include hT in
theorem eIfc_ok {op : BinOp} {t t' : TypeId} {x y : Operand} (ho : o.op = .binOp op t x y t') (hc : isConst y = true) (hy : evS st y = some (.p (.v .nilIface))) (h : eIfc T op t t' (evS st x) k = some b) : ∃ s, RdO P K st o s ∧ k s = some b := by
  unfold eIfc at h
  rw [qt] at h
  split at h
  · rename_i hx ht hbt
    have e1 : t = t' := Nat.eq_of_beq_eq_true hbt
    subst e1
    have hd := (hT t _ ht).und
    simp only [qO] at hd
    obtain ⟨m, hd⟩ := hd
    have hyc : ∃ v, y = .const v := by cases y <;> first | exact ⟨_, rfl⟩ | cases hc
    obtain ⟨yv, rfl⟩ := hyc
    have run : ∀ (w0 : Base) (Sx : Nat → Prop) (γ : Nat → Value) (a : Act) (w : World), Sim w0 Sx γ st a w → ∀ z, (op = .eql → (execOp a.eval o).run P z = .ok (.value (.bool true)) z) ∧ (op = .neq → (execOp a.eval o).run P z = .ok (.value (.bool false)) z) := by
      intro w0 Sx γ a w hI z
      have hyv := (qh hI hy).v_inv
      have hxv := (qh hI hx).v_inv
      have hq : ∀ d, (Op.equalIn (d + 1) t .nilIface .nilIface).run P z = .ok true z := fun d => by simp [Op.equalIn, run_underlying hd]
      refine ⟨fun hop => ?_, fun hop => ?_⟩ <;> subst hop <;> simp only [execOp, ho, hxv, hyv] <;> refine run_v ?_
      · have h1 : (eqGuard .eql t x (.const yv) .nilIface .nilIface).run P z = .ok () z := by simp [eqGuard]
        rw [Sem.run_bind, h1]
        simp only [Result.andThen_ok]
        simp [binOp, Op.equal, Op.maxDepth, hq 9999]
      · have h1 : (eqGuard .neq t x (.const yv) .nilIface .nilIface).run P z = .ok () z := by simp [eqGuard]
        rw [Sem.run_bind, h1]
        simp only [Result.andThen_ok]
        simp [binOp, Op.equal, Op.maxDepth, hq 9999]
    split at h
    · exact ⟨_, fun w0 Sx γ a w hI => ⟨.bool true, .p (.v rfl), fun z _ => (run w0 Sx γ a w hI z).1 rfl⟩, h⟩
    · exact ⟨_, fun w0 Sx γ a w hI => ⟨.bool false, .p (.v rfl), fun z _ => (run w0 Sx γ a w hI z).2 rfl⟩, h⟩
    · cases h
  · cases h
include hT in
theorem eBin_ok {op : BinOp} {t t' : TypeId} {x y : Operand} (ho : o.op = .binOp op t x y t') (h : eBin T st op t t' (isConst y) (evS st x) (evS st y) k = some b) : ∃ s, RdO P K st o s ∧ k s = some b := by
  unfold eBin at h
  split at h
  · rename_i hx hy; exact eStr_ok hT ho hx hy h
  · rename_i hy; exact eNil_ok hT ho (ptr := false) hy h
  · rename_i hy; exact eNil_ok hT ho (ptr := true) hy h
  · rename_i hy
    cases hc : isConst y with
    | false => rw [hc] at h; cases h
    | true => rw [hc] at h; exact eIfc_ok hT ho hc hy h
  · obtain ⟨p, s, h1, h2, h3⟩ := goF_ok h
    exact ⟨s, qn hT (by rw [ho]; exact h1) (rBinC_ok h1 h2), h3⟩
include hT in
theorem eIndex_ok {t : TypeId} {x i : Operand} (ho : o.op = .index t x i) (h : eIndex T t (evS st x) (evS st i) k = some b) : ∃ s, RdO P K st o s ∧ k s = some b := by
  unfold eIndex at h
  split at h
  · rename_i q q' n hx hi
    rw [qt] at h
    split at h
    · rename_i ht
      split at h
      · rename_i c hc
        cases hb : zw n q.size with
        | false => rw [hb] at h; cases h
        | true =>
          rw [hb, cond_true, zF] at h
          have e : zC q n.toNat = Int.ofNat c.toNat := by
            unfold zC
            rw [Array.getElem?_toList] at hc
            rw [Array.getD_eq_getD_getElem?, hc]; rfl
          refine ⟨_, qn hT (c := 0 ≤ n ∧ n < q.size) ?_ (qM hb), h⟩
          rw [ho, ← e]
          show rIndex T t (evS st x) (evS st i) = _
          rw [hx, hi]
          unfold rIndex
          rw [ht]
      · cases h
    · cases h
  · obtain ⟨p, s, h1, h2, h3⟩ := goF_ok h
    exact ⟨s, qn hT (by rw [ho]; exact h1) (rIndexC_ok h1 h2), h3⟩
include hT in
theorem eSlice_ok {t : TypeId} {x : Operand} {lo hi mx : Option Operand} (ho : o.op = .slice t x lo hi mx) (h : eSlice T st t (evS st x) lo hi mx k = some b) : ∃ s, RdO P K st o s ∧ k s = some b := by
  unfold eSlice at h
  split at h
  · rename_i q hx
    split at h
    · rename_i l r ht he
      rw [qt] at ht
      cases hb : ((ible 0 l && ible l r) && ible r (.ofNat q.size)) with
      | false => rw [hb] at h; cases h
      | true =>
        rw [hb, cond_true, qW] at h
        simp only [Bool.and_eq_true] at hb
        have hc : 0 ≤ l ∧ l ≤ r ∧ r ≤ q.size := ⟨zb hb.1.1, zb hb.1.2, zb hb.2⟩
        have e : (⟨⟨(q.data.toList.drop l.toNat).take (r.toNat - l.toNat)⟩⟩ : ByteArray) = q.extract l.toNat r.toNat := by
          apply ByteArray.ext
          rw [ByteArray.data_extract]
          apply Array.toList_inj.1
          simp [List.extract_eq_take_drop]
        rw [e] at h
        refine ⟨_, qn hT (c := 0 ≤ l ∧ l ≤ r ∧ r ≤ q.size) ?_ hc, h⟩
        rw [ho]
        show rSlice T st t (evS st x) lo hi none = _
        rw [hx]
        unfold rSlice
        rw [ht]
        simp only [he]
    · cases h
  · rename_i hx
    split at h
    · unfold eSliceX at h
      rw [qt] at h
      split at h
      · rename_i e _ _ ht
        have hd := (hT t _ ht).und
        simp only [qO] at hd
        split at h
        · rename_i l r _ he
          rw [qt] at h
          cases hb : ((lk e T).isSome && (ible 0 l && ible l r && ible r 0)) with
          | false => rw [hb] at h; cases h
          | true =>
            rw [hb, cond_true] at h
            simp only [Bool.and_eq_true] at hb
            obtain ⟨ei, hei⟩ := Option.isSome_iff_exists.1 hb.1
            have hc : 0 ≤ l ∧ l ≤ r ∧ r ≤ ((0 : Nat) : Int) := ⟨zb hb.2.1.1, zb hb.2.1.2, zb hb.2.2⟩
            have hi' := hT e ei hei
            have hl0 : l.toNat = 0 := by omega
            have hr0 : r.toNat = 0 := by omega
            refine ⟨_, RdO.of_sem (sem := fun a => Instr.sliceAt t (a.eval x) (lo.map a.eval) (hi.map a.eval) none) (fun a => by simp only [execOp, ho, Option.map_none]) fun w0 Sx γ a w hI => ?_, h⟩
            rw [(qh hI hx).v_inv]
            refine qr (v := .slice none 0 0) (.p (.v rfl)) fun z => ?_
            simp only [Instr.sliceAt, Instr.slice, Sem.run_bind, run_underlying hd, Result.andThen_ok, Option.map_none, ends_ok hI (P := P) (isSlice := true) he hc (Nat.le_refl _) z, Sem.run_pure, hi'.size z, hl0, hr0]
            rfl
        · cases h
      · cases h
    · cases h
  · obtain ⟨p, s, h1, h2, h3⟩ := goF_ok h
    exact ⟨s, qn hT (by rw [ho]; exact h1) (rSliceC_ok h1 h2), h3⟩
theorem bytesOf_get : ∀ {l : List (List PV)} {bs : List UInt8}, bytesOf l = some bs → bs.length = l.length ∧ ∀ i : Nat, i < l.length → ∃ n : Int, l[i]? = some [.v (.int .u8 n)] ∧ bs[i]? = some (UInt8.ofNat n.toNat)
  | [], bs, h => by simp only [bytesOf, Option.some.injEq] at h; subst h; exact ⟨rfl, fun i hi => by simp at hi⟩
  | c :: r, bs, h => by
    unfold bytesOf at h
    split at h
    · rename_i b hb
      split at h
      · rename_i l hl
        simp only [Option.some.injEq] at h
        subst h
        obtain ⟨h1, h2⟩ := bytesOf_get hl
        refine ⟨by simp [h1], fun i hi => ?_⟩
        cases i with
        | zero =>
          unfold byteOf at hb
          split at hb
          · rename_i n
            cases hb; exact ⟨n, rfl, rfl⟩
          · cases hb
        | succ i =>
          obtain ⟨n, g1, g2⟩ := h2 i (by simpa using hi)
          exact ⟨n, by simpa using g1, by simpa using g2⟩
      · cases h
    · cases h
theorem push_fold : ∀ (ns : List Int) (s : ByteArray), ns.foldl (fun r n => r.push (UInt8.ofNat n.toNat)) s = ⟨⟨s.data.toList ++ ns.map fun n => UInt8.ofNat n.toNat⟩⟩
  | [], s => by
    apply ByteArray.ext
    apply Array.toList_inj.1
    simp
  | n :: ns, s => by
    rw [List.foldl_cons, push_fold ns]
    apply ByteArray.ext
    apply Array.toList_inj.1
    simp [ByteArray.push]
theorem run_text {sT dT e : TypeId} {A : Option Addr} {c : Nat} {l : List (List PV)} {bs : List UInt8} {x : World} (hs : P.underlying sT = some (.slice e)) (he : P.underlying e = some (.int .u8)) (hd : P.underlying dT = some .string) (hl : bytesOf l = some bs)
    (h : 0 < l.length → ∃ b o, A = some ⟨b, o, none⟩ ∧ ∀ i n, l[i]? = some [.v (.int .u8 n)] → x.cell? ⟨b, o + i, none⟩ = some (.int .u8 n)) :
    (convert sT dT (.slice A l.length c)).run P x = .ok (.string ⟨⟨bs⟩⟩) x := by
  rw [run_convert_bytes_string x sT dT e A l.length c hs he hd]
  obtain ⟨g1, g2⟩ := bytesOf_get hl
  cases A with
  | none =>
    have : l = [] := by
      rcases Nat.eq_zero_or_pos l.length with h0 | h0
      · exact List.eq_nil_of_length_eq_zero h0
      · obtain ⟨b, o, hA, _⟩ := h h0; cases hA
    subst this
    have : bs = [] := List.eq_nil_of_length_eq_zero g1
    subst this
    simp [Conv.bytesToString]; rfl
  | some ad =>
    have hex : ∀ i : Nat, ∃ n : Int, i < l.length → l[i]? = some [.v (.int .u8 n)] ∧ bs[i]? = some (UInt8.ofNat n.toNat) := fun i => by
      by_cases hi : i < l.length
      · obtain ⟨n, h1⟩ := g2 i hi; exact ⟨n, fun _ => h1⟩
      · exact ⟨0, fun h => absurd h hi⟩
    obtain ⟨f, hf⟩ := Classical.axiomOfChoice hex
    have hbs : bs = ((List.range l.length).map f).map fun n => UInt8.ofNat n.toNat := by
      refine List.ext_getElem? fun i => ?_
      by_cases hi : i < l.length
      · rw [(hf i hi).2]; simp [hi]
      · rw [List.getElem?_eq_none (by omega), List.getElem?_eq_none (by simp; omega)]
    have hcells : ∀ j v, (((List.range l.length).map f).map (Value.int .u8))[j]? = some v → x.cell? (ad.add j) = some v := fun j v hv => by
      have hj : j < l.length := by have := (List.getElem?_eq_some_iff.1 hv).1; simpa using this
      obtain ⟨b, o, hA, hx⟩ := h (by omega)
      cases hA
      rw [qU]
      simp [hj] at hv
      rw [← hv]
      exact hx j _ (hf j hj).1
    have h1 := run_loadCells_list (P := P) x ad _ hcells
    rw [List.length_map, List.length_map, List.length_range] at h1
    rw [run_bytesToString x ad l.length c _ h1, push_fold, hbs]
    rfl
include hT in
theorem eConv_ok {sT dT : TypeId} {x : Operand} (ho : o.op = .convert sT dT x) (h : eConv T K st sT dT (evS st x) k = some b) : ∃ s, RdO P K st o s ∧ k s = some b := by
  have put : ∀ {l : List (List PV)}, eText T sT dT l k = some b → (∀ (w0 : Base) (Sx : Nat → Prop) (γ : Nat → Value) (a : Act) (w : World), Sim w0 Sx γ st a w → ∃ A c, a.eval x = .slice A l.length c ∧ ∀ z, SameOn (vis K γ st.own) w z → 0 < l.length → ∃ b o, A = some ⟨b, o, none⟩ ∧ ∀ i n, l[i]? = some [.v (.int .u8 n)] → z.cell? ⟨b, o + i, none⟩ = some (.int .u8 n)) →
      ∃ s, RdO P K st o s ∧ k s = some b := fun {l} h hx => by
    unfold eText at h
    rw [qt, qt] at h
    split at h
    · rename_i e _ _ _ _ _ _ hs hd
      rw [qt] at h
      split at h
      · rename_i bs he hbs
        rw [qW] at h
        have us := (hT sT _ hs).und
        have ud := (hT dT _ hd).und
        have ue := (hT e _ he).und
        simp only [qO] at us ud ue
        refine ⟨_, RdO.of_sem (sem := fun a => convert sT dT (a.eval x)) (fun a => by simp only [execOp, ho]) fun w0 Sx γ a w hI => ?_, h⟩
        obtain ⟨A, c, ha, hc⟩ := hx w0 Sx γ a w hI
        exact ⟨_, .p (.v rfl), fun z hz => by rw [ha]; exact run_text us ue ud hbs (hc z hz)⟩
      · cases h
    · cases h
  unfold eConv at h
  split at h
  · rename_i zz l hx
    refine put h fun w0 Sx γ a w hI => ?_
    have hr := (qh hI hx).p_inv
    obtain ⟨A, c, hv, _⟩ := hr.slat
    refine ⟨A, c, hv, fun z hz hl => ?_⟩
    have hrz : RelP (okO Sx γ st.own) z (.sl zz l) (a.eval x) := hr.keep (hz.weak fun b _ hok => okO_vis hok)
    obtain ⟨A2, c2, hv2, _, _, he, hsl⟩ := hrz.slat
    rw [hv] at hv2
    cases hv2
    obtain ⟨b, o, hA, _, _, hc⟩ := hsl hl
    refine ⟨b, o, hA, fun i n hi => ?_⟩
    have hil : i < l.length := (List.getElem?_eq_some_iff.1 hi).1
    have hz1 : zz = 1 := by have := (he _ (List.mem_of_getElem? hi)).1; simpa using this.symm
    obtain ⟨cs, q1, q2, q3⟩ := hc i hil
    have hli : l[i] = [.v (.int .u8 n)] := by rw [List.getElem?_eq_getElem hil] at hi; exact Option.some.inj hi
    rw [hli] at q3
    have hcl : cs.length = 1 := q3.1
    have hcs : ∃ u, cs = [u] := by
      match cs, hcl with
      | [u], _ => exact ⟨u, rfl⟩
    obtain ⟨u, rfl⟩ := hcs
    have hu := jr (q3.2 0 _ u rfl rfl) rfl
    subst hu
    have := q2 0 _ rfl
    rw [hz1, Nat.mul_one, Nat.add_zero] at this
    exact this
  · rename_i hx
    refine put h fun w0 Sx γ a w hI => ⟨none, 0, (qh hI hx).v_inv, fun z _ hl => by simp at hl⟩
  · rename_i j hx
    cases hK : K.contains j with
    | true => rw [hK] at h; cases h
    | false =>
      rw [hK, cond_false, qt] at h
      split at h
      · rename_i e zz l hj
        refine put h fun w0 Sx γ a w hI => ?_
        have hr := qh hI hx
        obtain ⟨A, c, g1, g2, g3, g4, g5⟩ := row_slat hI.heap hj
        have ha : a.eval x = γ j := by
          generalize a.eval x = u at hr
          cases hr with
          | row hg => rw [qo hj] at hg; cases hg; rfl
        refine ⟨A, c, by rw [ha, g1], fun z hz hl => ?_⟩
        obtain ⟨b, o, hA, hlt, hc⟩ := g5 hl
        refine ⟨b, o, hA, fun i n hi => ?_⟩
        have hil : i < l.length := (List.getElem?_eq_some_iff.1 hi).1
        have hz1 : zz = 1 := by have := (g4 _ (List.mem_of_getElem? hi)).1; simpa using this.symm
        obtain ⟨cs, q1, q2, q3, q4⟩ := hc i hil
        have hli : l[i] = [.v (.int .u8 n)] := by rw [List.getElem?_eq_getElem hil] at hi; exact Option.some.inj hi
        rw [hli] at q4
        have hcs : ∃ u, cs = [u] := by
          match cs, (q4.1 : cs.length = 1) with
          | [u], _ => exact ⟨u, rfl⟩
        obtain ⟨u, rfl⟩ := hcs
        have hu := jr (q4.2 0 _ u rfl rfl) rfl
        subst hu
        have := q2 0 _ rfl
        rw [hz1, Nat.mul_one, Nat.add_zero] at this
        have hbj : qs (γ j) = some b := by rw [g1, hA]; rfl
        rw [World.cell?_of_block (w := w) (a := ⟨b, o + i, none⟩) (hz.block b hlt fun i2 bx h1 h2 h3 => ?_)]
        · exact this
        · have := hI.heap.inj i2 j _ _ b h1 hj h3 hbj
          subst this
          rw [hK] at h2; cases h2
      · cases h
  · obtain ⟨p, s, h1, _, h3⟩ := goF_ok h
    refine ⟨s, qn hT (by rw [ho]; exact h1) ?_, h3⟩
    unfold rConv at h1
    repeat' split at h1
    all_goals first | (cases h1; done) | (cases h1; exact trivial)
include hT in
theorem eCall_ok {c : Call} (ho : o.op = .call c) (h : eCall T st c k = some b) : ∃ s, RdO P K st o s ∧ k s = some b := by
  unfold eCall at h
  simp only [evF_eq] at h
  have put : ∀ {r : Option (Prop × SV)}, opR T K st (.call c) = r → (∀ p s, r = some (p, s) → p) → goF r true k = some b → ∃ s, RdO P K st o s ∧ k s = some b := fun {r} he hp h => by
    obtain ⟨p, s, h1, _, h3⟩ := goF_ok h
    exact ⟨s, qn hT (by rw [ho, he]; exact h1) (hp p s h1), h3⟩
  split at h
  · rename_i hcl
    split at h
    · rename_i hargs hts
      refine put ?_ (fun p s hr => ?_) h
      · simp only [opR, hcl, hargs, hts]
      · unfold rLen at hr
        repeat' split at hr
        all_goals first | (cases hr; done) | (cases hr; exact trivial)
    · cases h
  · rename_i hcl
    split at h
    · rename_i hargs
      refine put ?_ (fun p s hr => ?_) h
      · simp only [opR, hcl, hargs]
      · unfold rMinMax at hr
        repeat' split at hr
        all_goals first | (cases hr; done) | (cases hr; exact trivial)
    · cases h
  · rename_i hcl
    split at h
    · rename_i hargs
      refine put ?_ (fun p s hr => ?_) h
      · simp only [opR, hcl, hargs]
      · unfold rMinMax at hr
        repeat' split at hr
        all_goals first | (cases hr; done) | (cases hr; exact trivial)
    · cases h
  · rename_i hcl
    split at h
    · rename_i hargs
      obtain ⟨p, s, h1, h3⟩ := goP_ok h
      refine ⟨s, qn hT (c := p) (by rw [ho]; simp only [opR, hcl, hargs]; exact h1) ?_, h3⟩
      unfold rReal at h1
      repeat' split at h1
      all_goals first | (cases h1; done) | (cases h1; exact trivial)
    · cases h
  · rename_i hcl
    split at h
    · rename_i hargs
      obtain ⟨p, s, h1, h3⟩ := goP_ok h
      refine ⟨s, qn hT (c := p) (by rw [ho]; simp only [opR, hcl, hargs]; exact h1) ?_, h3⟩
      unfold rImag at h1
      repeat' split at h1
      all_goals first | (cases h1; done) | (cases h1; exact trivial)
    · cases h
  · rename_i hcl
    split at h
    · rename_i hargs
      obtain ⟨p, s, h1, h3⟩ := goP_ok h
      refine ⟨s, qn hT (c := p) (by rw [ho]; simp only [opR, hcl, hargs]; exact h1) ?_, h3⟩
      unfold rCplx at h1
      repeat' split at h1
      all_goals first | (cases h1; done) | (cases h1; exact trivial)
    · cases h
  · cases h
include hT in
theorem opE_ok (h : opE T K st o.op k = some b) : ∃ s, RdO P K st o s ∧ k s = some b := by
  unfold opE at h
  simp only [evF_eq] at h
  have yes_of : ∀ {r : Option (Prop × SV)}, (∀ p s, r = some (p, s) → p) → opR T K st o.op = r → goF r true k = some b → ∃ s, RdO P K st o s ∧ k s = some b := fun {r} hp he h => by
    obtain ⟨p, s, h1, _, h3⟩ := goF_ok h
    exact ⟨s, qn hT (he.trans h1) (hp p s h1), h3⟩
  split at h
  · rename_i x ho
    obtain ⟨s, h1, h2⟩ := goS_ok h
    exact ⟨s, qn hT (c := True) (by rw [ho]; simp only [opR, h1]; rfl) trivial, h2⟩
  · rename_i x ho
    obtain ⟨s, h1, h2⟩ := goS_ok h
    exact ⟨s, qn hT (c := True) (by rw [ho]; simp only [opR, h1]; rfl) trivial, h2⟩
  · rename_i c x y ho
    obtain ⟨p, s, h1, h2⟩ := goP_ok h
    refine ⟨s, qn hT (c := p) (by rw [ho]; exact h1) ?_, h2⟩
    unfold rPick at h1
    repeat' split at h1
    all_goals first | (cases h1; done) | (cases h1; exact trivial)
  · rename_i ho; exact eBin_ok hT ho h
  · rename_i op t x ho
    unfold eUn at h
    split at h
    · rename_i v hx
      split at h
      · rename_i v' hv
        rw [fVal_eq] at h
        exact ⟨_, qn hT (c := True) (by rw [ho]; simp only [opR, hx, hv]; rfl) trivial, h⟩
      · cases h
    · cases h
  · rename_i ho; exact eConv_ok hT ho h
  · rename_i ho
    refine yes_of (fun p s hr => ?_) (by rw [ho]; rfl) h
    unfold rField at hr
    repeat' split at hr
    all_goals first | (cases hr; done) | (cases hr; exact trivial)
  · rename_i ho
    refine yes_of (fun p s hr => ?_) (by rw [ho]; rfl) h
    unfold zy at hr
    split at hr
    · split at hr
      · split at hr
        · generalize Nat.beq _ _ = q at hr
          cases q with
          | true => cases hr
          | false =>
            rw [cond_false] at hr
            split at hr
            all_goals first | (cases hr; done) | (cases hr; exact trivial)
        · cases hr
      · cases hr
    · cases hr
  · rename_i ho
    obtain ⟨p, s, h1, h2, h3⟩ := goF_ok h
    exact ⟨s, qn hT (by rw [ho]; exact h1) (rIndexAddrC_ok h1 h2), h3⟩
  · rename_i ho; exact eIndex_ok hT ho h
  · rename_i ho; exact eSlice_ok hT ho h
  · rename_i ho
    obtain ⟨p, s, h1, h2, h3⟩ := goF_ok h
    exact ⟨s, qn hT (by rw [ho]; exact h1) (rLoadC_ok h1 h2), h3⟩
  · rename_i x n ho
    unfold eExtract at h
    split at h
    · rename_i cs hx
      obtain ⟨s, h1, h2⟩ := goS_ok h
      exact ⟨s, qn hT (c := True) (by rw [ho]; simp only [opR, hx, h1]; rfl) trivial, h2⟩
    · cases h
  · rename_i f first caps ho
    unfold eFn at h
    obtain ⟨p, s, h1, _, h3⟩ := goF_ok h
    refine ⟨s, qn hT (by rw [ho]; exact h1) ?_, h3⟩
    cases f with
    | func f =>
      simp only [opR] at h1
      repeat' split at h1
      all_goals first | (cases h1; done) | (cases h1; exact trivial)
    | _ => simp only [opR] at h1; cases h1
  · rename_i ho; exact eCall_ok hT ho h
  · rename_i ho
    obtain ⟨p, s, h1, h2, h3⟩ := goF_ok h
    exact ⟨s, qn hT (by rw [ho]; exact h1) (rLookupC_ok h1 h2), h3⟩
  · rename_i ho
    unfold eFn at h
    obtain ⟨p, s, h1, _, h3⟩ := goF_ok h
    refine ⟨s, qn hT (by rw [ho]; exact h1) ?_, h3⟩
    have h1 : rBuild T st _ _ = some (p, s) := h1
    unfold rBuild at h1
    split at h1
    · generalize (_ && _) = q at h1
      cases q with
      | false => cases h1
      | true =>
        rw [cond_true] at h1
        split at h1
        all_goals first | (cases h1; done) | (cases h1; exact trivial)
    · cases h1
  · rename_i ho
    unfold eFn at h
    obtain ⟨p, s, h1, _, h3⟩ := goF_ok h
    refine ⟨s, qn hT (by rw [ho]; exact h1) ?_, h3⟩
    simp only [opR] at h1
    split at h1
    all_goals first | (cases h1; done) | (cases h1; exact trivial)
  · cases h
end
section
variable {P : Program} {T : TT} (hT : qu P T) {st : St} {o : Oper} {β : Type} {k : List Nat → St → Option β} {b : β}
theorem blt_lt {a b : Nat} (h : Nat.blt a b = true) : a < b := by simpa [Nat.blt, Nat.lt_iff_add_one_le] using h
theorem newBox_ok {d : Nat} {s : SV} {bx : Box} (h : newBox st d s bx k = some b) : lk d st.own = none ∧ Nat.blt d st.n = true ∧ k [] ⟨st.n, (d, s) :: st.fr, (d, bx) :: st.own⟩ = some b := by
  unfold newBox at h
  rw [qt] at h
  cases hb : ((lk d st.own).isNone && Nat.blt d st.n) with
  | false => rw [hb] at h; cases h
  | true =>
    rw [hb, cond_true, fBox_eq, fN_eq] at h
    simp only [Bool.and_eq_true] at hb
    exact ⟨Option.isNone_iff_eq_none.1 hb.1, hb.2, h⟩
def Goes (P : Program) (st : St) (o : Oper) (k : List Nat → St → Option β) (b : β) : Prop := ∃ Ws st', ActOk P Ws o st (fun s => s = st') ∧ k Ws st' = some b
include hT in
theorem allocE_ok {e : TypeId} (ho : o.op = .alloc e) (h : allocE T st o.dst e k = some b) : Goes P st o k b := by
  unfold allocE at h
  rw [qt] at h
  split at h
  · rename_i d i hd hi
    cases hz : i.zero.all plain with
    | false => rw [hz] at h; cases h
    | true =>
      rw [hz, cond_true] at h
      obtain ⟨h1, h2, h3⟩ := newBox_ok h
      exact ⟨_, _, act_alloc hT ho hd hi hz h1 h2 rfl, h3⟩
  · cases h
theorem boxE_ok {e : TypeId} {x : Operand} (ho : o.op = .box e x) (h : boxE st o.dst (evS st x) k = some b) : Goes P st o k b := by
  unfold boxE at h
  split at h
  · rename_i d s hd hx
    split at h
    · rename_i cs hc
      cases hz : cs.all oneS with
      | false => rw [hz] at h; cases h
      | true =>
        rw [hz, cond_true] at h
        obtain ⟨h1, h2, h3⟩ := newBox_ok h
        exact ⟨_, _, act_box ho hd hx hc hz h1 h2 rfl, h3⟩
    · cases h
  · cases h
theorem ActOk.frz {Ws : List Nat} {Q : St → Prop} {i : Nat} {e : TypeId} {z : Nat} {l : List (List PV)} (hk : lk i st.own = some (.row e z l)) (h : ActOk P Ws o (st.frz i z l) Q) : ActOk P Ws o st Q := by
  intro w0 Sx γ a w QQ hI
  have old : ∀ {j bx}, lk j (st.frz i z l).own = some bx → ∃ b0, lk j st.own = some b0 := fun {j bx} hj => by
    have hj : lk j ((del i st.own).map fun p => (p.1, p.2.frz i z l)) = some bx := hj
    rw [lk_map, lk_del] at hj
    split at hj
    · cases hj
    · obtain ⟨b0, h1, _⟩ := Option.map_eq_some_iff.1 hj
      exact ⟨b0, h1⟩
  have hv : ∀ K b, vis K γ st.own b → vis K γ (st.frz i z l).own b := fun K b hv j bx hj hK hb => by
    obtain ⟨b0, h1⟩ := old hj
    exact hv j b0 h1 hK hb
  refine Oper.wp_mono (fun a' w' hq => ?_) (h w0 Sx γ a w QQ (sim_frz hk hI))
  obtain ⟨γ', st', h1, h2, h3, h4⟩ := hq
  exact ⟨γ', st', h1, h2, ⟨h3.size, fun b hb hv' => h3.block b hb (hv _ b hv')⟩, fun K hK b hb hv' => h4 K hK b hb (hv K b hv')⟩
theorem frzAll_ok {k : St → Option β} : ∀ {ids : List Nat} {st : St}, frzAll ids st k = some b → ∃ st1, (∀ Ws Q, ActOk P Ws o st1 Q → ActOk P Ws o st Q) ∧ k st1 = some b
  | [], st, h => ⟨st, fun _ _ h => h, h⟩
  | i :: r, st, h => by
    unfold frzAll at h
    rw [qt] at h
    split at h
    · rename_i hi
      rw [fSt_eq] at h
      obtain ⟨st1, h1, h2⟩ := frzAll_ok h
      exact ⟨st1, fun Ws Q hQ => ActOk.frz hi (h1 Ws Q hQ), h2⟩
    · exact frzAll_ok h
include hT in
theorem buildE_ok {t : TypeId} {len : Nat} {parts : Array (Nat × Operand)} {xs : List Operand} (ho : o.op = .buildSlice t len parts) (hp : qV 0 parts.toList = some xs) (h : buildE T st o.dst t len xs k = some b) : Goes P st o k b := by
  unfold buildE at h
  rw [qt] at h
  split at h
  · rename_i d _ _ e _ _ ss hd ht hss
    rw [qt] at h
    split at h
    · rename_i ei hei
      cases hb : (Nat.blt 0 ei.size && Nat.ble (len * ei.size) 16777216 && Nat.beq xs.length len) with
      | false => rw [hb] at h; cases h
      | true =>
        rw [hb, cond_true, fNats_eq] at h
        simp only [Bool.and_eq_true] at hb
        obtain ⟨st1, h1, h2⟩ := frzAll_ok (P := P) (o := o) h
        split at h2
        · rename_i l hl
          rw [fEls_eq] at h2
          obtain ⟨g1, g2, g3⟩ := newBox_ok h2
          exact ⟨_, _, h1 _ _ (act_buildSlice hT ho hd ht rfl hei hb.1.1 hb.1.2 hp hb.2 hl g1 g2 rfl), g3⟩
        · cases h2
    · cases h
  · cases h
include hT in
theorem storeE_ok {t : TypeId} {ad x : Operand} (ho : o.op = .store t ad x) (hdst : o.dst = none) (h : storeE T st t (evS st ad) (evS st x) k = some b) : Goes P st o k b := by
  unfold storeE at h
  rw [qt] at h
  split at h
  · rename_i ti j off s ht had hx
    rw [qt] at h
    split at h
    · rename_i cs xs hj hc
      cases hb : (xs.all oneS && Nat.beq xs.length ti.size && Nat.ble (off + xs.length) cs.length) with
      | false => rw [hb] at h; cases h
      | true =>
        rw [hb, cond_true, fOnes_eq, fOwn_eq, fN_eq] at h
        simp only [Bool.and_eq_true] at hb
        exact ⟨_, _, act_store hT ho hdst ht had hj hx hc hb.1.1 hb.1.2 hb.2 rfl, h⟩
    · cases h
  · rename_i ti j z i off s ht had hx
    rw [qt] at h
    split at h
    · rename_i e z' l xs hj hc
      cases hb : (Nat.beq z z' && xs.all oneP && Nat.beq xs.length ti.size && Nat.ble (off + xs.length) z && Nat.blt i l.length) with
      | false => rw [hb] at h; cases h
      | true =>
        rw [hb, cond_true, fLeafs_eq, qW, fOwn_eq, fN_eq] at h
        simp only [Bool.and_eq_true] at hb
        have ez : z = z' := Nat.eq_of_beq_eq_true hb.1.1.1.1
        subst ez
        exact ⟨_, _, act_store_elem hT ho hdst ht had hj (blt_lt hb.2) hx hc hb.1.1.1.2 hb.1.1.2 hb.1.2 rfl, h⟩
    · cases h
  · cases h
include hT in
theorem mapE_ok {t : TypeId} {m key x : Operand} (ho : o.op = .mapUpdate t m key x) (hdst : o.dst = none) (h : mapE T st t (evS st m) (evS st key) (evS st x) k = some b) : Goes P st o k b := by
  unfold mapE at h
  rw [qt] at h
  split at h
  · rename_i _ _ kt et _ _ j kv p ht hm hkv hx
    rw [qt, qt] at h
    split at h
    · rename_i ki es hki hj
      cases hb : (kdOk ki.d kv && es.all (fun x => kdOk ki.d x.1) && (mfind kv es).isNone) with
      | false => rw [hb] at h; cases h
      | true =>
        rw [hb, cond_true, fMap_eq, fOwn_eq, fN_eq] at h
        simp only [Bool.and_eq_true] at hb
        exact ⟨_, _, act_mapUpdate hT ho hdst ht rfl hki hm hj hkv hb.1.1 hb.1.2 (Option.isNone_iff_eq_none.1 hb.2) hx rfl, h⟩
    · cases h
  · cases h
section
variable {sx xx : Operand} {t e : TypeId} {cl : Call} (ho : o.op = .call cl) (hcl : cl.callee = .builtin .append) (hargs : cl.args.toList = [sx, xx]) (hts : cl.argTypes.toList = [t, t]) {d : Nat} (hdst : o.dst = some d)
  {ti ei : TyI} (ht : lk t T = some ti) (hte : ti.d = .sl e) (he : lk e T = some ei) (hsz : Nat.blt 0 ei.size = true) (hz : Nat.beq ei.zero.length ei.size = true)
include hT ho hcl hargs hts hdst ht hte he hsz hz
theorem appNil_ok (hs : evS st sx = some (.p (.v (.slice none 0 0)))) (h : appNil st d e ei (evS st xx) k = some b) : Goes P st o k b := by
  unfold appNil at h
  split at h
  · rename_i s2 hx
    split at h
    · rename_i l2 hl2
      cases hc : Nat.ble (l2.length * ei.bytes) 140737488355328 with
      | false => rw [hc] at h; cases h
      | true =>
        rw [hc, cond_true] at h
        obtain ⟨g1, g2, g3⟩ := newBox_ok h
        exact ⟨_, _, act_append_nil hT ho hcl hargs hts hdst ht hte he hsz hz hs hx hl2 g1 g2 (Nat.le_of_ble_eq_true hc) rfl, g3⟩
    · cases h
  · cases h
theorem appRow_ok {k : St → Option β} {j : Nat} (hn : Nat.blt d st.n = true) (hs : evS st sx = some (.row j)) (h : appRow st d e ei j (evS st xx) k = some b) : ∃ st', ActOk P [j] o st (fun s => s = st') ∧ k st' = some b := by
  unfold appRow at h
  rw [qt] at h
  split at h
  · rename_i e' z l s2 hj hx
    split at h
    · rename_i l2 hl2
      cases hc : (Nat.beq e' e && Nat.beq z ei.size && Nat.ble (l.length + l2.length) reachBytes && Nat.ble ((l.length + l2.length) * ei.bytes) 140737488355328 && (lk d (killO j st.own)).isNone) with
      | false => rw [hc] at h; cases h
      | true =>
        rw [hc, cond_true, qW, fSt_eq] at h
        simp only [Bool.and_eq_true] at hc
        have e1 : e' = e := Nat.eq_of_beq_eq_true hc.1.1.1.1
        have e2 : z = ei.size := Nat.eq_of_beq_eq_true hc.1.1.1.2
        subst e1 e2
        exact ⟨_, qy hT ho hcl hargs hts hdst ht hte he hsz hz hs hj hx hl2 (Option.isNone_iff_eq_none.1 hc.2) hn (Nat.le_of_ble_eq_true hc.1.1.2) (Nat.le_of_ble_eq_true hc.1.2) rfl, h⟩
    · cases h
  · cases h
theorem appView_ok {k : St → Option β} {j zv m : Nat} (hn : Nat.blt d st.n = true) (hs : evS st sx = some (.view j zv 0 m)) (h : appView st d e ei sx xx j zv m k = some b) : ∃ st', ActOk P [j] o st (fun s => s = st') ∧ k st' = some b := by
  unfold appView at h
  rw [qt] at h
  split at h
  · rename_i tt e' z l0 hj
    cases hc : ((lk 904999 st.own).isNone && Nat.beq zv z) with
    | false => rw [hc] at h; cases h
    | true =>
      rw [hc, cond_true, fSt_eq, evF_eq] at h
      simp only [Bool.and_eq_true] at hc
      have e1 : zv = z := Nat.eq_of_beq_eq_true hc.2
      subst e1
      obtain ⟨st', h1, h2⟩ := appRow_ok (st := shrunk st tt j zv m e' l0) hT ho hcl hargs hts hdst ht hte he hsz hz hn (show lk tt ((tt, SV.row 904999) :: killF j st.fr) = _ by rw [qk, if_pos rfl]) h
      exact ⟨st', ActOk.shrink tt 904999 hs hj (Option.isNone_iff_eq_none.1 hc.1) rfl h1, h2⟩
  · cases h
end
include hT in
theorem appE_ok {sx xx : Operand} {t : TypeId} {cl : Call} (ho : o.op = .call cl) (hcl : cl.callee = .builtin .append) (hargs : cl.args.toList = [sx, xx]) (hts : cl.argTypes.toList = [t, t]) (h : appE T st o sx xx t k = some b) : Goes P st o k b := by
  unfold appE at h
  simp only [qt, evF_eq] at h
  split at h
  · rename_i d _ _ e _ _ hd ht
    split at h
    · rename_i ei he
      cases hc : (Nat.blt 0 ei.size && Nat.beq ei.zero.length ei.size && Nat.blt d st.n) with
      | false => rw [hc] at h; cases h
      | true =>
        rw [hc, cond_true] at h
        simp only [Bool.and_eq_true] at hc
        split at h
        · rename_i hs; exact appNil_ok hT ho hcl hargs hts hd ht rfl he hc.1.1 hc.1.2 hs h
        · rename_i hs
          obtain ⟨st', h1, h2⟩ := appRow_ok hT ho hcl hargs hts hd ht rfl he hc.1.1 hc.1.2 hc.2 hs h
          exact ⟨_, st', h1, h2⟩
        · rename_i hs
          obtain ⟨st', h1, h2⟩ := appView_ok hT ho hcl hargs hts hd ht rfl he hc.1.1 hc.1.2 hc.2 hs h
          exact ⟨_, st', h1, h2⟩
        · cases h
    · cases h
  · cases h
def EvOk (P : Program) (cx : Cx) (ev : FuncId → FnI → List SV → List (Nat × Box) → Ret) : Prop := ∀ f fi args own r own', lk f cx.F = some fi → ev f fi args own = some (r, own') → HoldsW P f args own r own'
def TabOk (P : Program) (cx : Cx) : Prop := ∀ f ps r, cx.C f ps = some r → Holds P f ps r []
theorem callE_ok {cx : Cx} {ev : FuncId → FnI → List SV → List (Nat × Box) → Ret} (hev : EvOk P cx ev) (hC : TabOk P cx) {cl : Call} {fo : Operand} {sf : SV} {f : FuncId} {caps : List SV} (ho : o.op = .call cl) (hcl : cl.callee = .value fo) (hfo : evS st fo = some sf) (hfn : fnOf sf = some (f, caps))
    (h : callE cx ev st o (isPS sf) f caps cl.args.toList k = some b) : Goes P st o k b := by
  unfold callE at h
  rw [qt] at h
  split at h
  · rename_i fi hfi
    split at h
    · rw [fRen_eq] at h
      generalize number true 1000000 _ = ρ at h
      unfold enterE at h
      split at h
      · rename_i own a c hown hargs hcaps
        cases hρ : rhoOk ρ with
        | false => rw [hρ] at h; cases h
        | true =>
          rw [hρ, cond_true, fOnes_eq, fOwn_eq] at h
          unfold backE at h
          split at h
          · rename_i r own' hr
            have hW := hev f fi _ _ r own' hfi hr
            cases hb : (qI st o.dst && backOk st ρ o.dst own') with
            | false => rw [hb] at h; cases h
            | true =>
              rw [hb, cond_true] at h
              simp only [Bool.and_eq_true] at hb
              split at h
              · rename_i st' hst
                rw [fSt_eq] at h
                exact ⟨_, st', act_call_RS ρ ho hcl hfo hfn hcaps hown hρ hargs hW hb.1 fun r' o' ⟨e1, e2⟩ => by subst e1 e2; exact ⟨st', hst, hb.2, rfl⟩, h⟩
              · cases h
          · cases h
      · cases h
    · cases h
  · split at h
    · rename_i cps ps ids hpf hp ha
      split at h
      · rename_i r hr
        cases hb : (flatS r && qI st o.dst) with
        | false => rw [hb] at h; cases h
        | true =>
          rw [hb, cond_true, putE_eq] at h
          simp only [Bool.and_eq_true] at hb
          have hcap : caps = cps.map .p := by
            obtain ⟨q1, q2⟩ := pures_get hp
            refine List.ext_getElem? fun i => ?_
            rw [q2, List.getElem?_map]
          have hsf : sf = .p (.fn f cps) ∨ sf = .fn f caps := by
            cases sf with
            | p x =>
              cases x with
              | fn g cs =>
                simp only [fnOf, Option.some.injEq, Prod.mk.injEq] at hfn
                obtain ⟨rfl, h2⟩ := hfn
                rw [hcap] at h2
                have : cs = cps := (List.map_inj_right (fun a b h => by cases h; rfl)).1 h2
                rw [this]; exact Or.inl rfl
              | _ => cases hfn
            | fn g cs =>
              simp only [fnOf, Option.some.injEq, Prod.mk.injEq] at hfn
              obtain ⟨rfl, rfl⟩ := hfn
              exact Or.inr rfl
            | _ => cases hfn
          rcases hsf with rfl | rfl
          · exact ⟨_, _, qd ho hcl hfo ha (hC f _ r hr) hb.2 hb.1 rfl, h⟩
          · cases hpf
      · cases h
    · cases h
end
theorem ActOk.mono {P : Program} {Ws : List Nat} {o : Oper} {st : St} {Q Q' : St → Prop} (h : ActOk P Ws o st Q) (hq : ∀ s, Q s → Q' s) : ActOk P Ws o st Q' := fun w0 Sx γ a w QQ hI => by
  refine Oper.wp_mono (fun a' w' h' => ?_) (h w0 Sx γ a w QQ hI)
  obtain ⟨γ', st', h1, h2⟩ := h'
  exact ⟨γ', st', hq _ h1, h2⟩
section
variable {P : Program} {cx : Cx} (hT : qu P cx.T) (hC : TabOk P cx) {ev : FuncId → FnI → List SV → List (Nat × Box) → Ret} (hev : EvOk P cx ev)
section
variable {st : St} {o : Oper} {β : Type} {k : List Nat → St → Option β} {b : β}
include hT hC hev in
theorem actE_ok (h : actE cx ev st o k = some b) : Goes P st o k b := by
  unfold actE at h
  simp only [evF_eq] at h
  split at h
  · rename_i ho; exact allocE_ok hT ho h
  · rename_i ho; exact boxE_ok ho h
  · rename_i ho
    split at h
    · rename_i hp; exact buildE_ok hT ho hp h
    · cases h
  · rename_i ho
    split at h
    · rename_i hd; exact storeE_ok hT ho hd h
    · cases h
  · rename_i ho
    split at h
    · rename_i d hd
      obtain ⟨h1, h2, h3⟩ := newBox_ok h
      exact ⟨_, _, act_makeMap ho hd h1 h2 rfl, h3⟩
    · cases h
  · rename_i ho
    split at h
    · rename_i hd; exact mapE_ok hT ho hd h
    · cases h
  · rename_i ho
    unfold acallE at h
    simp only [evF_eq] at h
    split at h
    · rename_i hcl
      split at h
      · rename_i hargs hts
        generalize hb : Nat.beq _ _ = q at h
        cases q with
        | false => cases h
        | true =>
          rw [cond_true] at h
          rename_i t t'
          have e1 : t = t' := Nat.eq_of_beq_eq_true hb
          subst e1
          exact appE_ok hT ho hcl hargs hts h
      · cases h
    · rename_i hcl
      split at h
      · rename_i hfo
        split at h
        · rename_i hfn; exact callE_ok hev hC ho hcl hfo hfn h
        · cases h
      · cases h
    · cases h
  · cases h
include hT hC hev in
theorem stepE_ok (h : stepE cx ev [] st o k = some b) : Goes P st o k b := by
  unfold stepE at h
  cases hr : isRd o.op with
  | false => rw [hr] at h; exact actE_ok hT hC hev h
  | true =>
    rw [hr, cond_true] at h
    cases hd : qI st o.dst with
    | false => rw [hd] at h; cases h
    | true =>
      rw [hd, cond_true] at h
      obtain ⟨s, h1, h2⟩ := opE_ok hT h
      rw [putE_eq] at h2
      exact ⟨_, _, jx h1 hd rfl, h2⟩
end
include hT hC hev in
theorem evT_ok {ops : List Oper} : ∀ {l : List Oper} {st st' : St}, evT cx ev ops l st = some st' → SWT P ops l (fun s => s = st') st
  | [], st, st', h => by
    simp only [evT, Option.some.injEq] at h
    exact qc h
  | o :: r, st, st', h => by
    unfold evT at h
    split at h
    · rename_i hw
      obtain ⟨Ws, st1, h1, h2⟩ := stepE_ok hT hC hev h
      exact qi hw (h1.mono fun s e => by subst e; exact evT_ok h2)
    · rename_i hw
      cases hd : qI st o.dst with
      | false => rw [hd] at h; cases h
      | true =>
        rw [hd, cond_true, putE_eq] at h
        exact swt_skip hw hd (evT_ok h)
    · cases h
theorem swp_rd {ops : List Oper} {K : List Nat} {κ : Kap} {st : St} {Q : St → Prop} {i : Nat} {r : List (Nat × Bool)} {o : Oper} {s : SV} (hi : nthO ops i = some o) (hw : qL ops st o = some true) (hr : RdO P K st o s) (hd : qI st o.dst = true) (h : SWP P ops ((i, K) :: κ) r Q (st.put o.dst s)) : SWP P ops κ ((i, true) :: r) Q st := fun w0 Sx γ a w QQ hI hQ => by
  have hrest := fun v (hv : RelS (okO Sx γ st.own) (hp γ st.own) w s v) => h w0 Sx γ _ w QQ (hI.put (dst := o.dst) hd hv) hQ
  simp only [zO] at hrest
  obtain ⟨v, h1, h2⟩ := hr w0 Sx γ a w hI
  exact ⟨zD, _, o, v, _, SameOn.refl _ _, (qH ops i).trans hi, Or.inl ⟨qC hI hw, h2⟩, Covers.refl _, hrest v h1⟩
theorem mem_ok : ∀ {l : List Nat} {i : Nat}, mem i l = true → l.contains i = true
  | j :: r, i, h => by
    unfold mem at h
    cases hb : Nat.beq i j with
    | true => have := Nat.eq_of_beq_eq_true hb; subst this; simp
    | false =>
      rw [hb, cond_false] at h
      have := mem_ok h
      simp at this ⊢
      exact Or.inr this
theorem okW_ok {w : List Nat} {κ : Kap} (h : okW w κ = true) : κ.all (fun p => w.all fun j => p.2.contains j) = true :=
  List.all_eq_true.2 fun p hp => List.all_eq_true.2 fun j hj => mem_ok (List.all_eq_true.1 (List.all_eq_true.1 h p hp) j hj)
include hT hC hev in
theorem evM_ok {ops : List Oper} {K : List Nat} {chk : Bool} : ∀ {od : List (Nat × Bool)} {κ : Kap} {ws ws' : List Nat} {st st' : St}, evM cx ev ops K chk od κ ws st = some (ws', st') → (∀ i ∈ ws, i ∈ ws') ∧ (chk = true ∨ ws' = [] → SWP P ops κ od (fun s => s = st') st)
  | [], κ, ws, ws', st, st', h => by
    simp only [evM, Option.some.injEq, Prod.mk.injEq] at h
    obtain ⟨rfl, rfl⟩ := h
    exact ⟨fun _ h => h, fun _ => swp_nil rfl⟩
  | (i, b) :: r, κ, ws, ws', st, st', h => by
    unfold evM at h
    split at h
    · rename_i o hi
      split at h
      · rename_i hw
        cases b with
        | true =>
          rw [cond_true] at h
          cases hd : qI st o.dst with
          | false => rw [hd] at h; cases h
          | true =>
            rw [hd, cond_true, fNats_eq] at h
            obtain ⟨s, h1, h2⟩ := opE_ok hT h
            rw [putE_eq] at h2
            obtain ⟨h3, h4⟩ := evM_ok h2
            exact ⟨h3, fun hK => swp_rd hi hw h1 hd (h4 hK)⟩
        | false =>
          rw [cond_false] at h
          obtain ⟨Ws, st1, h1, h2⟩ := stepE_ok hT hC hev h
          replace h2 : (bif (!chk || okW Ws (kapB o κ)) then evM cx ev ops K chk r (kapB o κ) (Ws ++ ws) st1 else none) = some (ws', st') := h2
          cases hc : (!chk || okW Ws (kapB o κ)) with
          | false => rw [hc] at h2; cases h2
          | true =>
            rw [hc, cond_true] at h2
            obtain ⟨h3, h4⟩ := evM_ok h2
            refine ⟨fun i hi => h3 i (List.mem_append_right _ hi), fun hK => swp_act hi hw ?_ (h1.mono fun s e => by subst e; exact h4 hK)⟩
            rcases hK with hK | hK
            · subst hK
              exact okW_ok (by simpa using hc)
            · have : Ws = [] := by
                cases Ws with
                | nil => rfl
                | cons j l => have := h3 j (by simp); rw [hK] at this; cases this
              subst this
              exact List.all_eq_true.2 fun _ _ => rfl
      · rename_i hw
        cases hd : qI st o.dst with
        | false => rw [hd] at h; cases h
        | true =>
          rw [hd, cond_true, putE_eq] at h
          obtain ⟨h3, h4⟩ := evM_ok h
          exact ⟨h3, fun hK => swp_skip hi hw hd (h4 hK)⟩
      · cases h
    · cases h
include hT hC hev in
theorem evReg_ok (hm : P.follows .mixedOrders = true) {ords : List (Nat × List (Nat × Bool))} {id : Nat} {ops : Array Oper} {st st' : St} {d : Bool} (hd : d = true → chkR ords id ops = true) (h : evReg cx ev ords id ops.toList st d = some st') : SW P (.region id ops d) (fun e s => e = .normal ∧ s = st') st := by
  have hops : ops = ops.toList.toArray := by simp
  cases d with
  | false =>
    simp only [evReg] at h
    rw [hops]
    refine qa (fun w0 Sx γ a w QQ hI hQ => ?_)
    exact evT_ok hT hC hev h w0 Sx γ a w QQ hI fun s' γ' a' w' hI' hq => hQ s' γ' a' w' hI' ⟨rfl, hq⟩
  | true =>
    have hd := hd rfl
    simp only [evReg, qt] at h
    unfold chkR at hd
    split at h
    · rename_i od hod
      rw [hod] at hd
      simp only [Bool.and_eq_true] at hd
      rw [fNats_eq] at h
      have key : ∀ {K ws : List Nat} {chk : Bool} {st1 : St}, evM cx ev ops.toList K chk od [] [] st = some (ws, st1) → (chk = true ∨ ws = []) → SW P (.region id ops true) (fun e s => e = .normal ∧ s = st1) st := fun {K ws chk st1} h1 hK => by
        rw [hops]
        refine sw_region_pend od hm (by rw [← hops]; exact hd.1) (by rw [← hops]; simp only [Bool.and_eq_true]; exact hd.2) (fun w0 Sx γ a w QQ hI hQ => ?_)
        exact (evM_ok hT hC hev h1).2 hK w0 Sx γ a w QQ hI fun s' γ' a' w' hI' hq => hQ s' γ' a' w' hI' ⟨rfl, hq⟩
      split at h
      · rename_i h1
        cases h
        exact key h1 (.inl rfl)
      · split at h
        · rename_i h1
          cases h
          exact key h1 (.inr rfl)
        · rw [fNats_eq] at h
          split at h
          · rename_i h2
            cases h
            exact key h2 (.inl rfl)
          · cases h
        · cases h
    · cases h
end
section
variable {P : Program} {T : TT} (hT : qu P T)
include hT in
theorem resO_ok {st : St} {w0 : Base} {Sx : Nat → Prop} {γ : Nat → Value} {a : Act} {w : World} (hI : Sim w0 Sx γ st a w) {f : ResultVar → Sem Value} (hf1 : ∀ t, f (.tmp t) = pure (a.tmps.getD t undef)) (hf2 : ∀ c t, f (.cell c t) = (do loadVar t (← asAddr (a.tmps.getD c undef)))) {rv : ResultVar} {s : SV} (h : resO T st rv = some s) :
    ∃ v, (f rv).run P w = .ok v w ∧ RelS (okO Sx γ st.own) (hp γ st.own) w s v := by
  cases rv with
  | tmp t => exact ⟨_, by rw [hf1]; rfl, hI.fr t s h⟩
  | cell c t =>
    simp only [resO] at h
    split at h
    · rename_i hl hc
      cases h
      obtain ⟨v, h1, h2⟩ := rLoad_ok hT hI (x := .tmp c) (K := []) hl (rLoadC_ok hl (by rw [hc]; rfl))
      have h3 := h2 w (SameOn.refl _ _)
      have hv := hI.fr c _ hc
      obtain ⟨b, g, hb, _⟩ := hv.ptr_form
      refine ⟨v, ?_, h1⟩
      rw [show a.eval (.tmp c) = a.tmps.getD c undef from rfl, hb] at h3
      rw [hf2, hb]
      exact h3
    · cases h
include hT in
theorem resOs_ok {st : St} {w0 : Base} {Sx : Nat → Prop} {γ : Nat → Value} {a : Act} {w : World} (hI : Sim w0 Sx γ st a w) {f : ResultVar → Sem Value} (hf1 : ∀ t, f (.tmp t) = pure (a.tmps.getD t undef)) (hf2 : ∀ c t, f (.cell c t) = (do loadVar t (← asAddr (a.tmps.getD c undef)))) : ∀ {rs : List ResultVar} {l : List SV}, resOs T st rs = some l →
    ∃ vs : List Value, (rs.mapM f).run P w = .ok vs w ∧ vs.length = l.length ∧ l.length = rs.length ∧ ∀ (i : Nat) (s : SV) (u : Value), l[i]? = some s → vs[i]? = some u → RelS (okO Sx γ st.own) (hp γ st.own) w s u
  | [], l, h => by
    simp only [resOs, Option.some.injEq] at h
    subst h
    exact ⟨[], by simp, rfl, rfl, fun i s u hs => by simp at hs⟩
  | r :: rs, l, h => by
    unfold resOs at h
    split at h
    · rename_i s hs
      split at h
      · rename_i l' hl
        simp only [Option.some.injEq] at h
        subst h
        obtain ⟨v, h1, h2⟩ := resO_ok hT hI hf1 hf2 hs
        obtain ⟨vs, h3, h4, h5, h6⟩ := resOs_ok hI hf1 hf2 hl
        refine ⟨v :: vs, ?_, by simp [h4], by simp [h5], fun i s' u hs' hu => ?_⟩
        · rw [List.mapM_cons, Sem.run_bind, h1]
          simp only [Result.andThen_ok, Sem.run_bind, h3, Sem.run_pure]
        · cases i with
          | zero => simp at hs' hu; subst hs' hu; exact h2
          | succ i => exact h6 i s' u (by simpa using hs') (by simpa using hu)
      · cases h
    · cases h
include hT in
theorem resC_ok {fn : Func} {st : St} {w0 : Base} {Sx : Nat → Prop} {γ : Nat → Value} {a : Act} {w : World} (hI : Sim w0 Sx γ st a w) {rs : List ResultVar} {s : SV} (h : resC T st rs = some s) (hres : fn.results = rs.toArray) :
    ∃ v, (results fn a.tmps).run P w = .ok v w ∧ RelS (okO Sx γ st.own) (hp γ st.own) w s v := by
  have key : ∀ {l : List SV}, resOs T st rs = some l → ∃ vs : List Value, (results fn a.tmps).run P w = .ok (if h : vs.toArray.size = 1 then vs.toArray[0] else .tuple vs.toArray) w ∧ vs.length = l.length ∧ l.length = rs.length ∧ ∀ (i : Nat) (s : SV) (u : Value), l[i]? = some s → vs[i]? = some u → RelS (okO Sx γ st.own) (hp γ st.own) w s u := fun {l} hl => by
    have gen : ∀ f : ResultVar → Sem Value, (∀ t, f (.tmp t) = pure (a.tmps.getD t undef)) → (∀ c t, f (.cell c t) = (do loadVar t (← asAddr (a.tmps.getD c undef)))) →
        ∃ vs : List Value, ((do let vs ← rs.toArray.mapM f; pure (if h : vs.size = 1 then vs[0] else .tuple vs)) : Sem Value).run P w = .ok (if h : vs.toArray.size = 1 then vs.toArray[0] else .tuple vs.toArray) w ∧ vs.length = l.length ∧ l.length = rs.length ∧ ∀ (i : Nat) (s : SV) (u : Value), l[i]? = some s → vs[i]? = some u → RelS (okO Sx γ st.own) (hp γ st.own) w s u := fun f hf1 hf2 => by
      obtain ⟨vs, h3, h4, h5, h6⟩ := resOs_ok hT hI hf1 hf2 hl
      refine ⟨vs, ?_, h4, h5, h6⟩
      rw [Sem.run_bind, List.mapM_toArray, Sem.run_map, h3]
      simp only [Result.andThen_ok, Sem.run_pure]
    unfold results
    rw [hres]
    exact gen _ (fun _ => rfl) (fun _ _ => rfl)
  unfold resC at h
  split at h
  · rename_i r
    obtain ⟨vs, h1, h2, h3, h4⟩ := key (l := [s]) (by simp only [resOs, h])
    have hv : ∃ v, vs = [v] := by
      match vs, h2 with
      | [v], _ => exact ⟨v, rfl⟩
    obtain ⟨v, rfl⟩ := hv
    exact ⟨v, by rw [h1]; rfl, h4 0 s v rfl rfl⟩
  · rename_i hne
    split at h
    · rename_i l hl
      simp only [Option.some.injEq] at h
      subst h
      obtain ⟨vs, h1, h2, h3, h4⟩ := key hl
      have hn : ¬ vs.toArray.size = 1 := fun e => by
        rw [List.size_toArray, h2, h3] at e
        match rs, hne, e with
        | [r], hne, _ => exact hne r rfl
      rw [dif_neg hn] at h1
      exact ⟨_, h1, .tup h2 h4⟩
    · cases h
include hT in
theorem holdsV_of {f : FuncId} {fn : Func} {c : Code} {args : List SV} {own : List (Nat × Box)} {r : SV} {own' : List (Nat × Box)} {rs : List ResultVar} {e' : SEx} {st' : St} (hf : P.funcs[f]? = some fn) (hname : (fn.name == "runtime.NumGoroutine") = false) (hb : fn.body = some c)
    (hres : fn.results = rs.toArray) (hn : args.length ≤ fn.ntmps ∧ fn.ntmps ≤ 900) (h : SW P c (fun e s => e = e' ∧ s = st') ⟨fn.ntmps, zp 0 args, own⟩) (he : e' = .normal ∨ e' = .ret) (hfin : finE T rs st' = some (r, own')) : HoldsW P f args own r own' := by
  refine ⟨⟨fn, hf, hname, by rw [hb]; rfl⟩, fun w Sx γ vs hh hl hr => ?_⟩
  refine calls_of_wp hf hb ?_
  have hget : ∀ t, t < args.length → (vs.toArray ++ Array.replicate (fn.ntmps - vs.toArray.size) undef).getD t undef = vs[t]?.getD undef := fun t ht => by
    have : t < vs.length := by omega
    have h2 : (vs.toArray ++ Array.replicate (fn.ntmps - vs.toArray.size) undef)[t]? = vs[t]? := by
      rw [Array.getElem?_append_left (by simpa using this)]; simp
    rw [Array.getD_eq_getD_getElem?, h2]
  have hI : Sim (zd w γ own) Sx γ ⟨fn.ntmps, zp 0 args, own⟩ ⟨vs.toArray ++ Array.replicate (fn.ntmps - vs.toArray.size) undef, []⟩ w := by
    refine ⟨⟨Below.refl _ w, fun _ _ => rfl⟩, ⟨by simp; omega, hn.2⟩, rfl, fun t s ht => ?_, hh⟩
    obtain ⟨_, hx⟩ := argFrS_get ht
    simp only [Nat.sub_zero] at hx
    have hlt : t < args.length := (List.getElem?_eq_some_iff.1 hx).1
    have hv : vs[t]? = some (vs[t]'(by omega)) := List.getElem?_eq_getElem (by omega)
    show RelS _ _ _ _ ((vs.toArray ++ Array.replicate (fn.ntmps - vs.toArray.size) undef).getD t undef)
    rw [hget t hlt, hv]
    exact hr t s _ hx hv
  refine h _ Sx _ _ w _ hI fun e st2 γ' a' w' hI' hq => ?_
  obtain ⟨rfl, rfl⟩ := hq
  unfold finE at hfin
  split at hfin
  · rename_i s hs
    rw [fRen_eq] at hfin
    generalize number false 0 _ = ρ at hfin
    split at hfin
    · rename_i r' o' hr' ho'
      cases hρ : renOk ρ with
      | false => rw [hρ] at hfin; cases hfin
      | true =>
        rw [hρ, cond_true, fSV_eq, fOwn_eq] at hfin
        cases hfin
        obtain ⟨γ3, k1, k2⟩ := heap_mapR hI'.heap ho' hρ
        obtain ⟨v, k3, k4⟩ := resC_ok hT hI' hs hres
        have fin : a'.defers = [] ∧ ∃ v, (results fn a'.tmps).run P w' = .ok v w' ∧ ∃ v' γ2 r1 own1, (r1 = r ∧ own1 = own') ∧ Ending.returned v = .returned v' ∧ BelowB (zd w γ own) w' ∧ HeapOk (zd w γ own) Sx γ2 own1 w' ∧ RelS (okO Sx γ2 own1) (hp γ2 own1) w' r1 v' :=
          ⟨hI'.defers, v, k3, v, γ3, r, own', ⟨rfl, rfl⟩, rfl, hI'.below, k1, k2 s v r k4 hr'⟩
        rcases he with rfl | rfl
        · exact fin
        · exact fin
    · cases hfin
  · cases hfin
end
def jmpW (l : Nat) (J : Act → World → Prop) (Q : Exit → Act → World → Prop) : Exit → Act → World → Prop
  | .goto l', a, w => l' = l ∧ J a w
  | e, a, w => Q e a w
theorem wp_scope_ghost {P : Program} {a : Act} {w : World} {Q : Exit → Act → World → Prop} {c rest : Code} (l : Nat) (J : Nat → Act → World → Prop) (hf : findLabel c l = some rest)
    (first : c.wp P (jmpW l (fun a w => ∃ n, J n a w) Q) a w)
    (pass : ∀ n a w, J n a w → rest.wp P (jmpW l (fun a' w' => ∃ m, m < n ∧ J m a' w') Q) a w) : (Code.scope c).wp P Q a w := by
  intro b k cs
  have hg : gotoIn l (.inScope c :: k) = some (.code rest :: .inScope c :: k) := by simp [gotoIn, hf]
  have key : ∀ n a w, J n a w → ∃ e a' w', Q e a' w' ∧ Arrives P (lone (b.at a (.code rest :: .inScope c :: k)) cs w) b k cs e a' w' := by
    intro n
    induction n using Nat.strongRecOn with
    | _ n ih =>
      intro a w hJ
      obtain ⟨e, a₁, w₁, hq, harr⟩ := pass n a w hJ b (.inScope c :: k) cs
      cases e with
      | normal => exact ⟨.normal, a₁, w₁, hq, Steps.trans harr (.one step_inScope)⟩
      | exit id => exact ⟨.exit id, a₁, w₁, hq, fun k' hk => harr k' (by simp [exitTo, hk])⟩
      | goto l' =>
        obtain ⟨rfl, m, hlt, hJ'⟩ := hq
        obtain ⟨e₂, a₂, w₂, hq₂, harr₂⟩ := ih m hlt a₁ w₁ hJ'
        exact ⟨e₂, a₂, w₂, hq₂, .of_steps (harr _ hg) harr₂⟩
      | ret => exact ⟨_, a₁, w₁, hq, harr⟩
      | panic ch => exact ⟨_, a₁, w₁, hq, harr⟩
      | outgrown => exact ⟨_, a₁, w₁, hq, harr⟩
  obtain ⟨e, a₁, w₁, hq, harr⟩ := first b (.inScope c :: k) cs
  cases e with
  | normal => exact ⟨.normal, a₁, w₁, hq, .head step_scope (Steps.trans harr (.one step_inScope))⟩
  | exit id => exact ⟨.exit id, a₁, w₁, hq, fun k' hk => .head step_scope (harr k' (by simp [exitTo, hk]))⟩
  | goto l' =>
    obtain ⟨rfl, m, hJ'⟩ := hq
    obtain ⟨e₂, a₂, w₂, hq₂, harr₂⟩ := key m a₁ w₁ hJ'
    exact ⟨e₂, a₂, w₂, hq₂, .of_steps (.head step_scope (harr _ hg)) harr₂⟩
  | ret => exact ⟨_, a₁, w₁, hq, .of_steps (.one step_scope) harr⟩
  | panic ch => exact ⟨_, a₁, w₁, hq, .of_steps (.one step_scope) harr⟩
  | outgrown => exact ⟨_, a₁, w₁, hq, .of_steps (.one step_scope) harr⟩
def jmpS (l : Nat) (J : St → Prop) (Q : SEx → St → Prop) : SEx → St → Prop
  | .goto l', s => l' = l ∧ J s
  | e, s => Q e s
theorem sw_goto {P : Program} {Q : SEx → St → Prop} {st : St} {l : Nat} (h : Q (.goto l) st) : SW P (.goto l) Q st := fun _ _ γ a w _ hI hQ => wp_goto (hQ (.goto l) st γ a w hI h)
theorem sw_scope0 {P : Program} {Q : SEx → St → Prop} {st : St} {c : Code} (h : SW P c (fun e s => Q e s ∧ ∀ l, e ≠ .goto l) st) : SW P (.scope c) Q st := fun w0 Sx γ a w QQ hI hQ => by
  refine wp_scope_straight (h w0 Sx γ a w _ hI fun e s' γ' a' w' hI' hq => ?_)
  cases e with
  | goto l => exact absurd rfl (hq.2 l)
  | normal => exact hQ .normal s' γ' a' w' hI' hq.1
  | exit id => exact hQ (.exit id) s' γ' a' w' hI' hq.1
  | ret => exact hQ .ret s' γ' a' w' hI' hq.1
theorem sw_scope {P : Program} {Q : SEx → St → Prop} {st : St} {c rest : Code} (l : Nat) (I : Nat → St → Prop) (hf : findLabel c l = some rest) (first : SW P c (jmpS l (fun s' => ∃ n s'', Wk s' s'' ∧ I n s'') Q) st)
    (round : ∀ n s, I n s → SW P rest (jmpS l (fun s' => ∃ m s'', m < n ∧ Wk s' s'' ∧ I m s'') Q) s) : SW P (.scope c) Q st := fun w0 Sx γ a w QQ hI hQ => by
  refine wp_scope_ghost l (fun n a w => ∃ s γ, I n s ∧ Sim w0 Sx γ s a w) hf (first w0 Sx γ a w _ hI fun e s' γ' a' w' hI' hq => ?_) fun n a w ⟨s, γ, hn, hI⟩ => round n s hn w0 Sx γ a w _ hI fun e s' γ' a' w' hI' hq => ?_
  · cases e with
    | goto l' =>
      obtain ⟨rfl, n, s'', hwk, hn⟩ := hq
      obtain ⟨γ'', hI''⟩ := hwk w0 Sx γ' a' w' hI'
      exact ⟨rfl, n, s'', γ'', hn, hI''⟩
    | normal => exact hQ .normal s' γ' a' w' hI' hq
    | exit id => exact hQ (.exit id) s' γ' a' w' hI' hq
    | ret => exact hQ .ret s' γ' a' w' hI' hq
  · cases e with
    | goto l' =>
      obtain ⟨rfl, m, s'', hlt, hwk, hm⟩ := hq
      obtain ⟨γ'', hI''⟩ := hwk w0 Sx γ' a' w' hI'
      exact ⟨rfl, m, hlt, s'', γ'', hm, hI''⟩
    | normal => exact hQ .normal s' γ' a' w' hI' hq
    | exit id => exact hQ (.exit id) s' γ' a' w' hI' hq
    | ret => exact hQ .ret s' γ' a' w' hI' hq
theorem chkC_label {ords : List (Nat × List (Nat × Bool))} {l : Nat} : ∀ {c rest : Code}, chkC ords c = true → findLabel c l = some rest → chkC ords rest = true := by
  intro c
  induction c with
  | seq a b iha ihb =>
    intro rest h hf
    simp only [chkC, Bool.and_eq_true] at h
    simp only [findLabel] at hf
    split at hf
    · rename_i r hr
      cases hf
      simp only [chkC, Bool.and_eq_true]
      exact ⟨iha h.1 hr, h.2⟩
    · exact ihb h.2 hf
  | label l' =>
    intro rest h hf
    simp only [findLabel] at hf
    split at hf
    · cases hf; rfl
    · cases hf
  | _ => intro rest h hf; cases hf
def FOk (P : Program) (cx : Cx) : Prop := ∀ f fi, lk f cx.F = some fi → ∃ fn, P.funcs[f]? = some fn ∧ (fn.name == "runtime.NumGoroutine") = false ∧ fn.body = some fi.c ∧ fn.results = fi.ts.toArray ∧ fn.ntmps = fi.n ∧ Nat.ble fi.n 900 = true ∧ chkC fi.ords fi.c = true
theorem turnE_ok {β : Type} {ts : List Nat} {st : St} {k : St → Option β} {b : β} (h : turnE ts st k = some b) : ∃ st', Wk st st' ∧ k st' = some b := by
  unfold turnE at h
  rw [fRen_eq] at h
  generalize number false 905000 _ = ρ at h
  cases hρ : renOk ρ with
  | false => rw [hρ] at h; cases h
  | true =>
    rw [hρ, cond_true] at h
    split at h
    · rename_i st' hst
      rw [fSt_eq] at h
      exact ⟨st', qv ts ρ hst hρ, h⟩
    · cases h
section
variable {P : Program} {cx : Cx} (hT : qu P cx.T) (hC : TabOk P cx) (hF : FOk P cx) (hm : P.follows .mixedOrders = true)
theorem qZ {α β : Type} {a a' : α} {b b' : β} (h : some (a, b) = some (a', b')) : a = a' ∧ b = b' := by cases h; exact ⟨rfl, rfl⟩
include hT hC hF hm in
theorem evN_ok : ∀ n ords c st e s', chkC ords c = true → evN cx n ords c st = some (e, s') → SW P c (fun e1 s1 => e1 = e ∧ s1 = s') st := by
  intro n
  induction n using Nat.strongRecOn with
  | ind n IH =>
  cases n with
  | zero => intro ords c st e s' _ h; cases h
  | succ n =>
    have hev : EvOk P cx (fun _ fi args own => bif Nat.ble args.length fi.n then finR cx.T fi.ts (evN cx n fi.ords fi.c ⟨fi.n, zp 0 args, own⟩) else none) := by
      intro f fi args own r own' hfi h
      obtain ⟨fn, h1, h2, h3, h4, h5, h6, h7⟩ := hF f fi hfi
      cases hb : Nat.ble args.length fi.n with
      | false => simp only [hb, cond_false] at h; cases h
      | true =>
        simp only [hb, cond_true] at h
        unfold finR at h
        have hn : args.length ≤ fn.ntmps ∧ fn.ntmps ≤ 900 := by rw [h5]; exact ⟨Nat.le_of_ble_eq_true hb, Nat.le_of_ble_eq_true h6⟩
        split at h
        · rename_i st' he
          exact holdsV_of hT h1 h2 h3 h4 hn (by rw [h5]; exact IH n (Nat.lt_succ_self n) _ _ _ _ _ h7 he) (Or.inl rfl) h
        · rename_i st' he
          exact holdsV_of hT h1 h2 h3 h4 hn (by rw [h5]; exact IH n (Nat.lt_succ_self n) _ _ _ _ _ h7 he) (Or.inr rfl) h
        · cases h
    intro ords c
    induction c with
    | skip =>
      intro st e s' _ h
      obtain ⟨rfl, rfl⟩ := qZ h
      exact qq ⟨rfl, rfl⟩
    | region id ops d =>
      intro st e s' hc h
      have h : (match evReg cx _ ords id ops.toList st d with | some st' => some (SEx.normal, st') | none => none) = some (e, s') := h
      split at h
      · rename_i st' hr
        obtain ⟨rfl, rfl⟩ := qZ h
        exact (evReg_ok hT hC hev hm (fun hd => by subst hd; exact hc) hr).mono fun e s q => q
      · cases h
    | seq a b iha ihb =>
      intro st e s' hc h
      simp only [chkC, Bool.and_eq_true] at hc
      have h : (match evN cx (n + 1) ords a st with | some (.normal, st') => evN cx (n + 1) ords b st' | r => r) = some (e, s') := h
      refine qb ?_
      split at h
      · rename_i st1 ha
        exact (iha st _ _ hc.1 ha).mono fun e1 s1 ⟨q1, q2⟩ => by subst q1 q2; exact ihb _ _ _ hc.2 h
      · rename_i hne
        refine (iha st _ _ hc.1 h).mono fun e1 s1 ⟨q1, q2⟩ => ?_
        subst q1 q2
        cases e1 with
        | normal => exact absurd h (hne s1)
        | _ => exact ⟨rfl, rfl⟩
    | cond x a b iha ihb =>
      intro st e s' hc h
      simp only [chkC, Bool.and_eq_true] at hc
      have h : (match evF st x with | some (.p (.v (.bool true))) => evN cx (n + 1) ords a st | some (.p (.v (.bool false))) => evN cx (n + 1) ords b st | _ => none) = some (e, s') := h
      rw [evF_eq] at h
      split at h
      · rename_i hx
        exact qe hx (fun _ => iha _ _ _ hc.1 h) fun q => by cases q
      · rename_i hx
        exact qe hx (fun q => by cases q) fun _ => ihb _ _ _ hc.2 h
      · cases h
    | block id b ih =>
      intro st e s' hc h
      have h : (match evN cx (n + 1) ords b st with | some (.exit i, st') => bif Nat.beq i id then some (SEx.normal, st') else some (.exit i, st') | r => r) = some (e, s') := h
      refine zf ?_
      split at h
      · rename_i i st' hb
        refine (ih st _ _ hc hb).mono fun e1 s1 ⟨q1, q2⟩ => ?_
        subst q1 q2
        show (bif Nat.beq i id then _ else _)
        cases hi : Nat.beq i id with
        | true => rw [hi] at h; obtain ⟨rfl, rfl⟩ := qZ h; exact ⟨rfl, rfl⟩
        | false => rw [hi] at h; obtain ⟨rfl, rfl⟩ := qZ h; exact ⟨rfl, rfl⟩
      · rename_i hne
        refine (ih st _ _ hc h).mono fun e1 s1 ⟨q1, q2⟩ => ?_
        subst q1 q2
        cases e1 with
        | exit i => exact absurd h (hne i s1)
        | _ => exact ⟨rfl, rfl⟩
    | loop b ih =>
      intro st e s' hc h
      have hbody : ∀ m, m ≤ n → ∀ s e2 s2, evN cx (m + 1) ords b s = some (e2, s2) → SW P b (fun e1 s1 => e1 = e2 ∧ s1 = s2) s := fun m hmn s e2 s2 h2 => by
        rcases Nat.lt_or_eq_of_le hmn with hlt | rfl
        · exact IH (m + 1) (by omega) ords b s e2 s2 hc h2
        · exact ih s e2 s2 hc h2
      refine jC (fun m s => m ≤ n + 1 ∧ evN cx m ords (.loop b) s = some (e, s')) (n + 1) ⟨Nat.le_refl _, h⟩ ?_
      rintro m s ⟨hmn, h2⟩
      cases m with
      | zero => cases h2
      | succ m =>
        have h2 : (fNats (keys s.fr []) fun ts => match evN cx (m + 1) ords b s with | some (.normal, st') => turnE ts st' fun st'' => evN cx m ords (.loop b) st'' | r => r) = some (e, s') := h2
        rw [fNats_eq] at h2
        split at h2
        · rename_i st1 hb
          obtain ⟨st2, h3, h4⟩ := turnE_ok h2
          exact (hbody m (by omega) s _ _ hb).mono fun e1 s1 ⟨q1, q2⟩ => by
            subst q1 q2
            exact ⟨m, st2, Nat.lt_succ_self m, h3, by omega, h4⟩
        · rename_i hne
          refine (hbody m (by omega) s _ _ h2).mono fun e1 s1 ⟨q1, q2⟩ => ?_
          subst q1 q2
          cases e1 with
          | normal => exact absurd h2 (hne s1)
          | _ => exact ⟨rfl, rfl⟩
    | exit id =>
      intro st e s' _ h
      obtain ⟨rfl, rfl⟩ := qZ h
      exact ji ⟨rfl, rfl⟩
    | ret =>
      intro st e s' _ h
      obtain ⟨rfl, rfl⟩ := qZ h
      exact qj ⟨rfl, rfl⟩
    | label l =>
      intro st e s' _ h
      obtain ⟨rfl, rfl⟩ := qZ h
      exact sw_label ⟨rfl, rfl⟩
    | rangeFunc _ _ _ _ _ _ => intro st e s' _ h; cases h
    | goto l =>
      intro st e s' _ h
      obtain ⟨rfl, rfl⟩ := qZ h
      exact sw_goto ⟨rfl, rfl⟩
    | scope b ih =>
      intro st e s' hc h
      have h : (match evN cx (n + 1) ords b st with | some (.goto l, st') => turnE (keys st'.fr []) st' fun st'' => evJ cx n ords b l st'' | r => r) = some (e, s') := h
      split at h
      · rename_i l st1 hb
        obtain ⟨st2, h3, h4⟩ := turnE_ok h
        have hrest : ∃ rest, findLabel b l = some rest := by
          cases n with
          | zero => cases h4
          | succ n =>
            have h4 : jumpE (evN cx (n + 1) ords) (evJ cx n ords b l) b l st2 = some (e, s') := h4
            unfold jumpE at h4
            split at h4
            · rename_i rest hr; exact ⟨rest, hr⟩
            · cases h4
        obtain ⟨rest, hr⟩ := hrest
        refine sw_scope l (fun m s => m ≤ n ∧ evJ cx m ords b l s = some (e, s')) hr ((ih st _ _ hc hb).mono fun e1 s1 ⟨q1, q2⟩ => by subst q1 q2; exact ⟨rfl, n, st2, h3, Nat.le_refl _, h4⟩) ?_
        rintro m s ⟨hmn, h2⟩
        cases m with
        | zero => cases h2
        | succ m =>
          have h2 : jumpE (evN cx (m + 1) ords) (evJ cx m ords b l) b l s = some (e, s') := h2
          unfold jumpE at h2
          rw [hr] at h2
          simp only at h2
          split at h2
          · rename_i l' st3 hx
            cases hl : Nat.beq l' l with
            | false => rw [hl] at h2; cases h2
            | true =>
              rw [hl, cond_true] at h2
              have el : l' = l := Nat.eq_of_beq_eq_true hl
              subst el
              obtain ⟨st4, h5, h6⟩ := turnE_ok h2
              exact (IH (m + 1) (by omega) ords rest s _ _ (chkC_label (c := b) hc hr) hx).mono fun e1 s1 ⟨q1, q2⟩ => by
                subst q1 q2
                exact ⟨rfl, m, st4, Nat.lt_succ_self m, h5, by omega, h6⟩
          · rename_i hne
            refine (IH (m + 1) (by omega) ords rest s _ _ (chkC_label (c := b) hc hr) h2).mono fun e1 s1 ⟨q1, q2⟩ => ?_
            subst q1 q2
            cases e1 with
            | goto l' => exact absurd h2 (hne l' s1)
            | _ => exact ⟨rfl, rfl⟩
      · rename_i hne
        refine sw_scope0 ((ih st _ _ hc h).mono fun e1 s1 ⟨q1, q2⟩ => ?_)
        subst q1 q2
        refine ⟨⟨rfl, rfl⟩, fun l hl => ?_⟩
        subst hl
        exact hne l s1 h
    | refuse _ => intro st e s' _ h; cases h
noncomputable def evF1 (cx : Cx) (n : Nat) (f : FuncId) (args : List SV) (own : List (Nat × Box)) : Ret := match lkF f cx.F with
  | some fi => bif Nat.ble args.length fi.n then finR cx.T fi.ts (evN cx n fi.ords fi.c ⟨fi.n, zp 0 args, own⟩) else none
  | none => none
include hT hC hF hm in
theorem evF1_ok {n : Nat} {f : FuncId} {args : List SV} {own : List (Nat × Box)} {r : SV} {own' : List (Nat × Box)} (h : evF1 cx n f args own = some (r, own')) : HoldsW P f args own r own' := by
  unfold evF1 at h
  rw [qt] at h
  split at h
  · rename_i fi hfi
    obtain ⟨fn, h1, h2, h3, h4, h5, h6, h7⟩ := hF f fi hfi
    cases hb : Nat.ble args.length fi.n with
    | false => rw [hb] at h; cases h
    | true =>
      rw [hb, cond_true] at h
      unfold finR at h
      have hn : args.length ≤ fn.ntmps ∧ fn.ntmps ≤ 900 := by rw [h5]; exact ⟨Nat.le_of_ble_eq_true hb, Nat.le_of_ble_eq_true h6⟩
      split at h
      · rename_i st' he
        exact holdsV_of hT h1 h2 h3 h4 hn (by rw [h5]; exact evN_ok hT hC hF hm n _ _ _ _ _ h7 he) (Or.inl rfl) h
      · rename_i st' he
        exact holdsV_of hT h1 h2 h3 h4 hn (by rw [h5]; exact evN_ok hT hC hF hm n _ _ _ _ _ h7 he) (Or.inr rfl) h
      · cases h
  · cases h
end
theorem baseOf_nil (w : World) (γ : Nat → Value) : zd w γ [] = entry w := by
  unfold zd entry
  congr 1
  · funext b; exact propext ⟨fun h => h.1, fun h => ⟨h, fun i bx hi => by cases hi⟩⟩
  · funext i; split <;> rfl
theorem Holds.ofW {P : Program} {f : FuncId} {args : List PV} {r : SV} {own' : List (Nat × Box)} (h : HoldsW P f (args.map .p) [] r own') : Holds P f args r own' := by
  refine ⟨h.1, fun w Sx vs hSx hl hr => (h.2 w Sx (fun _ => .nilIface) vs (by rw [baseOf_nil]; exact heap_nil hSx _) (by simpa using hl) fun i s u hs hu => ?_).mono fun e w' he => ?_⟩
  · rw [List.getElem?_map] at hs
    obtain ⟨x, hx, rfl⟩ := Option.map_eq_some_iff.1 hs
    exact .p ((hr i x u hx hu).weak fun b _ hok => ⟨hok, fun i bx hi => by cases hi⟩)
  · obtain ⟨v, γ', r', o', ⟨rfl, rfl⟩, h1, h2, h3, h4⟩ := he
    rw [baseOf_nil] at h2 h3
    exact ⟨v, γ', h1, belowB_entry.1 h2, h3, h4⟩
def FnOk (P : Program) (f : FuncId) (fi : FnI) : Prop := ∃ fn, P.funcs[f]? = some fn ∧ (fn.name == "runtime.NumGoroutine") = false ∧ fn.body = some fi.c ∧ fn.results = fi.ts.toArray ∧ fn.ntmps = fi.n ∧ Nat.ble fi.n 900 = true ∧ chkC fi.ords fi.c = true
theorem fok_nil {P : Program} {T : TT} {C : FuncId → List PV → Option SV} : FOk P ⟨T, [], C⟩ := fun f fi h => by cases h
theorem qE {P : Program} {T : TT} {C : FuncId → List PV → Option SV} {F : List (FuncId × FnI)} {f : FuncId} {fi : FnI} (h : FnOk P f fi) (r : FOk P ⟨T, F, C⟩) : FOk P ⟨T, (f, fi) :: F, C⟩ := fun g gi hg => by
  have h2 : lk g ((f, fi) :: F) = some gi := hg
  clear hg
  rw [qk] at h2
  by_cases e : g = f
  · rw [if_pos e] at h2
    obtain rfl := Option.some.inj h2
    subst e; exact h
  · rw [if_neg e] at h2; exact r g gi h2
end Go.Proofs.YtnojoaneboppnaaDoor
namespace Go.Proofs.YtnojoaneboppnaaDoor
open Go.RowKit Go.Shelf
def laysItoa_ren : Go.Shelf.Ren := ⟨fun | 171 => 26 | 243 => 35 | 246 => 45 | 283 => 51 | 284 => 52 | 285 => 53 | 286 => 54 | 129 => 62 | 317 => 61 | 318 => 63 | 319 => 64 | 320 => 65 | 337 => 69 | 338 => 70 | n => n, fun | 3 => 3 | 9 => 9 | 2 => 2 | 4 => 4 | 171 => 80 | 0 => 0 | 53 => 49 | 37 => 34 | 5 => 5 | 173 => 83 | 212 => 95 | 51 => 96 | 20 => 20 | 213 => 97 | 46 => 64 | 232 => 109 | 233 => 110 | n => n, fun | 17 => 1 | 18 => 4 | 19 => 5 | n => n⟩
theorem laysItoa : Go.Proofs.LaysM.n171 Tryd.prog laysItoa_ren := {
  mixed := by kernel_rfl
  f129 := Tryd.func62.trans (congrArg some (by kernel_rfl))
  f171 := Tryd.func26.trans (congrArg some (by kernel_rfl))
  f243 := Tryd.func35.trans (congrArg some (by kernel_rfl))
  f246 := Tryd.func45.trans (congrArg some (by kernel_rfl))
  f283 := Tryd.func51.trans (congrArg some (by kernel_rfl))
  f284 := Tryd.func52.trans (congrArg some (by kernel_rfl))
  f285 := Tryd.func53.trans (congrArg some (by kernel_rfl))
  f286 := Tryd.func54.trans (congrArg some (by kernel_rfl))
  f317 := Tryd.func61.trans (congrArg some (by kernel_rfl))
  f318 := Tryd.func63.trans (congrArg some (by kernel_rfl))
  f319 := Tryd.func64.trans (congrArg some (by kernel_rfl))
  f320 := Tryd.func65.trans (congrArg some (by kernel_rfl))
  f337 := Tryd.func69.trans (congrArg some (by kernel_rfl))
  f338 := Tryd.func70.trans (congrArg some (by kernel_rfl))
  t0 := Tryd.underlying0
  a0 := Tryd.isAgg0
  z0 := Tryd.sizeOf0
  v0 := Tryd.zeroValue0
  t2 := Tryd.underlying2
  a2 := Tryd.isAgg2
  z2 := Tryd.sizeOf2
  v2 := Tryd.zeroValue2
  t3 := Tryd.underlying3
  a3 := Tryd.isAgg3
  z3 := Tryd.sizeOf3
  v3 := Tryd.zeroValue3
  t4 := Tryd.underlying4
  a4 := Tryd.isAgg4
  z4 := Tryd.sizeOf4
  v4 := Tryd.zeroValue4
  t5 := Tryd.underlying5
  a5 := Tryd.isAgg5
  z5 := Tryd.sizeOf5
  v5 := Tryd.zeroValue5
  t9 := Tryd.underlying9
  a9 := Tryd.isAgg9
  z9 := Tryd.sizeOf9
  v9 := Tryd.zeroValue9
  t20 := Tryd.underlying20
  a20 := Tryd.isAgg20
  z20 := Tryd.sizeOf20
  v20 := Tryd.zeroValue20
  t37 := Tryd.underlying34
  a37 := Tryd.isAgg34
  z37 := Tryd.sizeOf34
  v37 := Tryd.zeroValue34
  t46 := Tryd.underlying64
  a46 := Tryd.isAgg64
  z46 := Tryd.sizeOf64
  v46 := Tryd.zeroValue64
  t51 := Tryd.underlying96
  a51 := Tryd.isAgg96
  z51 := Tryd.sizeOf96
  v51 := Tryd.zeroValue96
  t53 := Tryd.underlying49
  a53 := Tryd.isAgg49
  z53 := Tryd.sizeOf49
  v53 := Tryd.zeroValue49
  t171 := Tryd.underlying80
  a171 := Tryd.isAgg80
  z171 := Tryd.sizeOf80
  v171 := Tryd.zeroValue80
  t173 := Tryd.underlying83
  a173 := Tryd.isAgg83
  z173 := Tryd.sizeOf83
  v173 := Tryd.zeroValue83
  t212 := Tryd.underlying95
  a212 := Tryd.isAgg95
  z212 := Tryd.sizeOf95
  v212 := Tryd.zeroValue95
  t213 := Tryd.underlying97
  a213 := Tryd.isAgg97
  z213 := Tryd.sizeOf97
  t232 := Tryd.underlying109
  a232 := Tryd.isAgg109
  z232 := Tryd.sizeOf109
  v232 := Tryd.zeroValue109
  t233 := Tryd.underlying110
  a233 := Tryd.isAgg110
  z233 := Tryd.sizeOf110
  v233 := Tryd.zeroValue110
  g17 := by kernel_rfl
  g18 := by kernel_rfl
  g19 := by kernel_rfl
  i0 := by kernel_rfl
  i2 := by kernel_rfl
  i3 := by kernel_rfl
  i4 := by kernel_rfl
  i5 := by kernel_rfl
  i9 := by kernel_rfl
  i20 := by kernel_rfl
  i37 := by kernel_rfl
  i46 := by kernel_rfl
  i51 := by kernel_rfl
  i53 := by kernel_rfl
  i171 := by kernel_rfl
  i173 := by kernel_rfl
  i212 := by kernel_rfl
  i232 := by kernel_rfl
  i233 := by kernel_rfl
  m17 := by kernel_rfl
  m18 := by kernel_rfl
  m19 := by kernel_rfl
}
def laysIdx_ren : Go.Shelf.Ren := ⟨fun | 137 => 32 | 217 => 44 | 266 => 50 | n => n, fun | 9 => 9 | 5 => 5 | 3 => 3 | n => n, fun | n => n⟩
theorem laysIdx : Go.Proofs.Lays.n137 Tryd.prog laysIdx_ren := {
  mixed := by kernel_rfl
  f137 := Tryd.func32.trans (congrArg some (by kernel_rfl))
  f217 := Tryd.func44.trans (congrArg some (by kernel_rfl))
  f266 := Tryd.func50.trans (congrArg some (by kernel_rfl))
  t3 := Tryd.underlying3
  a3 := Tryd.isAgg3
  z3 := Tryd.sizeOf3
  v3 := Tryd.zeroValue3
  t5 := Tryd.underlying5
  a5 := Tryd.isAgg5
  z5 := Tryd.sizeOf5
  v5 := Tryd.zeroValue5
  t9 := Tryd.underlying9
  a9 := Tryd.isAgg9
  z9 := Tryd.sizeOf9
  v9 := Tryd.zeroValue9
}
def laysAtoi_ren : Go.Shelf.Ren := ⟨fun | 172 => 41 | 244 => 47 | 245 => 48 | 247 => 56 | 279 => 57 | 280 => 58 | 281 => 59 | 282 => 60 | 287 => 66 | 316 => 67 | 171 => 26 | 205 => 68 | 321 => 71 | 322 => 72 | 243 => 35 | 246 => 45 | 283 => 51 | 284 => 52 | 285 => 53 | 286 => 54 | 129 => 62 | 317 => 61 | 318 => 63 | 319 => 64 | 320 => 65 | 337 => 69 | 338 => 70 | n => n, fun | 9 => 9 | 3 => 3 | 75 => 69 | 76 => 71 | 4 => 4 | 5 => 5 | 167 => 87 | 37 => 34 | 0 => 0 | 85 => 88 | 2 => 2 | 168 => 90 | 53 => 49 | 175 => 99 | 46 => 64 | 210 => 102 | 127 => 77 | 145 => 108 | 143 => 106 | 21 => 21 | 171 => 80 | 173 => 83 | 212 => 95 | 51 => 96 | 20 => 20 | 213 => 97 | 232 => 109 | 233 => 110 | 80 => 73 | n => n, fun | 15 => 2 | 16 => 3 | 17 => 1 | 18 => 4 | 19 => 5 | n => n⟩
theorem laysAtoi : Go.Proofs.LaysC.n172 Tryd.prog laysAtoi_ren := {
  mixed := by kernel_rfl
  f129 := Tryd.func62.trans (congrArg some (by kernel_rfl))
  f171 := Tryd.func26.trans (congrArg some (by kernel_rfl))
  f172 := Tryd.func41.trans (congrArg some (by kernel_rfl))
  f205 := Tryd.func68.trans (congrArg some (by kernel_rfl))
  f243 := Tryd.func35.trans (congrArg some (by kernel_rfl))
  f244 := Tryd.func47.trans (congrArg some (by kernel_rfl))
  f245 := Tryd.func48.trans (congrArg some (by kernel_rfl))
  f246 := Tryd.func45.trans (congrArg some (by kernel_rfl))
  f247 := Tryd.func56.trans (congrArg some (by kernel_rfl))
  f279 := Tryd.func57.trans (congrArg some (by kernel_rfl))
  f280 := Tryd.func58.trans (congrArg some (by kernel_rfl))
  f281 := Tryd.func59.trans (congrArg some (by kernel_rfl))
  f282 := Tryd.func60.trans (congrArg some (by kernel_rfl))
  f283 := Tryd.func51.trans (congrArg some (by kernel_rfl))
  f284 := Tryd.func52.trans (congrArg some (by kernel_rfl))
  f285 := Tryd.func53.trans (congrArg some (by kernel_rfl))
  f286 := Tryd.func54.trans (congrArg some (by kernel_rfl))
  f287 := Tryd.func66.trans (congrArg some (by kernel_rfl))
  f316 := Tryd.func67.trans (congrArg some (by kernel_rfl))
  f317 := Tryd.func61.trans (congrArg some (by kernel_rfl))
  f318 := Tryd.func63.trans (congrArg some (by kernel_rfl))
  f319 := Tryd.func64.trans (congrArg some (by kernel_rfl))
  f320 := Tryd.func65.trans (congrArg some (by kernel_rfl))
  f321 := Tryd.func71.trans (congrArg some (by kernel_rfl))
  f322 := Tryd.func72.trans (congrArg some (by kernel_rfl))
  f337 := Tryd.func69.trans (congrArg some (by kernel_rfl))
  f338 := Tryd.func70.trans (congrArg some (by kernel_rfl))
  t0 := Tryd.underlying0
  a0 := Tryd.isAgg0
  z0 := Tryd.sizeOf0
  v0 := Tryd.zeroValue0
  t2 := Tryd.underlying2
  a2 := Tryd.isAgg2
  z2 := Tryd.sizeOf2
  v2 := Tryd.zeroValue2
  t3 := Tryd.underlying3
  a3 := Tryd.isAgg3
  z3 := Tryd.sizeOf3
  v3 := Tryd.zeroValue3
  t4 := Tryd.underlying4
  a4 := Tryd.isAgg4
  z4 := Tryd.sizeOf4
  v4 := Tryd.zeroValue4
  t5 := Tryd.underlying5
  a5 := Tryd.isAgg5
  z5 := Tryd.sizeOf5
  v5 := Tryd.zeroValue5
  t9 := Tryd.underlying9
  a9 := Tryd.isAgg9
  z9 := Tryd.sizeOf9
  v9 := Tryd.zeroValue9
  t20 := Tryd.underlying20
  a20 := Tryd.isAgg20
  z20 := Tryd.sizeOf20
  v20 := Tryd.zeroValue20
  t21 := Tryd.underlying21
  a21 := Tryd.isAgg21
  z21 := Tryd.sizeOf21
  v21 := Tryd.zeroValue21
  t37 := Tryd.underlying34
  a37 := Tryd.isAgg34
  z37 := Tryd.sizeOf34
  v37 := Tryd.zeroValue34
  t46 := Tryd.underlying64
  a46 := Tryd.isAgg64
  z46 := Tryd.sizeOf64
  v46 := Tryd.zeroValue64
  t51 := Tryd.underlying96
  a51 := Tryd.isAgg96
  z51 := Tryd.sizeOf96
  v51 := Tryd.zeroValue96
  t53 := Tryd.underlying49
  a53 := Tryd.isAgg49
  z53 := Tryd.sizeOf49
  v53 := Tryd.zeroValue49
  t75 := Tryd.underlying69
  a75 := Tryd.isAgg69
  z75 := Tryd.sizeOf69
  v75 := Tryd.zeroValue69
  t76 := Tryd.underlying71
  a76 := Tryd.isAgg71
  z76 := Tryd.sizeOf71
  v76 := Tryd.zeroValue71
  t85 := Tryd.underlying88
  a85 := Tryd.isAgg88
  z85 := Tryd.sizeOf88
  v85 := Tryd.zeroValue88
  t127 := Tryd.underlying77
  a127 := Tryd.isAgg77
  z127 := Tryd.sizeOf77
  v127 := Tryd.zeroValue77
  t143 := Tryd.underlying106
  a143 := Tryd.isAgg106
  z143 := Tryd.sizeOf106
  v143 := Tryd.zeroValue106
  t145 := Tryd.underlying108
  a145 := Tryd.isAgg108
  z145 := Tryd.sizeOf108
  v145 := Tryd.zeroValue108
  t167 := Tryd.underlying87
  a167 := Tryd.isAgg87
  z167 := Tryd.sizeOf87
  v167 := Tryd.zeroValue87
  t168 := Tryd.underlying90
  a168 := Tryd.isAgg90
  z168 := Tryd.sizeOf90
  v168 := Tryd.zeroValue90
  t171 := Tryd.underlying80
  a171 := Tryd.isAgg80
  z171 := Tryd.sizeOf80
  v171 := Tryd.zeroValue80
  t173 := Tryd.underlying83
  a173 := Tryd.isAgg83
  z173 := Tryd.sizeOf83
  v173 := Tryd.zeroValue83
  t175 := Tryd.underlying99
  a175 := Tryd.isAgg99
  z175 := Tryd.sizeOf99
  v175 := Tryd.zeroValue99
  t210 := Tryd.underlying102
  a210 := Tryd.isAgg102
  z210 := Tryd.sizeOf102
  v210 := Tryd.zeroValue102
  t212 := Tryd.underlying95
  a212 := Tryd.isAgg95
  z212 := Tryd.sizeOf95
  v212 := Tryd.zeroValue95
  t213 := Tryd.underlying97
  a213 := Tryd.isAgg97
  z213 := Tryd.sizeOf97
  t232 := Tryd.underlying109
  a232 := Tryd.isAgg109
  z232 := Tryd.sizeOf109
  v232 := Tryd.zeroValue109
  t233 := Tryd.underlying110
  a233 := Tryd.isAgg110
  z233 := Tryd.sizeOf110
  v233 := Tryd.zeroValue110
  g15 := by kernel_rfl
  g16 := by kernel_rfl
  g17 := by kernel_rfl
  g18 := by kernel_rfl
  g19 := by kernel_rfl
  t80 := Tryd.underlying73
  a80 := Tryd.isAgg73
  z80 := Tryd.sizeOf73
  v80 := Tryd.zeroValue73
  i0 := by kernel_rfl
  i2 := by kernel_rfl
  i3 := by kernel_rfl
  i4 := by kernel_rfl
  i5 := by kernel_rfl
  i9 := by kernel_rfl
  i20 := by kernel_rfl
  i21 := by kernel_rfl
  i37 := by kernel_rfl
  i46 := by kernel_rfl
  i51 := by kernel_rfl
  i53 := by kernel_rfl
  i75 := by kernel_rfl
  i76 := by kernel_rfl
  i80 := by kernel_rfl
  i85 := by kernel_rfl
  i127 := by kernel_rfl
  i143 := by kernel_rfl
  i145 := by kernel_rfl
  i167 := by kernel_rfl
  i168 := by kernel_rfl
  i171 := by kernel_rfl
  i173 := by kernel_rfl
  i175 := by kernel_rfl
  i210 := by kernel_rfl
  i212 := by kernel_rfl
  i232 := by kernel_rfl
  i233 := by kernel_rfl
  m15 := by kernel_rfl
  m16 := by kernel_rfl
  m17 := by kernel_rfl
  m18 := by kernel_rfl
  m19 := by kernel_rfl
  c0 := by kernel_rfl
  c2 := by kernel_rfl
  c3 := by kernel_rfl
  c4 := by kernel_rfl
  c5 := by kernel_rfl
  c9 := by kernel_rfl
  c20 := by kernel_rfl
  c21 := by kernel_rfl
  c37 := by kernel_rfl
  c46 := by kernel_rfl
  c51 := by kernel_rfl
  c53 := by kernel_rfl
  c75 := by kernel_rfl
  c76 := by kernel_rfl
  c80 := by kernel_rfl
  c85 := by kernel_rfl
  c127 := by kernel_rfl
  c143 := by kernel_rfl
  c145 := by kernel_rfl
  c167 := by kernel_rfl
  c168 := by kernel_rfl
  c171 := by kernel_rfl
  c173 := by kernel_rfl
  c175 := by kernel_rfl
  c210 := by kernel_rfl
  c212 := by kernel_rfl
  c213 := by kernel_rfl
  c232 := by kernel_rfl
  c233 := by kernel_rfl
}
theorem decF_eq : ∀ (f u : Nat), u < 10 ^ f → 0 < f → decF f u = Lib.decDigits u
  | f + 1, u, h, _ => by
    rw [decF, Lib.decDigits]
    by_cases hu : u < 10
    · rw [show Nat.blt u 10 = true from by simpa [Nat.blt, Nat.lt_iff_add_one_le] using hu, dif_pos hu]; rfl
    · rw [show Nat.blt u 10 = false from by cases hb : Nat.blt u 10 with | false => rfl | true => exact absurd (by simpa [Nat.blt, Nat.lt_iff_add_one_le] using hb) hu, dif_neg hu, cond_false]
      have hf : 0 < f := by
        rcases Nat.eq_zero_or_pos f with h0 | h0
        · subst h0; exact absurd (by simpa using h) hu
        · exact h0
      rw [decF_eq f (u / 10) (by rw [Nat.pow_succ] at h; omega) hf]
theorem itoaF_eq (n : Int) (h : -9223372036854775808 ≤ n ∧ n ≤ 9223372036854775807) : jq n = Lib.itoa n := by
  unfold jq Lib.itoa
  cases n with
  | ofNat u =>
    have : u < 10 ^ 20 := by have := h.2; simp only [Int.ofNat_eq_natCast] at this; omega
    rw [if_neg (by simp)]
    exact decF_eq 20 u this (by decide)
  | negSucc u =>
    have : u + 1 < 10 ^ 20 := by have := h.1; simp only [Int.negSucc_eq] at this; omega
    rw [if_pos (Int.negSucc_lt_zero u)]
    exact congrArg _ (decF_eq 20 (u + 1) this (by decide))
theorem itoa_h (n : Int) (h : -9223372036854775808 ≤ n ∧ n ≤ 9223372036854775807) : Holds Tryd.prog 26 [.v (.int .i64 n)] (.p (.v (.string ⟨⟨jq n⟩⟩))) [] :=
  .of_callsG Tryd.func26 (by kernel_rfl) rfl (fun w vs hg hl hr => by
    have hv : ∃ u, vs = [u] := by
      match vs, hl with
      | [u], _ => exact ⟨u, rfl⟩
    obtain ⟨u, rfl⟩ := hv
    have h1 := jr (hr 0 _ u rfl rfl) rfl
    subst h1
    have htab : Lib.TabIs Tryd.prog w "internal/strconv.uint64pow10" .u64 Lib.pow10Tab := by
      obtain ⟨ty, m, hb⟩ := hg 1 _ rfl
      unfold Lib.TabIs World.var?
      rw [show Tryd.prog.globalNamed "internal/strconv.uint64pow10" = some 1 from by kernel_rfl]
      simp only [Option.bind_some, hb]
      rfl
    refine (Any.strconv_Itoa laysItoa n h.1 h.2 w htab).mono fun e w' ⟨h1, k, os, h2⟩ => ⟨?_, ?_⟩
    · rw [h1, ← itoaF_eq n h]; rfl
    · subst h2
      refine ⟨rfl, rfl, rfl, by simp [Sort.grow], fun b hb => ?_⟩
      show (_ ++ os)[b]? = _
      rw [Array.getElem?_append_left (by exact hb)]; rfl) rfl fun w => .p (.v rfl)
theorem indexByte_h (s : ByteArray) (c : Int) : Holds Tryd.prog 32 [.v (.string s), .v (.int .u8 c)] (.p (.v (.int .i64 (Lib.indexByte s.data.toList c.toNat.toUInt8)))) [] :=
  .of_callsG Tryd.func32 (by kernel_rfl) rfl (fun w vs hg hl hr => by
    have hv : ∃ u v, vs = [u, v] := by
      match vs, hl with
      | [u, v], _ => exact ⟨u, v, rfl⟩
    obtain ⟨u, v, rfl⟩ := hv
    have h1 := jr (hr 0 _ u rfl rfl) rfl
    have h2 := jr (hr 1 _ v rfl rfl) rfl
    subst h1 h2
    exact (Any.strings_IndexByte laysIdx s c w).mono fun e w' ⟨h1, h2⟩ => ⟨h1, h2 ▸ Below.refl _ _⟩) rfl fun w => .p (.v rfl)
theorem atoi_h (s : ByteArray) (hs : s.size ≤ 9223372036854775806) (v : Int) (h : Lib.atoiAll s.data.toList = .ok v) : Holds Tryd.prog 41 [.v (.string s)] (.tup [.p (.v (.int .i64 v)), .p (.v .nilIface)]) [] :=
  .of_callsG Tryd.func41 (by kernel_rfl) rfl (fun w vs hg hl hr => by
    have hv : ∃ u, vs = [u] := by
      match vs, hl with
      | [u], _ => exact ⟨u, rfl⟩
    obtain ⟨u, rfl⟩ := hv
    have h1 := jr (hr 0 _ u rfl rfl) rfl
    subst h1
    refine (Any.strconv_Atoi_ok laysAtoi s hs v h w).mono fun e w' ⟨h1, h2⟩ => ⟨h1, ?_⟩
    rcases h2 with rfl | ⟨t, rfl⟩
    · exact Below.refl _ _
    · exact Lib.bytesWorld_below _ _ _) rfl fun w => .tup (us := [.int .i64 v, .nilIface]) rfl fun i s u hs hu => by
      match i, hs, hu with
      | 0, hs, hu => cases hs; cases hu; exact .p (.v rfl)
      | 1, hs, hu => cases hs; cases hu; exact .p (.v rfl)
def ctab (f : FuncId) (ps : List PV) : Option SV := bif Nat.beq f 26 then (match ps with
  | [.v (.int .i64 n)] => bif ible (-9223372036854775808) n && ible n 9223372036854775807 then some (.p (.v (.string ⟨⟨jq n⟩⟩))) else none
  | _ => none)
  else bif Nat.beq f 32 then (match ps with
  | [.v (.string s), .v (.int .u8 c)] => some (.p (.v (.int .i64 (Lib.indexByte s.data.toList c.toNat.toUInt8))))
  | _ => none)
  else bif Nat.beq f 41 then (match ps with
  | [.v (.string s)] => bif Nat.ble s.size 9223372036854775806 then (match Lib.atoiAll s.data.toList with
    | .ok v => some (.tup [.p (.v (.int .i64 v)), .p (.v .nilIface)])
    | _ => none) else none
  | _ => none)
  else none
theorem ctab_ok (F : List (FuncId × FnI)) : TabOk Tryd.prog ⟨TTab, F, ctab⟩ := fun f ps r h0 => by
  have h : ctab f ps = some r := h0
  clear h0
  unfold ctab at h
  cases hf : Nat.beq f 26 with
  | false =>
    rw [hf, cond_false] at h
    cases hf : Nat.beq f 32 with
    | true =>
      rw [hf, cond_true] at h
      have e := Nat.eq_of_beq_eq_true hf
      subst e
      split at h
      · cases h; exact indexByte_h _ _
      · cases h
    | false =>
      rw [hf, cond_false] at h
      cases hf : Nat.beq f 41 with
      | true =>
        rw [hf, cond_true] at h
        have e := Nat.eq_of_beq_eq_true hf
        subst e
        split at h
        · rename_i s
          cases hb : Nat.ble s.size 9223372036854775806 with
          | false => rw [hb] at h; cases h
          | true =>
            rw [hb, cond_true] at h
            split at h
            · rename_i v hv
              cases h
              exact atoi_h s (Nat.le_of_ble_eq_true hb) v hv
            · cases h
        · cases h
      | false =>
        rw [hf, cond_false] at h
        cases h
  | true =>
    rw [hf, cond_true] at h
    have e := Nat.eq_of_beq_eq_true hf
    subst e
    split at h
    · rename_i n
      cases hb : (ible (-9223372036854775808) n && ible n 9223372036854775807) with
      | false => rw [hb] at h; cases h
      | true =>
        rw [hb, cond_true] at h
        cases h
        simp only [Bool.and_eq_true] at hb
        exact itoa_h n ⟨zb hb.1, zb hb.2⟩
    · cases h
end Go.Proofs.YtnojoaneboppnaaDoor
namespace Go.Proofs.YtnojoaneboppnaaDoor
set_option linter.unusedVariables false
set_option linter.unusedSimpArgs false
open Go.RowKit
def Val.pv (x : Val) : List PV := [.v (.int .i64 x.kind), .v (.int .i64 x.n), .v (.string x.s)]
def Atr.pv (x : Atr) : List PV := [.v (.int .i64 x.cat), .v (.string x.name), .v (.bool x.must)]
def Mat.pv (x : Mat) : List PV := [.v (.int .i64 x.attr.cat), .v (.string x.attr.name), .v (.bool x.attr.must), .v (.int .i64 x.op), .v (.int .i64 x.val.kind), .v (.int .i64 x.val.n), .v (.string x.val.s)]
def valsP (l : List Val) : PV := .sl 3 (l.map Val.pv)
def Giv.pv (x : Giv) : List PV := [.v (.int .i64 x.cat), .v (.string x.name), valsP x.bag]
abbrev pI (n : Int) : PV := .v (.int .i64 n)
abbrev pB (b : Bool) : PV := .v (.bool b)
abbrev pS (s : ByteArray) : PV := .v (.string s)
end Go.Proofs.YtnojoaneboppnaaDoor
namespace Go.Proofs.YtnojoaneboppnaaDoor
set_option linter.unusedVariables false
set_option linter.unusedSimpArgs false
open Go.RowKit
theorem HoldsE.of_callsX {P : Program} {f : FuncId} {fn : Func} {args : List PV} {R : SV → Prop} (hf : P.funcs[f]? = some fn) (hname : (fn.name == "runtime.NumGoroutine") = false) (hb : fn.body.isNone = false)
    (h : ∀ (w : World) (vs : List Value), (∀ g, ETab.contains g = true → ∃ ev ty m, w.heap[g]? = some (.cells #[ev] ty m) ∧ errV ev = true) → vs.length = args.length → (∀ (i : Nat) (s : PV) (u : Value), args[i]? = some s → vs[i]? = some u → RelP (fun _ => True) w s u) →
      Calls P f vs.toArray w fun e w' => ∃ r, R r ∧ flatS r = true ∧ e = .returned (valS r) ∧ Below w.heap.size w w' ∧ RelS (fun _ => True) (fun _ => none) w' r (valS r)) : HoldsE P f args R := by
  refine ⟨⟨fn, hf, hname, hb⟩, fun w Sx vs hSx hl hrel => ?_⟩
  refine (h w vs (fun g hg => (hSx.2.2 g hg).2.2) hl fun i s u a b => (hrel i s u a b).weak fun _ _ _ => trivial).mono fun e w' ⟨r, h1, h2, h3, h4, h5⟩ => ⟨r, _, h1, h2, h3, h4, h5⟩
theorem atoi_range (s : ByteArray) (hs : s.size ≤ 1000000) (h : Lib.atoiAll s.data.toList = .range) (hE : ETab.contains (laysAtoi_ren.g 16) = true) : HoldsE Tryd.prog 41 [.v (.string s)] fun r => ∃ u, errV u = true ∧ u ≠ .nilIface ∧ r = .tup [.p (pI (Lib.atoiSat s.data.toList)), .p (.v u)] :=
  .of_callsX Tryd.func41 (by kernel_rfl) rfl (fun w vs hg hl hr => by
    have hv : ∃ u, vs = [u] := by
      match vs, hl with
      | [u], _ => exact ⟨u, rfl⟩
    obtain ⟨u, rfl⟩ := hv
    have h1 := jr (hr 0 _ u rfl rfl) rfl
    subst h1
    obtain ⟨ev, ty, m, h2, h3⟩ := hg _ hE
    have hev : ev = .nilIface ∨ ∃ te pe, ev = .iface te pe := by
      cases ev with
      | nilIface => exact .inl rfl
      | iface t v => exact .inr ⟨t, v, rfl⟩
      | _ => cases h3
    refine (Any.strconv_Atoi_range laysAtoi s (by omega) h ev w (by unfold World.cell?; rw [h2]; rfl) hev).mono fun e w' ⟨N, h1, h2, h3, h4⟩ => ?_
    exact ⟨_, ⟨_, rfl, (fun e => by cases e), rfl⟩, rfl, h1, h4, .tup (us := [.int .i64 (Lib.atoiSat s.data.toList), .iface (laysAtoi_ren.t 168) (.pointer (some ⟨N, 0, none⟩))]) rfl fun i s u hs hu => by
      match i, hs, hu with
      | 0, hs, hu => cases hs; cases hu; exact .p (.v rfl)
      | 1, hs, hu => cases hs; cases hu; exact .p (.v rfl)⟩)
section
variable {P : Program} {T : TT} (hT : qu P T) {st : St}
include hT
theorem act_ifcmp {o : Oper} {t t' : TypeId} {x : Operand} (ho : o.op = .binOp .neq t x (.const .nilIface) t') {ti : TyI} (ht : lk t T = some ti) (hte : ti.d = .ifc) {u : Value} (hx : evS st x = some (.p (.v u))) (hu : errV u = true)
    (hd : qI st o.dst = true) {Q : St → Prop} (h : ∀ b : Bool, (b = true ↔ u ≠ .nilIface) → Q (st.put o.dst (.p (.v (.bool b))))) : ActOk P [] o st Q := by
  intro w0 Sx γ a w QQ hI
  have hun := (hT t ti ht).und
  rw [hte] at hun
  simp only [qO] at hun
  obtain ⟨m, hun⟩ := hun
  have hv := (qh hI hx).v_inv
  have hyv : a.eval (.const .nilIface) = .nilIface := rfl
  have hrun : ∃ b : Bool, (b = true ↔ u ≠ .nilIface) ∧ (execOp a.eval o).run P w = .ok (.value (.bool b)) w := by
    cases u with
    | nilIface =>
      refine ⟨false, by simp, ?_⟩
      simp only [execOp, ho, hv, hyv]
      refine run_v ?_
      have h1 : (eqGuard .neq t x (.const .nilIface) .nilIface .nilIface).run P w = .ok () w := by simp [eqGuard]
      rw [Sem.run_bind, h1]
      simp only [Result.andThen_ok]
      have hq : ∀ d, (Op.equalIn (d + 1) t .nilIface .nilIface).run P w = .ok true w := fun d => by simp [Op.equalIn, run_underlying hun]
      simp [binOp, Op.equal, Op.maxDepth, hq 9999]
    | iface ty v =>
      refine ⟨true, by simp, ?_⟩
      simp only [execOp, ho, hv, hyv]
      refine run_v ?_
      have h1 : (eqGuard .neq t x (.const .nilIface) (.iface ty v) .nilIface).run P w = .ok () w := by simp [eqGuard]
      rw [Sem.run_bind, h1]
      simp only [Result.andThen_ok]
      have hq : ∀ d, (Op.equalIn (d + 1) t (.iface ty v) .nilIface).run P w = .ok false w := fun d => by simp [Op.equalIn, run_underlying hun]
      simp [binOp, Op.equal, Op.maxDepth, hq 9999]
    | _ => cases hu
  obtain ⟨b, hb, hrun⟩ := hrun
  unfold Oper.wp
  rw [hrun, Oper.upon_value]
  exact ⟨γ, _, h b hb, hI.put hd (.p (.v rfl)), ⟨Nat.le_refl _, fun _ _ _ => rfl⟩, fun K _ b _ hb => by rw [zO]; exact hb⟩
end
end Go.Proofs.YtnojoaneboppnaaDoor
namespace Go.Proofs.YtnojoaneboppnaaDoor
open Go.RowKit
set_option linter.unusedSimpArgs false
set_option linter.unusedVariables false
attribute [local go_sem] ext_cell ext_frozen
attribute [local go_sem low] alloc_cell alloc_frozen
set_option maxHeartbeats 2000000 in
theorem name_any (s : ByteArray) (w : World) (hs : s.size ≤ reachBytes) :
    Calls Tryd.prog 24 #[.string s] w fun e w' => e = .returned (.bool (nameS s)) ∧ w = w' := by
  unfold reachBytes at hs
  go_enter Tryd.func24, Tryd.ntmps24
  go_wp2
  go_loop [3, 4, 5, 6, 9] (fun _ _ _ _ i => ∃ k : Nat, k ≤ s.size ∧ i = .int .i64 k ∧ Hid (∀ i (h : i < s.size), i < k → okC (i == 0) s[i].toNat = true)) (fun _ _ _ _ i => s.size - (intOf i).toNat)
  case atStart => exact ⟨0, Nat.zero_le _, rfl, fun i _ h => absurd h (by omega)⟩
  case round =>
    obtain ⟨k, hk, rfl, hok⟩ := hrel
    by_cases hlt : k < s.size
    · skip
      go_upto_region 5 with (fail)
      refine wp_spec (by kernel_rfl) ?_
      repeat (refine js ?_; intro K hK; go_big_quiet_op; go_big_quiet_on)
      refine spec_nil ?_
      intro us
      simp only [junk, Act.put, List.setIfInBounds_toArray, List.set_cons_zero, List.set_cons_succ]
      go_upto_region 6 with (fail)
      refine wp_spec (by kernel_rfl) ?_
      repeat (refine js ?_; intro K hK; go_big_quiet_op; go_big_quiet_on)
      refine spec_nil ?_
      intro us
      simp only [junk, Act.put, List.setIfInBounds_toArray, List.set_cons_zero, List.set_cons_succ]
      go_upto_region 7 with (fail)
      refine wp_spec (by kernel_rfl) ?_
      repeat (refine js ?_; intro K hK; go_big_quiet_op; go_big_quiet_on)
      refine spec_nil ?_
      intro us
      simp only [junk, Act.put, List.setIfInBounds_toArray, List.set_cons_zero, List.set_cons_succ]
      go_wp2
      · go_ret
        refine ⟨ret_bool (nameS_no hlt ?_).symm, rfl⟩
        go_light
        simp [okC] at *
        omega
      · go_round
        case rel =>
          refine ⟨k + 1, by omega, by go_num, name_step hlt hok.out ?_⟩
          go_light
          simp [okC] at *
          omega
        case measure => simp [intOf]; omega
    · obtain rfl : k = s.size := by omega
      have e1 := hide (nameS_end hok.out)
      go_upto_region 10 with (fail)
      refine wp_spec (by kernel_rfl) ?_
      repeat (refine js ?_; intro K hK; go_big_quiet_op; go_big_quiet_on)
      refine spec_nil ?_
      intro us
      simp only [junk, Act.put, List.setIfInBounds_toArray, List.set_cons_zero, List.set_cons_succ]
      go_wp2
      go_ret
      refine ⟨ret_bool ?_, rfl⟩
      rw [e1.out, toList_size, Bool.eq_iff_iff]
      simp only [Bool.and_eq_true, decide_eq_true_eq, Bool.not_eq_true', decide_eq_false_iff_not]
      omega
end Go.Proofs.YtnojoaneboppnaaDoor
namespace Go.Proofs.YtnojoaneboppnaaDoor
set_option linter.unusedVariables false
set_option linter.unusedSimpArgs false
open Go.RowKit
set_option maxHeartbeats 1000000
theorem one_arg {vs : List Value} (h : vs.length = 1) : ∃ u, vs = [u] := by
  match vs, h with
  | [u], _ => exact ⟨u, rfl⟩
theorem name_h (s : ByteArray) (hs : s.size ≤ reachBytes) : Holds Tryd.prog 24 [pS s] (.p (pB (nameS s))) [] :=
  .of_calls Tryd.func24 (by kernel_rfl) rfl (fun w vs hl hr => by
    obtain ⟨u, rfl⟩ := one_arg hl
    have h := jr (hr 0 _ u rfl rfl) rfl
    subst h
    exact (name_any s w hs).mono fun e w' ⟨h1, h2⟩ => ⟨h1, h2 ▸ Below.refl _ _⟩) rfl fun w => .p (.v rfl)
theorem beq_bytes2 (a b : ByteArray) : (a.toList == b.toList) = decide (a = b) := by
  rw [Bool.eq_iff_iff]
  simp only [beq_iff_eq, decide_eq_true_eq]
  exact ⟨toList_inj, fun h => by rw [h]⟩
end Go.Proofs.YtnojoaneboppnaaDoor
namespace Go.Proofs.YtnojoaneboppnaaDoor
set_option linter.unusedVariables false
set_option linter.unusedSimpArgs false
open Go.RowKit
set_option maxHeartbeats 4000000
abbrev pU (c : UInt8) : PV := .v (.int .u8 (c.toNat : Int))
abbrev pL (l : Bs) : PV := pS ⟨⟨l⟩⟩
theorem byteAt_l {l : Bs} {k : Nat} (hk : k < l.length) : zC ⟨⟨l⟩⟩ k = (l[k].toNat : Int) := by
  unfold zC
  have : (⟨⟨l⟩⟩ : ByteArray).data.getD k 0 = l[k] := by
    show (⟨l⟩ : Array UInt8).getD k 0 = l[k]
    rw [Array.getD_eq_getD_getElem?]
    simp [hk]
  rw [this]
theorem fin_s {ts : List Tmp} {st : St} {b b' : ByteArray} (h : resS st ts = some (.p (.v (.string b)))) (hb : b = b') : Fin ts (.p (.v (.string b'))) [] .ret st := by
  subst hb; exact ⟨Or.inr rfl, st, _, [], Wk.refl _, h, rfl, rfl, rfl⟩
theorem isDigit_h (c : UInt8) : Holds Tryd.prog 29 [pU c] (.p (pB (qp c))) [] := by
  refine qF (ts := [2]) Tryd.func29 (by kernel_rfl) rfl rfl rfl ?_
  (repeat refine qb ?_); refine qa ?_
  repeat (first | refine zR ?_ | refine zK ?_ | refine zM ?_ | refine zB ?_ | refine zA ?_ | refine zS ?_ | refine zL ?_)
  refine qc ?_
  (repeat refine qb ?_); refine qa ?_
  repeat (first | refine zR ?_ | refine zK ?_ | refine zM ?_ | refine zB ?_ | refine zA ?_ | refine zS ?_ | refine zL ?_)
  by_cases h1 : 48 ≤ c.toNat
  · rw [show decide ((c.toNat : Int) ≥ 48) = true by simp; omega]
    repeat (first | refine zR ?_ | refine zK ?_ | refine zM ?_ | refine zB ?_ | refine zA ?_ | refine zS ?_ | refine zL ?_)
    refine qc ?_
    (repeat refine qb ?_); refine qj ?_
    refine jf rfl ?_
    unfold qp
    by_cases h2 : c.toNat ≤ 57 <;> simp [h1, h2] <;> omega
  · rw [show decide ((c.toNat : Int) ≥ 48) = false by simp; omega]
    repeat (first | refine zR ?_ | refine zK ?_ | refine zM ?_ | refine zB ?_ | refine zA ?_ | refine zS ?_ | refine zL ?_)
    refine qc ?_
    (repeat refine qb ?_); refine qj ?_
    refine jf rfl ?_
    simp [qp, h1]
theorem isWord_h (c : UInt8) : Holds Tryd.prog 40 [pU c] (.p (pB (qw c))) [] := by
  have H := isDigit_h c
  have e : ∀ b : Bool, qp c = b → qB c = false → qw c = (b || decide (c.toNat = 95)) := fun b hb hl => by simp [qw, hb, hl]
  have hd : ∀ n : Nat, qB c = false → Holds Tryd.prog 29 [pU c] (.p (pB (qp c))) [] := fun _ _ => H
  have h95 : decide ((c.toNat : Int) = 95) = decide (c.toNat = 95) := by
    by_cases h : c.toNat = 95
    · simp [h]
    · rw [decide_eq_false h, decide_eq_false (by omega)]
  refine qF (ts := [2]) Tryd.func40 (by kernel_rfl) rfl rfl rfl ?_
  (repeat refine qb ?_); refine qa ?_
  repeat (first | refine zR ?_ | refine zK ?_ | refine zM ?_ | refine zB ?_ | refine zA ?_ | refine zS ?_ | refine zL ?_)
  refine qc ?_
  (repeat refine qb ?_); refine qa ?_
  repeat (first | refine zR ?_ | refine zK ?_ | refine zM ?_ | refine zB ?_ | refine zA ?_ | refine zS ?_ | refine zL ?_)
  by_cases h1 : 97 ≤ c.toNat
  · rw [show decide ((c.toNat : Int) ≥ 97) = true by simp; omega]
    repeat (first | refine zR ?_ | refine zK ?_ | refine zM ?_ | refine zB ?_ | refine zA ?_ | refine zS ?_ | refine zL ?_)
    by_cases h2 : c.toNat ≤ 122
    · rw [show decide ((c.toNat : Int) ≤ 122) = true by simp; omega]
      repeat (first | refine zR ?_ | refine zK ?_ | refine zM ?_ | refine zB ?_ | refine zA ?_ | refine zS ?_ | refine zL ?_)
      refine qc ?_
      (repeat refine qb ?_); refine qj ?_
      exact jf rfl (by simp [qw, qB, h1, h2])
    · rw [show decide ((c.toNat : Int) ≤ 122) = false by simp; omega]
      have hl : qB c = false := by simp [qB, h2]
      repeat (first | refine zR ?_ | refine zK ?_ | refine zM ?_ | refine zB ?_ | refine zA ?_ | refine zS ?_ | refine zL ?_)
      refine qi rfl (qd rfl rfl rfl rfl (H) rfl rfl ?_)
      repeat (first | refine zR ?_ | refine zK ?_ | refine zM ?_ | refine zB ?_ | refine zA ?_ | refine zS ?_ | refine zL ?_)
      cases hg : qp c
      · repeat (first | refine zR ?_ | refine zK ?_ | refine zM ?_ | refine zB ?_ | refine zA ?_ | refine zS ?_ | refine zL ?_)
        refine qc ?_
        (repeat refine qb ?_); refine qj ?_
        refine jf rfl ?_
        rw [e false hg hl, ← h95]; rfl
      · repeat (first | refine zR ?_ | refine zK ?_ | refine zM ?_ | refine zB ?_ | refine zA ?_ | refine zS ?_ | refine zL ?_)
        refine qc ?_
        (repeat refine qb ?_); refine qj ?_
        exact jf rfl (by rw [e true hg hl]; rfl)
  · rw [show decide ((c.toNat : Int) ≥ 97) = false by simp; omega]
    have hl : qB c = false := by simp [qB, h1]
    repeat (first | refine zR ?_ | refine zK ?_ | refine zM ?_ | refine zB ?_ | refine zA ?_ | refine zS ?_ | refine zL ?_)
    refine qi rfl (qd rfl rfl rfl rfl (H) rfl rfl ?_)
    repeat (first | refine zR ?_ | refine zK ?_ | refine zM ?_ | refine zB ?_ | refine zA ?_ | refine zS ?_ | refine zL ?_)
    cases hg : qp c
    · repeat (first | refine zR ?_ | refine zK ?_ | refine zM ?_ | refine zB ?_ | refine zA ?_ | refine zS ?_ | refine zL ?_)
      refine qc ?_
      (repeat refine qb ?_); refine qj ?_
      refine jf rfl ?_
      rw [e false hg hl, ← h95]; rfl
    · repeat (first | refine zR ?_ | refine zK ?_ | refine zM ?_ | refine zB ?_ | refine zA ?_ | refine zS ?_ | refine zL ?_)
      refine qc ?_
      (repeat refine qb ?_); refine qj ?_
      exact jf rfl (by rw [e true hg hl]; rfl)
theorem qX {l : Bs} {k : Nat} (hk : k < l.length) : zC ⟨⟨l⟩⟩ (Int.toNat (k : Int)) = (l[k].toNat : Int) := byteAt_l hk
theorem run_h (l : Bs) (hn : l.length ≤ 1000000) (f : FuncId) (p : UInt8 → Bool) (hF : ∀ c, Holds Tryd.prog f ([pU c] ++ []) (.p (pB (p c))) []) : Holds Tryd.prog 39 [pL l, .fn f []] (.p (pI (l.takeWhile p).length)) [] := by
  have ls : (⟨⟨l⟩⟩ : ByteArray).size = l.length := rfl
  refine qF (ts := [4]) Tryd.func39 (by kernel_rfl) rfl rfl rfl ?_
  (repeat refine qb ?_); refine qa ?_
  repeat (first | refine zR ?_ | refine zK ?_ | refine zM ?_ | refine zB ?_ | refine zA ?_ | refine zS ?_ | refine zL ?_)
  refine qc ?_
  (repeat refine qb ?_); refine qa ?_
  repeat (first | refine zR ?_ | refine zK ?_ | refine zM ?_ | refine zB ?_ | refine zA ?_ | refine zS ?_ | refine zL ?_)
  refine qc ?_
  (repeat refine qb ?_); refine zf ?_
  refine SW.wk (qv [0, 1, 5] [] rfl rfl) ?_
  refine jC (fun m s => ∃ (k : Nat) (kk : Int), k ≤ l.length ∧ m = l.length - k ∧ kk = k ∧ (∀ c ∈ l.take k, p c = true) ∧ s = ⟨20, [(0, .p (pL l)), (1, .p (.fn f [])), (5, .p (pI kk))], []⟩) l.length ⟨0, 0, Nat.zero_le _, rfl, rfl, by simp, rfl⟩ ?_
  rintro m s ⟨k, _, hk, rfl, rfl, ha, rfl⟩
  (repeat refine qb ?_); refine qa ?_
  repeat (first | refine zR ?_ | refine zK ?_ | refine zM ?_ | refine zB ?_ | refine zA ?_ | refine zS ?_ | refine zL ?_)
  rw [ls]
  by_cases hlt : k < l.length
  · rw [show decide ((k : Int) < (l.length : Int)) = true by simp; omega]
    have H := hF l[k]
    repeat (first | refine zR ?_ | refine zK ?_ | refine zM ?_ | refine zB ?_ | refine zA ?_ | refine zS ?_ | refine zL ?_)
    refine ql qg rfl rfl (by rw [ls]; omega) rfl ?_
    rw [qX hlt]
    repeat (first | refine zR ?_ | refine zK ?_ | refine zM ?_ | refine zB ?_ | refine zA ?_ | refine zS ?_ | refine zL ?_)
    refine qi rfl (qd rfl rfl rfl rfl (H) rfl rfl ?_)
    repeat (first | refine zR ?_ | refine zK ?_ | refine zM ?_ | refine zB ?_ | refine zA ?_ | refine zS ?_ | refine zL ?_)
    refine qc ?_
    cases hp : p l[k] with
    | false =>
      (repeat refine qb ?_); refine qe rfl (fun hc => ?_) (fun hc => ?_)
      · cases hc
      · refine ji ?_
        (repeat refine qb ?_); refine qa ?_
        repeat (first | refine zR ?_ | refine zK ?_ | refine zM ?_ | refine zB ?_ | refine zA ?_ | refine zS ?_ | refine zL ?_)
        refine qc ?_
        (repeat refine qb ?_); refine qj ?_
        exact fin_i rfl (by rw [jz hk ha fun _ => hp])
    | true =>
      (repeat refine qb ?_); refine qe rfl (fun hc => ?_) (fun hc => ?_)
      · refine qq ?_
        (repeat refine qb ?_); refine zf ?_
        (repeat refine qb ?_); refine qa ?_
        repeat (first | refine zR ?_ | refine zK ?_ | refine zM ?_ | refine zB ?_ | refine zA ?_ | refine zS ?_ | refine zL ?_)
        refine qc ?_
        refine ⟨_, _, ?_, qv [0, 1, 5] [] rfl rfl, k + 1, _, hlt, rfl, zk hlt (by omega), ?_, rfl⟩
        · omega
        · intro c hc
          rw [List.take_succ_eq_append_getElem hlt, List.mem_append, List.mem_singleton] at hc
          rcases hc with hc | rfl
          · exact ha c hc
          · exact hp
      · cases hc
  · rw [show decide ((k : Int) < (l.length : Int)) = false by simp; omega]
    repeat (first | refine zR ?_ | refine zK ?_ | refine zM ?_ | refine zB ?_ | refine zA ?_ | refine zS ?_ | refine zL ?_)
    refine qc ?_
    (repeat refine qb ?_); refine qe rfl (fun hc => ?_) (fun hc => ?_)
    · cases hc
    · refine ji ?_
      (repeat refine qb ?_); refine qa ?_
      repeat (first | refine zR ?_ | refine zK ?_ | refine zM ?_ | refine zB ?_ | refine zA ?_ | refine zS ?_ | refine zL ?_)
      refine qc ?_
      (repeat refine qb ?_); refine qj ?_
      exact fin_i rfl (by rw [jz hk ha fun h => absurd h hlt])
theorem take_tw (p : UInt8 → Bool) : ∀ l : Bs, l.take (l.takeWhile p).length = l.takeWhile p
  | [] => rfl
  | c :: l => by
    rw [List.takeWhile_cons]
    split
    · rw [List.length_cons, List.take_succ_cons, take_tw p l]
    · rfl
theorem okC_word {b : Bool} {x : UInt8} (h : okC b x.toNat = true) : qw x = true := by
  unfold okC at h
  unfold qw qB qp
  cases b <;> simp only [Bool.or_eq_true, Bool.and_eq_true, decide_eq_true_eq, beq_iff_eq, Bool.not_true, Bool.not_false, Bool.false_eq_true, false_and, or_false, true_and] at h ⊢ <;> omega
theorem word_okC {x : UInt8} (h : qw x = true) : okC false x.toNat = true := by
  unfold qw qB qp at h
  unfold okC
  simp only [Bool.or_eq_true, Bool.and_eq_true, decide_eq_true_eq, beq_iff_eq, Bool.not_false, true_and] at h ⊢
  omega
theorem let_okC {x : UInt8} : okC true x.toNat = qB x := by
  unfold okC qB
  simp
theorem nameS_l : ∀ l : Bs, nameS ⟨⟨l⟩⟩ = nameL l
  | [] => by
    have e : decide (0 < (⟨⟨[]⟩⟩ : ByteArray).size) = false := rfl
    unfold nameS nameL
    rw [e]
    simp
  | c :: r => by
    rw [Bool.eq_iff_iff]
    unfold nameS nameL
    simp only [Bool.and_eq_true, decide_eq_true_eq]
    have ls : (⟨⟨c :: r⟩⟩ : ByteArray).size = r.length + 1 := rfl
    have get : ∀ (i : Nat) (h : i < (⟨⟨c :: r⟩⟩ : ByteArray).size), (⟨⟨c :: r⟩⟩ : ByteArray)[i] = (c :: r)[i]'h := fun i h => rfl
    constructor
    · rintro ⟨⟨h, _⟩, h3⟩
      refine ⟨⟨?_, ?_⟩, h3⟩
      · have := h 0 (by rw [ls]; omega)
        rw [get] at this
        rw [← let_okC]; exact this
      · rw [List.all_eq_true]
        intro x hx
        obtain ⟨i, hi, rfl⟩ := List.getElem_of_mem hx
        have := h i hi
        rw [get] at this
        exact okC_word this
    · rintro ⟨⟨h1, h2⟩, h3⟩
      refine ⟨⟨fun i hi => ?_, by rw [ls]; omega⟩, h3⟩
      rw [get]
      cases i with
      | zero => rw [← let_okC] at h1; exact h1
      | succ i => exact word_okC (List.all_eq_true.1 h2 _ (List.getElem_mem _))
def qA (l : Bs) : Bs := if nameL (qR l) then qR l else []
theorem name_l (l : Bs) (hn : l.length ≤ 1000000) : Holds Tryd.prog 28 [pL l] (.p (pL (qA l))) [] := by
  have ls : (⟨⟨l⟩⟩ : ByteArray).size = l.length := rfl
  have HR := run_h l hn 40 qw fun c => isWord_h c
  have hw := qz qw l
  have HN := name_h ⟨⟨qR l⟩⟩ (by show (qR l).length ≤ reachBytes; unfold reachBytes qR; omega)
  rw [nameS_l] at HN
  refine qF (ts := [2]) Tryd.func28 (by kernel_rfl) rfl rfl rfl ?_
  (repeat refine qb ?_); refine qa ?_
  repeat (first | refine zR ?_ | refine zK ?_ | refine zM ?_ | refine zB ?_ | refine zA ?_ | refine zS ?_ | refine zL ?_)
  refine qc ?_
  (repeat refine qb ?_); refine qa ?_
  repeat (first | refine zR ?_ | refine zK ?_ | refine zM ?_ | refine zB ?_ | refine zA ?_ | refine zS ?_ | refine zL ?_)
  refine qi rfl (qd rfl rfl rfl rfl (HR) rfl rfl ?_)
  repeat (first | refine zR ?_ | refine zK ?_ | refine zM ?_ | refine zB ?_ | refine zA ?_ | refine zS ?_ | refine zL ?_)
  refine ql qg rfl rfl (by rw [ls]; omega) rfl ?_
  rw [ext_l, show ((l.drop (Int.toNat 0)).take ((Int.toNat ((l.takeWhile qw).length : Int)) - (Int.toNat 0))) = qR l from take_tw qw l]
  repeat (first | refine zR ?_ | refine zK ?_ | refine zM ?_ | refine zB ?_ | refine zA ?_ | refine zS ?_ | refine zL ?_)
  refine qc ?_
  (repeat refine qb ?_); refine qa ?_
  repeat (first | refine zR ?_ | refine zK ?_ | refine zM ?_ | refine zB ?_ | refine zA ?_ | refine zS ?_ | refine zL ?_)
  refine qi rfl (qd rfl rfl rfl rfl (HN) rfl rfl ?_)
  repeat (first | refine zR ?_ | refine zK ?_ | refine zM ?_ | refine zB ?_ | refine zA ?_ | refine zS ?_ | refine zL ?_)
  cases hq : nameL (qR l) with
  | false =>
    repeat (first | refine zR ?_ | refine zK ?_ | refine zM ?_ | refine zB ?_ | refine zA ?_ | refine zS ?_ | refine zL ?_)
    refine qc ?_
    (repeat refine qb ?_); refine qe rfl (fun hc => ?_) (fun hc => ?_)
    · (repeat refine qb ?_); refine qa ?_
      repeat (first | refine zR ?_ | refine zK ?_ | refine zM ?_ | refine zB ?_ | refine zA ?_ | refine zS ?_ | refine zL ?_)
      refine qc ?_
      (repeat refine qb ?_); refine qj ?_
      exact fin_s rfl (by unfold qA; rw [hq]; rfl)
    · cases hc
  | true =>
    repeat (first | refine zR ?_ | refine zK ?_ | refine zM ?_ | refine zB ?_ | refine zA ?_ | refine zS ?_ | refine zL ?_)
    refine qc ?_
    (repeat refine qb ?_); refine qe rfl (fun hc => ?_) (fun hc => ?_)
    · cases hc
    · refine qq ?_
      (repeat refine qb ?_); refine qa ?_
      repeat (first | refine zR ?_ | refine zK ?_ | refine zM ?_ | refine zB ?_ | refine zA ?_ | refine zS ?_ | refine zL ?_)
      refine qc ?_
      (repeat refine qb ?_); refine qj ?_
      exact fin_s rfl (by unfold qA; rw [hq]; rfl)
theorem u8_in {n : Int} (h : 0 ≤ n ∧ n < 256) : IntKind.u8.wrap n = n := by
  simp [IntKind.wrap, IntKind.bits, IntKind.signed]; omega
theorem digit_h (c : UInt8) : Holds Tryd.prog 49 [pU c] (.p (pI (match hexB c with | some n => (n : Int) | none => -1))) [] := by
  have H := isDigit_h c
  have hc := UInt8.toNat_lt c
  refine qF (ts := [2]) Tryd.func49 (by kernel_rfl) rfl rfl rfl ?_
  (repeat refine qb ?_); refine qa ?_
  repeat (first | refine zR ?_ | refine zK ?_ | refine zM ?_ | refine zB ?_ | refine zA ?_ | refine zS ?_ | refine zL ?_)
  refine qc ?_
  (repeat refine qb ?_); refine zf ?_
  (repeat refine qb ?_); refine qa ?_
  repeat (first | refine zR ?_ | refine zK ?_ | refine zM ?_ | refine zB ?_ | refine zA ?_ | refine zS ?_ | refine zL ?_)
  refine qi rfl (qd rfl rfl rfl rfl (H) rfl rfl ?_)
  repeat (first | refine zR ?_ | refine zK ?_ | refine zM ?_ | refine zB ?_ | refine zA ?_ | refine zS ?_ | refine zL ?_)
  cases hd : qp c with
  | true =>
    have h1 := isDigB_iff.1 hd
    have e : hexB c = some (c.toNat - 48) := by unfold hexB; rw [if_pos hd]
    repeat (first | refine zR ?_ | refine zK ?_ | refine zM ?_ | refine zB ?_ | refine zA ?_ | refine zS ?_ | refine zL ?_)
    refine qc ?_
    (repeat refine qb ?_); refine qe rfl (fun hq => ?_) (fun hq => ?_)
    · (repeat refine qb ?_); refine qa ?_
      repeat (first | refine zR ?_ | refine zK ?_ | refine zM ?_ | refine zB ?_ | refine zA ?_ | refine zS ?_ | refine zL ?_)
      rw [u8_in (n := (c.toNat : Int) - 48) (by omega)]
      repeat (first | refine zR ?_ | refine zK ?_ | refine zM ?_ | refine zB ?_ | refine zA ?_ | refine zS ?_ | refine zL ?_)
      rw [show IntKind.i64.wrap ((c.toNat : Int) - 48) = (c.toNat : Int) - 48 from IntWalk.i64_in _ (by omega)]
      repeat (first | refine zR ?_ | refine zK ?_ | refine zM ?_ | refine zB ?_ | refine zA ?_ | refine zS ?_ | refine zL ?_)
      refine qc ?_
      (repeat refine qb ?_); refine qj ?_
      exact fin_i rfl (by rw [e]; simp only; omega)
    · cases hq
  | false =>
    repeat (first | refine zR ?_ | refine zK ?_ | refine zM ?_ | refine zB ?_ | refine zA ?_ | refine zS ?_ | refine zL ?_)
    refine qc ?_
    (repeat refine qb ?_); refine qe rfl (fun hq => ?_) (fun hq => ?_)
    · cases hq
    · (repeat refine qb ?_); refine qa ?_
      repeat (first | refine zR ?_ | refine zK ?_ | refine zM ?_ | refine zB ?_ | refine zA ?_ | refine zS ?_ | refine zL ?_)
      by_cases h1 : 97 ≤ c.toNat
      · rw [show decide ((c.toNat : Int) ≥ 97) = true by simp; omega]
        repeat (first | refine zR ?_ | refine zK ?_ | refine zM ?_ | refine zB ?_ | refine zA ?_ | refine zS ?_ | refine zL ?_)
        by_cases h2 : c.toNat ≤ 102
        · rw [show decide ((c.toNat : Int) ≤ 102) = true by simp; omega]
          have e : hexB c = some (c.toNat - 87) := by unfold hexB; rw [if_neg (by rw [hd]; simp), if_pos ⟨h1, h2⟩]
          repeat (first | refine zR ?_ | refine zK ?_ | refine zM ?_ | refine zB ?_ | refine zA ?_ | refine zS ?_ | refine zL ?_)
          refine qc ?_
          (repeat refine qb ?_); refine qe rfl (fun h9 => ?_) (fun h9 => ?_)
          · (repeat refine qb ?_); refine qa ?_
            repeat (first | refine zR ?_ | refine zK ?_ | refine zM ?_ | refine zB ?_ | refine zA ?_ | refine zS ?_ | refine zL ?_)
            rw [u8_in (n := (c.toNat : Int) - 97) (by omega)]
            repeat (first | refine zR ?_ | refine zK ?_ | refine zM ?_ | refine zB ?_ | refine zA ?_ | refine zS ?_ | refine zL ?_)
            rw [show IntKind.i64.wrap ((c.toNat : Int) - 97) = (c.toNat : Int) - 97 from IntWalk.i64_in _ (by omega)]
            repeat (first | refine zR ?_ | refine zK ?_ | refine zM ?_ | refine zB ?_ | refine zA ?_ | refine zS ?_ | refine zL ?_)
            rw [show IntKind.i64.wrap ((c.toNat : Int) - 97 + 10) = (c.toNat : Int) - 97 + 10 from IntWalk.i64_in _ (by omega)]
            repeat (first | refine zR ?_ | refine zK ?_ | refine zM ?_ | refine zB ?_ | refine zA ?_ | refine zS ?_ | refine zL ?_)
            refine qc ?_
            (repeat refine qb ?_); refine qj ?_
            exact fin_i rfl (by rw [e]; simp only; omega)
          · cases h9
        · rw [show decide ((c.toNat : Int) ≤ 102) = false by simp; omega]
          have e : hexB c = none := by unfold hexB; rw [if_neg (by rw [hd]; simp), if_neg (by omega)]
          repeat (first | refine zR ?_ | refine zK ?_ | refine zM ?_ | refine zB ?_ | refine zA ?_ | refine zS ?_ | refine zL ?_)
          refine qc ?_
          (repeat refine qb ?_); refine qe rfl (fun h9 => ?_) (fun h9 => ?_)
          · cases h9
          · refine qq ?_
            (repeat refine qb ?_); refine qa ?_
            repeat (first | refine zR ?_ | refine zK ?_ | refine zM ?_ | refine zB ?_ | refine zA ?_ | refine zS ?_ | refine zL ?_)
            refine qc ?_
            (repeat refine qb ?_); refine qj ?_
            exact fin_i rfl (by rw [e])
      · rw [show decide ((c.toNat : Int) ≥ 97) = false by simp; omega]
        have e : hexB c = none := by unfold hexB; rw [if_neg (by rw [hd]; simp), if_neg (by omega)]
        repeat (first | refine zR ?_ | refine zK ?_ | refine zM ?_ | refine zB ?_ | refine zA ?_ | refine zS ?_ | refine zL ?_)
        refine qc ?_
        (repeat refine qb ?_); refine qe rfl (fun h9 => ?_) (fun h9 => ?_)
        · cases h9
        · refine qq ?_
          (repeat refine qb ?_); refine qa ?_
          repeat (first | refine zR ?_ | refine zK ?_ | refine zM ?_ | refine zB ?_ | refine zA ?_ | refine zS ?_ | refine zL ?_)
          refine qc ?_
          (repeat refine qb ?_); refine qj ?_
          exact fin_i rfl (by rw [e])
theorem plain_h (c : UInt8) : Holds Tryd.prog 42 [pU c] (.p (pB (zc c))) [] := by
  have hb : ∀ n : Nat, ((c.toNat : Int) == (n : Int)) = decide (c.toNat = n) := fun n => by
    rw [Bool.eq_iff_iff]; simp; omega
  refine qF (ts := [2]) Tryd.func42 (by kernel_rfl) rfl rfl rfl ?_
  (repeat refine qb ?_); refine qa ?_
  repeat (first | refine zR ?_ | refine zK ?_ | refine zM ?_ | refine zB ?_ | refine zA ?_ | refine zS ?_ | refine zL ?_)
  refine qc ?_
  (repeat refine qb ?_); refine qa ?_
  repeat (first | refine zR ?_ | refine zK ?_ | refine zM ?_ | refine zB ?_ | refine zA ?_ | refine zS ?_ | refine zL ?_)
  by_cases h1 : 32 ≤ c.toNat
  · rw [show decide ((c.toNat : Int) ≥ 32) = true by simp; omega]
    repeat (first | refine zR ?_ | refine zK ?_ | refine zM ?_ | refine zB ?_ | refine zA ?_ | refine zS ?_ | refine zL ?_)
    by_cases h2 : c.toNat ≤ 126
    · rw [show decide ((c.toNat : Int) ≤ 126) = true by simp; omega]
      repeat (first | refine zR ?_ | refine zK ?_ | refine zM ?_ | refine zB ?_ | refine zA ?_ | refine zS ?_ | refine zL ?_)
      by_cases h3 : c.toNat = 34
      · rw [show ((c.toNat : Int) != 34) = false by simp; omega]
        repeat (first | refine zR ?_ | refine zK ?_ | refine zM ?_ | refine zB ?_ | refine zA ?_ | refine zS ?_ | refine zL ?_)
        refine qc ?_
        (repeat refine qb ?_); refine qj ?_
        exact jf rfl (by simp [zc, h3])
      · rw [show ((c.toNat : Int) != 34) = true by simp; omega]
        repeat (first | refine zR ?_ | refine zK ?_ | refine zM ?_ | refine zB ?_ | refine zA ?_ | refine zS ?_ | refine zL ?_)
        by_cases h4 : c.toNat = 92
        · rw [show ((c.toNat : Int) != 92) = false by simp; omega]
          repeat (first | refine zR ?_ | refine zK ?_ | refine zM ?_ | refine zB ?_ | refine zA ?_ | refine zS ?_ | refine zL ?_)
          refine qc ?_
          (repeat refine qb ?_); refine qj ?_
          exact jf rfl (by simp [zc, h4])
        · rw [show ((c.toNat : Int) != 92) = true by simp; omega]
          repeat (first | refine zR ?_ | refine zK ?_ | refine zM ?_ | refine zB ?_ | refine zA ?_ | refine zS ?_ | refine zL ?_)
          refine qc ?_
          (repeat refine qb ?_); refine qj ?_
          exact jf rfl (by simp [zc, h1, h2, h3, h4])
    · rw [show decide ((c.toNat : Int) ≤ 126) = false by simp; omega]
      repeat (first | refine zR ?_ | refine zK ?_ | refine zM ?_ | refine zB ?_ | refine zA ?_ | refine zS ?_ | refine zL ?_)
      refine qc ?_
      (repeat refine qb ?_); refine qj ?_
      exact jf rfl (by simp [zc, h2])
  · rw [show decide ((c.toNat : Int) ≥ 32) = false by simp; omega]
    repeat (first | refine zR ?_ | refine zK ?_ | refine zM ?_ | refine zB ?_ | refine zA ?_ | refine zS ?_ | refine zL ?_)
    refine qc ?_
    (repeat refine qb ?_); refine qj ?_
    exact jf rfl (by simp [zc, h1])
def oddR : Bs → UInt8 × Bool
  | c :: h :: l :: _ => if c.toNat = 92 then (match hexB h, hexB l with
    | some a, some b => (UInt8.ofNat (16 * a + b), !zc (UInt8.ofNat (16 * a + b)))
    | _, _ => (0, false)) else (0, false)
  | _ => (0, false)
theorem hexB_lt {c : UInt8} {n : Nat} (h : hexB c = some n) : n < 16 := by
  unfold hexB at h
  split at h
  · rename_i hd
    have := isDigB_iff.1 hd
    cases h; omega
  · split at h
    · cases h; omega
    · cases h
theorem jH {ts : List Tmp} {st : St} {x y x' y' : PV} (h : resS st ts = some (.tup [.p x, .p y])) (hx : x = x') (hy : y = y') : Fin ts (.tup [.p x', .p y']) [] .ret st := by
  subst hx; subst hy; exact ⟨Or.inr rfl, st, _, [], Wk.refl _, h, rfl, rfl, rfl⟩
theorem odd_h (l : Bs) (hn : l.length ≤ 1000000) : Holds Tryd.prog 43 [pL l] (.tup [.p (pU (oddR l).1), .p (pB (oddR l).2)]) [] := by
  by_cases hl : l.length < 3
  · have eR : oddR l = (0, false) := by
      match l, hl with
      | [], _ => rfl
      | [_], _ => rfl
      | [_, _], _ => rfl
      | _ :: _ :: _ :: _, hl => simp at hl; omega
    have ls : (⟨⟨l⟩⟩ : ByteArray).size = l.length := rfl
    refine qF (ts := [2,3]) Tryd.func43 (by kernel_rfl) rfl rfl rfl ?_
    (repeat refine qb ?_); refine qa ?_
    repeat (first | refine zR ?_ | refine zK ?_ | refine zM ?_ | refine zB ?_ | refine zA ?_ | refine zS ?_ | refine zL ?_)
    refine qc ?_
    (repeat refine qb ?_); refine qa ?_
    repeat (first | refine zR ?_ | refine zK ?_ | refine zM ?_ | refine zB ?_ | refine zA ?_ | refine zS ?_ | refine zL ?_)
    rw [ls, show decide ((l.length : Int) < 3) = true by simp; omega]
    repeat (first | refine zR ?_ | refine zK ?_ | refine zM ?_ | refine zB ?_ | refine zA ?_ | refine zS ?_ | refine zL ?_)
    refine qc ?_
    (repeat refine qb ?_); refine qe rfl (fun hc => ?_) (fun hc => ?_)
    · (repeat refine qb ?_); refine qa ?_
      repeat (first | refine zR ?_ | refine zK ?_ | refine zM ?_ | refine zB ?_ | refine zA ?_ | refine zS ?_ | refine zL ?_)
      refine qc ?_
      (repeat refine qb ?_); refine qj ?_
      exact jH rfl (by rw [eR]; rfl) (by rw [eR])
    · cases hc
  · obtain ⟨c, h, x, r, rfl⟩ : ∃ c h x r, l = c :: h :: x :: r := by
      match l, hl with
      | [], hl => simp at hl
      | [_], hl => simp at hl
      | [_, _], hl => simp at hl
      | c :: h :: x :: r, _ => exact ⟨c, h, x, r, rfl⟩
    have ls : (⟨⟨c :: h :: x :: r⟩⟩ : ByteArray).size = r.length + 3 := rfl
    have b0 : zC ⟨⟨c :: h :: x :: r⟩⟩ (Int.toNat 0) = (c.toNat : Int) := rfl
    have b1 : zC ⟨⟨c :: h :: x :: r⟩⟩ (Int.toNat 1) = (h.toNat : Int) := rfl
    have b2 : zC ⟨⟨c :: h :: x :: r⟩⟩ (Int.toNat 2) = (x.toNat : Int) := rfl
    have eO : oddR (c :: h :: x :: r) = if c.toNat = 92 then (match hexB h, hexB x with
      | some a, some b => (UInt8.ofNat (16 * a + b), !zc (UInt8.ofNat (16 * a + b)))
      | _, _ => (0, false)) else (0, false) := rfl
    have Hh := digit_h h
    have Hx := digit_h x
    refine qF (ts := [2,3]) Tryd.func43 (by kernel_rfl) rfl rfl rfl ?_
    (repeat refine qb ?_); refine qa ?_
    repeat (first | refine zR ?_ | refine zK ?_ | refine zM ?_ | refine zB ?_ | refine zA ?_ | refine zS ?_ | refine zL ?_)
    refine qc ?_
    (repeat refine qb ?_); refine qa ?_
    repeat (first | refine zR ?_ | refine zK ?_ | refine zM ?_ | refine zB ?_ | refine zA ?_ | refine zS ?_ | refine zL ?_)
    rw [ls, show decide (((r.length + 3 : Nat) : Int) < 3) = false by simp; omega]
    repeat (first | refine zR ?_ | refine zK ?_ | refine zM ?_ | refine zB ?_ | refine zA ?_ | refine zS ?_ | refine zL ?_)
    refine ql qg rfl rfl (by rw [ls]; omega) rfl ?_
    rw [b0]
    repeat (first | refine zR ?_ | refine zK ?_ | refine zM ?_ | refine zB ?_ | refine zA ?_ | refine zS ?_ | refine zL ?_)
    by_cases h92 : c.toNat = 92
    rotate_left
    · have eR : oddR (c :: h :: x :: r) = (0, false) := by rw [eO, if_neg h92]
      rw [show ((c.toNat : Int) != 92) = true by simp; omega]
      repeat (first | refine zR ?_ | refine zK ?_ | refine zM ?_ | refine zB ?_ | refine zA ?_ | refine zS ?_ | refine zL ?_)
      refine qc ?_
      (repeat refine qb ?_); refine qe rfl (fun hc => ?_) (fun hc => ?_)
      · (repeat refine qb ?_); refine qa ?_
        repeat (first | refine zR ?_ | refine zK ?_ | refine zM ?_ | refine zB ?_ | refine zA ?_ | refine zS ?_ | refine zL ?_)
        refine qc ?_
        (repeat refine qb ?_); refine qj ?_
        exact jH rfl (by rw [eR]; rfl) (by rw [eR])
      · cases hc
    rw [show ((c.toNat : Int) != 92) = false by simp; omega]
    repeat (first | refine zR ?_ | refine zK ?_ | refine zM ?_ | refine zB ?_ | refine zA ?_ | refine zS ?_ | refine zL ?_)
    refine ql qg rfl rfl (by rw [ls]; omega) rfl ?_
    rw [b1]
    repeat (first | refine zR ?_ | refine zK ?_ | refine zM ?_ | refine zB ?_ | refine zA ?_ | refine zS ?_ | refine zL ?_)
    cases hh : hexB h with
    | none =>
      have eR : oddR (c :: h :: x :: r) = (0, false) := by rw [eO, if_pos h92]; simp only [hh]
      rw [hh] at Hh
      refine qi rfl (qd rfl rfl rfl rfl (Hh) rfl rfl ?_)
      repeat (first | refine zR ?_ | refine zK ?_ | refine zM ?_ | refine zB ?_ | refine zA ?_ | refine zS ?_ | refine zL ?_)
      repeat (first | refine zR ?_ | refine zK ?_ | refine zM ?_ | refine zB ?_ | refine zA ?_ | refine zS ?_ | refine zL ?_)
      refine qc ?_
      (repeat refine qb ?_); refine qe rfl (fun hc => ?_) (fun hc => ?_)
      · (repeat refine qb ?_); refine qa ?_
        repeat (first | refine zR ?_ | refine zK ?_ | refine zM ?_ | refine zB ?_ | refine zA ?_ | refine zS ?_ | refine zL ?_)
        refine qc ?_
        (repeat refine qb ?_); refine qj ?_
        exact jH rfl (by rw [eR]; rfl) (by rw [eR])
      · cases hc
    | some a =>
      rw [hh] at Hh
      have ha := hexB_lt hh
      refine qi rfl (qd rfl rfl rfl rfl (Hh) rfl rfl ?_)
      repeat (first | refine zR ?_ | refine zK ?_ | refine zM ?_ | refine zB ?_ | refine zA ?_ | refine zS ?_ | refine zL ?_)
      rw [show decide ((a : Int) < 0) = false by simp]
      repeat (first | refine zR ?_ | refine zK ?_ | refine zM ?_ | refine zB ?_ | refine zA ?_ | refine zS ?_ | refine zL ?_)
      refine ql qg rfl rfl (by rw [ls]; omega) rfl ?_
      rw [b2]
      repeat (first | refine zR ?_ | refine zK ?_ | refine zM ?_ | refine zB ?_ | refine zA ?_ | refine zS ?_ | refine zL ?_)
      cases hx : hexB x with
      | none =>
        have eR : oddR (c :: h :: x :: r) = (0, false) := by rw [eO, if_pos h92]; simp only [hh, hx]
        rw [hx] at Hx
        refine qi rfl (qd rfl rfl rfl rfl (Hx) rfl rfl ?_)
        repeat (first | refine zR ?_ | refine zK ?_ | refine zM ?_ | refine zB ?_ | refine zA ?_ | refine zS ?_ | refine zL ?_)
        repeat (first | refine zR ?_ | refine zK ?_ | refine zM ?_ | refine zB ?_ | refine zA ?_ | refine zS ?_ | refine zL ?_)
        refine qc ?_
        (repeat refine qb ?_); refine qe rfl (fun hc => ?_) (fun hc => ?_)
        · (repeat refine qb ?_); refine qa ?_
          repeat (first | refine zR ?_ | refine zK ?_ | refine zM ?_ | refine zB ?_ | refine zA ?_ | refine zS ?_ | refine zL ?_)
          refine qc ?_
          (repeat refine qb ?_); refine qj ?_
          exact jH rfl (by rw [eR]; rfl) (by rw [eR])
        · cases hc
      | some b =>
        rw [hx] at Hx
        have hb := hexB_lt hx
        have eR : oddR (c :: h :: x :: r) = (UInt8.ofNat (16 * a + b), !zc (UInt8.ofNat (16 * a + b))) := by rw [eO, if_pos h92]; simp only [hh, hx]
        obtain ⟨q, hq⟩ : ∃ q, q = UInt8.ofNat (16 * a + b) := ⟨_, rfl⟩
        rw [← hq] at eR
        have hqn : q.toNat = 16 * a + b := by rw [hq, UInt8.toNat_ofNat']; omega
        have HP := plain_h q
        refine qi rfl (qd rfl rfl rfl rfl (Hx) rfl rfl ?_)
        repeat (first | refine zR ?_ | refine zK ?_ | refine zM ?_ | refine zB ?_ | refine zA ?_ | refine zS ?_ | refine zL ?_)
        rw [show decide ((b : Int) < 0) = false by simp]
        repeat (first | refine zR ?_ | refine zK ?_ | refine zM ?_ | refine zB ?_ | refine zA ?_ | refine zS ?_ | refine zL ?_)
        refine qc ?_
        (repeat refine qb ?_); refine qe rfl (fun hc => ?_) (fun hc => ?_)
        · cases hc
        refine qq ?_
        (repeat refine qb ?_); refine zU [] [(0, true), (1, true), (4, true), (5, true), (2, false), (3, true), (6, false), (7, true), (8, true), (9, true)] (by kernel_rfl) (by kernel_rfl) (by kernel_rfl) ?_
        repeat (first | refine yR ?_ | refine yK ?_ | refine yM ?_ | refine yB ?_ | refine yA ?_ | refine yS ?_ | refine yL ?_)
        refine zV qg rfl rfl rfl (by rw [ls]; omega) rfl ?_
        rw [b1]
        repeat (first | refine yR ?_ | refine yK ?_ | refine yM ?_ | refine yB ?_ | refine yA ?_ | refine yS ?_ | refine yL ?_)
        refine zV qg rfl rfl rfl (by rw [ls]; omega) rfl ?_
        rw [b2]
        repeat (first | refine yR ?_ | refine yK ?_ | refine yM ?_ | refine yB ?_ | refine yA ?_ | refine yS ?_ | refine yL ?_)
        refine swm_act rfl rfl rfl (qd rfl rfl rfl rfl (Hh) rfl rfl ?_)
        repeat (first | refine yR ?_ | refine yK ?_ | refine yM ?_ | refine yB ?_ | refine yA ?_ | refine yS ?_ | refine yL ?_)
        repeat (first | refine yR ?_ | refine yK ?_ | refine yM ?_ | refine yB ?_ | refine yA ?_ | refine yS ?_ | refine yL ?_)
        refine swm_act rfl rfl rfl (qd rfl rfl rfl rfl (Hx) rfl rfl ?_)
        repeat (first | refine yR ?_ | refine yK ?_ | refine yM ?_ | refine yB ?_ | refine yA ?_ | refine yS ?_ | refine yL ?_)
        repeat (first | refine yR ?_ | refine yK ?_ | refine yM ?_ | refine yB ?_ | refine yA ?_ | refine yS ?_ | refine yL ?_)
        rw [show IntKind.u8.wrap (IntKind.i64.wrap (IntKind.i64.wrap (16 * (a : Int)) + (b : Int))) = (q.toNat : Int) by
          rw [show IntKind.i64.wrap (16 * (a : Int)) = 16 * (a : Int) from IntWalk.i64_in _ (by omega), show IntKind.i64.wrap (16 * (a : Int) + (b : Int)) = 16 * (a : Int) + (b : Int) from IntWalk.i64_in _ (by omega), u8_in (by omega), hqn]
          omega]
        refine jh ?_
        (repeat refine qb ?_); refine qa ?_
        repeat (first | refine zR ?_ | refine zK ?_ | refine zM ?_ | refine zB ?_ | refine zA ?_ | refine zS ?_ | refine zL ?_)
        refine qi rfl (qd rfl rfl rfl rfl (HP) rfl rfl ?_)
        repeat (first | refine zR ?_ | refine zK ?_ | refine zM ?_ | refine zB ?_ | refine zA ?_ | refine zS ?_ | refine zL ?_)
        repeat (first | refine zR ?_ | refine zK ?_ | refine zM ?_ | refine zB ?_ | refine zA ?_ | refine zS ?_ | refine zL ?_)
        refine qc ?_
        (repeat refine qb ?_); refine qj ?_
        exact jH rfl (by rw [eR]) (by rw [eR])
theorem bytesOf_map : ∀ b : Bs, bytesOf (b.map fun c => [pU c]) = some b
  | [] => rfl
  | c :: b => by
    have h : byteOf [pU c] = some c := by
      show some (UInt8.ofNat (c.toNat : Int).toNat) = some c
      rw [Int.toNat_natCast, UInt8.ofNat_toNat]
    rw [List.map_cons, bytesOf, h, bytesOf_map b]
section
variable {P : Program} {T : TT} (hT : qu P T) {st : St}
include hT
theorem je {o : Oper} {sT dT e : TypeId} {x : Operand} {j z : Nat} {e0 : TypeId} {b : Bs} {s1 s2 d1 d2 e1 e2 : Nat} {s3 d3 e3 : List Value} {s4 d4 e4 : Bool} (ho : o.op = .convert sT dT x) (hx : evS st x = some (.row j)) (hj : lk j st.own = some (.row e0 z (b.map fun c => [pU c])))
    (hs : lk sT T = some ⟨s1, s2, .sl e, s3, s4⟩) (hd : lk dT T = some ⟨d1, d2, .str, d3, d4⟩) (he : lk e T = some ⟨e1, e2, .int .u8, e3, e4⟩) (hdst : qI st o.dst = true) {Q : St → Prop} (h : Q (st.put o.dst (.p (pL b)))) : ActOk P [] o st Q := by
  have hE : eConv T [] st sT dT (evS st x) some = some (.p (pL b)) := by
    rw [hx]
    unfold eConv eText
    simp only [qt, hj, hs, hd, he, bytesOf_map, qW]
    rfl
  obtain ⟨s, h1, h2⟩ := eConv_ok hT ho hE
  cases h2
  exact jx h1 hdst h
end
def textR (l : Bs) : Bs × Nat := match qQ (l.drop 1) with
  | some (t, k) => if t.length ≤ 64 then (t, k + 1) else ([], 0)
  | none => ([], 0)
theorem odd_yes {c : UInt8} {r : Bs} {q : UInt8} (h : oddR (c :: r) = (q, true)) (h34 : c.toNat ≠ 34) (hp : zc c = false) : qQ (c :: r) = (qQ (r.drop 2)).map (fun p => (q :: p.1, p.2 + 3)) ∧ 2 ≤ r.length := by
  rw [qT, if_neg h34, if_neg (by rw [hp]; simp)]
  match r, h with
  | [], h => cases h
  | [_], h => cases h
  | a :: b :: r, h =>
    unfold oddR at h
    simp only at h
    split at h
    · rename_i h92
      rw [if_pos h92]
      refine ⟨?_, by simp⟩
      unfold oddT
      simp only
      split at h
      · rename_i x y hx hy
        rw [hx, hy]
        simp only [Prod.mk.injEq] at h
        obtain ⟨rfl, h2⟩ := h
        simp only [List.drop_succ_cons, List.drop_zero]
        rw [if_neg (by simpa using h2)]
      · cases h
    · cases h
theorem odd_no {c : UInt8} {r : Bs} (h : (oddR (c :: r)).2 = false) (h34 : c.toNat ≠ 34) (hp : zc c = false) : qQ (c :: r) = none := by
  rw [qT, if_neg h34, if_neg (by rw [hp]; simp)]
  split
  · rename_i h92
    match r, h with
    | [], h => rfl
    | [_], h => rfl
    | a :: b :: r, h =>
      unfold oddR at h
      simp only [if_pos h92] at h
      unfold oddT
      simp only
      split at h
      · rename_i x y hx hy
        rw [hx, hy]
        simp only
        rw [if_pos (by simpa using h)]
      · rename_i hn
        split
        · rename_i x y hx hy
          exact absurd hy (hn x y hx)
        · rfl
  · rfl
end Go.Proofs.YtnojoaneboppnaaDoor
namespace Go.Proofs.YtnojoaneboppnaaDoor
set_option linter.unusedVariables false
set_option linter.unusedSimpArgs false
open Go.RowKit
set_option maxHeartbeats 4000000
theorem jG {α : Type} (f g : α → α) (x : Option α) : (x.map f).map g = x.map fun p => g (f p) := by cases x <;> rfl
theorem text_l (l : Bs) (hn : l.length ≤ 100000) : Holds Tryd.prog 31 [pL l] (.tup [.p (pL (textR l).1), .p (pI (textR l).2)]) [] := by
  have ls : (⟨⟨l⟩⟩ : ByteArray).size = l.length := rfl
  refine qF (ts := [2,3]) Tryd.func31 (by kernel_rfl) rfl rfl rfl ?_
  (repeat refine qb ?_); refine qa ?_
  repeat (first | refine zR ?_ | refine zK ?_ | refine zM ?_ | refine zB ?_ | refine zA ?_ | refine zS ?_ | refine zL ?_)
  refine qc ?_
  (repeat refine qb ?_); refine qa ?_
  repeat (first | refine zR ?_ | refine zK ?_ | refine zM ?_ | refine zB ?_ | refine zA ?_ | refine zS ?_ | refine zL ?_)
  refine qc ?_
  (repeat refine qb ?_); refine qa ?_
  repeat (first | refine zR ?_ | refine zK ?_ | refine zM ?_ | refine zB ?_ | refine zA ?_ | refine zS ?_ | refine zL ?_)
  refine qc ?_
  (repeat refine qb ?_); refine zf ?_
  refine SW.wk (wk_nil 4 900 5 1 rfl rfl) ?_
  refine SW.wk (qv [0, 4, 5] [(900, 0)] rfl rfl) ?_
  refine jC (fun m s => ∃ (k : Nat) (kk : Int) (o : Bs), 1 ≤ k ∧ m = l.length + 3 - k ∧ k ≤ l.length + 1 ∧ kk = k ∧ o.length ≤ k ∧ qQ (l.drop 1) = (qQ (l.drop k)).map (fun p => (o ++ p.1, p.2 + (k - 1))) ∧ s = ⟨50, [(0, .p (pL l)), (4, .row 0), (5, .p (pI kk))], [(0, .row 5 1 (o.map fun c => [pU c]))]⟩) (l.length + 2) ⟨1, 1, [], Nat.le_refl _, rfl, by omega, rfl, Nat.zero_le _, by cases qQ (l.drop 1) <;> simp, rfl⟩ ?_
  rintro m s ⟨k, _, o, hk1, rfl, hk, rfl, ho, hT, rfl⟩
  (repeat refine qb ?_); refine qa ?_
  repeat (first | refine zR ?_ | refine zK ?_ | refine zM ?_ | refine zB ?_ | refine zA ?_ | refine zS ?_ | refine zL ?_)
  rw [ls]
  by_cases hlt : k < l.length
  · rw [show decide ((k : Int) < (l.length : Int)) = true by simp; omega]
    refine qc ?_
    (repeat refine qb ?_); refine qe rfl (fun hc => ?_) (fun hc => ?_)
    rotate_left
    · cases hc
    refine qq ?_
    obtain ⟨c, hcc⟩ : ∃ c, c = l[k] := ⟨_, rfl⟩
    have hdr : l.drop k = c :: l.drop (k + 1) := by rw [hcc]; exact List.drop_eq_getElem_cons hlt
    have HP := plain_h c
    (repeat refine qb ?_); refine zf ?_
    (repeat refine qb ?_); refine qa ?_
    repeat (first | refine zR ?_ | refine zK ?_ | refine zM ?_ | refine zB ?_ | refine zA ?_ | refine zS ?_ | refine zL ?_)
    refine ql qg rfl rfl (by rw [ls]; omega) rfl ?_
    rw [qX hlt, ← hcc]
    repeat (first | refine zR ?_ | refine zK ?_ | refine zM ?_ | refine zB ?_ | refine zA ?_ | refine zS ?_ | refine zL ?_)
    by_cases h34 : c.toNat = 34
    · rw [show ((c.toNat : Int) == 34) = true by simp; omega]
      have eT : qQ (l.drop 1) = some (o, k) := by
        rw [hT, hdr, qT, if_pos h34]
        simp; omega
      have eR : textR l = if o.length ≤ 64 then (o, k + 1) else ([], 0) := by unfold textR; rw [eT]
      refine qc ?_
      (repeat refine qb ?_); refine qe rfl (fun hq => ?_) (fun hq => ?_)
      rotate_left
      · cases hq
      (repeat refine qb ?_); refine qa ?_
      repeat (first | refine zR ?_ | refine zK ?_ | refine zM ?_ | refine zB ?_ | refine zA ?_ | refine zS ?_ | refine zL ?_)
      rw [show ((o.map fun c => [pU c]).length : Int) = (o.length : Int) by simp]
      by_cases h64 : o.length ≤ 64
      · rw [show decide ((o.length : Int) > 64) = false by simp; omega]
        rw [if_pos h64] at eR
        refine qc ?_
        (repeat refine qb ?_); refine qe rfl (fun hz => ?_) (fun hz => ?_)
        · cases hz
        refine qq ?_
        (repeat refine qb ?_); refine qa ?_
        repeat (first | refine zR ?_ | refine zK ?_ | refine zM ?_ | refine zB ?_ | refine zA ?_ | refine zS ?_ | refine zL ?_)
        refine qi rfl (je qg rfl rfl rfl rfl rfl rfl rfl ?_)
        repeat (first | refine zR ?_ | refine zK ?_ | refine zM ?_ | refine zB ?_ | refine zA ?_ | refine zS ?_ | refine zL ?_)
        rw [zk hlt (by omega)]
        refine qc ?_
        (repeat refine qb ?_); refine qj ?_
        exact jH rfl (by rw [eR]) (by rw [eR])
      · rw [show decide ((o.length : Int) > 64) = true by simp; omega]
        rw [if_neg h64] at eR
        refine qc ?_
        (repeat refine qb ?_); refine qe rfl (fun hz => ?_) (fun hz => ?_)
        · (repeat refine qb ?_); refine qa ?_
          repeat (first | refine zR ?_ | refine zK ?_ | refine zM ?_ | refine zB ?_ | refine zA ?_ | refine zS ?_ | refine zL ?_)
          refine qc ?_
          (repeat refine qb ?_); refine qj ?_
          exact jH rfl (by rw [eR]) (by rw [eR]; rfl)
        · cases hz
    · rw [show ((c.toNat : Int) == 34) = false by simp; omega]
      refine qc ?_
      (repeat refine qb ?_); refine qe rfl (fun hq => ?_) (fun hq => ?_)
      · cases hq
      refine qq ?_
      (repeat refine qb ?_); refine qa ?_
      repeat (first | refine zR ?_ | refine zK ?_ | refine zM ?_ | refine zB ?_ | refine zA ?_ | refine zS ?_ | refine zL ?_)
      refine ql qg rfl rfl (by rw [ls]; omega) rfl ?_
      rw [qX hlt, ← hcc]
      repeat (first | refine zR ?_ | refine zK ?_ | refine zM ?_ | refine zB ?_ | refine zA ?_ | refine zS ?_ | refine zL ?_)
      refine qi rfl (qd rfl rfl rfl rfl (HP) rfl rfl ?_)
      repeat (first | refine zR ?_ | refine zK ?_ | refine zM ?_ | refine zB ?_ | refine zA ?_ | refine zS ?_ | refine zL ?_)
      cases hp : zc c with
      | true =>
        refine qc ?_
        (repeat refine qb ?_); refine qe rfl (fun hz => ?_) (fun hz => ?_)
        rotate_left
        · cases hz
        (repeat refine qb ?_); refine qa ?_
        repeat (first | refine zR ?_ | refine zK ?_ | refine zM ?_ | refine zB ?_ | refine zA ?_ | refine zS ?_ | refine zL ?_)
        refine ql qg rfl rfl (by rw [ls]; omega) rfl ?_
        rw [qX hlt, ← hcc]
        repeat (first | refine zR ?_ | refine zK ?_ | refine zM ?_ | refine zB ?_ | refine zA ?_ | refine zS ?_ | refine zL ?_)
        refine qi rfl (qy qg rfl rfl rfl rfl rfl rfl rfl rfl rfl rfl rfl rfl rfl rfl rfl rfl (by simp only [List.length_append, List.length_map, List.length_take, List.length_cons, List.length_nil]; unfold reachBytes; omega) (by simp only [List.length_append, List.length_map, List.length_take, List.length_cons, List.length_nil]; omega) ?_)
        repeat (first | refine zR ?_ | refine zK ?_ | refine zM ?_ | refine zB ?_ | refine zA ?_ | refine zS ?_ | refine zL ?_)
        refine qc ?_
        (repeat refine qb ?_); refine qa ?_
        repeat (first | refine zR ?_ | refine zK ?_ | refine zM ?_ | refine zB ?_ | refine zA ?_ | refine zS ?_ | refine zL ?_)
        refine qc ?_
        refine ji ?_
        refine ⟨_, _, ?_, qv [0, 4, 5] [(32, 0)] rfl rfl, k + 1, _, o ++ [c], by omega, rfl, by omega, zk hlt (by omega), by simp; omega, ?_, ?_⟩
        · omega
        · rw [hT, hdr, qT, if_neg h34, if_pos hp, jG]
          congr 1
          funext p
          simp; omega
        · rw [List.map_append]; rfl
      | false =>
        refine qc ?_
        (repeat refine qb ?_); refine qe rfl (fun hz => ?_) (fun hz => ?_)
        · cases hz
        refine qq ?_
        have HO := odd_h (l.drop k) (by simp; omega)
        (repeat refine qb ?_); refine qa ?_
        repeat (first | refine zR ?_ | refine zK ?_ | refine zM ?_ | refine zB ?_ | refine zA ?_ | refine zS ?_ | refine zL ?_)
        refine ql qg rfl rfl (by rw [ls]; omega) rfl ?_
        rw [ext_l, show (l.drop (Int.toNat (k : Int))).take (Int.toNat ((⟨⟨l⟩⟩ : ByteArray).size : Int) - Int.toNat (k : Int)) = l.drop k from List.take_of_length_le (by simp [ls])]
        repeat (first | refine zR ?_ | refine zK ?_ | refine zM ?_ | refine zB ?_ | refine zA ?_ | refine zS ?_ | refine zL ?_)
        refine qi rfl (qd rfl rfl rfl rfl (HO) rfl rfl ?_)
        repeat (first | refine zR ?_ | refine zK ?_ | refine zM ?_ | refine zB ?_ | refine zA ?_ | refine zS ?_ | refine zL ?_)
        cases hod : oddR (l.drop k) with
        | mk q b =>
          rw [hdr] at hod
          cases b with
          | false =>
            repeat (first | refine zR ?_ | refine zK ?_ | refine zM ?_ | refine zB ?_ | refine zA ?_ | refine zS ?_ | refine zL ?_)
            refine qc ?_
            (repeat refine qb ?_); refine qa ?_
            repeat (first | refine zR ?_ | refine zK ?_ | refine zM ?_ | refine zB ?_ | refine zA ?_ | refine zS ?_ | refine zL ?_)
            refine qc ?_
            have eR : textR l = ([], 0) := by
              unfold textR
              rw [hT, hdr, odd_no (by rw [hod]) h34 hp]; rfl
            (repeat refine qb ?_); refine qe rfl (fun hy => ?_) (fun hy => ?_)
            · (repeat refine qb ?_); refine qa ?_
              repeat (first | refine zR ?_ | refine zK ?_ | refine zM ?_ | refine zB ?_ | refine zA ?_ | refine zS ?_ | refine zL ?_)
              refine qc ?_
              (repeat refine qb ?_); refine qj ?_
              exact jH rfl (by rw [eR]) (by rw [eR]; rfl)
            · cases hy
          | true =>
            obtain ⟨hT2, h2⟩ := odd_yes hod h34 hp
            have hk3 : k + 3 ≤ l.length := by simp at h2; omega
            repeat (first | refine zR ?_ | refine zK ?_ | refine zM ?_ | refine zB ?_ | refine zA ?_ | refine zS ?_ | refine zL ?_)
            refine qc ?_
            (repeat refine qb ?_); refine qa ?_
            repeat (first | refine zR ?_ | refine zK ?_ | refine zM ?_ | refine zB ?_ | refine zA ?_ | refine zS ?_ | refine zL ?_)
            refine qc ?_
            (repeat refine qb ?_); refine qe rfl (fun hy => ?_) (fun hy => ?_)
            · cases hy
            refine qq ?_
            (repeat refine qb ?_); refine qa ?_
            repeat (first | refine zR ?_ | refine zK ?_ | refine zM ?_ | refine zB ?_ | refine zA ?_ | refine zS ?_ | refine zL ?_)
            refine qi rfl (qy qg rfl rfl rfl rfl rfl rfl rfl rfl rfl rfl rfl rfl rfl rfl rfl rfl (by simp only [List.length_append, List.length_map, List.length_take, List.length_cons, List.length_nil]; unfold reachBytes; omega) (by simp only [List.length_append, List.length_map, List.length_take, List.length_cons, List.length_nil]; omega) ?_)
            repeat (first | refine zR ?_ | refine zK ?_ | refine zM ?_ | refine zB ?_ | refine zA ?_ | refine zS ?_ | refine zL ?_)
            refine qc ?_
            (repeat refine qb ?_); refine qa ?_
            repeat (first | refine zR ?_ | refine zK ?_ | refine zM ?_ | refine zB ?_ | refine zA ?_ | refine zS ?_ | refine zL ?_)
            refine qc ?_
            rw [show IntKind.i64.wrap ((k : Int) + 3) = ((k + 3 : Nat) : Int) from IntWalk.i64_in _ (by omega)]
            refine ⟨_, _, ?_, qv [0, 4, 5] [(47, 0)] rfl rfl, k + 3, _, o ++ [q], by omega, rfl, by omega, rfl, by simp; omega, ?_, ?_⟩
            · omega
            · rw [hT, hdr, hT2, jG, List.drop_drop]
              congr 1
              funext p
              simp; omega
            · rw [List.map_append]; rfl
  · rw [show decide ((k : Int) < (l.length : Int)) = false by simp; omega]
    have eR : textR l = ([], 0) := by
      unfold textR
      rw [hT, List.drop_of_length_le (by omega)]; rfl
    refine qc ?_
    (repeat refine qb ?_); refine qe rfl (fun hc => ?_) (fun hc => ?_)
    · cases hc
    · refine ji ?_
      (repeat refine qb ?_); refine qa ?_
      repeat (first | refine zR ?_ | refine zK ?_ | refine zM ?_ | refine zB ?_ | refine zA ?_ | refine zS ?_ | refine zL ?_)
      refine qc ?_
      (repeat refine qb ?_); refine qj ?_
      exact jH rfl (by rw [eR]) (by rw [eR]; rfl)
theorem tw_all {p : UInt8 → Bool} : ∀ (l : Bs), ∀ c ∈ l.takeWhile p, p c = true
  | [], c, h => by cases h
  | x :: l, c, h => by
    rw [List.takeWhile_cons] at h
    split at h
    · rcases List.mem_cons.1 h with rfl | h
      · assumption
      · exact tw_all l c h
    · cases h
def sgn (neg : Bool) : Bs := bif neg then [45] else []
theorem number_l (neg : Bool) (l : Bs) (hn : l.length ≤ 100000) : Holds Tryd.prog 30 [pL (sgn neg), pL l] (.tup [.p (pI (numR neg l).1), .p (pI (numR neg l).2)]) [] := by
  have ls : (⟨⟨l⟩⟩ : ByteArray).size = l.length := rfl
  have HR := run_h l (by omega) 29 qp fun c => isDigit_h c
  have hw := qz qp l
  have htk := take_tw qp l
  have hall : ∀ c ∈ l.takeWhile qp, qp c = true := tw_all l
  have hM : magL l = if (l.takeWhile qp).length = 0 ∨ (1 < (l.takeWhile qp).length ∧ (l.head?.map (·.toNat)) = some 48) then none else some (decV (l.takeWhile qp), (l.takeWhile qp).length) := rfl
  generalize l.takeWhile qp = d at *
  refine qF (ts := [4,5]) Tryd.func30 (by kernel_rfl) rfl rfl rfl ?_
  (repeat refine qb ?_); refine qa ?_
  repeat (first | refine zR ?_ | refine zK ?_ | refine zM ?_ | refine zB ?_ | refine zA ?_ | refine zS ?_ | refine zL ?_)
  refine qc ?_
  (repeat refine qb ?_); refine qa ?_
  repeat (first | refine zR ?_ | refine zK ?_ | refine zM ?_ | refine zB ?_ | refine zA ?_ | refine zS ?_ | refine zL ?_)
  refine qi rfl (qd rfl rfl rfl rfl (HR) rfl rfl ?_)
  repeat (first | refine zR ?_ | refine zK ?_ | refine zM ?_ | refine zB ?_ | refine zA ?_ | refine zS ?_ | refine zL ?_)
  repeat (first | refine zR ?_ | refine zK ?_ | refine zM ?_ | refine zB ?_ | refine zA ?_ | refine zS ?_ | refine zL ?_)
  refine qc ?_
  (repeat refine qb ?_); refine qa ?_
  repeat (first | refine zR ?_ | refine zK ?_ | refine zM ?_ | refine zB ?_ | refine zA ?_ | refine zS ?_ | refine zL ?_)
  by_cases h0 : d.length = 0
  · have eR : numR neg l = (0, 0) := by unfold numR; rw [hM, if_pos (.inl h0)]
    rw [show ((d.length : Int) == 0) = true by rw [beq_iff_eq]; omega]
    repeat (first | refine zR ?_ | refine zK ?_ | refine zM ?_ | refine zB ?_ | refine zA ?_ | refine zS ?_ | refine zL ?_)
    refine qc ?_
    (repeat refine qb ?_); refine qe rfl (fun hc => ?_) (fun hc => ?_)
    · (repeat refine qb ?_); refine qa ?_
      repeat (first | refine zR ?_ | refine zK ?_ | refine zM ?_ | refine zB ?_ | refine zA ?_ | refine zS ?_ | refine zL ?_)
      refine qc ?_
      (repeat refine qb ?_); refine qj ?_
      exact jH rfl (by rw [eR]) (by rw [eR]; rfl)
    · cases hc
  rw [show ((d.length : Int) == 0) = false by rw [beq_eq_false_iff_ne]; omega]
  repeat (first | refine zR ?_ | refine zK ?_ | refine zM ?_ | refine zB ?_ | refine zA ?_ | refine zS ?_ | refine zL ?_)
  obtain ⟨c, r, hcr⟩ : ∃ c r, l = c :: r := by
    cases l with
    | nil =>
      rw [List.length_nil] at hw; omega
    | cons c r => exact ⟨c, r, rfl⟩
  have b0 : zC ⟨⟨l⟩⟩ (Int.toNat 0) = (c.toNat : Int) := by subst hcr; rfl
  have hh : (l.head?.map (·.toNat)) = some c.toNat := by rw [hcr]; rfl
  rw [hh] at hM
  by_cases hb : 1 < d.length ∧ c.toNat = 48
  · have eR : numR neg l = (0, 0) := by unfold numR; rw [hM, if_pos (.inr ⟨hb.1, by rw [hb.2]⟩)]
    rw [show decide ((d.length : Int) > 1) = true by simp; omega]
    repeat (first | refine zR ?_ | refine zK ?_ | refine zM ?_ | refine zB ?_ | refine zA ?_ | refine zS ?_ | refine zL ?_)
    refine ql qg rfl rfl (by rw [ls]; omega) rfl ?_
    rw [b0]
    repeat (first | refine zR ?_ | refine zK ?_ | refine zM ?_ | refine zB ?_ | refine zA ?_ | refine zS ?_ | refine zL ?_)
    rw [show ((c.toNat : Int) == 48) = true by simp; omega]
    repeat (first | refine zR ?_ | refine zK ?_ | refine zM ?_ | refine zB ?_ | refine zA ?_ | refine zS ?_ | refine zL ?_)
    refine qc ?_
    (repeat refine qb ?_); refine qe rfl (fun hc => ?_) (fun hc => ?_)
    · (repeat refine qb ?_); refine qa ?_
      repeat (first | refine zR ?_ | refine zK ?_ | refine zM ?_ | refine zB ?_ | refine zA ?_ | refine zS ?_ | refine zL ?_)
      refine qc ?_
      (repeat refine qb ?_); refine qj ?_
      exact jH rfl (by rw [eR]) (by rw [eR]; rfl)
    · cases hc
  have hM2 : magL l = some (decV d, d.length) := by
    rw [hM, if_neg]
    rintro (h | ⟨h1, h2⟩)
    · exact h0 h
    · exact hb ⟨h1, by simpa using h2⟩
  have hne : d ≠ [] := fun e => h0 (by rw [e]; rfl)
  have hsl : (sgn neg).length ≤ 1 := by cases neg <;> simp [sgn]
  have hsz : (⟨⟨sgn neg ++ d⟩⟩ : ByteArray).size ≤ 9223372036854775806 := by show (sgn neg ++ d).length ≤ _; rw [List.length_append]; omega
  have hcat : (((⟨⟨sgn neg⟩⟩ : ByteArray).size + (⟨⟨d⟩⟩ : ByteArray).size : Nat) : Int) ≤ IntKind.i64.max := by
    have h1 : (IntKind.i64.max : Int) = 9223372036854775807 := rfl
    have h2 : (⟨⟨sgn neg⟩⟩ : ByteArray).size = (sgn neg).length := rfl
    have h3 : (⟨⟨d⟩⟩ : ByteArray).size = d.length := rfl
    rw [h1, h2, h3]; omega
  have hA : (∃ v : Int, Lib.atoiAll (sgn neg ++ d) = .ok v ∧ numR neg l = (v, d.length)) ∨ (Lib.atoiAll (sgn neg ++ d) = .range ∧ numR neg l = (0, 0)) := by
    unfold numR
    rw [hM2]
    cases neg with
    | true =>
      show (∃ v : Int, Lib.atoiAll (45 :: d) = .ok v ∧ _) ∨ (Lib.atoiAll (45 :: d) = .range ∧ _)
      rw [atoi_neg hne hall]
      by_cases h : decV d ≤ 9223372036854775808
      · exact .inl ⟨-(decV d : Int), by rw [if_pos h], by simp only [if_true, if_pos h]⟩
      · exact .inr ⟨by rw [if_neg h], by simp only [if_true, if_neg h]⟩
    | false =>
      show (∃ v : Int, Lib.atoiAll d = .ok v ∧ _) ∨ (Lib.atoiAll d = .range ∧ _)
      rw [atoi_dig hne hall]
      by_cases h : decV d < 9223372036854775808
      · exact .inl ⟨(decV d : Int), by rw [if_pos h], by simp [h]⟩
      · exact .inr ⟨by rw [if_neg h], by simp [h]⟩
  by_cases h1 : 1 < d.length
  · have h48 : c.toNat ≠ 48 := fun e => hb ⟨h1, e⟩
    rw [show decide ((d.length : Int) > 1) = true by simp; omega]
    repeat (first | refine zR ?_ | refine zK ?_ | refine zM ?_ | refine zB ?_ | refine zA ?_ | refine zS ?_ | refine zL ?_)
    refine ql qg rfl rfl (by rw [ls]; omega) rfl ?_
    rw [b0]
    repeat (first | refine zR ?_ | refine zK ?_ | refine zM ?_ | refine zB ?_ | refine zA ?_ | refine zS ?_ | refine zL ?_)
    rw [show ((c.toNat : Int) == 48) = false by simp; omega]
    repeat (first | refine zR ?_ | refine zK ?_ | refine zM ?_ | refine zB ?_ | refine zA ?_ | refine zS ?_ | refine zL ?_)
    refine qc ?_
    (repeat refine qb ?_); refine qe rfl (fun hc => ?_) (fun hc => ?_)
    · cases hc
    refine qq ?_
    (repeat refine qb ?_); refine qa ?_
    repeat (first | refine zR ?_ | refine zK ?_ | refine zM ?_ | refine zB ?_ | refine zA ?_ | refine zS ?_ | refine zL ?_)
    refine ql qg rfl rfl (by rw [ls]; omega) rfl ?_
    rw [ext_l, show (l.drop (Int.toNat 0)).take (Int.toNat (d.length : Int) - Int.toNat 0) = d from htk]
    repeat (first | refine zR ?_ | refine zK ?_ | refine zM ?_ | refine zB ?_ | refine zA ?_ | refine zS ?_ | refine zL ?_)
    refine ql qg rfl rfl (hcat) rfl ?_
    rw [jd]
    repeat (first | refine zR ?_ | refine zK ?_ | refine zM ?_ | refine zB ?_ | refine zA ?_ | refine zS ?_ | refine zL ?_)
    rcases hA with ⟨v, hv, eR⟩ | ⟨hv, eR⟩
    · refine qi rfl (qd rfl rfl rfl rfl (atoi_h ⟨⟨sgn neg ++ d⟩⟩ hsz v hv) rfl rfl ?_)
      repeat (first | refine zR ?_ | refine zK ?_ | refine zM ?_ | refine zB ?_ | refine zA ?_ | refine zS ?_ | refine zL ?_)
      repeat (first | refine zR ?_ | refine zK ?_ | refine zM ?_ | refine zB ?_ | refine zA ?_ | refine zS ?_ | refine zL ?_)
      refine qc ?_
      (repeat refine qb ?_); refine qa ?_
      repeat (first | refine zR ?_ | refine zK ?_ | refine zM ?_ | refine zB ?_ | refine zA ?_ | refine zS ?_ | refine zL ?_)
      refine qi rfl (act_ifcmp qg rfl rfl rfl rfl rfl rfl (fun b hb => ?_))
      have hbf : b = false := by
        cases b with
        | false => rfl
        | true => exact absurd rfl (hb.1 rfl)
      subst hbf
      refine qc ?_
      (repeat refine qb ?_); refine qe rfl (fun hz => ?_) (fun hz => ?_)
      · cases hz
      refine qq ?_
      (repeat refine qb ?_); refine qa ?_
      repeat (first | refine zR ?_ | refine zK ?_ | refine zM ?_ | refine zB ?_ | refine zA ?_ | refine zS ?_ | refine zL ?_)
      refine qc ?_
      (repeat refine qb ?_); refine qj ?_
      exact jH rfl (by rw [eR]) (by rw [eR])
    · refine qi rfl (act_call_E rfl rfl rfl rfl (atoi_range ⟨⟨sgn neg ++ d⟩⟩ (by show (sgn neg ++ d).length ≤ 1000000; simp; omega) hv (by kernel_rfl)) rfl ?_)
      rintro _ ⟨u, hu, hun, rfl⟩
      repeat (first | refine zR ?_ | refine zK ?_ | refine zM ?_ | refine zB ?_ | refine zA ?_ | refine zS ?_ | refine zL ?_)
      refine qc ?_
      (repeat refine qb ?_); refine qa ?_
      repeat (first | refine zR ?_ | refine zK ?_ | refine zM ?_ | refine zB ?_ | refine zA ?_ | refine zS ?_ | refine zL ?_)
      refine qi rfl (act_ifcmp qg rfl rfl rfl rfl hu rfl (fun b hb => ?_))
      have hbf : b = true := hb.2 hun
      subst hbf
      refine qc ?_
      (repeat refine qb ?_); refine qe rfl (fun hz => ?_) (fun hz => ?_)
      · (repeat refine qb ?_); refine qa ?_
        repeat (first | refine zR ?_ | refine zK ?_ | refine zM ?_ | refine zB ?_ | refine zA ?_ | refine zS ?_ | refine zL ?_)
        refine qc ?_
        (repeat refine qb ?_); refine qj ?_
        exact jH rfl (by rw [eR]) (by rw [eR]; rfl)
      · cases hz
  · rw [show decide ((d.length : Int) > 1) = false by simp; omega]
    repeat (first | refine zR ?_ | refine zK ?_ | refine zM ?_ | refine zB ?_ | refine zA ?_ | refine zS ?_ | refine zL ?_)
    refine qc ?_
    (repeat refine qb ?_); refine qe rfl (fun hc => ?_) (fun hc => ?_)
    · cases hc
    refine qq ?_
    (repeat refine qb ?_); refine qa ?_
    repeat (first | refine zR ?_ | refine zK ?_ | refine zM ?_ | refine zB ?_ | refine zA ?_ | refine zS ?_ | refine zL ?_)
    refine ql qg rfl rfl (by rw [ls]; omega) rfl ?_
    rw [ext_l, show (l.drop (Int.toNat 0)).take (Int.toNat (d.length : Int) - Int.toNat 0) = d from htk]
    repeat (first | refine zR ?_ | refine zK ?_ | refine zM ?_ | refine zB ?_ | refine zA ?_ | refine zS ?_ | refine zL ?_)
    refine ql qg rfl rfl (hcat) rfl ?_
    rw [jd]
    repeat (first | refine zR ?_ | refine zK ?_ | refine zM ?_ | refine zB ?_ | refine zA ?_ | refine zS ?_ | refine zL ?_)
    rcases hA with ⟨v, hv, eR⟩ | ⟨hv, eR⟩
    · refine qi rfl (qd rfl rfl rfl rfl (atoi_h ⟨⟨sgn neg ++ d⟩⟩ hsz v hv) rfl rfl ?_)
      repeat (first | refine zR ?_ | refine zK ?_ | refine zM ?_ | refine zB ?_ | refine zA ?_ | refine zS ?_ | refine zL ?_)
      repeat (first | refine zR ?_ | refine zK ?_ | refine zM ?_ | refine zB ?_ | refine zA ?_ | refine zS ?_ | refine zL ?_)
      refine qc ?_
      (repeat refine qb ?_); refine qa ?_
      repeat (first | refine zR ?_ | refine zK ?_ | refine zM ?_ | refine zB ?_ | refine zA ?_ | refine zS ?_ | refine zL ?_)
      refine qi rfl (act_ifcmp qg rfl rfl rfl rfl rfl rfl (fun b hb => ?_))
      have hbf : b = false := by
        cases b with
        | false => rfl
        | true => exact absurd rfl (hb.1 rfl)
      subst hbf
      refine qc ?_
      (repeat refine qb ?_); refine qe rfl (fun hz => ?_) (fun hz => ?_)
      · cases hz
      refine qq ?_
      (repeat refine qb ?_); refine qa ?_
      repeat (first | refine zR ?_ | refine zK ?_ | refine zM ?_ | refine zB ?_ | refine zA ?_ | refine zS ?_ | refine zL ?_)
      refine qc ?_
      (repeat refine qb ?_); refine qj ?_
      exact jH rfl (by rw [eR]) (by rw [eR])
    · refine qi rfl (act_call_E rfl rfl rfl rfl (atoi_range ⟨⟨sgn neg ++ d⟩⟩ (by show (sgn neg ++ d).length ≤ 1000000; simp; omega) hv (by kernel_rfl)) rfl ?_)
      rintro _ ⟨u, hu, hun, rfl⟩
      repeat (first | refine zR ?_ | refine zK ?_ | refine zM ?_ | refine zB ?_ | refine zA ?_ | refine zS ?_ | refine zL ?_)
      refine qc ?_
      (repeat refine qb ?_); refine qa ?_
      repeat (first | refine zR ?_ | refine zK ?_ | refine zM ?_ | refine zB ?_ | refine zA ?_ | refine zS ?_ | refine zL ?_)
      refine qi rfl (act_ifcmp qg rfl rfl rfl rfl hu rfl (fun b hb => ?_))
      have hbf : b = true := hb.2 hun
      subst hbf
      refine qc ?_
      (repeat refine qb ?_); refine qe rfl (fun hz => ?_) (fun hz => ?_)
      · (repeat refine qb ?_); refine qa ?_
        repeat (first | refine zR ?_ | refine zK ?_ | refine zM ?_ | refine zB ?_ | refine zA ?_ | refine zS ?_ | refine zL ?_)
        refine qc ?_
        (repeat refine qb ?_); refine qj ?_
        exact jH rfl (by rw [eR]) (by rw [eR]; rfl)
      · cases hz
end Go.Proofs.YtnojoaneboppnaaDoor
namespace Go.Proofs.YtnojoaneboppnaaDoor
set_option linter.unusedVariables false
set_option linter.unusedSimpArgs false
open Go.RowKit
abbrev nilV : PV := .v (.slice none 0 0)
inductive Cv : PV → PV → Prop
  | refl (p : PV) : Cv p p
  | nil (z : Nat) : Cv (.v (.slice none 0 0)) (.sl z [])
  | agg {cs ds : List PV} (hl : cs.length = ds.length) (h : ∀ (i : Nat) (c d : PV), cs[i]? = some c → ds[i]? = some d → Cv c d) : Cv (.agg cs) (.agg ds)
  | sl {z : Nat} {l m : List (List PV)} (hl : l.length = m.length) (he : ∀ (i : Nat) (e f : List PV), l[i]? = some e → m[i]? = some f → e.length = f.length) (h : ∀ (i j : Nat) (e f : List PV) (c d : PV), l[i]? = some e → m[i]? = some f → e[j]? = some c → f[j]? = some d → Cv c d) : Cv (.sl z l) (.sl z m)
def CvL (cs ds : List PV) : Prop := cs.length = ds.length ∧ ∀ (i : Nat) (c d : PV), cs[i]? = some c → ds[i]? = some d → Cv c d
theorem CvL.nil : CvL [] [] := ⟨rfl, fun i c d h => by simp at h⟩
theorem CvL.cons {c d : PV} {cs ds : List PV} (h : Cv c d) (t : CvL cs ds) : CvL (c :: cs) (d :: ds) := ⟨by simp [t.1], fun i x y hx hy => by
  cases i with
  | zero => simp at hx hy; subst hx; subst hy; exact h
  | succ i => exact t.2 i x y (by simpa using hx) (by simpa using hy)⟩
theorem CvL.refl (l : List PV) : CvL l l := ⟨rfl, fun i c d h1 h2 => by rw [h1] at h2; cases h2; exact .refl _⟩
theorem CvL.agg {cs ds : List PV} (h : CvL cs ds) : Cv (.agg cs) (.agg ds) := .agg h.1 h.2
def CvM (l m : List (List PV)) : Prop := l.length = m.length ∧ ∀ (i : Nat) (e f : List PV), l[i]? = some e → m[i]? = some f → CvL e f
theorem CvM.nil : CvM [] [] := ⟨rfl, fun i c d h => by simp at h⟩
theorem CvM.cons {c d : List PV} {cs ds : List (List PV)} (h : CvL c d) (t : CvM cs ds) : CvM (c :: cs) (d :: ds) := ⟨by simp [t.1], fun i x y hx hy => by
  cases i with
  | zero => simp at hx hy; subst hx; subst hy; exact h
  | succ i => exact t.2 i x y (by simpa using hx) (by simpa using hy)⟩
theorem CvM.sl {z : Nat} {l m : List (List PV)} (h : CvM l m) : Cv (.sl z l) (.sl z m) := .sl h.1 (fun i e f h1 h2 => (h.2 i e f h1 h2).1) fun i j e f c d h1 h2 h3 h4 => (h.2 i e f h1 h2).2 j c d h3 h4
theorem Cv.one {p q : PV} (h : Cv p q) : oneP q = oneP p := by
  cases h <;> rfl
theorem RelP.cv {ok : Nat → Prop} {w : World} {p q : PV} (hc : Cv p q) : ∀ {u : Value}, RelP ok w p u → RelP ok w q u := by
  induction hc with
  | refl => exact fun h => h
  | nil z =>
    intro u h
    cases h
    exact .sl (l := []) (Nat.zero_le _) ⟨Nat.zero_le _, Nat.zero_le _⟩ (by simp) (fun h => absurd h (by simp)) (fun b o i j h => by cases h) (fun b o i j e s u h => by cases h)
  | agg hl h ih =>
    intro u hr
    cases hr with
    | @agg _ us hl2 hr =>
      refine .agg (by omega) fun i s u hs hu => ?_
      have hi : i < us.length := (List.getElem?_eq_some_iff.1 hu).1
      exact ih i _ s (List.getElem?_eq_getElem (by omega)) hs (hr i _ u (List.getElem?_eq_getElem (by omega)) hu)
  | @sl z l m hl he h ih =>
    intro u hr
    cases hr with
    | @sl _ _ A c hc hm hle hA hx hr =>
      rw [hl] at hc hm ⊢
      refine .sl hc hm (fun e hem => ?_) (fun h => hA (by omega)) (fun b o i j hAb hi hj => hx b o i j hAb (by omega) hj) (fun b o i j e s u hAb hi hj hu => ?_)
      · obtain ⟨i, hi, rfl⟩ := List.mem_iff_getElem.1 hem
        have hl0 : l[i]? = some (l[i]'(by omega)) := List.getElem?_eq_getElem (by omega)
        have hm0 : m[i]? = some m[i] := List.getElem?_eq_getElem hi
        obtain ⟨q1, q2⟩ := hle _ (List.getElem_mem (show i < l.length by omega))
        have q3 := he i _ _ hl0 hm0
        refine ⟨by omega, fun s hs => ?_⟩
        obtain ⟨j, hj, rfl⟩ := List.mem_iff_getElem.1 hs
        have := (h i j _ _ _ _ hl0 hm0 (List.getElem?_eq_getElem (by omega)) (List.getElem?_eq_getElem hj)).one
        rw [this]
        exact q2 _ (List.getElem_mem _)
      · have hi' : i < m.length := (List.getElem?_eq_some_iff.1 hi).1
        have hl0 : l[i]? = some (l[i]'(by omega)) := List.getElem?_eq_getElem (by omega)
        have q3 := he i _ _ hl0 hi
        have hj' : j < e.length := (List.getElem?_eq_some_iff.1 hj).1
        exact ih i j _ _ _ _ hl0 hi (List.getElem?_eq_getElem (by omega)) hj (hr b o i j _ _ u hAb hl0 (List.getElem?_eq_getElem (by omega)) hu)
theorem Holds.cv {P : Program} {f : FuncId} {args args' : List PV} {r : SV} {own : List (Nat × Box)} (h : Holds P f args r own) (hc : CvL args' args) : Holds P f args' r own :=
  ⟨h.1, fun w Sx vs hSx hl hr => h.2 w Sx vs hSx (by rw [hl, hc.1]) fun i s u hs hu => by
    have hi : i < args.length := (List.getElem?_eq_some_iff.1 hs).1
    have h0 : args'[i]? = some (args'[i]'(by rw [hc.1]; exact hi)) := List.getElem?_eq_getElem _
    exact (hr i _ u h0 hu).cv (hc.2 i _ s h0 hs)⟩
theorem Holds.res {P : Program} {f : FuncId} {args : List PV} {r r' : SV} {own : List (Nat × Box)} (h : Holds P f args r own) (e : r = r') : Holds P f args r' own := e ▸ h
end Go.Proofs.YtnojoaneboppnaaDoor
namespace Go.Proofs.YtnojoaneboppnaaDoor
set_option linter.unusedVariables false
set_option linter.unusedSimpArgs false
open Go.RowKit
inductive CvS : SV → SV → Prop
  | refl (s : SV) : CvS s s
  | p {a b : PV} (h : Cv a b) : CvS (.p a) (.p b)
  | two {a b c d : PV} (h : Cv a b) (h2 : Cv c d) : CvS (.tup [.p a, .p c]) (.tup [.p b, .p d])
theorem RelS.cvs {ok : Nat → Prop} {H : Nat → Option Value} {w : World} {s s' : SV} {u : Value} (hc : CvS s s') (h : RelS ok H w s u) : RelS ok H w s' u := by
  cases hc with
  | refl => exact h
  | p hc => exact .p (h.p_inv.cv hc)
  | two h1 h2 =>
    cases h with
    | @tup _ us hl hr =>
      refine .tup hl fun i s u hs hu => ?_
      match i, hs with
      | 0, hs => cases hs; exact .p ((hr 0 _ u rfl hu).p_inv.cv h1)
      | 1, hs => cases hs; exact .p ((hr 1 _ u rfl hu).p_inv.cv h2)
def FinC (T : TT) (rs : List ResultVar) (r : SV) (own' : List (Nat × Box)) (e : SEx) (st : St) : Prop := (e = .normal ∨ e = .ret) ∧ ∃ st' s ρ r0, Wk st st' ∧ resC T st' rs = some s ∧ s.mapR ρ = some r0 ∧ CvS r0 r ∧ ownR ρ st'.own ρ = some own' ∧ renOk ρ = true
theorem holdsC_of {P : Program} {T : TT} (hT : qu P T) {f : FuncId} {fn : Func} {c : Code} {args : List SV} {own : List (Nat × Box)} {r : SV} {own' : List (Nat × Box)} {rs : List ResultVar} (hf : P.funcs[f]? = some fn) (hname : (fn.name == "runtime.NumGoroutine") = false) (hb : fn.body = some c)
    (hres : fn.results = rs.toArray) (hn0 : (Nat.ble args.length fn.ntmps && Nat.ble fn.ntmps 900) = true) (h : SW P c (FinC T rs r own') ⟨fn.ntmps, zp 0 args, own⟩) : HoldsW P f args own r own' := by
  have hn : args.length ≤ fn.ntmps ∧ fn.ntmps ≤ 900 := by
    rw [Bool.and_eq_true] at hn0
    exact ⟨Nat.le_of_ble_eq_true hn0.1, Nat.le_of_ble_eq_true hn0.2⟩
  refine ⟨⟨fn, hf, hname, by rw [hb]; rfl⟩, fun w Sx γ vs hh hl hr => ?_⟩
  refine calls_of_wp hf hb ?_
  have hget : ∀ t, t < args.length → (vs.toArray ++ Array.replicate (fn.ntmps - vs.toArray.size) undef).getD t undef = vs[t]?.getD undef := fun t ht => by
    have : t < vs.length := by omega
    have h2 : (vs.toArray ++ Array.replicate (fn.ntmps - vs.toArray.size) undef)[t]? = vs[t]? := by
      rw [Array.getElem?_append_left (by simpa using this)]; simp
    rw [Array.getD_eq_getD_getElem?, h2]
  have hI : Sim (zd w γ own) Sx γ ⟨fn.ntmps, zp 0 args, own⟩ ⟨vs.toArray ++ Array.replicate (fn.ntmps - vs.toArray.size) undef, []⟩ w := by
    refine ⟨⟨Below.refl _ w, fun _ _ => rfl⟩, ⟨by simp; omega, hn.2⟩, rfl, fun t s ht => ?_, hh⟩
    obtain ⟨_, hx⟩ := argFrS_get ht
    simp only [Nat.sub_zero] at hx
    have hlt : t < args.length := (List.getElem?_eq_some_iff.1 hx).1
    have hv : vs[t]? = some (vs[t]'(by omega)) := List.getElem?_eq_getElem (by omega)
    show RelS _ _ _ _ ((vs.toArray ++ Array.replicate (fn.ntmps - vs.toArray.size) undef).getD t undef)
    rw [hget t hlt, hv]
    exact hr t s _ hx hv
  refine h _ Sx _ _ w _ hI fun e st2 γ' a' w' hI' hq => ?_
  obtain ⟨he, st', s, ρ, r0, hwk, hs, hm, hcv, ho, hρ⟩ := hq
  obtain ⟨γ'', hI''⟩ := hwk _ Sx γ' a' w' hI'
  obtain ⟨γ3, k1, k2⟩ := heap_mapR hI''.heap ho hρ
  obtain ⟨v, k3, k4⟩ := resC_ok hT hI'' hs hres
  have fin : a'.defers = [] ∧ ∃ v, (results fn a'.tmps).run P w' = .ok v w' ∧ ∃ v' γ2 r1 own1, (r1 = r ∧ own1 = own') ∧ Ending.returned v = .returned v' ∧ BelowB (zd w γ own) w' ∧ HeapOk (zd w γ own) Sx γ2 own1 w' ∧ RelS (okO Sx γ2 own1) (hp γ2 own1) w' r1 v' :=
    ⟨hI''.defers, v, k3, v, γ3, r, own', ⟨rfl, rfl⟩, rfl, hI''.below, k1, (k2 s v r0 k4 hm).cvs hcv⟩
  rcases he with rfl | rfl
  · exact fin
  · exact fin
end Go.Proofs.YtnojoaneboppnaaDoor
namespace Go.Proofs.YtnojoaneboppnaaDoor
set_option linter.unusedVariables false
set_option linter.unusedSimpArgs false
open Go.RowKit
def SWB (P : Program) (ops : List Oper) (κ : Kap) (ls : Array Bool) (fuel : Nat) (Q : St → Prop) (st : St) : Prop := ∀ (w0 : Base) (Sx : Nat → Prop) (γ : Nat → Value) (a : Act) (w : World) (QQ : Exit → Act → World → Prop), Sim w0 Sx γ st a w →
  (∀ st' γ' a' w', Sim w0 Sx γ' st' a' w' → Q st' → QQ .normal a' w') → wpAnyP P ops.toArray (NoPanic QQ) fuel (pendOf γ st.own w κ) ls a w
def SWBo (P : Program) (ops : List Oper) (κ : Kap) (ls : Array Bool) (fuel : Nat) (Q : St → Prop) (st : St) (i : Nat) : Prop := ∀ (w0 : Base) (Sx : Nat → Prop) (γ : Nat → Value) (a : Act) (w : World) (QQ : Exit → Act → World → Prop), Sim w0 Sx γ st a w →
  (∀ st' γ' a' w', Sim w0 Sx γ' st' a' w' → Q st' → QQ .normal a' w') → wpOp P ops.toArray (NoPanic QQ) i (fun a' w' => (∀ p ∈ alive ops.toArray i (pendOf γ st.own w κ), p.2 w') ∧ wpAnyP P ops.toArray (NoPanic QQ) fuel (alive ops.toArray i (pendOf γ st.own w κ)) (ls.setIfInBounds i true) a' w') a w
section
variable {P : Program} {ops : List Oper} {κ : Kap} {ls : Array Bool} {fuel : Nat} {st : St} {Q : St → Prop} {i j : Nat} {o : Oper}
theorem swb_done (hr : Region.ready .any ops.toArray ls = []) (h : Q st) : SWB P ops κ ls fuel Q st := fun _ _ γ a w _ hI hQ => by
  cases fuel with
  | zero => exact ⟨hr, hQ st γ a w hI h⟩
  | succ f => exact ⟨fun _ => hQ st γ a w hI h, fun i hi => by rw [hr] at hi; cases hi⟩
theorem jA (i : Nat) (hr : Region.ready .any ops.toArray ls = [i]) (h : SWBo P ops κ ls fuel Q st i) : SWB P ops κ ls (fuel + 1) Q st := fun w0 Sx γ a w QQ hI hQ =>
  ⟨fun h0 => (by rw [hr] at h0; cases h0), fun k hk => by
    rw [hr] at hk
    obtain rfl : k = i := by simpa using hk
    exact h w0 Sx γ a w QQ hI hQ⟩
theorem swb_fork2 (i j : Nat) (hr : Region.ready .any ops.toArray ls = [i, j]) (h : SWBo P ops κ ls fuel Q st i) (h2 : SWBo P ops κ ls fuel Q st j) : SWB P ops κ ls (fuel + 1) Q st := fun w0 Sx γ a w QQ hI hQ =>
  ⟨fun h0 => (by rw [hr] at h0; cases h0), fun k hk => by
    rw [hr] at hk
    have hk : k = i ∨ k = j := by simpa using hk
    rcases hk with rfl | rfl
    · exact h w0 Sx γ a w QQ hI hQ
    · exact h2 w0 Sx γ a w QQ hI hQ⟩
theorem jB {K : List Nat} {s : SV} (hB : (Region.free .any ops.toArray ls i && (Region.ready .any ops.toArray ls).contains i) = true) (hs : Region.noSelect ops.toArray = true) (hi : nthO ops i = some o) (hw : qL ops st o = some true) (hr : RdO P K st o s) (hd : qI st o.dst = true)
    (h : SWB P ops ((i, K) :: κ) (ls.setIfInBounds i true) fuel Q (st.put o.dst s)) : SWB P ops κ ls (fuel + 1) Q st := fun w0 Sx γ a w QQ hI hQ => by
  obtain ⟨v, h1, h2⟩ := hr w0 Sx γ a w hI
  have hrest := h w0 Sx γ _ w QQ (hI.put (dst := o.dst) hd h1) hQ
  simp only [zO] at hrest
  rw [Bool.and_eq_true] at hB
  have hio := (qH ops i).trans hi
  exact wpAnyP_first hio (Region.noSelect_spec hs) (fun _ _ _ h => h) fuel _ ls a w (Region.free_spec hio hB.1) (by simpa using hB.2) (Or.inl ⟨qC hI hw, h2⟩) (SameOn.refl _ _) zD hrest
theorem qx {Ws : List Nat} (hi : nthO ops i = some o) (hw : qL ops st o = some true) (hK : (kapB o κ).all (fun p => Ws.all fun j => p.2.contains j) = true) (h : ActOk P Ws o st (SWB P ops (kapB o κ) (ls.setIfInBounds i true) fuel Q)) : SWBo P ops κ ls fuel Q st i := fun w0 Sx γ a w QQ hI hQ => by
  have hsub : ∀ p ∈ kapB o κ, ∀ j ∈ Ws, j ∈ p.2 := fun p hp j hj => by simpa using List.all_eq_true.1 (List.all_eq_true.1 hK p hp) j hj
  have hio := (qH ops i).trans hi
  unfold wpOp
  rw [hio]
  simp only [qC hI hw, if_true]
  refine Or.inl ?_
  have := h w0 Sx γ a w (NoPanic QQ) hI
  have mono : ∀ {a' w'}, (∃ γ' st', SWB P ops (kapB o κ) (ls.setIfInBounds i true) fuel Q st' ∧ Sim w0 Sx γ' st' a' w' ∧ SameOn (vis Ws γ st.own) w w' ∧ ∀ K : List Nat, (∀ i ∈ Ws, i ∈ K) → ∀ b, b < w.heap.size → vis K γ st.own b → vis K γ' st'.own b) →
      (∀ p ∈ alive ops.toArray i (pendOf γ st.own w κ), p.2 w') ∧ wpAnyP P ops.toArray (NoPanic QQ) fuel (alive ops.toArray i (pendOf γ st.own w κ)) (ls.setIfInBounds i true) a' w' := fun {a' w'} ⟨γ', st', h1, h2, h3, h4⟩ => by
    have hc : Covers (alive ops.toArray i (pendOf γ st.own w κ)) (pendOf γ' st'.own w' (kapB o κ)) := fun p hp => by
      obtain ⟨hp1, hp2⟩ := mem_alive.1 hp
      obtain ⟨q, hq, rfl⟩ := List.mem_map.1 hp1
      have hq' : q ∈ kapB o κ := List.mem_filter.2 ⟨hq, by rw [hp2 o hio]; rfl⟩
      have hs := hsub q hq'
      refine .inr ⟨_, List.mem_map.2 ⟨q, hq', rfl⟩, rfl, fun x hx => ⟨Nat.le_trans h3.size hx.size, fun b hb hv => ?_⟩⟩
      have e1 := h3.block b hb (fun j bx hj hjW hjb => hv j bx hj (by simpa using hs j (by simpa using hjW)) hjb)
      have e2 := hx.block b (Nat.lt_of_lt_of_le hb h3.size) (h4 q.2 hs b hb hv)
      exact e2.trans e1
    exact ⟨hc.at zD, zq _ hc _ _ _ (h1 w0 Sx γ' a' w' QQ h2 hQ)⟩
  unfold Oper.wp at this ⊢
  generalize (execOp a.eval o).run P w = res at *
  cases res with
  | ok n w' =>
    cases n <;> simp only [Oper.upon] at this ⊢ <;> first
      | exact mono this
      | exact this
      | exact Calls.mono this (fun e w'' he => by cases e <;> first | exact mono he | exact he)
      | exact Rows.mono this (fun _ _ he => mono he)
  | halt x w' => cases x <;> simp only [Oper.upon] at this ⊢ <;> exact this
theorem jD {id : Nat} {l : List Oper} {QS : SEx → St → Prop} (n : Nat) (hn : l.length = n) (hm : P.follows .mixedOrders = true) (h : SWB P l [] (Array.replicate n false) n (QS .normal) st) : SW P (.region id l.toArray true) QS st := fun w0 Sx γ a w QQ hI hQ => by
  refine wp_region_noPanic (wp_region_any hm (zQ _ [] _ _ _ ?_))
  have h1 := h w0 Sx γ a w.drew QQ hI.drew fun s' γ' a' w' hI' hq => hQ .normal s' γ' a' w' hI' hq
  have e : l.toArray.size = n := by simpa using hn
  rw [e]
  exact h1
end
end Go.Proofs.YtnojoaneboppnaaDoor
namespace Go.Proofs.YtnojoaneboppnaaDoor
set_option linter.unusedVariables false
set_option linter.unusedSimpArgs false
open Go.RowKit
set_option maxHeartbeats 4000000
set_option maxRecDepth 100000
structure BegT where
  k : Int
  v : Int
  s : Bs
  n : Nat
def begR : Bs → BegT
  | [] => ⟨0, 0, [], 0⟩
  | c :: r =>
    if qB c then ⟨1, 0, qA (c :: r), (qA (c :: r)).length⟩
    else if qp c then ⟨2, (numR false (c :: r)).1, [], (numR false (c :: r)).2⟩
    else if c.toNat = 45 then ⟨2, (numR true r).1, [], if (numR true r).1 = 0 then 0 else (numR true r).2 + 1⟩
    else if c.toNat = 64 then ⟨3, (numR false r).1, [], if (numR false r).2 = 0 ∨ 1099511627776 < (numR false r).1 then 0 else (numR false r).2 + 1⟩
    else if c.toNat = 35 then ⟨4, 0, qA r, if qA r = [] then 0 else (qA r).length + 1⟩
    else if c.toNat = 34 then ⟨5, 0, (textR (c :: r)).1, (textR (c :: r)).2⟩
    else if jw c then ⟨6, 0, [c], 1⟩ else ⟨0, 0, [], 0⟩
theorem numR_pos {l : Bs} {m k : Nat} (h : magL l = some (m, k)) : 1 ≤ k := (magL_len h).1
theorem beg_tok : ∀ l : Bs, tokL l = if (begR l).n = 0 then none else some ⟨(begR l).k, (begR l).v, (begR l).s, (begR l).n⟩
  | [] => rfl
  | c :: r => by
    rw [tokL, begR]
    split
    · rename_i hl
      have hw : qw c = true := by simp [qw, hl]
      have he : qR (c :: r) = c :: qR r := by simp [qR, List.takeWhile_cons, hw]
      have ha : (qR (c :: r)).all qw = true := by rw [List.all_eq_true]; exact tw_all _
      have hN : nameL (qR (c :: r)) = decide ((qR (c :: r)).length ≤ 16) := by
        unfold nameL
        rw [ha, he]; simp [hl]
      unfold qA
      rw [hN]
      by_cases h : (qR (c :: r)).length ≤ 16
      · rw [if_pos h, decide_eq_true h, if_pos rfl, if_neg]
        rw [he]; simp
      · rw [if_neg h, decide_eq_false h]; rfl
    · split
      · unfold numR
        cases hm : magL (c :: r) with
        | none => rfl
        | some p =>
          obtain ⟨m, k⟩ := p
          have := numR_pos hm
          simp only [Bool.false_eq_true, if_false]
          by_cases h : m < 9223372036854775808
          · rw [if_pos h, if_pos h, if_neg (by simp only; omega)]
          · rw [if_neg h, if_neg h]; rfl
      · split
        · unfold numR
          cases hm : magL r with
          | none => rfl
          | some p =>
            obtain ⟨m, k⟩ := p
            simp only [if_true]
            by_cases h : m ≤ 9223372036854775808
            · rw [if_pos h]
              by_cases h0 : m = 0
              · subst h0; rfl
              · rw [if_pos ⟨h0, h⟩]
                simp only
                rw [if_neg (show ¬ (-(m : Int) = 0) by omega), if_neg (by omega)]
            · rw [if_neg h, if_neg (fun h2 => h h2.2)]; rfl
        · split
          · unfold numR
            cases hm : magL r with
            | none => rfl
            | some p =>
              obtain ⟨m, k⟩ := p
              have := numR_pos hm
              simp only [Bool.false_eq_true, if_false]
              by_cases h : m < 9223372036854775808
              · rw [if_pos h]
                simp only
                by_cases h2 : m ≤ 1099511627776
                · rw [if_pos h2, if_neg (show ¬ (k = 0 ∨ 1099511627776 < (m : Int)) by omega), if_neg (by omega)]
                · rw [if_neg h2, if_pos (show k = 0 ∨ 1099511627776 < (m : Int) by omega)]; rfl
              · rw [if_neg h, if_neg (by omega)]; rfl
          · split
            · unfold qA
              by_cases h : nameL (qR r) = true
              · rw [if_pos h, if_pos h]
                have hne : qR r ≠ [] := fun e => by rw [e] at h; cases h
                simp only
                rw [if_neg hne, if_neg (by omega)]
              · rw [if_neg h, if_neg h]; rfl
            · split
              · unfold textR
                simp only [List.drop_succ_cons, List.drop_zero]
                cases hm : qQ r with
                | none => rfl
                | some p =>
                  obtain ⟨t, k⟩ := p
                  simp only
                  by_cases h : t.length ≤ 64
                  · rw [if_pos h, if_pos h, if_neg (by simp only; omega)]
                  · rw [if_neg h, if_neg h]; rfl
              · split <;> rfl
theorem idx_mark (c : UInt8) : decide (Lib.indexByte [123, 125, 40, 41, 46, 44, 59, 61, 60, 62, 33] c ≥ 0) = jw c := by
  have h : ∀ n : _root_.Fin 256, decide (Lib.indexByte [123, 125, 40, 41, 46, 44, 59, 61, 60, 62, 33] (UInt8.ofFin n) ≥ 0) = jw (UInt8.ofFin n) := by decide
  exact h c.toFin
theorem u8_back (c : UInt8) : (c.toNat : Int).toNat.toUInt8 = c := by
  rw [Int.toNat_natCast]
  exact UInt8.ofNat_toNat
def begP (b : BegT) : SV := .tup [.p (.agg [pI b.k, pI 0, pI b.v, pL b.s]), .p (pI b.n)]
theorem numR_len (b : Bool) (l : Bs) : (numR b l).2 ≤ l.length := by
  unfold numR
  cases h : magL l with
  | none => exact Nat.zero_le _
  | some p =>
    obtain ⟨m, k⟩ := p
    have := (magL_len h).2
    simp only
    repeat' split
    all_goals (simp only; omega)
theorem nameR_len (l : Bs) : (qA l).length ≤ l.length := by
  have := qz qw l
  unfold qA qR
  split
  · exact this
  · exact Nat.zero_le _
theorem begins_l (c : UInt8) (r : Bs) (hn : (c :: r).length ≤ 100000) : Holds Tryd.prog 17 [pL (c :: r)] (begP (begR (c :: r))) [] := by
  have hc := UInt8.toNat_lt c
  have ls : (⟨⟨c :: r⟩⟩ : ByteArray).size = r.length + 1 := rfl
  have b0 : zC ⟨⟨c :: r⟩⟩ (Int.toNat 0) = (c.toNat : Int) := rfl
  have hr : r.length ≤ 100000 := by simp at hn; omega
  have HD := isDigit_h c
  have hx : (⟨⟨c :: r⟩⟩ : ByteArray).extract (Int.toNat 1) (Int.toNat (((⟨⟨c :: r⟩⟩ : ByteArray).size : Nat) : Int)) = ⟨⟨r⟩⟩ := by
    rw [ext_l, ls]
    congr 2
    show (r.take _) = r
    exact List.take_of_length_le (by simp)
  have eB : begR (c :: r) = if qB c then ⟨1, 0, qA (c :: r), (qA (c :: r)).length⟩
    else if qp c then ⟨2, (numR false (c :: r)).1, [], (numR false (c :: r)).2⟩
    else if c.toNat = 45 then ⟨2, (numR true r).1, [], if (numR true r).1 = 0 then 0 else (numR true r).2 + 1⟩
    else if c.toNat = 64 then ⟨3, (numR false r).1, [], if (numR false r).2 = 0 ∨ 1099511627776 < (numR false r).1 then 0 else (numR false r).2 + 1⟩
    else if c.toNat = 35 then ⟨4, 0, qA r, if qA r = [] then 0 else (qA r).length + 1⟩
    else if c.toNat = 34 then ⟨5, 0, (textR (c :: r)).1, (textR (c :: r)).2⟩
    else if jw c then ⟨6, 0, [c], 1⟩ else ⟨0, 0, [], 0⟩ := rfl
  refine .ofW ?_
  refine holdsC_of (T := TTab) qg Tryd.func17 (by kernel_rfl) rfl rfl rfl ?_
  (repeat refine qb ?_); refine qa ?_
  repeat (first | refine zR ?_ | refine zK ?_ | refine zM ?_ | refine zB ?_ | refine zA ?_ | refine zS ?_ | refine zL ?_)
  refine qc ?_
  (repeat refine qb ?_); refine qa ?_
  repeat (first | refine zR ?_ | refine zK ?_ | refine zM ?_ | refine zB ?_ | refine zA ?_ | refine zS ?_ | refine zL ?_)
  refine qc ?_
  (repeat refine qb ?_); refine qa ?_
  repeat (first | refine zR ?_ | refine zK ?_ | refine zM ?_ | refine zB ?_ | refine zA ?_ | refine zS ?_ | refine zL ?_)
  refine qc ?_
  (repeat refine qb ?_); refine qa ?_
  repeat (first | refine zR ?_ | refine zK ?_ | refine zM ?_ | refine zB ?_ | refine zA ?_ | refine zS ?_ | refine zL ?_)
  refine ql qg rfl rfl (by rw [ls]; omega) rfl ?_
  rw [b0]
  repeat (first | refine zR ?_ | refine zK ?_ | refine zM ?_ | refine zB ?_ | refine zA ?_ | refine zS ?_ | refine zL ?_)
  refine qc ?_
  (repeat refine qb ?_); refine zf ?_
  (repeat refine qb ?_); refine qa ?_
  repeat (first | refine zR ?_ | refine zK ?_ | refine zM ?_ | refine zB ?_ | refine zA ?_ | refine zS ?_ | refine zL ?_)
  by_cases h1 : 97 ≤ c.toNat
  · rw [show decide ((c.toNat : Int) ≥ 97) = true by simp; omega]
    repeat (first | refine zR ?_ | refine zK ?_ | refine zM ?_ | refine zB ?_ | refine zA ?_ | refine zS ?_ | refine zL ?_)
    by_cases h2 : c.toNat ≤ 122
    · rw [show decide ((c.toNat : Int) ≤ 122) = true by simp; omega]
      have hl : qB c = true := by simp [qB, h1, h2]
      have eR : begR (c :: r) = ⟨1, 0, qA (c :: r), (qA (c :: r)).length⟩ := by rw [eB, if_pos hl]
      repeat (first | refine zR ?_ | refine zK ?_ | refine zM ?_ | refine zB ?_ | refine zA ?_ | refine zS ?_ | refine zL ?_)
      refine qc ?_
      (repeat refine qb ?_); refine qe rfl (fun h9 => ?_) (fun h9 => ?_)
      rotate_left
      · cases h9
      (repeat refine qb ?_); refine qa ?_
      repeat (first | refine zR ?_ | refine zK ?_ | refine zM ?_ | refine zB ?_ | refine zA ?_ | refine zS ?_ | refine zL ?_)
      refine qi rfl (qd rfl rfl rfl rfl (name_l (c :: r) (by omega)) rfl rfl ?_)
      repeat (first | refine zR ?_ | refine zK ?_ | refine zM ?_ | refine zB ?_ | refine zA ?_ | refine zS ?_ | refine zL ?_)
      repeat (first | refine zR ?_ | refine zK ?_ | refine zM ?_ | refine zB ?_ | refine zA ?_ | refine zS ?_ | refine zL ?_)
      refine qc ?_
      (repeat refine qb ?_); refine qa ?_
      repeat (first | refine zR ?_ | refine zK ?_ | refine zM ?_ | refine zB ?_ | refine zA ?_ | refine zS ?_ | refine zL ?_)
      refine qc ?_
      (repeat refine qb ?_); refine qa ?_
      repeat (first | refine zR ?_ | refine zK ?_ | refine zM ?_ | refine zB ?_ | refine zA ?_ | refine zS ?_ | refine zL ?_)
      refine qc ?_
      (repeat refine qb ?_); refine qj ?_
      rw [eR]
      exact ⟨Or.inr rfl, _, _, [], _, Wk.refl _, rfl, rfl, .refl _, rfl, rfl⟩
    · rw [show decide ((c.toNat : Int) ≤ 122) = false by simp; omega]
      have hl : qB c = false := by simp [qB, h2]
      repeat (first | refine zR ?_ | refine zK ?_ | refine zM ?_ | refine zB ?_ | refine zA ?_ | refine zS ?_ | refine zL ?_)
      refine qc ?_
      (repeat refine qb ?_); refine qe rfl (fun h9 => ?_) (fun h9 => ?_)
      · cases h9
      (repeat refine qb ?_); refine qa ?_
      repeat (first | refine zR ?_ | refine zK ?_ | refine zM ?_ | refine zB ?_ | refine zA ?_ | refine zS ?_ | refine zL ?_)
      refine qi rfl (qd rfl rfl rfl rfl (HD) rfl rfl ?_)
      repeat (first | refine zR ?_ | refine zK ?_ | refine zM ?_ | refine zB ?_ | refine zA ?_ | refine zS ?_ | refine zL ?_)
      repeat (first | refine zR ?_ | refine zK ?_ | refine zM ?_ | refine zB ?_ | refine zA ?_ | refine zS ?_ | refine zL ?_)
      refine qc ?_
      cases hd : qp c with
      | true =>
        (repeat refine qb ?_); refine qe rfl (fun hq => ?_) (fun hq => ?_)
        rotate_left
        · cases hq
        have eR : begR (c :: r) = ⟨2, (numR false (c :: r)).1, [], (numR false (c :: r)).2⟩ := by rw [eB, if_neg (by rw [hl]; simp), if_pos hd]
        (repeat refine qb ?_); refine qa ?_
        repeat (first | refine zR ?_ | refine zK ?_ | refine zM ?_ | refine zB ?_ | refine zA ?_ | refine zS ?_ | refine zL ?_)
        refine qc ?_
        (repeat refine qb ?_); refine qa ?_
        repeat (first | refine zR ?_ | refine zK ?_ | refine zM ?_ | refine zB ?_ | refine zA ?_ | refine zS ?_ | refine zL ?_)
        refine qi rfl (qd rfl rfl rfl rfl (number_l false (c :: r) hn) rfl rfl ?_)
        repeat (first | refine zR ?_ | refine zK ?_ | refine zM ?_ | refine zB ?_ | refine zA ?_ | refine zS ?_ | refine zL ?_)
        repeat (first | refine zR ?_ | refine zK ?_ | refine zM ?_ | refine zB ?_ | refine zA ?_ | refine zS ?_ | refine zL ?_)
        refine qc ?_
        (repeat refine qb ?_); refine qa ?_
        repeat (first | refine zR ?_ | refine zK ?_ | refine zM ?_ | refine zB ?_ | refine zA ?_ | refine zS ?_ | refine zL ?_)
        refine qc ?_
        (repeat refine qb ?_); refine qj ?_
        rw [eR]
        exact ⟨Or.inr rfl, _, _, [], _, Wk.refl _, rfl, rfl, .refl _, rfl, rfl⟩
      | false =>
        (repeat refine qb ?_); refine qe rfl (fun hq => ?_) (fun hq => ?_)
        · cases hq
        (repeat refine qb ?_); refine qa ?_
        repeat (first | refine zR ?_ | refine zK ?_ | refine zM ?_ | refine zB ?_ | refine zA ?_ | refine zS ?_ | refine zL ?_)
        by_cases h45 : c.toNat = 45
        · rw [show ((c.toNat : Int) == 45) = true by rw [beq_iff_eq]; omega]
          refine qc ?_
          (repeat refine qb ?_); refine qe rfl (fun hz => ?_) (fun hz => ?_)
          rotate_left
          · cases hz
          have hnl := numR_len true r
          (repeat refine qb ?_); refine qa ?_
          repeat (first | refine zR ?_ | refine zK ?_ | refine zM ?_ | refine zB ?_ | refine zA ?_ | refine zS ?_ | refine zL ?_)
          refine qc ?_
          (repeat refine qb ?_); refine qa ?_
          repeat (first | refine zR ?_ | refine zK ?_ | refine zM ?_ | refine zB ?_ | refine zA ?_ | refine zS ?_ | refine zL ?_)
          refine ql qg rfl rfl (by rw [ls]; omega) rfl ?_
          rw [hx]
          repeat (first | refine zR ?_ | refine zK ?_ | refine zM ?_ | refine zB ?_ | refine zA ?_ | refine zS ?_ | refine zL ?_)
          refine qi rfl (qd rfl rfl rfl rfl (number_l true r hr) rfl rfl ?_)
          repeat (first | refine zR ?_ | refine zK ?_ | refine zM ?_ | refine zB ?_ | refine zA ?_ | refine zS ?_ | refine zL ?_)
          repeat (first | refine zR ?_ | refine zK ?_ | refine zM ?_ | refine zB ?_ | refine zA ?_ | refine zS ?_ | refine zL ?_)
          refine qc ?_
          (repeat refine qb ?_); refine qa ?_
          repeat (first | refine zR ?_ | refine zK ?_ | refine zM ?_ | refine zB ?_ | refine zA ?_ | refine zS ?_ | refine zL ?_)
          by_cases h0 : (numR true r).1 = 0
          · have eR : begR (c :: r) = ⟨2, (numR true r).1, [], 0⟩ := by rw [eB, if_neg (by rw [hl]; simp), if_neg (by rw [hd]; simp), if_pos h45, if_pos h0]
            rw [show ((numR true r).1 == 0) = true by rw [beq_iff_eq]; exact h0]
            refine qc ?_
            (repeat refine qb ?_); refine qe rfl (fun hy => ?_) (fun hy => ?_)
            · (repeat refine qb ?_); refine qa ?_
              repeat (first | refine zR ?_ | refine zK ?_ | refine zM ?_ | refine zB ?_ | refine zA ?_ | refine zS ?_ | refine zL ?_)
              refine qc ?_
              (repeat refine qb ?_); refine qj ?_
              rw [eR]
              exact ⟨Or.inr rfl, _, _, [], _, Wk.refl _, rfl, rfl, .refl _, rfl, rfl⟩
            · cases hy
          · have eR : begR (c :: r) = ⟨2, (numR true r).1, [], (numR true r).2 + 1⟩ := by rw [eB, if_neg (by rw [hl]; simp), if_neg (by rw [hd]; simp), if_pos h45, if_neg h0]
            rw [show ((numR true r).1 == 0) = false by rw [beq_eq_false_iff_ne]; exact h0]
            refine qc ?_
            (repeat refine qb ?_); refine qe rfl (fun hy => ?_) (fun hy => ?_)
            · cases hy
            refine qq ?_
            (repeat refine qb ?_); refine qa ?_
            repeat (first | refine zR ?_ | refine zK ?_ | refine zM ?_ | refine zB ?_ | refine zA ?_ | refine zS ?_ | refine zL ?_)
            refine qc ?_
            rw [show IntKind.i64.wrap (((numR true r).2 : Int) + 1) = (((numR true r).2 + 1 : Nat) : Int) from IntWalk.i64_in _ (by omega)]
            (repeat refine qb ?_); refine qa ?_
            repeat (first | refine zR ?_ | refine zK ?_ | refine zM ?_ | refine zB ?_ | refine zA ?_ | refine zS ?_ | refine zL ?_)
            refine qc ?_
            (repeat refine qb ?_); refine qj ?_
            rw [eR]
            exact ⟨Or.inr rfl, _, _, [], _, Wk.refl _, rfl, rfl, .refl _, rfl, rfl⟩
        rw [show ((c.toNat : Int) == 45) = false by rw [beq_eq_false_iff_ne]; omega]
        refine qc ?_
        (repeat refine qb ?_); refine qe rfl (fun hz => ?_) (fun hz => ?_)
        · cases hz
        (repeat refine qb ?_); refine qa ?_
        repeat (first | refine zR ?_ | refine zK ?_ | refine zM ?_ | refine zB ?_ | refine zA ?_ | refine zS ?_ | refine zL ?_)
        by_cases h64 : c.toNat = 64
        · rw [show ((c.toNat : Int) == 64) = true by rw [beq_iff_eq]; omega]
          refine qc ?_
          (repeat refine qb ?_); refine qe rfl (fun hy => ?_) (fun hy => ?_)
          rotate_left
          · cases hy
          have hnl := numR_len false r
          (repeat refine qb ?_); refine qa ?_
          repeat (first | refine zR ?_ | refine zK ?_ | refine zM ?_ | refine zB ?_ | refine zA ?_ | refine zS ?_ | refine zL ?_)
          refine qc ?_
          (repeat refine qb ?_); refine qa ?_
          repeat (first | refine zR ?_ | refine zK ?_ | refine zM ?_ | refine zB ?_ | refine zA ?_ | refine zS ?_ | refine zL ?_)
          refine ql qg rfl rfl (by rw [ls]; omega) rfl ?_
          rw [hx]
          repeat (first | refine zR ?_ | refine zK ?_ | refine zM ?_ | refine zB ?_ | refine zA ?_ | refine zS ?_ | refine zL ?_)
          refine qi rfl (qd rfl rfl rfl rfl (number_l false r hr) rfl rfl ?_)
          repeat (first | refine zR ?_ | refine zK ?_ | refine zM ?_ | refine zB ?_ | refine zA ?_ | refine zS ?_ | refine zL ?_)
          repeat (first | refine zR ?_ | refine zK ?_ | refine zM ?_ | refine zB ?_ | refine zA ?_ | refine zS ?_ | refine zL ?_)
          refine qc ?_
          (repeat refine qb ?_); refine qa ?_
          repeat (first | refine zR ?_ | refine zK ?_ | refine zM ?_ | refine zB ?_ | refine zA ?_ | refine zS ?_ | refine zL ?_)
          by_cases h0 : (numR false r).2 = 0
          · have eR : begR (c :: r) = ⟨3, (numR false r).1, [], 0⟩ := by rw [eB, if_neg (by rw [hl]; simp), if_neg (by rw [hd]; simp), if_neg h45, if_pos h64, if_pos (.inl h0)]
            rw [show (((numR false r).2 : Int) == 0) = true by rw [beq_iff_eq]; omega]
            repeat (first | refine zR ?_ | refine zK ?_ | refine zM ?_ | refine zB ?_ | refine zA ?_ | refine zS ?_ | refine zL ?_)
            refine qc ?_
            (repeat refine qb ?_); refine qe rfl (fun hx1 => ?_) (fun hx1 => ?_)
            · (repeat refine qb ?_); refine qa ?_
              repeat (first | refine zR ?_ | refine zK ?_ | refine zM ?_ | refine zB ?_ | refine zA ?_ | refine zS ?_ | refine zL ?_)
              refine qc ?_
              (repeat refine qb ?_); refine qj ?_
              rw [eR]
              exact ⟨Or.inr rfl, _, _, [], _, Wk.refl _, rfl, rfl, .refl _, rfl, rfl⟩
            · cases hx1
          · rw [show (((numR false r).2 : Int) == 0) = false by rw [beq_eq_false_iff_ne]; omega]
            repeat (first | refine zR ?_ | refine zK ?_ | refine zM ?_ | refine zB ?_ | refine zA ?_ | refine zS ?_ | refine zL ?_)
            by_cases hg : 1099511627776 < (numR false r).1
            · have eR : begR (c :: r) = ⟨3, (numR false r).1, [], 0⟩ := by rw [eB, if_neg (by rw [hl]; simp), if_neg (by rw [hd]; simp), if_neg h45, if_pos h64, if_pos (.inr hg)]
              rw [show decide ((numR false r).1 > 1099511627776) = true by simp; omega]
              repeat (first | refine zR ?_ | refine zK ?_ | refine zM ?_ | refine zB ?_ | refine zA ?_ | refine zS ?_ | refine zL ?_)
              refine qc ?_
              (repeat refine qb ?_); refine qe rfl (fun hx1 => ?_) (fun hx1 => ?_)
              · (repeat refine qb ?_); refine qa ?_
                repeat (first | refine zR ?_ | refine zK ?_ | refine zM ?_ | refine zB ?_ | refine zA ?_ | refine zS ?_ | refine zL ?_)
                refine qc ?_
                (repeat refine qb ?_); refine qj ?_
                rw [eR]
                exact ⟨Or.inr rfl, _, _, [], _, Wk.refl _, rfl, rfl, .refl _, rfl, rfl⟩
              · cases hx1
            · have eR : begR (c :: r) = ⟨3, (numR false r).1, [], (numR false r).2 + 1⟩ := by rw [eB, if_neg (by rw [hl]; simp), if_neg (by rw [hd]; simp), if_neg h45, if_pos h64, if_neg (by omega)]
              rw [show decide ((numR false r).1 > 1099511627776) = false by simp; omega]
              repeat (first | refine zR ?_ | refine zK ?_ | refine zM ?_ | refine zB ?_ | refine zA ?_ | refine zS ?_ | refine zL ?_)
              refine qc ?_
              (repeat refine qb ?_); refine qe rfl (fun hx1 => ?_) (fun hx1 => ?_)
              · cases hx1
              refine qq ?_
              (repeat refine qb ?_); refine qa ?_
              repeat (first | refine zR ?_ | refine zK ?_ | refine zM ?_ | refine zB ?_ | refine zA ?_ | refine zS ?_ | refine zL ?_)
              refine qc ?_
              rw [show IntKind.i64.wrap (((numR false r).2 : Int) + 1) = (((numR false r).2 + 1 : Nat) : Int) from IntWalk.i64_in _ (by omega)]
              (repeat refine qb ?_); refine qa ?_
              repeat (first | refine zR ?_ | refine zK ?_ | refine zM ?_ | refine zB ?_ | refine zA ?_ | refine zS ?_ | refine zL ?_)
              refine qc ?_
              (repeat refine qb ?_); refine qj ?_
              rw [eR]
              exact ⟨Or.inr rfl, _, _, [], _, Wk.refl _, rfl, rfl, .refl _, rfl, rfl⟩
        rw [show ((c.toNat : Int) == 64) = false by rw [beq_eq_false_iff_ne]; omega]
        refine qc ?_
        (repeat refine qb ?_); refine qe rfl (fun hy => ?_) (fun hy => ?_)
        · cases hy
        (repeat refine qb ?_); refine qa ?_
        repeat (first | refine zR ?_ | refine zK ?_ | refine zM ?_ | refine zB ?_ | refine zA ?_ | refine zS ?_ | refine zL ?_)
        by_cases h35 : c.toNat = 35
        · rw [show ((c.toNat : Int) == 35) = true by rw [beq_iff_eq]; omega]
          refine qc ?_
          (repeat refine qb ?_); refine qe rfl (fun hx1 => ?_) (fun hx1 => ?_)
          rotate_left
          · cases hx1
          have hnl := nameR_len r
          (repeat refine qb ?_); refine qa ?_
          repeat (first | refine zR ?_ | refine zK ?_ | refine zM ?_ | refine zB ?_ | refine zA ?_ | refine zS ?_ | refine zL ?_)
          refine ql qg rfl rfl (by rw [ls]; omega) rfl ?_
          rw [hx]
          repeat (first | refine zR ?_ | refine zK ?_ | refine zM ?_ | refine zB ?_ | refine zA ?_ | refine zS ?_ | refine zL ?_)
          refine qi rfl (qd rfl rfl rfl rfl (name_l r (by omega)) rfl rfl ?_)
          repeat (first | refine zR ?_ | refine zK ?_ | refine zM ?_ | refine zB ?_ | refine zA ?_ | refine zS ?_ | refine zL ?_)
          repeat (first | refine zR ?_ | refine zK ?_ | refine zM ?_ | refine zB ?_ | refine zA ?_ | refine zS ?_ | refine zL ?_)
          refine qc ?_
          (repeat refine qb ?_); refine qa ?_
          repeat (first | refine zR ?_ | refine zK ?_ | refine zM ?_ | refine zB ?_ | refine zA ?_ | refine zS ?_ | refine zL ?_)
          by_cases h0 : qA r = []
          · have eR : begR (c :: r) = ⟨4, 0, qA r, 0⟩ := by rw [eB, if_neg (by rw [hl]; simp), if_neg (by rw [hd]; simp), if_neg h45, if_neg h64, if_pos h35, if_pos h0]
            rw [show (!((⟨⟨qA r⟩⟩ : ByteArray).toList == (⟨#[]⟩ : ByteArray).toList)) = false by rw [h0]; simp]
            refine qc ?_
            (repeat refine qb ?_); refine qe rfl (fun hw => ?_) (fun hw => ?_)
            · cases hw
            refine qq ?_
            (repeat refine qb ?_); refine qa ?_
            repeat (first | refine zR ?_ | refine zK ?_ | refine zM ?_ | refine zB ?_ | refine zA ?_ | refine zS ?_ | refine zL ?_)
            refine qc ?_
            (repeat refine qb ?_); refine qj ?_
            rw [eR]
            exact ⟨Or.inr rfl, _, _, [], _, Wk.refl _, rfl, rfl, .refl _, rfl, rfl⟩
          · have eR : begR (c :: r) = ⟨4, 0, qA r, (qA r).length + 1⟩ := by rw [eB, if_neg (by rw [hl]; simp), if_neg (by rw [hd]; simp), if_neg h45, if_neg h64, if_pos h35, if_neg h0]
            rw [show (!((⟨⟨qA r⟩⟩ : ByteArray).toList == (⟨#[]⟩ : ByteArray).toList)) = true by rw [beq_bytes2]; simp; intro e; exact h0 e]
            refine qc ?_
            (repeat refine qb ?_); refine qe rfl (fun hw => ?_) (fun hw => ?_)
            rotate_left
            · cases hw
            (repeat refine qb ?_); refine qa ?_
            repeat (first | refine zR ?_ | refine zK ?_ | refine zM ?_ | refine zB ?_ | refine zA ?_ | refine zS ?_ | refine zL ?_)
            refine qc ?_
            rw [show IntKind.i64.wrap (((⟨⟨qA r⟩⟩ : ByteArray).size : Int) + 1) = (((qA r).length + 1 : Nat) : Int) from IntWalk.i64_in _ (by show _ ≤ ((qA r).length : Int) + 1 ∧ ((qA r).length : Int) + 1 ≤ _; omega)]
            (repeat refine qb ?_); refine qa ?_
            repeat (first | refine zR ?_ | refine zK ?_ | refine zM ?_ | refine zB ?_ | refine zA ?_ | refine zS ?_ | refine zL ?_)
            refine qc ?_
            (repeat refine qb ?_); refine qj ?_
            rw [eR]
            exact ⟨Or.inr rfl, _, _, [], _, Wk.refl _, rfl, rfl, .refl _, rfl, rfl⟩
        rw [show ((c.toNat : Int) == 35) = false by rw [beq_eq_false_iff_ne]; omega]
        refine qc ?_
        (repeat refine qb ?_); refine qe rfl (fun hx1 => ?_) (fun hx1 => ?_)
        · cases hx1
        (repeat refine qb ?_); refine qa ?_
        repeat (first | refine zR ?_ | refine zK ?_ | refine zM ?_ | refine zB ?_ | refine zA ?_ | refine zS ?_ | refine zL ?_)
        by_cases h34 : c.toNat = 34
        · have eR : begR (c :: r) = ⟨5, 0, (textR (c :: r)).1, (textR (c :: r)).2⟩ := by rw [eB, if_neg (by rw [hl]; simp), if_neg (by rw [hd]; simp), if_neg h45, if_neg h64, if_neg h35, if_pos h34]
          rw [show ((c.toNat : Int) == 34) = true by rw [beq_iff_eq]; omega]
          refine qc ?_
          (repeat refine qb ?_); refine qe rfl (fun hw => ?_) (fun hw => ?_)
          rotate_left
          · cases hw
          (repeat refine qb ?_); refine qa ?_
          repeat (first | refine zR ?_ | refine zK ?_ | refine zM ?_ | refine zB ?_ | refine zA ?_ | refine zS ?_ | refine zL ?_)
          refine qc ?_
          (repeat refine qb ?_); refine qa ?_
          repeat (first | refine zR ?_ | refine zK ?_ | refine zM ?_ | refine zB ?_ | refine zA ?_ | refine zS ?_ | refine zL ?_)
          refine qi rfl (qd rfl rfl rfl rfl (text_l (c :: r) hn) rfl rfl ?_)
          repeat (first | refine zR ?_ | refine zK ?_ | refine zM ?_ | refine zB ?_ | refine zA ?_ | refine zS ?_ | refine zL ?_)
          repeat (first | refine zR ?_ | refine zK ?_ | refine zM ?_ | refine zB ?_ | refine zA ?_ | refine zS ?_ | refine zL ?_)
          refine qc ?_
          (repeat refine qb ?_); refine qa ?_
          repeat (first | refine zR ?_ | refine zK ?_ | refine zM ?_ | refine zB ?_ | refine zA ?_ | refine zS ?_ | refine zL ?_)
          refine qc ?_
          (repeat refine qb ?_); refine qj ?_
          rw [eR]
          exact ⟨Or.inr rfl, _, _, [], _, Wk.refl _, rfl, rfl, .refl _, rfl, rfl⟩
        rw [show ((c.toNat : Int) == 34) = false by rw [beq_eq_false_iff_ne]; omega]
        refine qc ?_
        (repeat refine qb ?_); refine qe rfl (fun hw => ?_) (fun hw => ?_)
        · cases hw
        have HI := indexByte_h ⟨#[123, 125, 40, 41, 46, 44, 59, 61, 60, 62, 33]⟩ (c.toNat : Int)
        rw [u8_back] at HI
        (repeat refine qb ?_); refine qa ?_
        repeat (first | refine zR ?_ | refine zK ?_ | refine zM ?_ | refine zB ?_ | refine zA ?_ | refine zS ?_ | refine zL ?_)
        refine qi rfl (qd rfl rfl rfl rfl (HI) rfl rfl ?_)
        repeat (first | refine zR ?_ | refine zK ?_ | refine zM ?_ | refine zB ?_ | refine zA ?_ | refine zS ?_ | refine zL ?_)
        rw [idx_mark]
        cases hm : jw c with
        | true =>
          have eR : begR (c :: r) = ⟨6, 0, [c], 1⟩ := by rw [eB, if_neg (by rw [hl]; simp), if_neg (by rw [hd]; simp), if_neg h45, if_neg h64, if_neg h35, if_neg h34, if_pos hm]
          repeat (first | refine zR ?_ | refine zK ?_ | refine zM ?_ | refine zB ?_ | refine zA ?_ | refine zS ?_ | refine zL ?_)
          refine qc ?_
          (repeat refine qb ?_); refine qe rfl (fun hv => ?_) (fun hv => ?_)
          rotate_left
          · cases hv
          (repeat refine qb ?_); refine jD 7 rfl (by kernel_rfl) ?_
          refine jB (i := 0) (K := [4]) (by kernel_rfl) (by kernel_rfl) rfl rfl (qn qg rfl (by exact True.intro)) rfl ?_
          refine jB (i := 1) (K := [4]) (by kernel_rfl) (by kernel_rfl) rfl rfl (qn qg rfl (by rw [ls]; omega)) rfl ?_
          refine jB (i := 2) (K := [4]) (by kernel_rfl) (by kernel_rfl) rfl rfl (qn qg rfl (by exact True.intro)) rfl ?_
          refine jA 3 (by kernel_rfl) ?_
          first | refine qx rfl rfl rfl (aM (h := ?_)) | refine qx rfl rfl rfl (aB (h := ?_)) | refine qx rfl rfl rfl (aA (h := ?_)) | refine qx rfl rfl rfl (aS (h := ?_)) | refine qx rfl rfl rfl (aL (h := ?_)) | refine qx rfl rfl rfl (jx (K := []) (qn qg rfl (by exact True.intro)) rfl ?_)
          refine jB (i := 4) (K := [4]) (by kernel_rfl) (by kernel_rfl) rfl rfl (qn qg rfl (by exact True.intro)) rfl ?_
          refine jA 5 (by kernel_rfl) ?_
          first | refine qx rfl rfl rfl (aM (h := ?_)) | refine qx rfl rfl rfl (aB (h := ?_)) | refine qx rfl rfl rfl (aA (h := ?_)) | refine qx rfl rfl rfl (aS (h := ?_)) | refine qx rfl rfl rfl (aL (h := ?_)) | refine qx rfl rfl rfl (jx (K := []) (qn qg rfl (by exact True.intro)) rfl ?_)
          refine jB (i := 6) (K := [4]) (by kernel_rfl) (by kernel_rfl) rfl rfl (qn qg rfl (by exact True.intro)) rfl ?_
          refine swb_done (by kernel_rfl) ?_
          refine SW.wk (qv [2, 3, 4, 5] [(2, 2), (4, 4)] rfl rfl) ?_
          refine ?fk30_457
          rotate_left
          rw [show (⟨⟨c :: r⟩⟩ : ByteArray).extract (Int.toNat 0) (Int.toNat 1) = ⟨⟨[c]⟩⟩ from ext_l (c :: r) 0 1]
          (repeat refine qb ?_); refine qa ?_
          repeat (first | refine zR ?_ | refine zK ?_ | refine zM ?_ | refine zB ?_ | refine zA ?_ | refine zS ?_ | refine zL ?_)
          refine qc ?_
          (repeat refine qb ?_); refine qj ?_
          rw [eR]
          exact ⟨Or.inr rfl, _, _, [], _, Wk.refl _, rfl, rfl, .refl _, rfl, rfl⟩
        | false =>
          have eR : begR (c :: r) = ⟨0, 0, [], 0⟩ := by rw [eB, if_neg (by rw [hl]; simp), if_neg (by rw [hd]; simp), if_neg h45, if_neg h64, if_neg h35, if_neg h34, if_neg (by rw [hm]; simp)]
          repeat (first | refine zR ?_ | refine zK ?_ | refine zM ?_ | refine zB ?_ | refine zA ?_ | refine zS ?_ | refine zL ?_)
          refine qc ?_
          (repeat refine qb ?_); refine qe rfl (fun hv => ?_) (fun hv => ?_)
          · cases hv
          refine qq ?_
          (repeat refine qb ?_); refine qa ?_
          repeat (first | refine zR ?_ | refine zK ?_ | refine zM ?_ | refine zB ?_ | refine zA ?_ | refine zS ?_ | refine zL ?_)
          refine qc ?_
          (repeat refine qb ?_); refine qj ?_
          rw [eR]
          exact ⟨Or.inr rfl, _, _, [], _, Wk.refl _, rfl, rfl, .refl _, rfl, rfl⟩
  · rw [show decide ((c.toNat : Int) ≥ 97) = false by simp; omega]
    have hl : qB c = false := by simp [qB, h1]
    repeat (first | refine zR ?_ | refine zK ?_ | refine zM ?_ | refine zB ?_ | refine zA ?_ | refine zS ?_ | refine zL ?_)
    refine qc ?_
    (repeat refine qb ?_); refine qe rfl (fun h9 => ?_) (fun h9 => ?_)
    · cases h9
    (repeat refine qb ?_); refine qa ?_
    repeat (first | refine zR ?_ | refine zK ?_ | refine zM ?_ | refine zB ?_ | refine zA ?_ | refine zS ?_ | refine zL ?_)
    refine qi rfl (qd rfl rfl rfl rfl (HD) rfl rfl ?_)
    repeat (first | refine zR ?_ | refine zK ?_ | refine zM ?_ | refine zB ?_ | refine zA ?_ | refine zS ?_ | refine zL ?_)
    repeat (first | refine zR ?_ | refine zK ?_ | refine zM ?_ | refine zB ?_ | refine zA ?_ | refine zS ?_ | refine zL ?_)
    refine qc ?_
    cases hd : qp c with
    | true =>
      (repeat refine qb ?_); refine qe rfl (fun hq => ?_) (fun hq => ?_)
      rotate_left
      · cases hq
      have eR : begR (c :: r) = ⟨2, (numR false (c :: r)).1, [], (numR false (c :: r)).2⟩ := by rw [eB, if_neg (by rw [hl]; simp), if_pos hd]
      (repeat refine qb ?_); refine qa ?_
      repeat (first | refine zR ?_ | refine zK ?_ | refine zM ?_ | refine zB ?_ | refine zA ?_ | refine zS ?_ | refine zL ?_)
      refine qc ?_
      (repeat refine qb ?_); refine qa ?_
      repeat (first | refine zR ?_ | refine zK ?_ | refine zM ?_ | refine zB ?_ | refine zA ?_ | refine zS ?_ | refine zL ?_)
      refine qi rfl (qd rfl rfl rfl rfl (number_l false (c :: r) hn) rfl rfl ?_)
      repeat (first | refine zR ?_ | refine zK ?_ | refine zM ?_ | refine zB ?_ | refine zA ?_ | refine zS ?_ | refine zL ?_)
      repeat (first | refine zR ?_ | refine zK ?_ | refine zM ?_ | refine zB ?_ | refine zA ?_ | refine zS ?_ | refine zL ?_)
      refine qc ?_
      (repeat refine qb ?_); refine qa ?_
      repeat (first | refine zR ?_ | refine zK ?_ | refine zM ?_ | refine zB ?_ | refine zA ?_ | refine zS ?_ | refine zL ?_)
      refine qc ?_
      (repeat refine qb ?_); refine qj ?_
      rw [eR]
      exact ⟨Or.inr rfl, _, _, [], _, Wk.refl _, rfl, rfl, .refl _, rfl, rfl⟩
    | false =>
      (repeat refine qb ?_); refine qe rfl (fun hq => ?_) (fun hq => ?_)
      · cases hq
      (repeat refine qb ?_); refine qa ?_
      repeat (first | refine zR ?_ | refine zK ?_ | refine zM ?_ | refine zB ?_ | refine zA ?_ | refine zS ?_ | refine zL ?_)
      by_cases h45 : c.toNat = 45
      · rw [show ((c.toNat : Int) == 45) = true by rw [beq_iff_eq]; omega]
        refine qc ?_
        (repeat refine qb ?_); refine qe rfl (fun hz => ?_) (fun hz => ?_)
        rotate_left
        · cases hz
        have hnl := numR_len true r
        (repeat refine qb ?_); refine qa ?_
        repeat (first | refine zR ?_ | refine zK ?_ | refine zM ?_ | refine zB ?_ | refine zA ?_ | refine zS ?_ | refine zL ?_)
        refine qc ?_
        (repeat refine qb ?_); refine qa ?_
        repeat (first | refine zR ?_ | refine zK ?_ | refine zM ?_ | refine zB ?_ | refine zA ?_ | refine zS ?_ | refine zL ?_)
        refine ql qg rfl rfl (by rw [ls]; omega) rfl ?_
        rw [hx]
        repeat (first | refine zR ?_ | refine zK ?_ | refine zM ?_ | refine zB ?_ | refine zA ?_ | refine zS ?_ | refine zL ?_)
        refine qi rfl (qd rfl rfl rfl rfl (number_l true r hr) rfl rfl ?_)
        repeat (first | refine zR ?_ | refine zK ?_ | refine zM ?_ | refine zB ?_ | refine zA ?_ | refine zS ?_ | refine zL ?_)
        repeat (first | refine zR ?_ | refine zK ?_ | refine zM ?_ | refine zB ?_ | refine zA ?_ | refine zS ?_ | refine zL ?_)
        refine qc ?_
        (repeat refine qb ?_); refine qa ?_
        repeat (first | refine zR ?_ | refine zK ?_ | refine zM ?_ | refine zB ?_ | refine zA ?_ | refine zS ?_ | refine zL ?_)
        by_cases h0 : (numR true r).1 = 0
        · have eR : begR (c :: r) = ⟨2, (numR true r).1, [], 0⟩ := by rw [eB, if_neg (by rw [hl]; simp), if_neg (by rw [hd]; simp), if_pos h45, if_pos h0]
          rw [show ((numR true r).1 == 0) = true by rw [beq_iff_eq]; exact h0]
          refine qc ?_
          (repeat refine qb ?_); refine qe rfl (fun hy => ?_) (fun hy => ?_)
          · (repeat refine qb ?_); refine qa ?_
            repeat (first | refine zR ?_ | refine zK ?_ | refine zM ?_ | refine zB ?_ | refine zA ?_ | refine zS ?_ | refine zL ?_)
            refine qc ?_
            (repeat refine qb ?_); refine qj ?_
            rw [eR]
            exact ⟨Or.inr rfl, _, _, [], _, Wk.refl _, rfl, rfl, .refl _, rfl, rfl⟩
          · cases hy
        · have eR : begR (c :: r) = ⟨2, (numR true r).1, [], (numR true r).2 + 1⟩ := by rw [eB, if_neg (by rw [hl]; simp), if_neg (by rw [hd]; simp), if_pos h45, if_neg h0]
          rw [show ((numR true r).1 == 0) = false by rw [beq_eq_false_iff_ne]; exact h0]
          refine qc ?_
          (repeat refine qb ?_); refine qe rfl (fun hy => ?_) (fun hy => ?_)
          · cases hy
          refine qq ?_
          (repeat refine qb ?_); refine qa ?_
          repeat (first | refine zR ?_ | refine zK ?_ | refine zM ?_ | refine zB ?_ | refine zA ?_ | refine zS ?_ | refine zL ?_)
          refine qc ?_
          rw [show IntKind.i64.wrap (((numR true r).2 : Int) + 1) = (((numR true r).2 + 1 : Nat) : Int) from IntWalk.i64_in _ (by omega)]
          (repeat refine qb ?_); refine qa ?_
          repeat (first | refine zR ?_ | refine zK ?_ | refine zM ?_ | refine zB ?_ | refine zA ?_ | refine zS ?_ | refine zL ?_)
          refine qc ?_
          (repeat refine qb ?_); refine qj ?_
          rw [eR]
          exact ⟨Or.inr rfl, _, _, [], _, Wk.refl _, rfl, rfl, .refl _, rfl, rfl⟩
      rw [show ((c.toNat : Int) == 45) = false by rw [beq_eq_false_iff_ne]; omega]
      refine qc ?_
      (repeat refine qb ?_); refine qe rfl (fun hz => ?_) (fun hz => ?_)
      · cases hz
      (repeat refine qb ?_); refine qa ?_
      repeat (first | refine zR ?_ | refine zK ?_ | refine zM ?_ | refine zB ?_ | refine zA ?_ | refine zS ?_ | refine zL ?_)
      by_cases h64 : c.toNat = 64
      · rw [show ((c.toNat : Int) == 64) = true by rw [beq_iff_eq]; omega]
        refine qc ?_
        (repeat refine qb ?_); refine qe rfl (fun hy => ?_) (fun hy => ?_)
        rotate_left
        · cases hy
        have hnl := numR_len false r
        (repeat refine qb ?_); refine qa ?_
        repeat (first | refine zR ?_ | refine zK ?_ | refine zM ?_ | refine zB ?_ | refine zA ?_ | refine zS ?_ | refine zL ?_)
        refine qc ?_
        (repeat refine qb ?_); refine qa ?_
        repeat (first | refine zR ?_ | refine zK ?_ | refine zM ?_ | refine zB ?_ | refine zA ?_ | refine zS ?_ | refine zL ?_)
        refine ql qg rfl rfl (by rw [ls]; omega) rfl ?_
        rw [hx]
        repeat (first | refine zR ?_ | refine zK ?_ | refine zM ?_ | refine zB ?_ | refine zA ?_ | refine zS ?_ | refine zL ?_)
        refine qi rfl (qd rfl rfl rfl rfl (number_l false r hr) rfl rfl ?_)
        repeat (first | refine zR ?_ | refine zK ?_ | refine zM ?_ | refine zB ?_ | refine zA ?_ | refine zS ?_ | refine zL ?_)
        repeat (first | refine zR ?_ | refine zK ?_ | refine zM ?_ | refine zB ?_ | refine zA ?_ | refine zS ?_ | refine zL ?_)
        refine qc ?_
        (repeat refine qb ?_); refine qa ?_
        repeat (first | refine zR ?_ | refine zK ?_ | refine zM ?_ | refine zB ?_ | refine zA ?_ | refine zS ?_ | refine zL ?_)
        by_cases h0 : (numR false r).2 = 0
        · have eR : begR (c :: r) = ⟨3, (numR false r).1, [], 0⟩ := by rw [eB, if_neg (by rw [hl]; simp), if_neg (by rw [hd]; simp), if_neg h45, if_pos h64, if_pos (.inl h0)]
          rw [show (((numR false r).2 : Int) == 0) = true by rw [beq_iff_eq]; omega]
          repeat (first | refine zR ?_ | refine zK ?_ | refine zM ?_ | refine zB ?_ | refine zA ?_ | refine zS ?_ | refine zL ?_)
          refine qc ?_
          (repeat refine qb ?_); refine qe rfl (fun hx1 => ?_) (fun hx1 => ?_)
          · (repeat refine qb ?_); refine qa ?_
            repeat (first | refine zR ?_ | refine zK ?_ | refine zM ?_ | refine zB ?_ | refine zA ?_ | refine zS ?_ | refine zL ?_)
            refine qc ?_
            (repeat refine qb ?_); refine qj ?_
            rw [eR]
            exact ⟨Or.inr rfl, _, _, [], _, Wk.refl _, rfl, rfl, .refl _, rfl, rfl⟩
          · cases hx1
        · rw [show (((numR false r).2 : Int) == 0) = false by rw [beq_eq_false_iff_ne]; omega]
          repeat (first | refine zR ?_ | refine zK ?_ | refine zM ?_ | refine zB ?_ | refine zA ?_ | refine zS ?_ | refine zL ?_)
          by_cases hg : 1099511627776 < (numR false r).1
          · have eR : begR (c :: r) = ⟨3, (numR false r).1, [], 0⟩ := by rw [eB, if_neg (by rw [hl]; simp), if_neg (by rw [hd]; simp), if_neg h45, if_pos h64, if_pos (.inr hg)]
            rw [show decide ((numR false r).1 > 1099511627776) = true by simp; omega]
            repeat (first | refine zR ?_ | refine zK ?_ | refine zM ?_ | refine zB ?_ | refine zA ?_ | refine zS ?_ | refine zL ?_)
            refine qc ?_
            (repeat refine qb ?_); refine qe rfl (fun hx1 => ?_) (fun hx1 => ?_)
            · (repeat refine qb ?_); refine qa ?_
              repeat (first | refine zR ?_ | refine zK ?_ | refine zM ?_ | refine zB ?_ | refine zA ?_ | refine zS ?_ | refine zL ?_)
              refine qc ?_
              (repeat refine qb ?_); refine qj ?_
              rw [eR]
              exact ⟨Or.inr rfl, _, _, [], _, Wk.refl _, rfl, rfl, .refl _, rfl, rfl⟩
            · cases hx1
          · have eR : begR (c :: r) = ⟨3, (numR false r).1, [], (numR false r).2 + 1⟩ := by rw [eB, if_neg (by rw [hl]; simp), if_neg (by rw [hd]; simp), if_neg h45, if_pos h64, if_neg (by omega)]
            rw [show decide ((numR false r).1 > 1099511627776) = false by simp; omega]
            repeat (first | refine zR ?_ | refine zK ?_ | refine zM ?_ | refine zB ?_ | refine zA ?_ | refine zS ?_ | refine zL ?_)
            refine qc ?_
            (repeat refine qb ?_); refine qe rfl (fun hx1 => ?_) (fun hx1 => ?_)
            · cases hx1
            refine qq ?_
            (repeat refine qb ?_); refine qa ?_
            repeat (first | refine zR ?_ | refine zK ?_ | refine zM ?_ | refine zB ?_ | refine zA ?_ | refine zS ?_ | refine zL ?_)
            refine qc ?_
            rw [show IntKind.i64.wrap (((numR false r).2 : Int) + 1) = (((numR false r).2 + 1 : Nat) : Int) from IntWalk.i64_in _ (by omega)]
            (repeat refine qb ?_); refine qa ?_
            repeat (first | refine zR ?_ | refine zK ?_ | refine zM ?_ | refine zB ?_ | refine zA ?_ | refine zS ?_ | refine zL ?_)
            refine qc ?_
            (repeat refine qb ?_); refine qj ?_
            rw [eR]
            exact ⟨Or.inr rfl, _, _, [], _, Wk.refl _, rfl, rfl, .refl _, rfl, rfl⟩
      rw [show ((c.toNat : Int) == 64) = false by rw [beq_eq_false_iff_ne]; omega]
      refine qc ?_
      (repeat refine qb ?_); refine qe rfl (fun hy => ?_) (fun hy => ?_)
      · cases hy
      (repeat refine qb ?_); refine qa ?_
      repeat (first | refine zR ?_ | refine zK ?_ | refine zM ?_ | refine zB ?_ | refine zA ?_ | refine zS ?_ | refine zL ?_)
      by_cases h35 : c.toNat = 35
      · rw [show ((c.toNat : Int) == 35) = true by rw [beq_iff_eq]; omega]
        refine qc ?_
        (repeat refine qb ?_); refine qe rfl (fun hx1 => ?_) (fun hx1 => ?_)
        rotate_left
        · cases hx1
        have hnl := nameR_len r
        (repeat refine qb ?_); refine qa ?_
        repeat (first | refine zR ?_ | refine zK ?_ | refine zM ?_ | refine zB ?_ | refine zA ?_ | refine zS ?_ | refine zL ?_)
        refine ql qg rfl rfl (by rw [ls]; omega) rfl ?_
        rw [hx]
        repeat (first | refine zR ?_ | refine zK ?_ | refine zM ?_ | refine zB ?_ | refine zA ?_ | refine zS ?_ | refine zL ?_)
        refine qi rfl (qd rfl rfl rfl rfl (name_l r (by omega)) rfl rfl ?_)
        repeat (first | refine zR ?_ | refine zK ?_ | refine zM ?_ | refine zB ?_ | refine zA ?_ | refine zS ?_ | refine zL ?_)
        repeat (first | refine zR ?_ | refine zK ?_ | refine zM ?_ | refine zB ?_ | refine zA ?_ | refine zS ?_ | refine zL ?_)
        refine qc ?_
        (repeat refine qb ?_); refine qa ?_
        repeat (first | refine zR ?_ | refine zK ?_ | refine zM ?_ | refine zB ?_ | refine zA ?_ | refine zS ?_ | refine zL ?_)
        by_cases h0 : qA r = []
        · have eR : begR (c :: r) = ⟨4, 0, qA r, 0⟩ := by rw [eB, if_neg (by rw [hl]; simp), if_neg (by rw [hd]; simp), if_neg h45, if_neg h64, if_pos h35, if_pos h0]
          rw [show (!((⟨⟨qA r⟩⟩ : ByteArray).toList == (⟨#[]⟩ : ByteArray).toList)) = false by rw [h0]; simp]
          refine qc ?_
          (repeat refine qb ?_); refine qe rfl (fun hw => ?_) (fun hw => ?_)
          · cases hw
          refine qq ?_
          (repeat refine qb ?_); refine qa ?_
          repeat (first | refine zR ?_ | refine zK ?_ | refine zM ?_ | refine zB ?_ | refine zA ?_ | refine zS ?_ | refine zL ?_)
          refine qc ?_
          (repeat refine qb ?_); refine qj ?_
          rw [eR]
          exact ⟨Or.inr rfl, _, _, [], _, Wk.refl _, rfl, rfl, .refl _, rfl, rfl⟩
        · have eR : begR (c :: r) = ⟨4, 0, qA r, (qA r).length + 1⟩ := by rw [eB, if_neg (by rw [hl]; simp), if_neg (by rw [hd]; simp), if_neg h45, if_neg h64, if_pos h35, if_neg h0]
          rw [show (!((⟨⟨qA r⟩⟩ : ByteArray).toList == (⟨#[]⟩ : ByteArray).toList)) = true by rw [beq_bytes2]; simp; intro e; exact h0 e]
          refine qc ?_
          (repeat refine qb ?_); refine qe rfl (fun hw => ?_) (fun hw => ?_)
          rotate_left
          · cases hw
          (repeat refine qb ?_); refine qa ?_
          repeat (first | refine zR ?_ | refine zK ?_ | refine zM ?_ | refine zB ?_ | refine zA ?_ | refine zS ?_ | refine zL ?_)
          refine qc ?_
          rw [show IntKind.i64.wrap (((⟨⟨qA r⟩⟩ : ByteArray).size : Int) + 1) = (((qA r).length + 1 : Nat) : Int) from IntWalk.i64_in _ (by show _ ≤ ((qA r).length : Int) + 1 ∧ ((qA r).length : Int) + 1 ≤ _; omega)]
          (repeat refine qb ?_); refine qa ?_
          repeat (first | refine zR ?_ | refine zK ?_ | refine zM ?_ | refine zB ?_ | refine zA ?_ | refine zS ?_ | refine zL ?_)
          refine qc ?_
          (repeat refine qb ?_); refine qj ?_
          rw [eR]
          exact ⟨Or.inr rfl, _, _, [], _, Wk.refl _, rfl, rfl, .refl _, rfl, rfl⟩
      rw [show ((c.toNat : Int) == 35) = false by rw [beq_eq_false_iff_ne]; omega]
      refine qc ?_
      (repeat refine qb ?_); refine qe rfl (fun hx1 => ?_) (fun hx1 => ?_)
      · cases hx1
      (repeat refine qb ?_); refine qa ?_
      repeat (first | refine zR ?_ | refine zK ?_ | refine zM ?_ | refine zB ?_ | refine zA ?_ | refine zS ?_ | refine zL ?_)
      by_cases h34 : c.toNat = 34
      · have eR : begR (c :: r) = ⟨5, 0, (textR (c :: r)).1, (textR (c :: r)).2⟩ := by rw [eB, if_neg (by rw [hl]; simp), if_neg (by rw [hd]; simp), if_neg h45, if_neg h64, if_neg h35, if_pos h34]
        rw [show ((c.toNat : Int) == 34) = true by rw [beq_iff_eq]; omega]
        refine qc ?_
        (repeat refine qb ?_); refine qe rfl (fun hw => ?_) (fun hw => ?_)
        rotate_left
        · cases hw
        (repeat refine qb ?_); refine qa ?_
        repeat (first | refine zR ?_ | refine zK ?_ | refine zM ?_ | refine zB ?_ | refine zA ?_ | refine zS ?_ | refine zL ?_)
        refine qc ?_
        (repeat refine qb ?_); refine qa ?_
        repeat (first | refine zR ?_ | refine zK ?_ | refine zM ?_ | refine zB ?_ | refine zA ?_ | refine zS ?_ | refine zL ?_)
        refine qi rfl (qd rfl rfl rfl rfl (text_l (c :: r) hn) rfl rfl ?_)
        repeat (first | refine zR ?_ | refine zK ?_ | refine zM ?_ | refine zB ?_ | refine zA ?_ | refine zS ?_ | refine zL ?_)
        repeat (first | refine zR ?_ | refine zK ?_ | refine zM ?_ | refine zB ?_ | refine zA ?_ | refine zS ?_ | refine zL ?_)
        refine qc ?_
        (repeat refine qb ?_); refine qa ?_
        repeat (first | refine zR ?_ | refine zK ?_ | refine zM ?_ | refine zB ?_ | refine zA ?_ | refine zS ?_ | refine zL ?_)
        refine qc ?_
        (repeat refine qb ?_); refine qj ?_
        rw [eR]
        exact ⟨Or.inr rfl, _, _, [], _, Wk.refl _, rfl, rfl, .refl _, rfl, rfl⟩
      rw [show ((c.toNat : Int) == 34) = false by rw [beq_eq_false_iff_ne]; omega]
      refine qc ?_
      (repeat refine qb ?_); refine qe rfl (fun hw => ?_) (fun hw => ?_)
      · cases hw
      have HI := indexByte_h ⟨#[123, 125, 40, 41, 46, 44, 59, 61, 60, 62, 33]⟩ (c.toNat : Int)
      rw [u8_back] at HI
      (repeat refine qb ?_); refine qa ?_
      repeat (first | refine zR ?_ | refine zK ?_ | refine zM ?_ | refine zB ?_ | refine zA ?_ | refine zS ?_ | refine zL ?_)
      refine qi rfl (qd rfl rfl rfl rfl (HI) rfl rfl ?_)
      repeat (first | refine zR ?_ | refine zK ?_ | refine zM ?_ | refine zB ?_ | refine zA ?_ | refine zS ?_ | refine zL ?_)
      rw [idx_mark]
      cases hm : jw c with
      | true =>
        have eR : begR (c :: r) = ⟨6, 0, [c], 1⟩ := by rw [eB, if_neg (by rw [hl]; simp), if_neg (by rw [hd]; simp), if_neg h45, if_neg h64, if_neg h35, if_neg h34, if_pos hm]
        repeat (first | refine zR ?_ | refine zK ?_ | refine zM ?_ | refine zB ?_ | refine zA ?_ | refine zS ?_ | refine zL ?_)
        refine qc ?_
        (repeat refine qb ?_); refine qe rfl (fun hv => ?_) (fun hv => ?_)
        rotate_left
        · cases hv
        (repeat refine qb ?_); refine jD 7 rfl (by kernel_rfl) ?_
        refine jB (i := 0) (K := [4]) (by kernel_rfl) (by kernel_rfl) rfl rfl (qn qg rfl (by exact True.intro)) rfl ?_
        refine jB (i := 1) (K := [4]) (by kernel_rfl) (by kernel_rfl) rfl rfl (qn qg rfl (by rw [ls]; omega)) rfl ?_
        refine jB (i := 2) (K := [4]) (by kernel_rfl) (by kernel_rfl) rfl rfl (qn qg rfl (by exact True.intro)) rfl ?_
        refine jA 3 (by kernel_rfl) ?_
        first | refine qx rfl rfl rfl (aM (h := ?_)) | refine qx rfl rfl rfl (aB (h := ?_)) | refine qx rfl rfl rfl (aA (h := ?_)) | refine qx rfl rfl rfl (aS (h := ?_)) | refine qx rfl rfl rfl (aL (h := ?_)) | refine qx rfl rfl rfl (jx (K := []) (qn qg rfl (by exact True.intro)) rfl ?_)
        refine jB (i := 4) (K := [4]) (by kernel_rfl) (by kernel_rfl) rfl rfl (qn qg rfl (by exact True.intro)) rfl ?_
        refine jA 5 (by kernel_rfl) ?_
        first | refine qx rfl rfl rfl (aM (h := ?_)) | refine qx rfl rfl rfl (aB (h := ?_)) | refine qx rfl rfl rfl (aA (h := ?_)) | refine qx rfl rfl rfl (aS (h := ?_)) | refine qx rfl rfl rfl (aL (h := ?_)) | refine qx rfl rfl rfl (jx (K := []) (qn qg rfl (by exact True.intro)) rfl ?_)
        refine jB (i := 6) (K := [4]) (by kernel_rfl) (by kernel_rfl) rfl rfl (qn qg rfl (by exact True.intro)) rfl ?_
        refine swb_done (by kernel_rfl) ?_
        refine SW.wk (qv [2, 3, 4, 5] [(2, 2), (4, 4)] rfl rfl) ?_
        refine ?fk30_750
        rotate_left
        rw [show (⟨⟨c :: r⟩⟩ : ByteArray).extract (Int.toNat 0) (Int.toNat 1) = ⟨⟨[c]⟩⟩ from ext_l (c :: r) 0 1]
        (repeat refine qb ?_); refine qa ?_
        repeat (first | refine zR ?_ | refine zK ?_ | refine zM ?_ | refine zB ?_ | refine zA ?_ | refine zS ?_ | refine zL ?_)
        refine qc ?_
        (repeat refine qb ?_); refine qj ?_
        rw [eR]
        exact ⟨Or.inr rfl, _, _, [], _, Wk.refl _, rfl, rfl, .refl _, rfl, rfl⟩
      | false =>
        have eR : begR (c :: r) = ⟨0, 0, [], 0⟩ := by rw [eB, if_neg (by rw [hl]; simp), if_neg (by rw [hd]; simp), if_neg h45, if_neg h64, if_neg h35, if_neg h34, if_neg (by rw [hm]; simp)]
        repeat (first | refine zR ?_ | refine zK ?_ | refine zM ?_ | refine zB ?_ | refine zA ?_ | refine zS ?_ | refine zL ?_)
        refine qc ?_
        (repeat refine qb ?_); refine qe rfl (fun hv => ?_) (fun hv => ?_)
        · cases hv
        refine qq ?_
        (repeat refine qb ?_); refine qa ?_
        repeat (first | refine zR ?_ | refine zK ?_ | refine zM ?_ | refine zB ?_ | refine zA ?_ | refine zS ?_ | refine zL ?_)
        refine qc ?_
        (repeat refine qb ?_); refine qj ?_
        rw [eR]
        exact ⟨Or.inr rfl, _, _, [], _, Wk.refl _, rfl, rfl, .refl _, rfl, rfl⟩
end Go.Proofs.YtnojoaneboppnaaDoor
