/-
  Shades: the evaluator's steps are the rules of shades.
-/
import Derived.Test.YtjpcchipejmocaaEval
import Derived.Scope
import Derived.Laws.BytesString
namespace Go.Proofs.Ytjpcchipejmocaa
set_option linter.unusedVariables false
set_option linter.unusedSimpArgs false
open Go.RowKit

theorem toList_loop (s : ByteArray) : ∀ (n i : Nat) (r : List UInt8), s.size - i = n → ByteArray.toList.loop s i r = r.reverse ++ s.data.toList.drop i
  | 0, i, r, h => by
    unfold ByteArray.toList.loop
    rw [if_neg (by omega), List.drop_of_length_le (by rw [Array.length_toList]; show s.size ≤ i; omega), List.append_nil]
  | n + 1, i, r, h => by
    unfold ByteArray.toList.loop
    have hi : i < s.data.toList.length := by rw [Array.length_toList]; show i < s.size; omega
    rw [if_pos (by omega), toList_loop s n (i + 1) _ (by omega), List.reverse_cons, List.append_assoc, ← List.getElem_cons_drop hi]
    have : s.get! i = s.data.toList[i] := by
      have h2 : i < s.data.size := by rw [Array.length_toList] at hi; exact hi
      show s.data[i]! = _
      rw [getElem!_pos s.data i h2]; simp
    rw [this]; rfl
theorem toList_data (s : ByteArray) : s.toList = s.data.toList := by
  unfold ByteArray.toList
  rw [toList_loop s _ 0 [] rfl]; rfl
theorem sEq_ok : ∀ a b : List UInt8, sEq a b = (a == b)
  | [], [] => rfl
  | [], _ :: _ => rfl
  | _ :: _, [] => rfl
  | a :: r, b :: s => by
    rw [sEq, sEq_ok r s]
    by_cases h : a = b
    · subst h; simp
    · have : Nat.beq a.toNat b.toNat = false := by
        cases h2 : Nat.beq a.toNat b.toNat with
        | false => rfl
        | true => exact absurd (UInt8.toNat_inj.1 (Nat.eq_of_beq_eq_true h2)) h
      rw [this]; simp [h]

/-- what an operation that only reads gives -/
def RdO (P : Program) (K : List Nat) (st : St) (o : Oper) (s : SV) : Prop := ∀ (w0 : Base) (Sx : Nat → Prop) (γ : Nat → Value) (a : Act) (w : World), Sim w0 Sx γ st a w →
  ∃ v, RelS (okO Sx γ st.own) (hp γ st.own) w s v ∧ ∀ x, SameOn (vis K γ st.own) w x → (execOp a.eval o).run P x = .ok (.value v) x
section
variable {P : Program} {T : TT} (hT : TypesOk P T) {K : List Nat} {st : St} {o : Oper} {β : Type} {k : SV → Option β} {b : β}
theorem RdO.of_sem {s : SV} {sem : Act → Sem Value} (he : ∀ a : Act, execOp a.eval o = (do pure (.value (← sem a)) : Sem Next)) (h : ∀ (w0 : Base) (Sx : Nat → Prop) (γ : Nat → Value) (a : Act) (w : World), Sim w0 Sx γ st a w → Rd P K Sx γ st w (sem a) s) : RdO P K st o s := fun w0 Sx γ a w hI => by
  obtain ⟨v, h1, h2⟩ := h w0 Sx γ a w hI
  exact ⟨v, h1, fun x hx => by rw [he]; exact run_v (h2 x hx)⟩
theorem actOk_rd {s : SV} {Q : St → Prop} (h : RdO P K st o s) (hd : dstOk st o.dst = true) (hQ : Q (st.put o.dst s)) : ActOk P [] o st Q := by
  intro w0 Sx γ a w QQ hI
  obtain ⟨v, h1, h2⟩ := h w0 Sx γ a w hI
  unfold Oper.wp
  rw [h2 w (SameOn.refl _ _)]
  refine ⟨γ, _, hQ, hI.put hd h1, SameOn.refl _ _, fun K _ b _ hv => ?_⟩
  rw [put_own]; exact hv
include hT in
theorem rdO_opR {s : SV} {c : Prop} (h : opR T K st o.op = some (c, s)) (hc : c) : RdO P K st o s := fun _ _ _ _ _ hI => opR_ok hT hI h hc
theorem goF_ok {r : Option (Prop × SV)} {c : Bool} (h : goF r c k = some b) : ∃ p s, r = some (p, s) ∧ c = true ∧ k s = some b := by
  unfold goF at h
  split at h
  · rename_i p s
    cases c with
    | false => cases h
    | true => rw [cond_true, fSV_eq] at h; exact ⟨p, s, rfl, rfl, h⟩
  · cases h
theorem goP_ok {r : Option (Prop × SV)} (h : goP r k = some b) : ∃ p s, r = some (p, s) ∧ k s = some b := by
  unfold goP at h
  split at h
  · exact ⟨_, _, rfl, h⟩
  · cases h
theorem goS_ok {r : Option SV} (h : goS r k = some b) : ∃ s, r = some s ∧ k s = some b := by
  unfold goS at h
  split at h
  · exact ⟨_, rfl, h⟩
  · cases h
theorem binC_ok {op : BinOp} {x y v : Value} {c : Prop} (h : binV op x y = some (c, v)) (hc : binC op x y = true) : c := by
  unfold binV at h
  split at h
  · cases op <;> simp only [binC] at hc <;> dsimp only at h <;>
      first
        | (cases h; exact ible_ok hc)
        | (split at h
           · first
               | (cases h; exact trivial)
               | (cases h; simpa using hc)
               | cases h
           · cases h)
        | cases h
  · cases op <;> simp only [binC] at hc <;> dsimp only at h <;>
      first
        | (cases h; exact trivial)
        | (cases h; have := Nat.le_of_ble_eq_true hc; show ((_ : Nat) : Int) ≤ 9223372036854775807; omega)
        | cases h
  · split at h
    · cases op <;> dsimp only at h <;> first | (cases h; exact trivial) | cases h
    · cases h
  · split at h
    · cases op <;> dsimp only at h <;> first | (cases h; exact trivial) | cases h
    · cases h
  · cases h
theorem rBinC_ok {op : BinOp} {t : TypeId} {x y : Option SV} {s : SV} {c : Prop} (h : rBin T op t x y = some (c, s)) (hc : rBinC T op t x y = true) : c := by
  unfold rBin at h
  split at h
  · split at h
    · split at h
      · cases h; exact trivial
      · cases h
    · cases h
  · rename_i x y _
    simp only [rBinC] at hc
    unfold ofV at h
    split at h
    · rename_i c' v hb
      cases h
      exact binC_ok hb hc
    · cases h
  · rename_i xs ys
    simp only [rBinC] at hc
    split at h
    · rename_i ht
      rw [lkF_eq, ht] at hc
      split at h
      · cases op <;> dsimp only at h <;> first | (cases h; exact hc) | cases h
      · cases h
    · cases h
  · cases h
theorem rIndexAddrC_ok {t : TypeId} {x i : Option SV} {s : SV} {c : Prop} (h : rIndexAddr T st t x i = some (c, s)) (hc : rIndexAddrC T st t x i = true) : c := by
  unfold rIndexAddr at h
  split at h
  · split at h
    · split at h
      · simp only [rIndexAddrC] at hc
        rename_i z l n
        generalize hb : Nat.beq _ _ = q at h
        cases q with
        | false => cases h
        | true => cases h; exact between_ok hc
      · simp only [rIndexAddrC, lkF_eq] at hc
        split at h
        · rename_i z l hj
          rw [hj] at hc
          generalize hb : Nat.beq _ _ = q at h
          cases q with
          | false => cases h
          | true => cases h; exact between_ok hc
        · cases h
      · simp only [rIndexAddrC] at hc
        rename_i z lo hi _ n
        generalize hb : Nat.beq _ _ = q at h
        cases q with
        | false => cases h
        | true => cases h; exact between_ok hc
      · cases h
    · cases h
  · rename_i ht
    split at h
    · split at h
      · simp only [rIndexAddrC, lkF_eq, ht] at hc
        cases h; exact between_ok hc
      · simp only [rIndexAddrC, lkF_eq, ht] at hc
        cases h; exact between_ok hc
      · cases h
    · cases h
  · cases h
theorem rIndexC_ok {t : TypeId} {x i : Option SV} {s : SV} {c : Prop} (h : rIndex T t x i = some (c, s)) (hc : rIndexC T t x i = true) : c := by
  unfold rIndex at h
  split at h
  · split at h
    · simp only [rIndexC] at hc
      cases h; exact between_ok hc
    · cases h
  · rename_i ht
    split at h
    · split at h
      · split at h
        · simp only [rIndexC, lkF_eq, ht] at hc
          cases h; exact between_ok hc
        · cases h
      · cases h
    · cases h
  · cases h
theorem endsC_ok {n : Nat} {lo hi : Option Operand} {l h : Int} (he : ends st n lo hi = some (l, h)) (hc : endsC st n lo hi = true) : 0 ≤ l ∧ l ≤ h ∧ h ≤ n := by
  unfold endsC at hc
  rw [he] at hc
  simp only [Bool.and_eq_true] at hc
  exact ⟨ible_ok hc.1.1, ible_ok hc.1.2, ible_ok hc.2⟩
theorem rSliceC_ok {t : TypeId} {x : Option SV} {lo hi mx : Option Operand} {s : SV} {c : Prop} (h : rSlice T st t x lo hi mx = some (c, s)) (hc : rSliceC st x lo hi = true) : c := by
  unfold rSlice at h
  split at h
  · cases h
  · split at h
    · split at h
      · simp only [rSliceC] at hc
        split at h
        · rename_i he
          cases h; exact endsC_ok he hc
        · cases h
      · cases h
    · split at h
      · split at h
        · simp only [rSliceC] at hc
          rename_i z xs
          generalize hb : Nat.beq _ _ = q at h
          cases q with
          | false => cases h
          | true =>
            simp only [cond_true] at h
            split at h
            · rename_i he
              cases h; exact endsC_ok he hc
            · cases h
        · simp only [rSliceC, lkF_eq] at hc
          split at h
          · rename_i z xs hj
            rw [hj] at hc
            generalize hb : Nat.beq _ _ = q at h
            cases q with
            | false => cases h
            | true =>
              simp only [cond_true] at h
              split at h
              · rename_i he
                cases h; exact endsC_ok he hc
              · cases h
          · cases h
        · simp only [rSliceC] at hc
          rename_i z lo0 hi0
          generalize hb : Nat.beq _ _ = q at h
          cases q with
          | false => cases h
          | true =>
            simp only [cond_true] at h
            split at h
            · rename_i he
              cases h; exact endsC_ok he hc
            · cases h
        · cases h
      · cases h
    · cases h
theorem rLoadC_ok {t : TypeId} {x : Option SV} {s : SV} {c : Prop} (h : rLoad T K st t x = some (c, s)) (hc : rLoadC st x = true) : c := by
  unfold rLoad at h
  split at h
  · split at h
    · split at h
      · cases h; exact trivial
      · cases h
    · split at h
      · cases h
      · split at h
        · split at h
          · cases h; exact trivial
          · cases h
        · cases h
    · split at h
      · cases h
      · simp only [rLoadC, lkF_eq] at hc
        split at h
        · rename_i z' l hj
          rw [hj] at hc
          rename_i z kk _ _ _
          generalize hb : Nat.beq _ _ = q at h
          cases q with
          | false => cases h
          | true =>
            simp only [cond_true] at h
            split at h
            · cases h; simpa [Nat.blt, Nat.lt_iff_add_one_le] using hc
            · cases h
        · cases h
    · cases h
  · cases h
theorem rLookupC_ok {t : TypeId} {m key : Option SV} {s : SV} {c : Prop} (h : rLookup T K st t m key = some (c, s)) (hc : rLookupC T st t m = true) : c := by
  unfold rLookup at h
  split at h
  · rename_i ht
    split at h
    · rename_i hkt _
      split at h
      · split at h
        · cases h
        · split at h
          · rename_i es hj
            simp only [rLookupC, lkF_eq, ht, hkt, hj] at hc
            generalize hb : kdOk _ _ = q at h
            cases q with
            | false => cases h
            | true => cases h; exact hc
          · cases h
      · cases h
    · cases h
  · cases h
theorem isNil_ok {t : TypeId} {ptr b : Bool} {s : SV} (h : isNil T st t ptr s = some b) (hT : TypesOk P T) {w0 : Base} {Sx : Nat → Prop} {γ : Nat → Value} {a : Act} {w : World} (hI : Sim w0 Sx γ st a w) {u : Value} (hu : RelS (okO Sx γ st.own) (hp γ st.own) w s u) :
    (ptr = false ∧ ∃ e A n c, P.underlying t = some (.slice e) ∧ u = .slice A n c ∧ A.isNone = b) ∨ (ptr = true ∧ ∃ e q, P.underlying t = some (.pointer e) ∧ u = .pointer q ∧ q.isNone = b) := by
  unfold isNil at h
  rw [lkF_eq] at h
  split at h
  · rename_i e _ _ ht
    have hd := (hT t _ ht).und
    simp only [UndOk] at hd
    refine Or.inl ⟨rfl, e, ?_⟩
    split at h
    · cases h; exact ⟨none, 0, 0, hd, hu.v_inv, rfl⟩
    · cases h
      obtain ⟨A, c, hv, hlc, hm, he, hsl⟩ := hu.p_inv.slat
      obtain ⟨b, o, rfl, _⟩ := hsl (by simp)
      exact ⟨_, _, _, hd, hv, rfl⟩
    · rw [lkF_eq] at h
      split at h
      · rename_i hj
        cases h
        obtain ⟨A, c, g1, g2, g3, g4, g5⟩ := row_slat hI.heap hj
        obtain ⟨b, o, rfl, _⟩ := g5 (by simp)
        cases hu with
        | row hg => rw [hp_some hj] at hg; cases hg; exact ⟨_, _, _, hd, g1, rfl⟩
      · cases h
    · cases h
  · rename_i ht
    have hd := (hT t _ ht).und
    simp only [UndOk] at hd
    obtain ⟨e, hd⟩ := hd
    refine Or.inr ⟨rfl, e, ?_⟩
    split at h
    · cases h; exact ⟨none, hd, hu.v_inv, rfl⟩
    · cases h
      obtain ⟨b, o, rfl⟩ := hu.p_inv.rp_form
      exact ⟨_, hd, rfl, rfl⟩
    · cases h
      obtain ⟨b, g, rfl, _⟩ := hu.ptr_form
      exact ⟨_, hd, rfl, rfl⟩
    · cases h
      obtain ⟨b, g, rfl, _⟩ := hu.eptr_form
      exact ⟨_, hd, rfl, rfl⟩
    · cases h
  · cases h
include hT in
theorem eNil_ok {op : BinOp} {t t' : TypeId} {x y : Operand} {ptr : Bool} (ho : o.op = .binOp op t x y t') (hy : evS st y = some (.p (.v (bif ptr then .pointer none else .slice none 0 0)))) (h : eNil T st op t t' ptr (evS st x) k = some b) : ∃ s, RdO P K st o s ∧ k s = some b := by
  unfold eNil at h
  split at h
  · rename_i s hx hbt
    have e1 : t = t' := Nat.eq_of_beq_eq_true hbt
    subst e1
    have key : ∀ r : Bool, isNil T st t ptr s = some r → (op = .eql → RdO P K st o (.p (.v (.bool r)))) ∧ (op = .neq → RdO P K st o (.p (.v (.bool !r)))) := by
      intro r hr
      have run : ∀ (w0 : Base) (Sx : Nat → Prop) (γ : Nat → Value) (a : Act) (w : World), Sim w0 Sx γ st a w → ∀ z, (op = .eql → (execOp a.eval o).run P z = .ok (.value (.bool r)) z) ∧ (op = .neq → (execOp a.eval o).run P z = .ok (.value (.bool !r)) z) := by
        intro w0 Sx γ a w hI z
        have hyv := (evS_ok hI hy).v_inv
        rcases isNil_ok hr hT hI (evS_ok hI hx) with ⟨rfl, e, A, n, c, hd, hv, rfl⟩ | ⟨rfl, e, q, hd, hv, rfl⟩
        · rw [cond_false] at hyv
          refine ⟨fun hop => ?_, fun hop => ?_⟩ <;> subst hop <;> simp only [execOp, ho, hv, hyv] <;> refine run_v ?_
          · have h1 : (eqGuard .eql t x y (.slice A n c) (.slice none 0 0)).run P z = .ok () z := rfl
            rw [Sem.run_bind, h1]
            simp only [Result.andThen_ok]
            simp [binOp, Op.equal, Op.maxDepth, run_equalIn_nil z 9999 t e A n c hd]
          · have h1 : (eqGuard .neq t x y (.slice A n c) (.slice none 0 0)).run P z = .ok () z := rfl
            rw [Sem.run_bind, h1]
            simp only [Result.andThen_ok]
            simp [binOp, Op.equal, Op.maxDepth, run_equalIn_nil z 9999 t e A n c hd]
        · rw [cond_true] at hyv
          have hq : ∀ d, (Op.equalIn (d + 1) t (.pointer q) (.pointer none)).run P z = .ok q.isNone z := fun d => by
            cases q <;> simp [Op.equalIn, run_underlying hd]
          refine ⟨fun hop => ?_, fun hop => ?_⟩ <;> subst hop <;> simp only [execOp, ho, hv, hyv] <;> refine run_v ?_
          · have h1 : (eqGuard .eql t x y (.pointer q) (.pointer none)).run P z = .ok () z := rfl
            rw [Sem.run_bind, h1]
            simp only [Result.andThen_ok]
            simp [binOp, Op.equal, Op.maxDepth, hq 9999]
          · have h1 : (eqGuard .neq t x y (.pointer q) (.pointer none)).run P z = .ok () z := rfl
            rw [Sem.run_bind, h1]
            simp only [Result.andThen_ok]
            simp [binOp, Op.equal, Op.maxDepth, hq 9999]
      exact ⟨fun hop w0 Sx γ a w hI => ⟨.bool r, .p (.v rfl), fun z _ => (run w0 Sx γ a w hI z).1 hop⟩, fun hop w0 Sx γ a w hI => ⟨.bool !r, .p (.v rfl), fun z _ => (run w0 Sx γ a w hI z).2 hop⟩⟩
    split at h
    · rename_i hr; exact ⟨_, (key _ hr).1 rfl, h⟩
    · rename_i hr; exact ⟨_, (key _ hr).2 rfl, h⟩
    · rename_i hr; exact ⟨_, (key _ hr).2 rfl, h⟩
    · cases h
  · cases h
include hT in
theorem eStr_ok {op : BinOp} {t t' : TypeId} {x y : Operand} {p q : ByteArray} (ho : o.op = .binOp op t x y t') (hx : evS st x = some (.p (.v (.string p)))) (hy : evS st y = some (.p (.v (.string q)))) (h : eStr op p q k = some b) : ∃ s, RdO P K st o s ∧ k s = some b := by
  have key : ∀ {c : Prop} {v : Value}, binV op (.string p) (.string q) = some (c, v) → c → RdO P K st o (.p (.v v)) := fun {c v} hv hc => by
    refine rdO_opR hT (c := c) ?_ hc
    rw [ho]
    show rBin T op t (evS st x) (evS st y) = _
    rw [hx, hy]
    show ofV (binV op (.string p) (.string q)) = _
    rw [hv]; rfl
  cases op <;> unfold eStr at h <;> dsimp only at h <;> first
    | (cases h; done)
    | (rw [fBool_eq, sEq_ok, ← toList_data, ← toList_data] at h; exact ⟨_, key rfl trivial, h⟩)
    | (rw [fBool_eq, ← toList_data, ← toList_data] at h; exact ⟨_, key rfl trivial, h⟩)
    | skip
  · cases hc : Nat.ble (p.size + q.size) 9223372036854775807 with
    | false => rw [hc] at h; cases h
    | true =>
      rw [hc, cond_true, fList_eq] at h
      have e : (⟨⟨p.data.toList ++ q.data.toList⟩⟩ : ByteArray) = p ++ q := by
        apply ByteArray.ext
        rw [ByteArray.data_append]
        apply Array.toList_inj.1
        simp
      rw [e] at h
      refine ⟨_, key (v := .string (p ++ q)) rfl ?_, h⟩
      have := Nat.le_of_ble_eq_true hc
      show ((_ : Nat) : Int) ≤ 9223372036854775807; omega
include hT in
theorem eIfc_ok {op : BinOp} {t t' : TypeId} {x y : Operand} (ho : o.op = .binOp op t x y t') (hc : isConst y = true) (hy : evS st y = some (.p (.v .nilIface))) (h : eIfc T op t t' (evS st x) k = some b) : ∃ s, RdO P K st o s ∧ k s = some b := by
  unfold eIfc at h
  rw [lkF_eq] at h
  split at h
  · rename_i hx ht hbt
    have e1 : t = t' := Nat.eq_of_beq_eq_true hbt
    subst e1
    have hd := (hT t _ ht).und
    simp only [UndOk] at hd
    obtain ⟨m, hd⟩ := hd
    have hyc : ∃ v, y = .const v := by cases y <;> first | exact ⟨_, rfl⟩ | cases hc
    obtain ⟨yv, rfl⟩ := hyc
    have run : ∀ (w0 : Base) (Sx : Nat → Prop) (γ : Nat → Value) (a : Act) (w : World), Sim w0 Sx γ st a w → ∀ z, (op = .eql → (execOp a.eval o).run P z = .ok (.value (.bool true)) z) ∧ (op = .neq → (execOp a.eval o).run P z = .ok (.value (.bool false)) z) := by
      intro w0 Sx γ a w hI z
      have hyv := (evS_ok hI hy).v_inv
      have hxv := (evS_ok hI hx).v_inv
      have hq : ∀ d, (Op.equalIn (d + 1) t .nilIface .nilIface).run P z = .ok true z := fun d => by simp [Op.equalIn, run_underlying hd]
      refine ⟨fun hop => ?_, fun hop => ?_⟩ <;> subst hop <;> simp only [execOp, ho, hxv, hyv] <;> refine run_v ?_
      · have h1 : (eqGuard .eql t x (.const yv) .nilIface .nilIface).run P z = .ok () z := by simp [eqGuard]
        rw [Sem.run_bind, h1]
        simp only [Result.andThen_ok]
        simp [binOp, Op.equal, Op.maxDepth, hq 9999]
      · have h1 : (eqGuard .neq t x (.const yv) .nilIface .nilIface).run P z = .ok () z := by simp [eqGuard]
        rw [Sem.run_bind, h1]
        simp only [Result.andThen_ok]
        simp [binOp, Op.equal, Op.maxDepth, hq 9999]
    split at h
    · exact ⟨_, fun w0 Sx γ a w hI => ⟨.bool true, .p (.v rfl), fun z _ => (run w0 Sx γ a w hI z).1 rfl⟩, h⟩
    · exact ⟨_, fun w0 Sx γ a w hI => ⟨.bool false, .p (.v rfl), fun z _ => (run w0 Sx γ a w hI z).2 rfl⟩, h⟩
    · cases h
  · cases h
include hT in
theorem eBin_ok {op : BinOp} {t t' : TypeId} {x y : Operand} (ho : o.op = .binOp op t x y t') (h : eBin T st op t t' (isConst y) (evS st x) (evS st y) k = some b) : ∃ s, RdO P K st o s ∧ k s = some b := by
  unfold eBin at h
  split at h
  · rename_i hx hy; exact eStr_ok hT ho hx hy h
  · rename_i hy; exact eNil_ok hT ho (ptr := false) hy h
  · rename_i hy; exact eNil_ok hT ho (ptr := true) hy h
  · rename_i hy
    cases hc : isConst y with
    | false => rw [hc] at h; cases h
    | true => rw [hc] at h; exact eIfc_ok hT ho hc hy h
  · obtain ⟨p, s, h1, h2, h3⟩ := goF_ok h
    exact ⟨s, rdO_opR hT (by rw [ho]; exact h1) (rBinC_ok h1 h2), h3⟩
include hT in
theorem eIndex_ok {t : TypeId} {x i : Operand} (ho : o.op = .index t x i) (h : eIndex T t (evS st x) (evS st i) k = some b) : ∃ s, RdO P K st o s ∧ k s = some b := by
  unfold eIndex at h
  split at h
  · rename_i q q' n hx hi
    rw [lkF_eq] at h
    split at h
    · rename_i ht
      split at h
      · rename_i c hc
        cases hb : between n q.size with
        | false => rw [hb] at h; cases h
        | true =>
          rw [hb, cond_true, fNat_eq] at h
          have e : byteAt q n.toNat = Int.ofNat c.toNat := by
            unfold byteAt
            rw [Array.getElem?_toList] at hc
            rw [Array.getD_eq_getD_getElem?, hc]; rfl
          refine ⟨_, rdO_opR hT (c := 0 ≤ n ∧ n < q.size) ?_ (between_ok hb), h⟩
          rw [ho, ← e]
          show rIndex T t (evS st x) (evS st i) = _
          rw [hx, hi]
          unfold rIndex
          rw [ht]
      · cases h
    · cases h
  · obtain ⟨p, s, h1, h2, h3⟩ := goF_ok h
    exact ⟨s, rdO_opR hT (by rw [ho]; exact h1) (rIndexC_ok h1 h2), h3⟩
include hT in
theorem eSlice_ok {t : TypeId} {x : Operand} {lo hi mx : Option Operand} (ho : o.op = .slice t x lo hi mx) (h : eSlice T st t (evS st x) lo hi mx k = some b) : ∃ s, RdO P K st o s ∧ k s = some b := by
  unfold eSlice at h
  split at h
  · rename_i q hx
    split at h
    · rename_i l r ht he
      rw [lkF_eq] at ht
      cases hb : ((ible 0 l && ible l r) && ible r (.ofNat q.size)) with
      | false => rw [hb] at h; cases h
      | true =>
        rw [hb, cond_true, fList_eq] at h
        simp only [Bool.and_eq_true] at hb
        have hc : 0 ≤ l ∧ l ≤ r ∧ r ≤ q.size := ⟨ible_ok hb.1.1, ible_ok hb.1.2, ible_ok hb.2⟩
        have e : (⟨⟨(q.data.toList.drop l.toNat).take (r.toNat - l.toNat)⟩⟩ : ByteArray) = q.extract l.toNat r.toNat := by
          apply ByteArray.ext
          rw [ByteArray.data_extract]
          apply Array.toList_inj.1
          simp [List.extract_eq_take_drop]
        rw [e] at h
        refine ⟨_, rdO_opR hT (c := 0 ≤ l ∧ l ≤ r ∧ r ≤ q.size) ?_ hc, h⟩
        rw [ho]
        show rSlice T st t (evS st x) lo hi none = _
        rw [hx]
        unfold rSlice
        rw [ht]
        simp only [he]
    · cases h
  · rename_i hx
    split at h
    · unfold eSliceX at h
      rw [lkF_eq] at h
      split at h
      · rename_i e _ _ ht
        have hd := (hT t _ ht).und
        simp only [UndOk] at hd
        split at h
        · rename_i l r _ he
          rw [lkF_eq] at h
          cases hb : ((lk e T).isSome && (ible 0 l && ible l r && ible r 0)) with
          | false => rw [hb] at h; cases h
          | true =>
            rw [hb, cond_true] at h
            simp only [Bool.and_eq_true] at hb
            obtain ⟨ei, hei⟩ := Option.isSome_iff_exists.1 hb.1
            have hc : 0 ≤ l ∧ l ≤ r ∧ r ≤ ((0 : Nat) : Int) := ⟨ible_ok hb.2.1.1, ible_ok hb.2.1.2, ible_ok hb.2.2⟩
            have hi' := hT e ei hei
            have hl0 : l.toNat = 0 := by omega
            have hr0 : r.toNat = 0 := by omega
            refine ⟨_, RdO.of_sem (sem := fun a => Instr.sliceAt t (a.eval x) (lo.map a.eval) (hi.map a.eval) none) (fun a => by simp only [execOp, ho, Option.map_none]) fun w0 Sx γ a w hI => ?_, h⟩
            rw [(evS_ok hI hx).v_inv]
            refine rd_now (v := .slice none 0 0) (.p (.v rfl)) fun z => ?_
            simp only [Instr.sliceAt, Instr.slice, Sem.run_bind, run_underlying hd, Result.andThen_ok, Option.map_none, ends_ok hI (P := P) (isSlice := true) he hc (Nat.le_refl _) z, Sem.run_pure, hi'.size z, hl0, hr0]
            rfl
        · cases h
      · cases h
    · cases h
  · obtain ⟨p, s, h1, h2, h3⟩ := goF_ok h
    exact ⟨s, rdO_opR hT (by rw [ho]; exact h1) (rSliceC_ok h1 h2), h3⟩
theorem bytesOf_get : ∀ {l : List (List PV)} {bs : List UInt8}, bytesOf l = some bs → bs.length = l.length ∧ ∀ i : Nat, i < l.length → ∃ n : Int, l[i]? = some [.v (.int .u8 n)] ∧ bs[i]? = some (UInt8.ofNat n.toNat)
  | [], bs, h => by simp only [bytesOf, Option.some.injEq] at h; subst h; exact ⟨rfl, fun i hi => by simp at hi⟩
  | c :: r, bs, h => by
    unfold bytesOf at h
    split at h
    · rename_i b hb
      split at h
      · rename_i l hl
        simp only [Option.some.injEq] at h
        subst h
        obtain ⟨h1, h2⟩ := bytesOf_get hl
        refine ⟨by simp [h1], fun i hi => ?_⟩
        cases i with
        | zero =>
          unfold byteOf at hb
          split at hb
          · rename_i n
            cases hb; exact ⟨n, rfl, rfl⟩
          · cases hb
        | succ i =>
          obtain ⟨n, g1, g2⟩ := h2 i (by simpa using hi)
          exact ⟨n, by simpa using g1, by simpa using g2⟩
      · cases h
    · cases h
theorem push_fold : ∀ (ns : List Int) (s : ByteArray), ns.foldl (fun r n => r.push (UInt8.ofNat n.toNat)) s = ⟨⟨s.data.toList ++ ns.map fun n => UInt8.ofNat n.toNat⟩⟩
  | [], s => by
    apply ByteArray.ext
    apply Array.toList_inj.1
    simp
  | n :: ns, s => by
    rw [List.foldl_cons, push_fold ns]
    apply ByteArray.ext
    apply Array.toList_inj.1
    simp [ByteArray.push]
/-- bytes out of memory as a text -/
theorem run_text {sT dT e : TypeId} {A : Option Addr} {c : Nat} {l : List (List PV)} {bs : List UInt8} {x : World} (hs : P.underlying sT = some (.slice e)) (he : P.underlying e = some (.int .u8)) (hd : P.underlying dT = some .string) (hl : bytesOf l = some bs)
    (h : 0 < l.length → ∃ b o, A = some ⟨b, o, none⟩ ∧ ∀ i n, l[i]? = some [.v (.int .u8 n)] → x.cell? ⟨b, o + i, none⟩ = some (.int .u8 n)) :
    (convert sT dT (.slice A l.length c)).run P x = .ok (.string ⟨⟨bs⟩⟩) x := by
  rw [run_convert_bytes_string x sT dT e A l.length c hs he hd]
  obtain ⟨g1, g2⟩ := bytesOf_get hl
  cases A with
  | none =>
    have : l = [] := by
      rcases Nat.eq_zero_or_pos l.length with h0 | h0
      · exact List.eq_nil_of_length_eq_zero h0
      · obtain ⟨b, o, hA, _⟩ := h h0; cases hA
    subst this
    have : bs = [] := List.eq_nil_of_length_eq_zero g1
    subst this
    simp [Conv.bytesToString]; rfl
  | some ad =>
    have hex : ∀ i : Nat, ∃ n : Int, i < l.length → l[i]? = some [.v (.int .u8 n)] ∧ bs[i]? = some (UInt8.ofNat n.toNat) := fun i => by
      by_cases hi : i < l.length
      · obtain ⟨n, h1⟩ := g2 i hi; exact ⟨n, fun _ => h1⟩
      · exact ⟨0, fun h => absurd h hi⟩
    obtain ⟨f, hf⟩ := Classical.axiomOfChoice hex
    have hbs : bs = ((List.range l.length).map f).map fun n => UInt8.ofNat n.toNat := by
      refine List.ext_getElem? fun i => ?_
      by_cases hi : i < l.length
      · rw [(hf i hi).2]; simp [hi]
      · rw [List.getElem?_eq_none (by omega), List.getElem?_eq_none (by simp; omega)]
    have hcells : ∀ j v, (((List.range l.length).map f).map (Value.int .u8))[j]? = some v → x.cell? (ad.add j) = some v := fun j v hv => by
      have hj : j < l.length := by have := (List.getElem?_eq_some_iff.1 hv).1; simpa using this
      obtain ⟨b, o, hA, hx⟩ := h (by omega)
      cases hA
      rw [add_none]
      simp [hj] at hv
      rw [← hv]
      exact hx j _ (hf j hj).1
    have h1 := run_loadCells_list (P := P) x ad _ hcells
    rw [List.length_map, List.length_map, List.length_range] at h1
    rw [run_bytesToString x ad l.length c _ h1, push_fold, hbs]
    rfl
include hT in
theorem eConv_ok {sT dT : TypeId} {x : Operand} (ho : o.op = .convert sT dT x) (h : eConv T K st sT dT (evS st x) k = some b) : ∃ s, RdO P K st o s ∧ k s = some b := by
  have put : ∀ {l : List (List PV)}, eText T sT dT l k = some b → (∀ (w0 : Base) (Sx : Nat → Prop) (γ : Nat → Value) (a : Act) (w : World), Sim w0 Sx γ st a w → ∃ A c, a.eval x = .slice A l.length c ∧ ∀ z, SameOn (vis K γ st.own) w z → 0 < l.length → ∃ b o, A = some ⟨b, o, none⟩ ∧ ∀ i n, l[i]? = some [.v (.int .u8 n)] → z.cell? ⟨b, o + i, none⟩ = some (.int .u8 n)) →
      ∃ s, RdO P K st o s ∧ k s = some b := fun {l} h hx => by
    unfold eText at h
    rw [lkF_eq, lkF_eq] at h
    split at h
    · rename_i e _ _ _ _ _ _ hs hd
      rw [lkF_eq] at h
      split at h
      · rename_i bs he hbs
        rw [fList_eq] at h
        have us := (hT sT _ hs).und
        have ud := (hT dT _ hd).und
        have ue := (hT e _ he).und
        simp only [UndOk] at us ud ue
        refine ⟨_, RdO.of_sem (sem := fun a => convert sT dT (a.eval x)) (fun a => by simp only [execOp, ho]) fun w0 Sx γ a w hI => ?_, h⟩
        obtain ⟨A, c, ha, hc⟩ := hx w0 Sx γ a w hI
        exact ⟨_, .p (.v rfl), fun z hz => by rw [ha]; exact run_text us ue ud hbs (hc z hz)⟩
      · cases h
    · cases h
  unfold eConv at h
  split at h
  · rename_i zz l hx
    refine put h fun w0 Sx γ a w hI => ?_
    have hr := (evS_ok hI hx).p_inv
    obtain ⟨A, c, hv, _⟩ := hr.slat
    refine ⟨A, c, hv, fun z hz hl => ?_⟩
    have hrz : RelP (okO Sx γ st.own) z (.sl zz l) (a.eval x) := hr.keep (hz.weak fun b _ hok => okO_vis hok)
    obtain ⟨A2, c2, hv2, _, _, he, hsl⟩ := hrz.slat
    rw [hv] at hv2
    cases hv2
    obtain ⟨b, o, hA, _, _, hc⟩ := hsl hl
    refine ⟨b, o, hA, fun i n hi => ?_⟩
    have hil : i < l.length := (List.getElem?_eq_some_iff.1 hi).1
    have hz1 : zz = 1 := by have := (he _ (List.mem_of_getElem? hi)).1; simpa using this.symm
    obtain ⟨cs, q1, q2, q3⟩ := hc i hil
    have hli : l[i] = [.v (.int .u8 n)] := by rw [List.getElem?_eq_getElem hil] at hi; exact Option.some.inj hi
    rw [hli] at q3
    have hcl : cs.length = 1 := q3.1
    have hcs : ∃ u, cs = [u] := by
      match cs, hcl with
      | [u], _ => exact ⟨u, rfl⟩
    obtain ⟨u, rfl⟩ := hcs
    have hu := valP_ok (q3.2 0 _ u rfl rfl) rfl
    subst hu
    have := q2 0 _ rfl
    rw [hz1, Nat.mul_one, Nat.add_zero] at this
    exact this
  · rename_i hx
    refine put h fun w0 Sx γ a w hI => ⟨none, 0, (evS_ok hI hx).v_inv, fun z _ hl => by simp at hl⟩
  · rename_i j hx
    cases hK : K.contains j with
    | true => rw [hK] at h; cases h
    | false =>
      rw [hK, cond_false, lkF_eq] at h
      split at h
      · rename_i e zz l hj
        refine put h fun w0 Sx γ a w hI => ?_
        have hr := evS_ok hI hx
        obtain ⟨A, c, g1, g2, g3, g4, g5⟩ := row_slat hI.heap hj
        have ha : a.eval x = γ j := by
          generalize a.eval x = u at hr
          cases hr with
          | row hg => rw [hp_some hj] at hg; cases hg; rfl
        refine ⟨A, c, by rw [ha, g1], fun z hz hl => ?_⟩
        obtain ⟨b, o, hA, hlt, hc⟩ := g5 hl
        refine ⟨b, o, hA, fun i n hi => ?_⟩
        have hil : i < l.length := (List.getElem?_eq_some_iff.1 hi).1
        have hz1 : zz = 1 := by have := (g4 _ (List.mem_of_getElem? hi)).1; simpa using this.symm
        obtain ⟨cs, q1, q2, q3, q4⟩ := hc i hil
        have hli : l[i] = [.v (.int .u8 n)] := by rw [List.getElem?_eq_getElem hil] at hi; exact Option.some.inj hi
        rw [hli] at q4
        have hcs : ∃ u, cs = [u] := by
          match cs, (q4.1 : cs.length = 1) with
          | [u], _ => exact ⟨u, rfl⟩
        obtain ⟨u, rfl⟩ := hcs
        have hu := valP_ok (q4.2 0 _ u rfl rfl) rfl
        subst hu
        have := q2 0 _ rfl
        rw [hz1, Nat.mul_one, Nat.add_zero] at this
        have hbj : blkOf (γ j) = some b := by rw [g1, hA]; rfl
        rw [World.cell?_of_block (w := w) (a := ⟨b, o + i, none⟩) (hz.block b hlt fun i2 bx h1 h2 h3 => ?_)]
        · exact this
        · have := hI.heap.inj i2 j _ _ b h1 hj h3 hbj
          subst this
          rw [hK] at h2; cases h2
      · cases h
  · obtain ⟨p, s, h1, _, h3⟩ := goF_ok h
    refine ⟨s, rdO_opR hT (by rw [ho]; exact h1) ?_, h3⟩
    unfold rConv at h1
    repeat' split at h1
    all_goals first | (cases h1; done) | (cases h1; exact trivial)
include hT in
theorem eCall_ok {c : Call} (ho : o.op = .call c) (h : eCall T st c k = some b) : ∃ s, RdO P K st o s ∧ k s = some b := by
  unfold eCall at h
  simp only [evF_eq] at h
  have put : ∀ {r : Option (Prop × SV)}, opR T K st (.call c) = r → (∀ p s, r = some (p, s) → p) → goF r true k = some b → ∃ s, RdO P K st o s ∧ k s = some b := fun {r} he hp h => by
    obtain ⟨p, s, h1, _, h3⟩ := goF_ok h
    exact ⟨s, rdO_opR hT (by rw [ho, he]; exact h1) (hp p s h1), h3⟩
  split at h
  · rename_i hcl
    split at h
    · rename_i hargs hts
      refine put ?_ (fun p s hr => ?_) h
      · simp only [opR, hcl, hargs, hts]
      · unfold rLen at hr
        repeat' split at hr
        all_goals first | (cases hr; done) | (cases hr; exact trivial)
    · cases h
  · rename_i hcl
    split at h
    · rename_i hargs
      refine put ?_ (fun p s hr => ?_) h
      · simp only [opR, hcl, hargs]
      · unfold rMinMax at hr
        repeat' split at hr
        all_goals first | (cases hr; done) | (cases hr; exact trivial)
    · cases h
  · rename_i hcl
    split at h
    · rename_i hargs
      refine put ?_ (fun p s hr => ?_) h
      · simp only [opR, hcl, hargs]
      · unfold rMinMax at hr
        repeat' split at hr
        all_goals first | (cases hr; done) | (cases hr; exact trivial)
    · cases h
  · rename_i hcl
    split at h
    · rename_i hargs
      obtain ⟨p, s, h1, h3⟩ := goP_ok h
      refine ⟨s, rdO_opR hT (c := p) (by rw [ho]; simp only [opR, hcl, hargs]; exact h1) ?_, h3⟩
      unfold rReal at h1
      repeat' split at h1
      all_goals first | (cases h1; done) | (cases h1; exact trivial)
    · cases h
  · rename_i hcl
    split at h
    · rename_i hargs
      obtain ⟨p, s, h1, h3⟩ := goP_ok h
      refine ⟨s, rdO_opR hT (c := p) (by rw [ho]; simp only [opR, hcl, hargs]; exact h1) ?_, h3⟩
      unfold rImag at h1
      repeat' split at h1
      all_goals first | (cases h1; done) | (cases h1; exact trivial)
    · cases h
  · rename_i hcl
    split at h
    · rename_i hargs
      obtain ⟨p, s, h1, h3⟩ := goP_ok h
      refine ⟨s, rdO_opR hT (c := p) (by rw [ho]; simp only [opR, hcl, hargs]; exact h1) ?_, h3⟩
      unfold rCplx at h1
      repeat' split at h1
      all_goals first | (cases h1; done) | (cases h1; exact trivial)
    · cases h
  · cases h
include hT in
theorem opE_ok (h : opE T K st o.op k = some b) : ∃ s, RdO P K st o s ∧ k s = some b := by
  unfold opE at h
  simp only [evF_eq] at h
  have yes_of : ∀ {r : Option (Prop × SV)}, (∀ p s, r = some (p, s) → p) → opR T K st o.op = r → goF r true k = some b → ∃ s, RdO P K st o s ∧ k s = some b := fun {r} hp he h => by
    obtain ⟨p, s, h1, _, h3⟩ := goF_ok h
    exact ⟨s, rdO_opR hT (he.trans h1) (hp p s h1), h3⟩
  split at h
  · rename_i x ho
    obtain ⟨s, h1, h2⟩ := goS_ok h
    exact ⟨s, rdO_opR hT (c := True) (by rw [ho]; simp only [opR, h1]; rfl) trivial, h2⟩
  · rename_i x ho
    obtain ⟨s, h1, h2⟩ := goS_ok h
    exact ⟨s, rdO_opR hT (c := True) (by rw [ho]; simp only [opR, h1]; rfl) trivial, h2⟩
  · rename_i c x y ho
    obtain ⟨p, s, h1, h2⟩ := goP_ok h
    refine ⟨s, rdO_opR hT (c := p) (by rw [ho]; exact h1) ?_, h2⟩
    unfold rPick at h1
    repeat' split at h1
    all_goals first | (cases h1; done) | (cases h1; exact trivial)
  · rename_i ho; exact eBin_ok hT ho h
  · rename_i op t x ho
    unfold eUn at h
    split at h
    · rename_i v hx
      split at h
      · rename_i v' hv
        rw [fVal_eq] at h
        exact ⟨_, rdO_opR hT (c := True) (by rw [ho]; simp only [opR, hx, hv]; rfl) trivial, h⟩
      · cases h
    · cases h
  · rename_i ho; exact eConv_ok hT ho h
  · rename_i ho
    refine yes_of (fun p s hr => ?_) (by rw [ho]; rfl) h
    unfold rField at hr
    repeat' split at hr
    all_goals first | (cases hr; done) | (cases hr; exact trivial)
  · rename_i ho
    refine yes_of (fun p s hr => ?_) (by rw [ho]; rfl) h
    unfold rFieldAddr at hr
    split at hr
    · split at hr
      · split at hr
        · generalize Nat.beq _ _ = q at hr
          cases q with
          | true => cases hr
          | false =>
            rw [cond_false] at hr
            split at hr
            all_goals first | (cases hr; done) | (cases hr; exact trivial)
        · cases hr
      · cases hr
    · cases hr
  · rename_i ho
    obtain ⟨p, s, h1, h2, h3⟩ := goF_ok h
    exact ⟨s, rdO_opR hT (by rw [ho]; exact h1) (rIndexAddrC_ok h1 h2), h3⟩
  · rename_i ho; exact eIndex_ok hT ho h
  · rename_i ho; exact eSlice_ok hT ho h
  · rename_i ho
    obtain ⟨p, s, h1, h2, h3⟩ := goF_ok h
    exact ⟨s, rdO_opR hT (by rw [ho]; exact h1) (rLoadC_ok h1 h2), h3⟩
  · rename_i x n ho
    unfold eExtract at h
    split at h
    · rename_i cs hx
      obtain ⟨s, h1, h2⟩ := goS_ok h
      exact ⟨s, rdO_opR hT (c := True) (by rw [ho]; simp only [opR, hx, h1]; rfl) trivial, h2⟩
    · cases h
  · rename_i f first caps ho
    unfold eFn at h
    obtain ⟨p, s, h1, _, h3⟩ := goF_ok h
    refine ⟨s, rdO_opR hT (by rw [ho]; exact h1) ?_, h3⟩
    cases f with
    | func f =>
      simp only [opR] at h1
      repeat' split at h1
      all_goals first | (cases h1; done) | (cases h1; exact trivial)
    | _ => simp only [opR] at h1; cases h1
  · rename_i ho; exact eCall_ok hT ho h
  · rename_i ho
    obtain ⟨p, s, h1, h2, h3⟩ := goF_ok h
    exact ⟨s, rdO_opR hT (by rw [ho]; exact h1) (rLookupC_ok h1 h2), h3⟩
  · rename_i ho
    unfold eFn at h
    obtain ⟨p, s, h1, _, h3⟩ := goF_ok h
    refine ⟨s, rdO_opR hT (by rw [ho]; exact h1) ?_, h3⟩
    have h1 : rBuild T st _ _ = some (p, s) := h1
    unfold rBuild at h1
    split at h1
    · generalize (_ && _) = q at h1
      cases q with
      | false => cases h1
      | true =>
        rw [cond_true] at h1
        split at h1
        all_goals first | (cases h1; done) | (cases h1; exact trivial)
    · cases h1
  · rename_i ho
    unfold eFn at h
    obtain ⟨p, s, h1, _, h3⟩ := goF_ok h
    refine ⟨s, rdO_opR hT (by rw [ho]; exact h1) ?_, h3⟩
    simp only [opR] at h1
    split at h1
    all_goals first | (cases h1; done) | (cases h1; exact trivial)
  · cases h
end
/-! ### Operations that make or write -/
section
variable {P : Program} {T : TT} (hT : TypesOk P T) {st : St} {o : Oper} {β : Type} {k : List Nat → St → Option β} {b : β}
theorem blt_lt {a b : Nat} (h : Nat.blt a b = true) : a < b := by simpa [Nat.blt, Nat.lt_iff_add_one_le] using h
theorem newBox_ok {d : Nat} {s : SV} {bx : Box} (h : newBox st d s bx k = some b) : lk d st.own = none ∧ Nat.blt d st.n = true ∧ k [] ⟨st.n, (d, s) :: st.fr, (d, bx) :: st.own⟩ = some b := by
  unfold newBox at h
  rw [lkF_eq] at h
  cases hb : ((lk d st.own).isNone && Nat.blt d st.n) with
  | false => rw [hb] at h; cases h
  | true =>
    rw [hb, cond_true, fBox_eq, fN_eq] at h
    simp only [Bool.and_eq_true] at hb
    exact ⟨Option.isNone_iff_eq_none.1 hb.1, hb.2, h⟩
/-- what a step comes to -/
def Goes (P : Program) (st : St) (o : Oper) (k : List Nat → St → Option β) (b : β) : Prop := ∃ Ws st', ActOk P Ws o st (fun s => s = st') ∧ k Ws st' = some b
include hT in
theorem allocE_ok {e : TypeId} (ho : o.op = .alloc e) (h : allocE T st o.dst e k = some b) : Goes P st o k b := by
  unfold allocE at h
  rw [lkF_eq] at h
  split at h
  · rename_i d i hd hi
    cases hz : i.zero.all plain with
    | false => rw [hz] at h; cases h
    | true =>
      rw [hz, cond_true] at h
      obtain ⟨h1, h2, h3⟩ := newBox_ok h
      exact ⟨_, _, act_alloc hT ho hd hi hz h1 h2 rfl, h3⟩
  · cases h
theorem boxE_ok {e : TypeId} {x : Operand} (ho : o.op = .box e x) (h : boxE st o.dst (evS st x) k = some b) : Goes P st o k b := by
  unfold boxE at h
  split at h
  · rename_i d s hd hx
    split at h
    · rename_i cs hc
      cases hz : cs.all oneS with
      | false => rw [hz] at h; cases h
      | true =>
        rw [hz, cond_true] at h
        obtain ⟨h1, h2, h3⟩ := newBox_ok h
        exact ⟨_, _, act_box ho hd hx hc hz h1 h2 rfl, h3⟩
    · cases h
  · cases h
theorem ActOk.frz {Ws : List Nat} {Q : St → Prop} {i : Nat} {e : TypeId} {z : Nat} {l : List (List PV)} (hk : lk i st.own = some (.row e z l)) (h : ActOk P Ws o (st.frz i z l) Q) : ActOk P Ws o st Q := by
  intro w0 Sx γ a w QQ hI
  have old : ∀ {j bx}, lk j (st.frz i z l).own = some bx → ∃ b0, lk j st.own = some b0 := fun {j bx} hj => by
    have hj : lk j ((del i st.own).map fun p => (p.1, p.2.frz i z l)) = some bx := hj
    rw [lk_map, lk_del] at hj
    split at hj
    · cases hj
    · obtain ⟨b0, h1, _⟩ := Option.map_eq_some_iff.1 hj
      exact ⟨b0, h1⟩
  have hv : ∀ K b, vis K γ st.own b → vis K γ (st.frz i z l).own b := fun K b hv j bx hj hK hb => by
    obtain ⟨b0, h1⟩ := old hj
    exact hv j b0 h1 hK hb
  refine Oper.wp_mono (fun a' w' hq => ?_) (h w0 Sx γ a w QQ (sim_frz hk hI))
  obtain ⟨γ', st', h1, h2, h3, h4⟩ := hq
  exact ⟨γ', st', h1, h2, ⟨h3.size, fun b hb hv' => h3.block b hb (hv _ b hv')⟩, fun K hK b hb hv' => h4 K hK b hb (hv K b hv')⟩
theorem frzAll_ok {k : St → Option β} : ∀ {ids : List Nat} {st : St}, frzAll ids st k = some b → ∃ st1, (∀ Ws Q, ActOk P Ws o st1 Q → ActOk P Ws o st Q) ∧ k st1 = some b
  | [], st, h => ⟨st, fun _ _ h => h, h⟩
  | i :: r, st, h => by
    unfold frzAll at h
    rw [lkF_eq] at h
    split at h
    · rename_i hi
      rw [fSt_eq] at h
      obtain ⟨st1, h1, h2⟩ := frzAll_ok h
      exact ⟨st1, fun Ws Q hQ => ActOk.frz hi (h1 Ws Q hQ), h2⟩
    · exact frzAll_ok h
include hT in
theorem buildE_ok {t : TypeId} {len : Nat} {parts : Array (Nat × Operand)} {xs : List Operand} (ho : o.op = .buildSlice t len parts) (hp : seqParts 0 parts.toList = some xs) (h : buildE T st o.dst t len xs k = some b) : Goes P st o k b := by
  unfold buildE at h
  rw [lkF_eq] at h
  split at h
  · rename_i d _ _ e _ _ ss hd ht hss
    rw [lkF_eq] at h
    split at h
    · rename_i ei hei
      cases hb : (Nat.blt 0 ei.size && Nat.ble (len * ei.size) 16777216 && Nat.beq xs.length len) with
      | false => rw [hb] at h; cases h
      | true =>
        rw [hb, cond_true, fNats_eq] at h
        simp only [Bool.and_eq_true] at hb
        obtain ⟨st1, h1, h2⟩ := frzAll_ok (P := P) (o := o) h
        split at h2
        · rename_i l hl
          rw [fEls_eq] at h2
          obtain ⟨g1, g2, g3⟩ := newBox_ok h2
          exact ⟨_, _, h1 _ _ (act_buildSlice hT ho hd ht rfl hei hb.1.1 hb.1.2 hp hb.2 hl g1 g2 rfl), g3⟩
        · cases h2
    · cases h
  · cases h
include hT in
theorem storeE_ok {t : TypeId} {ad x : Operand} (ho : o.op = .store t ad x) (hdst : o.dst = none) (h : storeE T st t (evS st ad) (evS st x) k = some b) : Goes P st o k b := by
  unfold storeE at h
  rw [lkF_eq] at h
  split at h
  · rename_i ti j off s ht had hx
    rw [lkF_eq] at h
    split at h
    · rename_i cs xs hj hc
      cases hb : (xs.all oneS && Nat.beq xs.length ti.size && Nat.ble (off + xs.length) cs.length) with
      | false => rw [hb] at h; cases h
      | true =>
        rw [hb, cond_true, fOnes_eq, fOwn_eq, fN_eq] at h
        simp only [Bool.and_eq_true] at hb
        exact ⟨_, _, act_store hT ho hdst ht had hj hx hc hb.1.1 hb.1.2 hb.2 rfl, h⟩
    · cases h
  · rename_i ti j z i off s ht had hx
    rw [lkF_eq] at h
    split at h
    · rename_i e z' l xs hj hc
      cases hb : (Nat.beq z z' && xs.all oneP && Nat.beq xs.length ti.size && Nat.ble (off + xs.length) z && Nat.blt i l.length) with
      | false => rw [hb] at h; cases h
      | true =>
        rw [hb, cond_true, fLeafs_eq, fList_eq, fOwn_eq, fN_eq] at h
        simp only [Bool.and_eq_true] at hb
        have ez : z = z' := Nat.eq_of_beq_eq_true hb.1.1.1.1
        subst ez
        exact ⟨_, _, act_store_elem hT ho hdst ht had hj (blt_lt hb.2) hx hc hb.1.1.1.2 hb.1.1.2 hb.1.2 rfl, h⟩
    · cases h
  · cases h
include hT in
theorem mapE_ok {t : TypeId} {m key x : Operand} (ho : o.op = .mapUpdate t m key x) (hdst : o.dst = none) (h : mapE T st t (evS st m) (evS st key) (evS st x) k = some b) : Goes P st o k b := by
  unfold mapE at h
  rw [lkF_eq] at h
  split at h
  · rename_i _ _ kt et _ _ j kv p ht hm hkv hx
    rw [lkF_eq, lkF_eq] at h
    split at h
    · rename_i ki es hki hj
      cases hb : (kdOk ki.d kv && es.all (fun x => kdOk ki.d x.1) && (mfind kv es).isNone) with
      | false => rw [hb] at h; cases h
      | true =>
        rw [hb, cond_true, fMap_eq, fOwn_eq, fN_eq] at h
        simp only [Bool.and_eq_true] at hb
        exact ⟨_, _, act_mapUpdate hT ho hdst ht rfl hki hm hj hkv hb.1.1 hb.1.2 (Option.isNone_iff_eq_none.1 hb.2) hx rfl, h⟩
    · cases h
  · cases h
section
variable {sx xx : Operand} {t e : TypeId} {cl : Call} (ho : o.op = .call cl) (hcl : cl.callee = .builtin .append) (hargs : cl.args.toList = [sx, xx]) (hts : cl.argTypes.toList = [t, t]) {d : Nat} (hdst : o.dst = some d)
  {ti ei : TyI} (ht : lk t T = some ti) (hte : ti.d = .sl e) (he : lk e T = some ei) (hsz : Nat.blt 0 ei.size = true) (hz : Nat.beq ei.zero.length ei.size = true)
include hT ho hcl hargs hts hdst ht hte he hsz hz
theorem appNil_ok (hs : evS st sx = some (.p (.v (.slice none 0 0)))) (h : appNil st d e ei (evS st xx) k = some b) : Goes P st o k b := by
  unfold appNil at h
  split at h
  · rename_i s2 hx
    split at h
    · rename_i l2 hl2
      cases hc : Nat.ble (l2.length * ei.bytes) 140737488355328 with
      | false => rw [hc] at h; cases h
      | true =>
        rw [hc, cond_true] at h
        obtain ⟨g1, g2, g3⟩ := newBox_ok h
        exact ⟨_, _, act_append_nil hT ho hcl hargs hts hdst ht hte he hsz hz hs hx hl2 g1 g2 (Nat.le_of_ble_eq_true hc) rfl, g3⟩
    · cases h
  · cases h
theorem appRow_ok {k : St → Option β} {j : Nat} (hn : Nat.blt d st.n = true) (hs : evS st sx = some (.row j)) (h : appRow st d e ei j (evS st xx) k = some b) : ∃ st', ActOk P [j] o st (fun s => s = st') ∧ k st' = some b := by
  unfold appRow at h
  rw [lkF_eq] at h
  split at h
  · rename_i e' z l s2 hj hx
    split at h
    · rename_i l2 hl2
      cases hc : (Nat.beq e' e && Nat.beq z ei.size && Nat.ble (l.length + l2.length) reachBytes && Nat.ble ((l.length + l2.length) * ei.bytes) 140737488355328 && (lk d (killO j st.own)).isNone) with
      | false => rw [hc] at h; cases h
      | true =>
        rw [hc, cond_true, fList_eq, fSt_eq] at h
        simp only [Bool.and_eq_true] at hc
        have e1 : e' = e := Nat.eq_of_beq_eq_true hc.1.1.1.1
        have e2 : z = ei.size := Nat.eq_of_beq_eq_true hc.1.1.1.2
        subst e1 e2
        exact ⟨_, act_append_row hT ho hcl hargs hts hdst ht hte he hsz hz hs hj hx hl2 (Option.isNone_iff_eq_none.1 hc.2) hn (Nat.le_of_ble_eq_true hc.1.1.2) (Nat.le_of_ble_eq_true hc.1.2) rfl, h⟩
    · cases h
  · cases h
theorem appView_ok {k : St → Option β} {j zv m : Nat} (hn : Nat.blt d st.n = true) (hs : evS st sx = some (.view j zv 0 m)) (h : appView st d e ei sx xx j zv m k = some b) : ∃ st', ActOk P [j] o st (fun s => s = st') ∧ k st' = some b := by
  unfold appView at h
  rw [lkF_eq] at h
  split at h
  · rename_i tt e' z l0 hj
    cases hc : ((lk 904999 st.own).isNone && Nat.beq zv z) with
    | false => rw [hc] at h; cases h
    | true =>
      rw [hc, cond_true, fSt_eq, evF_eq] at h
      simp only [Bool.and_eq_true] at hc
      have e1 : zv = z := Nat.eq_of_beq_eq_true hc.2
      subst e1
      obtain ⟨st', h1, h2⟩ := appRow_ok (st := shrunk st tt j zv m e' l0) hT ho hcl hargs hts hdst ht hte he hsz hz hn (show lk tt ((tt, SV.row 904999) :: killF j st.fr) = _ by rw [lk_cons, if_pos rfl]) h
      exact ⟨st', ActOk.shrink tt 904999 hs hj (Option.isNone_iff_eq_none.1 hc.1) rfl h1, h2⟩
  · cases h
end
include hT in
theorem appE_ok {sx xx : Operand} {t : TypeId} {cl : Call} (ho : o.op = .call cl) (hcl : cl.callee = .builtin .append) (hargs : cl.args.toList = [sx, xx]) (hts : cl.argTypes.toList = [t, t]) (h : appE T st o sx xx t k = some b) : Goes P st o k b := by
  unfold appE at h
  simp only [lkF_eq, evF_eq] at h
  split at h
  · rename_i d _ _ e _ _ hd ht
    split at h
    · rename_i ei he
      cases hc : (Nat.blt 0 ei.size && Nat.beq ei.zero.length ei.size && Nat.blt d st.n) with
      | false => rw [hc] at h; cases h
      | true =>
        rw [hc, cond_true] at h
        simp only [Bool.and_eq_true] at hc
        split at h
        · rename_i hs; exact appNil_ok hT ho hcl hargs hts hd ht rfl he hc.1.1 hc.1.2 hs h
        · rename_i hs
          obtain ⟨st', h1, h2⟩ := appRow_ok hT ho hcl hargs hts hd ht rfl he hc.1.1 hc.1.2 hc.2 hs h
          exact ⟨_, st', h1, h2⟩
        · rename_i hs
          obtain ⟨st', h1, h2⟩ := appView_ok hT ho hcl hargs hts hd ht rfl he hc.1.1 hc.1.2 hc.2 hs h
          exact ⟨_, st', h1, h2⟩
        · cases h
    · cases h
  · cases h
/-- calls that are worked out are right -/
def EvOk (P : Program) (cx : Cx) (ev : FuncId → FnI → List SV → List (Nat × Box) → Ret) : Prop := ∀ f fi args own r own', lk f cx.F = some fi → ev f fi args own = some (r, own') → HoldsW P f args own r own'
def TabOk (P : Program) (cx : Cx) : Prop := ∀ f ps r, cx.C f ps = some r → Holds P f ps r []
theorem callE_ok {cx : Cx} {ev : FuncId → FnI → List SV → List (Nat × Box) → Ret} (hev : EvOk P cx ev) (hC : TabOk P cx) {cl : Call} {fo : Operand} {sf : SV} {f : FuncId} {caps : List SV} (ho : o.op = .call cl) (hcl : cl.callee = .value fo) (hfo : evS st fo = some sf) (hfn : fnOf sf = some (f, caps))
    (h : callE cx ev st o (isPS sf) f caps cl.args.toList k = some b) : Goes P st o k b := by
  unfold callE at h
  rw [lkF_eq] at h
  split at h
  · rename_i fi hfi
    split at h
    · rw [fRen_eq] at h
      generalize number true 1000000 _ = ρ at h
      unfold enterE at h
      split at h
      · rename_i own a c hown hargs hcaps
        cases hρ : rhoOk ρ with
        | false => rw [hρ] at h; cases h
        | true =>
          rw [hρ, cond_true, fOnes_eq, fOwn_eq] at h
          unfold backE at h
          split at h
          · rename_i r own' hr
            have hW := hev f fi _ _ r own' hfi hr
            cases hb : (dstOk st o.dst && backOk st ρ o.dst own') with
            | false => rw [hb] at h; cases h
            | true =>
              rw [hb, cond_true] at h
              simp only [Bool.and_eq_true] at hb
              split at h
              · rename_i st' hst
                rw [fSt_eq] at h
                exact ⟨_, st', act_call_RS ρ ho hcl hfo hfn hcaps hown hρ hargs hW hb.1 fun r' o' ⟨e1, e2⟩ => by subst e1 e2; exact ⟨st', hst, hb.2, rfl⟩, h⟩
              · cases h
          · cases h
      · cases h
    · cases h
  · split at h
    · rename_i cps ps ids hpf hp ha
      split at h
      · rename_i r hr
        cases hb : (flatS r && dstOk st o.dst) with
        | false => rw [hb] at h; cases h
        | true =>
          rw [hb, cond_true, putE_eq] at h
          simp only [Bool.and_eq_true] at hb
          have hcap : caps = cps.map .p := by
            obtain ⟨q1, q2⟩ := pures_get hp
            refine List.ext_getElem? fun i => ?_
            rw [q2, List.getElem?_map]
          have hsf : sf = .p (.fn f cps) ∨ sf = .fn f caps := by
            cases sf with
            | p x =>
              cases x with
              | fn g cs =>
                simp only [fnOf, Option.some.injEq, Prod.mk.injEq] at hfn
                obtain ⟨rfl, h2⟩ := hfn
                rw [hcap] at h2
                have : cs = cps := (List.map_inj_right (fun a b h => by cases h; rfl)).1 h2
                rw [this]; exact Or.inl rfl
              | _ => cases hfn
            | fn g cs =>
              simp only [fnOf, Option.some.injEq, Prod.mk.injEq] at hfn
              obtain ⟨rfl, rfl⟩ := hfn
              exact Or.inr rfl
            | _ => cases hfn
          rcases hsf with rfl | rfl
          · exact ⟨_, _, act_call_flat ho hcl hfo ha (hC f _ r hr) hb.2 hb.1 rfl, h⟩
          · cases hpf
      · cases h
    · cases h
end
/-! ### Regions, codes, calls -/
theorem ActOk.mono {P : Program} {Ws : List Nat} {o : Oper} {st : St} {Q Q' : St → Prop} (h : ActOk P Ws o st Q) (hq : ∀ s, Q s → Q' s) : ActOk P Ws o st Q' := fun w0 Sx γ a w QQ hI => by
  refine Oper.wp_mono (fun a' w' h' => ?_) (h w0 Sx γ a w QQ hI)
  obtain ⟨γ', st', h1, h2⟩ := h'
  exact ⟨γ', st', hq _ h1, h2⟩
section
variable {P : Program} {cx : Cx} (hT : TypesOk P cx.T) (hC : TabOk P cx) {ev : FuncId → FnI → List SV → List (Nat × Box) → Ret} (hev : EvOk P cx ev)
section
variable {st : St} {o : Oper} {β : Type} {k : List Nat → St → Option β} {b : β}
include hT hC hev in
theorem actE_ok (h : actE cx ev st o k = some b) : Goes P st o k b := by
  unfold actE at h
  simp only [evF_eq] at h
  split at h
  · rename_i ho; exact allocE_ok hT ho h
  · rename_i ho; exact boxE_ok ho h
  · rename_i ho
    split at h
    · rename_i hp; exact buildE_ok hT ho hp h
    · cases h
  · rename_i ho
    split at h
    · rename_i hd; exact storeE_ok hT ho hd h
    · cases h
  · rename_i ho
    split at h
    · rename_i d hd
      obtain ⟨h1, h2, h3⟩ := newBox_ok h
      exact ⟨_, _, act_makeMap ho hd h1 h2 rfl, h3⟩
    · cases h
  · rename_i ho
    split at h
    · rename_i hd; exact mapE_ok hT ho hd h
    · cases h
  · rename_i ho
    unfold acallE at h
    simp only [evF_eq] at h
    split at h
    · rename_i hcl
      split at h
      · rename_i hargs hts
        generalize hb : Nat.beq _ _ = q at h
        cases q with
        | false => cases h
        | true =>
          rw [cond_true] at h
          rename_i t t'
          have e1 : t = t' := Nat.eq_of_beq_eq_true hb
          subst e1
          exact appE_ok hT ho hcl hargs hts h
      · cases h
    · rename_i hcl
      split at h
      · rename_i hfo
        split at h
        · rename_i hfn; exact callE_ok hev hC ho hcl hfo hfn h
        · cases h
      · cases h
    · cases h
  · cases h
include hT hC hev in
theorem stepE_ok (h : stepE cx ev [] st o k = some b) : Goes P st o k b := by
  unfold stepE at h
  cases hr : isRd o.op with
  | false => rw [hr] at h; exact actE_ok hT hC hev h
  | true =>
    rw [hr, cond_true] at h
    cases hd : dstOk st o.dst with
    | false => rw [hd] at h; cases h
    | true =>
      rw [hd, cond_true] at h
      obtain ⟨s, h1, h2⟩ := opE_ok hT h
      rw [putE_eq] at h2
      exact ⟨_, _, actOk_rd h1 hd rfl, h2⟩
end
include hT hC hev in
theorem evT_ok {ops : List Oper} : ∀ {l : List Oper} {st st' : St}, evT cx ev ops l st = some st' → SWT P ops l (fun s => s = st') st
  | [], st, st', h => by
    simp only [evT, Option.some.injEq] at h
    exact swt_nil h
  | o :: r, st, st', h => by
    unfold evT at h
    split at h
    · rename_i hw
      obtain ⟨Ws, st1, h1, h2⟩ := stepE_ok hT hC hev h
      exact swt_act hw (h1.mono fun s e => by subst e; exact evT_ok h2)
    · rename_i hw
      cases hd : dstOk st o.dst with
      | false => rw [hd] at h; cases h
      | true =>
        rw [hd, cond_true, putE_eq] at h
        exact swt_skip hw hd (evT_ok h)
    · cases h
theorem swp_rd {ops : List Oper} {K : List Nat} {κ : Kap} {st : St} {Q : St → Prop} {i : Nat} {r : List (Nat × Bool)} {o : Oper} {s : SV} (hi : nthO ops i = some o) (hw : wantS ops st o = some true) (hr : RdO P K st o s) (hd : dstOk st o.dst = true) (h : SWP P ops ((i, K) :: κ) r Q (st.put o.dst s)) : SWP P ops κ ((i, true) :: r) Q st := fun w0 Sx γ a w QQ hI hQ => by
  have hrest := fun v (hv : RelS (okO Sx γ st.own) (hp γ st.own) w s v) => h w0 Sx γ _ w QQ (hI.put (dst := o.dst) hd hv) hQ
  simp only [put_own] at hrest
  obtain ⟨v, h1, h2⟩ := hr w0 Sx γ a w hI
  exact ⟨pendOf_at, _, o, v, _, SameOn.refl _ _, (nthO_get ops i).trans hi, Or.inl ⟨wantS_ok hI hw, h2⟩, Covers.refl _, hrest v h1⟩
theorem mem_ok : ∀ {l : List Nat} {i : Nat}, mem i l = true → l.contains i = true
  | j :: r, i, h => by
    unfold mem at h
    cases hb : Nat.beq i j with
    | true => have := Nat.eq_of_beq_eq_true hb; subst this; simp
    | false =>
      rw [hb, cond_false] at h
      have := mem_ok h
      simp at this ⊢
      exact Or.inr this
theorem okW_ok {w : List Nat} {κ : Kap} (h : okW w κ = true) : κ.all (fun p => w.all fun j => p.2.contains j) = true :=
  List.all_eq_true.2 fun p hp => List.all_eq_true.2 fun j hj => mem_ok (List.all_eq_true.1 (List.all_eq_true.1 h p hp) j hj)
include hT hC hev in
theorem evM_ok {ops : List Oper} {K : List Nat} {chk : Bool} : ∀ {od : List (Nat × Bool)} {κ : Kap} {ws ws' : List Nat} {st st' : St}, evM cx ev ops K chk od κ ws st = some (ws', st') → (∀ i ∈ ws, i ∈ ws') ∧ (chk = true ∨ ws' = [] → SWP P ops κ od (fun s => s = st') st)
  | [], κ, ws, ws', st, st', h => by
    simp only [evM, Option.some.injEq, Prod.mk.injEq] at h
    obtain ⟨rfl, rfl⟩ := h
    exact ⟨fun _ h => h, fun _ => swp_nil rfl⟩
  | (i, b) :: r, κ, ws, ws', st, st', h => by
    unfold evM at h
    split at h
    · rename_i o hi
      split at h
      · rename_i hw
        cases b with
        | true =>
          rw [cond_true] at h
          cases hd : dstOk st o.dst with
          | false => rw [hd] at h; cases h
          | true =>
            rw [hd, cond_true, fNats_eq] at h
            obtain ⟨s, h1, h2⟩ := opE_ok hT h
            rw [putE_eq] at h2
            obtain ⟨h3, h4⟩ := evM_ok h2
            exact ⟨h3, fun hK => swp_rd hi hw h1 hd (h4 hK)⟩
        | false =>
          rw [cond_false] at h
          obtain ⟨Ws, st1, h1, h2⟩ := stepE_ok hT hC hev h
          replace h2 : (bif (!chk || okW Ws (kapB o κ)) then evM cx ev ops K chk r (kapB o κ) (Ws ++ ws) st1 else none) = some (ws', st') := h2
          cases hc : (!chk || okW Ws (kapB o κ)) with
          | false => rw [hc] at h2; cases h2
          | true =>
            rw [hc, cond_true] at h2
            obtain ⟨h3, h4⟩ := evM_ok h2
            refine ⟨fun i hi => h3 i (List.mem_append_right _ hi), fun hK => swp_act hi hw ?_ (h1.mono fun s e => by subst e; exact h4 hK)⟩
            rcases hK with hK | hK
            · subst hK
              exact okW_ok (by simpa using hc)
            · have : Ws = [] := by
                cases Ws with
                | nil => rfl
                | cons j l => have := h3 j (by simp); rw [hK] at this; cases this
              subst this
              exact List.all_eq_true.2 fun _ _ => rfl
      · rename_i hw
        cases hd : dstOk st o.dst with
        | false => rw [hd] at h; cases h
        | true =>
          rw [hd, cond_true, putE_eq] at h
          obtain ⟨h3, h4⟩ := evM_ok h
          exact ⟨h3, fun hK => swp_skip hi hw hd (h4 hK)⟩
      · cases h
    · cases h
include hT hC hev in
theorem evReg_ok (hm : P.follows .mixedOrders = true) {ords : List (Nat × List (Nat × Bool))} {id : Nat} {ops : Array Oper} {st st' : St} {d : Bool} (hd : d = true → chkR ords id ops = true) (h : evReg cx ev ords id ops.toList st d = some st') : SW P (.region id ops d) (fun e s => e = .normal ∧ s = st') st := by
  have hops : ops = ops.toList.toArray := by simp
  cases d with
  | false =>
    simp only [evReg] at h
    rw [hops]
    refine sw_region (fun w0 Sx γ a w QQ hI hQ => ?_)
    exact evT_ok hT hC hev h w0 Sx γ a w QQ hI fun s' γ' a' w' hI' hq => hQ s' γ' a' w' hI' ⟨rfl, hq⟩
  | true =>
    have hd := hd rfl
    simp only [evReg, lkF_eq] at h
    unfold chkR at hd
    split at h
    · rename_i od hod
      rw [hod] at hd
      simp only [Bool.and_eq_true] at hd
      rw [fNats_eq] at h
      have key : ∀ {K ws : List Nat} {chk : Bool} {st1 : St}, evM cx ev ops.toList K chk od [] [] st = some (ws, st1) → (chk = true ∨ ws = []) → SW P (.region id ops true) (fun e s => e = .normal ∧ s = st1) st := fun {K ws chk st1} h1 hK => by
        rw [hops]
        refine sw_region_pend od hm (by rw [← hops]; exact hd.1) (by rw [← hops]; simp only [Bool.and_eq_true]; exact hd.2) (fun w0 Sx γ a w QQ hI hQ => ?_)
        exact (evM_ok hT hC hev h1).2 hK w0 Sx γ a w QQ hI fun s' γ' a' w' hI' hq => hQ s' γ' a' w' hI' ⟨rfl, hq⟩
      split at h
      · rename_i h1
        cases h
        exact key h1 (.inl rfl)
      · split at h
        · rename_i h1
          cases h
          exact key h1 (.inr rfl)
        · rw [fNats_eq] at h
          split at h
          · rename_i h2
            cases h
            exact key h2 (.inl rfl)
          · cases h
        · cases h
    · cases h
end
/-! ### Results -/
section
variable {P : Program} {T : TT} (hT : TypesOk P T)
include hT in
theorem resO_ok {st : St} {w0 : Base} {Sx : Nat → Prop} {γ : Nat → Value} {a : Act} {w : World} (hI : Sim w0 Sx γ st a w) {f : ResultVar → Sem Value} (hf1 : ∀ t, f (.tmp t) = pure (a.tmps.getD t undef)) (hf2 : ∀ c t, f (.cell c t) = (do loadVar t (← asAddr (a.tmps.getD c undef)))) {rv : ResultVar} {s : SV} (h : resO T st rv = some s) :
    ∃ v, (f rv).run P w = .ok v w ∧ RelS (okO Sx γ st.own) (hp γ st.own) w s v := by
  cases rv with
  | tmp t => exact ⟨_, by rw [hf1]; rfl, hI.fr t s h⟩
  | cell c t =>
    simp only [resO] at h
    split at h
    · rename_i hl hc
      cases h
      obtain ⟨v, h1, h2⟩ := rLoad_ok hT hI (x := .tmp c) (K := []) hl (rLoadC_ok hl (by rw [hc]; rfl))
      have h3 := h2 w (SameOn.refl _ _)
      have hv := hI.fr c _ hc
      obtain ⟨b, g, hb, _⟩ := hv.ptr_form
      refine ⟨v, ?_, h1⟩
      rw [show a.eval (.tmp c) = a.tmps.getD c undef from rfl, hb] at h3
      rw [hf2, hb]
      exact h3
    · cases h
include hT in
theorem resOs_ok {st : St} {w0 : Base} {Sx : Nat → Prop} {γ : Nat → Value} {a : Act} {w : World} (hI : Sim w0 Sx γ st a w) {f : ResultVar → Sem Value} (hf1 : ∀ t, f (.tmp t) = pure (a.tmps.getD t undef)) (hf2 : ∀ c t, f (.cell c t) = (do loadVar t (← asAddr (a.tmps.getD c undef)))) : ∀ {rs : List ResultVar} {l : List SV}, resOs T st rs = some l →
    ∃ vs : List Value, (rs.mapM f).run P w = .ok vs w ∧ vs.length = l.length ∧ l.length = rs.length ∧ ∀ (i : Nat) (s : SV) (u : Value), l[i]? = some s → vs[i]? = some u → RelS (okO Sx γ st.own) (hp γ st.own) w s u
  | [], l, h => by
    simp only [resOs, Option.some.injEq] at h
    subst h
    exact ⟨[], by simp, rfl, rfl, fun i s u hs => by simp at hs⟩
  | r :: rs, l, h => by
    unfold resOs at h
    split at h
    · rename_i s hs
      split at h
      · rename_i l' hl
        simp only [Option.some.injEq] at h
        subst h
        obtain ⟨v, h1, h2⟩ := resO_ok hT hI hf1 hf2 hs
        obtain ⟨vs, h3, h4, h5, h6⟩ := resOs_ok hI hf1 hf2 hl
        refine ⟨v :: vs, ?_, by simp [h4], by simp [h5], fun i s' u hs' hu => ?_⟩
        · rw [List.mapM_cons, Sem.run_bind, h1]
          simp only [Result.andThen_ok, Sem.run_bind, h3, Sem.run_pure]
        · cases i with
          | zero => simp at hs' hu; subst hs' hu; exact h2
          | succ i => exact h6 i s' u (by simpa using hs') (by simpa using hu)
      · cases h
    · cases h
include hT in
theorem resC_ok {fn : Func} {st : St} {w0 : Base} {Sx : Nat → Prop} {γ : Nat → Value} {a : Act} {w : World} (hI : Sim w0 Sx γ st a w) {rs : List ResultVar} {s : SV} (h : resC T st rs = some s) (hres : fn.results = rs.toArray) :
    ∃ v, (results fn a.tmps).run P w = .ok v w ∧ RelS (okO Sx γ st.own) (hp γ st.own) w s v := by
  have key : ∀ {l : List SV}, resOs T st rs = some l → ∃ vs : List Value, (results fn a.tmps).run P w = .ok (if h : vs.toArray.size = 1 then vs.toArray[0] else .tuple vs.toArray) w ∧ vs.length = l.length ∧ l.length = rs.length ∧ ∀ (i : Nat) (s : SV) (u : Value), l[i]? = some s → vs[i]? = some u → RelS (okO Sx γ st.own) (hp γ st.own) w s u := fun {l} hl => by
    have gen : ∀ f : ResultVar → Sem Value, (∀ t, f (.tmp t) = pure (a.tmps.getD t undef)) → (∀ c t, f (.cell c t) = (do loadVar t (← asAddr (a.tmps.getD c undef)))) →
        ∃ vs : List Value, ((do let vs ← rs.toArray.mapM f; pure (if h : vs.size = 1 then vs[0] else .tuple vs)) : Sem Value).run P w = .ok (if h : vs.toArray.size = 1 then vs.toArray[0] else .tuple vs.toArray) w ∧ vs.length = l.length ∧ l.length = rs.length ∧ ∀ (i : Nat) (s : SV) (u : Value), l[i]? = some s → vs[i]? = some u → RelS (okO Sx γ st.own) (hp γ st.own) w s u := fun f hf1 hf2 => by
      obtain ⟨vs, h3, h4, h5, h6⟩ := resOs_ok hT hI hf1 hf2 hl
      refine ⟨vs, ?_, h4, h5, h6⟩
      rw [Sem.run_bind, List.mapM_toArray, Sem.run_map, h3]
      simp only [Result.andThen_ok, Sem.run_pure]
    unfold results
    rw [hres]
    exact gen _ (fun _ => rfl) (fun _ _ => rfl)
  unfold resC at h
  split at h
  · rename_i r
    obtain ⟨vs, h1, h2, h3, h4⟩ := key (l := [s]) (by simp only [resOs, h])
    have hv : ∃ v, vs = [v] := by
      match vs, h2 with
      | [v], _ => exact ⟨v, rfl⟩
    obtain ⟨v, rfl⟩ := hv
    exact ⟨v, by rw [h1]; rfl, h4 0 s v rfl rfl⟩
  · rename_i hne
    split at h
    · rename_i l hl
      simp only [Option.some.injEq] at h
      subst h
      obtain ⟨vs, h1, h2, h3, h4⟩ := key hl
      have hn : ¬ vs.toArray.size = 1 := fun e => by
        rw [List.size_toArray, h2, h3] at e
        match rs, hne, e with
        | [r], hne, _ => exact hne r rfl
      rw [dif_neg hn] at h1
      exact ⟨_, h1, .tup h2 h4⟩
    · cases h
include hT in
/-- a call whose code is worked out -/
theorem holdsV_of {f : FuncId} {fn : Func} {c : Code} {args : List SV} {own : List (Nat × Box)} {r : SV} {own' : List (Nat × Box)} {rs : List ResultVar} {e' : SEx} {st' : St} (hf : P.funcs[f]? = some fn) (hname : (fn.name == "runtime.NumGoroutine") = false) (hb : fn.body = some c)
    (hres : fn.results = rs.toArray) (hn : args.length ≤ fn.ntmps ∧ fn.ntmps ≤ 900) (h : SW P c (fun e s => e = e' ∧ s = st') ⟨fn.ntmps, argFrS 0 args, own⟩) (he : e' = .normal ∨ e' = .ret) (hfin : finE T rs st' = some (r, own')) : HoldsW P f args own r own' := by
  refine ⟨⟨fn, hf, hname, by rw [hb]; rfl⟩, fun w Sx γ vs hh hl hr => ?_⟩
  refine calls_of_wp hf hb ?_
  have hget : ∀ t, t < args.length → (vs.toArray ++ Array.replicate (fn.ntmps - vs.toArray.size) undef).getD t undef = vs[t]?.getD undef := fun t ht => by
    have : t < vs.length := by omega
    have h2 : (vs.toArray ++ Array.replicate (fn.ntmps - vs.toArray.size) undef)[t]? = vs[t]? := by
      rw [Array.getElem?_append_left (by simpa using this)]; simp
    rw [Array.getD_eq_getD_getElem?, h2]
  have hI : Sim (baseOf w γ own) Sx γ ⟨fn.ntmps, argFrS 0 args, own⟩ ⟨vs.toArray ++ Array.replicate (fn.ntmps - vs.toArray.size) undef, []⟩ w := by
    refine ⟨⟨Below.refl _ w, fun _ _ => rfl⟩, ⟨by simp; omega, hn.2⟩, rfl, fun t s ht => ?_, hh⟩
    obtain ⟨_, hx⟩ := argFrS_get ht
    simp only [Nat.sub_zero] at hx
    have hlt : t < args.length := (List.getElem?_eq_some_iff.1 hx).1
    have hv : vs[t]? = some (vs[t]'(by omega)) := List.getElem?_eq_getElem (by omega)
    show RelS _ _ _ _ ((vs.toArray ++ Array.replicate (fn.ntmps - vs.toArray.size) undef).getD t undef)
    rw [hget t hlt, hv]
    exact hr t s _ hx hv
  refine h _ Sx _ _ w _ hI fun e st2 γ' a' w' hI' hq => ?_
  obtain ⟨rfl, rfl⟩ := hq
  unfold finE at hfin
  split at hfin
  · rename_i s hs
    rw [fRen_eq] at hfin
    generalize number false 0 _ = ρ at hfin
    split at hfin
    · rename_i r' o' hr' ho'
      cases hρ : renOk ρ with
      | false => rw [hρ] at hfin; cases hfin
      | true =>
        rw [hρ, cond_true, fSV_eq, fOwn_eq] at hfin
        cases hfin
        obtain ⟨γ3, k1, k2⟩ := heap_mapR hI'.heap ho' hρ
        obtain ⟨v, k3, k4⟩ := resC_ok hT hI' hs hres
        have fin : a'.defers = [] ∧ ∃ v, (results fn a'.tmps).run P w' = .ok v w' ∧ ∃ v' γ2 r1 own1, (r1 = r ∧ own1 = own') ∧ Ending.returned v = .returned v' ∧ BelowB (baseOf w γ own) w' ∧ HeapOk (baseOf w γ own) Sx γ2 own1 w' ∧ RelS (okO Sx γ2 own1) (hp γ2 own1) w' r1 v' :=
          ⟨hI'.defers, v, k3, v, γ3, r, own', ⟨rfl, rfl⟩, rfl, hI'.below, k1, k2 s v r k4 hr'⟩
        rcases he with rfl | rfl
        · exact fin
        · exact fin
    · cases hfin
  · cases hfin
end
/-! ### A scope in which the run jumps back to one label -/
def jmpW (l : Nat) (J : Act → World → Prop) (Q : Exit → Act → World → Prop) : Exit → Act → World → Prop
  | .goto l', a, w => l' = l ∧ J a w
  | e, a, w => Q e a w
theorem wp_scope_ghost {P : Program} {a : Act} {w : World} {Q : Exit → Act → World → Prop} {c rest : Code} (l : Nat) (J : Nat → Act → World → Prop) (hf : findLabel c l = some rest)
    (first : c.wp P (jmpW l (fun a w => ∃ n, J n a w) Q) a w)
    (pass : ∀ n a w, J n a w → rest.wp P (jmpW l (fun a' w' => ∃ m, m < n ∧ J m a' w') Q) a w) : (Code.scope c).wp P Q a w := by
  intro b k cs
  have hg : gotoIn l (.inScope c :: k) = some (.code rest :: .inScope c :: k) := by simp [gotoIn, hf]
  have key : ∀ n a w, J n a w → ∃ e a' w', Q e a' w' ∧ Arrives P (lone (b.at a (.code rest :: .inScope c :: k)) cs w) b k cs e a' w' := by
    intro n
    induction n using Nat.strongRecOn with
    | _ n ih =>
      intro a w hJ
      obtain ⟨e, a₁, w₁, hq, harr⟩ := pass n a w hJ b (.inScope c :: k) cs
      cases e with
      | normal => exact ⟨.normal, a₁, w₁, hq, Steps.trans harr (.one step_inScope)⟩
      | exit id => exact ⟨.exit id, a₁, w₁, hq, fun k' hk => harr k' (by simp [exitTo, hk])⟩
      | goto l' =>
        obtain ⟨rfl, m, hlt, hJ'⟩ := hq
        obtain ⟨e₂, a₂, w₂, hq₂, harr₂⟩ := ih m hlt a₁ w₁ hJ'
        exact ⟨e₂, a₂, w₂, hq₂, .of_steps (harr _ hg) harr₂⟩
      | ret => exact ⟨_, a₁, w₁, hq, harr⟩
      | panic ch => exact ⟨_, a₁, w₁, hq, harr⟩
      | outgrown => exact ⟨_, a₁, w₁, hq, harr⟩
  obtain ⟨e, a₁, w₁, hq, harr⟩ := first b (.inScope c :: k) cs
  cases e with
  | normal => exact ⟨.normal, a₁, w₁, hq, .head step_scope (Steps.trans harr (.one step_inScope))⟩
  | exit id => exact ⟨.exit id, a₁, w₁, hq, fun k' hk => .head step_scope (harr k' (by simp [exitTo, hk]))⟩
  | goto l' =>
    obtain ⟨rfl, m, hJ'⟩ := hq
    obtain ⟨e₂, a₂, w₂, hq₂, harr₂⟩ := key m a₁ w₁ hJ'
    exact ⟨e₂, a₂, w₂, hq₂, .of_steps (.head step_scope (harr _ hg)) harr₂⟩
  | ret => exact ⟨_, a₁, w₁, hq, .of_steps (.one step_scope) harr⟩
  | panic ch => exact ⟨_, a₁, w₁, hq, .of_steps (.one step_scope) harr⟩
  | outgrown => exact ⟨_, a₁, w₁, hq, .of_steps (.one step_scope) harr⟩
def jmpS (l : Nat) (J : St → Prop) (Q : SEx → St → Prop) : SEx → St → Prop
  | .goto l', s => l' = l ∧ J s
  | e, s => Q e s
theorem sw_goto {P : Program} {Q : SEx → St → Prop} {st : St} {l : Nat} (h : Q (.goto l) st) : SW P (.goto l) Q st := fun _ _ γ a w _ hI hQ => wp_goto (hQ (.goto l) st γ a w hI h)
theorem sw_scope0 {P : Program} {Q : SEx → St → Prop} {st : St} {c : Code} (h : SW P c (fun e s => Q e s ∧ ∀ l, e ≠ .goto l) st) : SW P (.scope c) Q st := fun w0 Sx γ a w QQ hI hQ => by
  refine wp_scope_straight (h w0 Sx γ a w _ hI fun e s' γ' a' w' hI' hq => ?_)
  cases e with
  | goto l => exact absurd rfl (hq.2 l)
  | normal => exact hQ .normal s' γ' a' w' hI' hq.1
  | exit id => exact hQ (.exit id) s' γ' a' w' hI' hq.1
  | ret => exact hQ .ret s' γ' a' w' hI' hq.1
theorem sw_scope {P : Program} {Q : SEx → St → Prop} {st : St} {c rest : Code} (l : Nat) (I : Nat → St → Prop) (hf : findLabel c l = some rest) (first : SW P c (jmpS l (fun s' => ∃ n s'', Wk s' s'' ∧ I n s'') Q) st)
    (round : ∀ n s, I n s → SW P rest (jmpS l (fun s' => ∃ m s'', m < n ∧ Wk s' s'' ∧ I m s'') Q) s) : SW P (.scope c) Q st := fun w0 Sx γ a w QQ hI hQ => by
  refine wp_scope_ghost l (fun n a w => ∃ s γ, I n s ∧ Sim w0 Sx γ s a w) hf (first w0 Sx γ a w _ hI fun e s' γ' a' w' hI' hq => ?_) fun n a w ⟨s, γ, hn, hI⟩ => round n s hn w0 Sx γ a w _ hI fun e s' γ' a' w' hI' hq => ?_
  · cases e with
    | goto l' =>
      obtain ⟨rfl, n, s'', hwk, hn⟩ := hq
      obtain ⟨γ'', hI''⟩ := hwk w0 Sx γ' a' w' hI'
      exact ⟨rfl, n, s'', γ'', hn, hI''⟩
    | normal => exact hQ .normal s' γ' a' w' hI' hq
    | exit id => exact hQ (.exit id) s' γ' a' w' hI' hq
    | ret => exact hQ .ret s' γ' a' w' hI' hq
  · cases e with
    | goto l' =>
      obtain ⟨rfl, m, s'', hlt, hwk, hm⟩ := hq
      obtain ⟨γ'', hI''⟩ := hwk w0 Sx γ' a' w' hI'
      exact ⟨rfl, m, hlt, s'', γ'', hm, hI''⟩
    | normal => exact hQ .normal s' γ' a' w' hI' hq
    | exit id => exact hQ (.exit id) s' γ' a' w' hI' hq
    | ret => exact hQ .ret s' γ' a' w' hI' hq
/-! ### Codes -/
theorem chkC_label {ords : List (Nat × List (Nat × Bool))} {l : Nat} : ∀ {c rest : Code}, chkC ords c = true → findLabel c l = some rest → chkC ords rest = true := by
  intro c
  induction c with
  | seq a b iha ihb =>
    intro rest h hf
    simp only [chkC, Bool.and_eq_true] at h
    simp only [findLabel] at hf
    split at hf
    · rename_i r hr
      cases hf
      simp only [chkC, Bool.and_eq_true]
      exact ⟨iha h.1 hr, h.2⟩
    · exact ihb h.2 hf
  | label l' =>
    intro rest h hf
    simp only [findLabel] at hf
    split at hf
    · cases hf; rfl
    · cases hf
  | _ => intro rest h hf; cases hf
/-- the table's functions are the program's -/
def FOk (P : Program) (cx : Cx) : Prop := ∀ f fi, lk f cx.F = some fi → ∃ fn, P.funcs[f]? = some fn ∧ (fn.name == "runtime.NumGoroutine") = false ∧ fn.body = some fi.c ∧ fn.results = fi.ts.toArray ∧ fn.ntmps = fi.n ∧ Nat.ble fi.n 900 = true ∧ chkC fi.ords fi.c = true
theorem turnE_ok {β : Type} {ts : List Nat} {st : St} {k : St → Option β} {b : β} (h : turnE ts st k = some b) : ∃ st', Wk st st' ∧ k st' = some b := by
  unfold turnE at h
  rw [fRen_eq] at h
  generalize number false 905000 _ = ρ at h
  cases hρ : renOk ρ with
  | false => rw [hρ] at h; cases h
  | true =>
    rw [hρ, cond_true] at h
    split at h
    · rename_i st' hst
      rw [fSt_eq] at h
      exact ⟨st', wk_only ts ρ hst hρ, h⟩
    · cases h
section
variable {P : Program} {cx : Cx} (hT : TypesOk P cx.T) (hC : TabOk P cx) (hF : FOk P cx) (hm : P.follows .mixedOrders = true)
theorem pair_some {α β : Type} {a a' : α} {b b' : β} (h : some (a, b) = some (a', b')) : a = a' ∧ b = b' := by cases h; exact ⟨rfl, rfl⟩
include hT hC hF hm in
theorem evN_ok : ∀ n ords c st e s', chkC ords c = true → evN cx n ords c st = some (e, s') → SW P c (fun e1 s1 => e1 = e ∧ s1 = s') st := by
  intro n
  induction n using Nat.strongRecOn with
  | ind n IH =>
  cases n with
  | zero => intro ords c st e s' _ h; cases h
  | succ n =>
    have hev : EvOk P cx (fun _ fi args own => bif Nat.ble args.length fi.n then finR cx.T fi.ts (evN cx n fi.ords fi.c ⟨fi.n, argFrS 0 args, own⟩) else none) := by
      intro f fi args own r own' hfi h
      obtain ⟨fn, h1, h2, h3, h4, h5, h6, h7⟩ := hF f fi hfi
      cases hb : Nat.ble args.length fi.n with
      | false => simp only [hb, cond_false] at h; cases h
      | true =>
        simp only [hb, cond_true] at h
        unfold finR at h
        have hn : args.length ≤ fn.ntmps ∧ fn.ntmps ≤ 900 := by rw [h5]; exact ⟨Nat.le_of_ble_eq_true hb, Nat.le_of_ble_eq_true h6⟩
        split at h
        · rename_i st' he
          exact holdsV_of hT h1 h2 h3 h4 hn (by rw [h5]; exact IH n (Nat.lt_succ_self n) _ _ _ _ _ h7 he) (Or.inl rfl) h
        · rename_i st' he
          exact holdsV_of hT h1 h2 h3 h4 hn (by rw [h5]; exact IH n (Nat.lt_succ_self n) _ _ _ _ _ h7 he) (Or.inr rfl) h
        · cases h
    intro ords c
    induction c with
    | skip =>
      intro st e s' _ h
      obtain ⟨rfl, rfl⟩ := pair_some h
      exact sw_skip ⟨rfl, rfl⟩
    | region id ops d =>
      intro st e s' hc h
      have h : (match evReg cx _ ords id ops.toList st d with | some st' => some (SEx.normal, st') | none => none) = some (e, s') := h
      split at h
      · rename_i st' hr
        obtain ⟨rfl, rfl⟩ := pair_some h
        exact (evReg_ok hT hC hev hm (fun hd => by subst hd; exact hc) hr).mono fun e s q => q
      · cases h
    | seq a b iha ihb =>
      intro st e s' hc h
      simp only [chkC, Bool.and_eq_true] at hc
      have h : (match evN cx (n + 1) ords a st with | some (.normal, st') => evN cx (n + 1) ords b st' | r => r) = some (e, s') := h
      refine sw_seq ?_
      split at h
      · rename_i st1 ha
        exact (iha st _ _ hc.1 ha).mono fun e1 s1 ⟨q1, q2⟩ => by subst q1 q2; exact ihb _ _ _ hc.2 h
      · rename_i hne
        refine (iha st _ _ hc.1 h).mono fun e1 s1 ⟨q1, q2⟩ => ?_
        subst q1 q2
        cases e1 with
        | normal => exact absurd h (hne s1)
        | _ => exact ⟨rfl, rfl⟩
    | cond x a b iha ihb =>
      intro st e s' hc h
      simp only [chkC, Bool.and_eq_true] at hc
      have h : (match evF st x with | some (.p (.v (.bool true))) => evN cx (n + 1) ords a st | some (.p (.v (.bool false))) => evN cx (n + 1) ords b st | _ => none) = some (e, s') := h
      rw [evF_eq] at h
      split at h
      · rename_i hx
        exact sw_cond hx (fun _ => iha _ _ _ hc.1 h) fun q => by cases q
      · rename_i hx
        exact sw_cond hx (fun q => by cases q) fun _ => ihb _ _ _ hc.2 h
      · cases h
    | block id b ih =>
      intro st e s' hc h
      have h : (match evN cx (n + 1) ords b st with | some (.exit i, st') => bif Nat.beq i id then some (SEx.normal, st') else some (.exit i, st') | r => r) = some (e, s') := h
      refine sw_block ?_
      split at h
      · rename_i i st' hb
        refine (ih st _ _ hc hb).mono fun e1 s1 ⟨q1, q2⟩ => ?_
        subst q1 q2
        show (bif Nat.beq i id then _ else _)
        cases hi : Nat.beq i id with
        | true => rw [hi] at h; obtain ⟨rfl, rfl⟩ := pair_some h; exact ⟨rfl, rfl⟩
        | false => rw [hi] at h; obtain ⟨rfl, rfl⟩ := pair_some h; exact ⟨rfl, rfl⟩
      · rename_i hne
        refine (ih st _ _ hc h).mono fun e1 s1 ⟨q1, q2⟩ => ?_
        subst q1 q2
        cases e1 with
        | exit i => exact absurd h (hne i s1)
        | _ => exact ⟨rfl, rfl⟩
    | loop b ih =>
      intro st e s' hc h
      have hbody : ∀ m, m ≤ n → ∀ s e2 s2, evN cx (m + 1) ords b s = some (e2, s2) → SW P b (fun e1 s1 => e1 = e2 ∧ s1 = s2) s := fun m hmn s e2 s2 h2 => by
        rcases Nat.lt_or_eq_of_le hmn with hlt | rfl
        · exact IH (m + 1) (by omega) ords b s e2 s2 hc h2
        · exact ih s e2 s2 hc h2
      refine sw_loop (fun m s => m ≤ n + 1 ∧ evN cx m ords (.loop b) s = some (e, s')) (n + 1) ⟨Nat.le_refl _, h⟩ ?_
      rintro m s ⟨hmn, h2⟩
      cases m with
      | zero => cases h2
      | succ m =>
        have h2 : (fNats (keys s.fr []) fun ts => match evN cx (m + 1) ords b s with | some (.normal, st') => turnE ts st' fun st'' => evN cx m ords (.loop b) st'' | r => r) = some (e, s') := h2
        rw [fNats_eq] at h2
        split at h2
        · rename_i st1 hb
          obtain ⟨st2, h3, h4⟩ := turnE_ok h2
          exact (hbody m (by omega) s _ _ hb).mono fun e1 s1 ⟨q1, q2⟩ => by
            subst q1 q2
            exact ⟨m, st2, Nat.lt_succ_self m, h3, by omega, h4⟩
        · rename_i hne
          refine (hbody m (by omega) s _ _ h2).mono fun e1 s1 ⟨q1, q2⟩ => ?_
          subst q1 q2
          cases e1 with
          | normal => exact absurd h2 (hne s1)
          | _ => exact ⟨rfl, rfl⟩
    | exit id =>
      intro st e s' _ h
      obtain ⟨rfl, rfl⟩ := pair_some h
      exact sw_exit ⟨rfl, rfl⟩
    | ret =>
      intro st e s' _ h
      obtain ⟨rfl, rfl⟩ := pair_some h
      exact sw_ret ⟨rfl, rfl⟩
    | label l =>
      intro st e s' _ h
      obtain ⟨rfl, rfl⟩ := pair_some h
      exact sw_label ⟨rfl, rfl⟩
    | rangeFunc _ _ _ _ _ _ => intro st e s' _ h; cases h
    | goto l =>
      intro st e s' _ h
      obtain ⟨rfl, rfl⟩ := pair_some h
      exact sw_goto ⟨rfl, rfl⟩
    | scope b ih =>
      intro st e s' hc h
      have h : (match evN cx (n + 1) ords b st with | some (.goto l, st') => turnE (keys st'.fr []) st' fun st'' => evJ cx n ords b l st'' | r => r) = some (e, s') := h
      split at h
      · rename_i l st1 hb
        obtain ⟨st2, h3, h4⟩ := turnE_ok h
        have hrest : ∃ rest, findLabel b l = some rest := by
          cases n with
          | zero => cases h4
          | succ n =>
            have h4 : jumpE (evN cx (n + 1) ords) (evJ cx n ords b l) b l st2 = some (e, s') := h4
            unfold jumpE at h4
            split at h4
            · rename_i rest hr; exact ⟨rest, hr⟩
            · cases h4
        obtain ⟨rest, hr⟩ := hrest
        refine sw_scope l (fun m s => m ≤ n ∧ evJ cx m ords b l s = some (e, s')) hr ((ih st _ _ hc hb).mono fun e1 s1 ⟨q1, q2⟩ => by subst q1 q2; exact ⟨rfl, n, st2, h3, Nat.le_refl _, h4⟩) ?_
        rintro m s ⟨hmn, h2⟩
        cases m with
        | zero => cases h2
        | succ m =>
          have h2 : jumpE (evN cx (m + 1) ords) (evJ cx m ords b l) b l s = some (e, s') := h2
          unfold jumpE at h2
          rw [hr] at h2
          simp only at h2
          split at h2
          · rename_i l' st3 hx
            cases hl : Nat.beq l' l with
            | false => rw [hl] at h2; cases h2
            | true =>
              rw [hl, cond_true] at h2
              have el : l' = l := Nat.eq_of_beq_eq_true hl
              subst el
              obtain ⟨st4, h5, h6⟩ := turnE_ok h2
              exact (IH (m + 1) (by omega) ords rest s _ _ (chkC_label (c := b) hc hr) hx).mono fun e1 s1 ⟨q1, q2⟩ => by
                subst q1 q2
                exact ⟨rfl, m, st4, Nat.lt_succ_self m, h5, by omega, h6⟩
          · rename_i hne
            refine (IH (m + 1) (by omega) ords rest s _ _ (chkC_label (c := b) hc hr) h2).mono fun e1 s1 ⟨q1, q2⟩ => ?_
            subst q1 q2
            cases e1 with
            | goto l' => exact absurd h2 (hne l' s1)
            | _ => exact ⟨rfl, rfl⟩
      · rename_i hne
        refine sw_scope0 ((ih st _ _ hc h).mono fun e1 s1 ⟨q1, q2⟩ => ?_)
        subst q1 q2
        refine ⟨⟨rfl, rfl⟩, fun l hl => ?_⟩
        subst hl
        exact hne l s1 h
    | refuse _ => intro st e s' _ h; cases h
/-- a call of the table, worked out -/
noncomputable def evF1 (cx : Cx) (n : Nat) (f : FuncId) (args : List SV) (own : List (Nat × Box)) : Ret := match lkF f cx.F with
  | some fi => bif Nat.ble args.length fi.n then finR cx.T fi.ts (evN cx n fi.ords fi.c ⟨fi.n, argFrS 0 args, own⟩) else none
  | none => none
include hT hC hF hm in
theorem evF1_ok {n : Nat} {f : FuncId} {args : List SV} {own : List (Nat × Box)} {r : SV} {own' : List (Nat × Box)} (h : evF1 cx n f args own = some (r, own')) : HoldsW P f args own r own' := by
  unfold evF1 at h
  rw [lkF_eq] at h
  split at h
  · rename_i fi hfi
    obtain ⟨fn, h1, h2, h3, h4, h5, h6, h7⟩ := hF f fi hfi
    cases hb : Nat.ble args.length fi.n with
    | false => rw [hb] at h; cases h
    | true =>
      rw [hb, cond_true] at h
      unfold finR at h
      have hn : args.length ≤ fn.ntmps ∧ fn.ntmps ≤ 900 := by rw [h5]; exact ⟨Nat.le_of_ble_eq_true hb, Nat.le_of_ble_eq_true h6⟩
      split at h
      · rename_i st' he
        exact holdsV_of hT h1 h2 h3 h4 hn (by rw [h5]; exact evN_ok hT hC hF hm n _ _ _ _ _ h7 he) (Or.inl rfl) h
      · rename_i st' he
        exact holdsV_of hT h1 h2 h3 h4 hn (by rw [h5]; exact evN_ok hT hC hF hm n _ _ _ _ _ h7 he) (Or.inr rfl) h
      · cases h
  · cases h
end
theorem baseOf_nil (w : World) (γ : Nat → Value) : baseOf w γ [] = entry w := by
  unfold baseOf entry
  congr 1
  · funext b; exact propext ⟨fun h => h.1, fun h => ⟨h, fun i bx hi => by cases hi⟩⟩
  · funext i; split <;> rfl
/-- a contract without things of the caller's -/
theorem Holds.ofW {P : Program} {f : FuncId} {args : List PV} {r : SV} {own' : List (Nat × Box)} (h : HoldsW P f (args.map .p) [] r own') : Holds P f args r own' := by
  refine ⟨h.1, fun w Sx vs hSx hl hr => (h.2 w Sx (fun _ => .nilIface) vs (by rw [baseOf_nil]; exact heap_nil hSx _) (by simpa using hl) fun i s u hs hu => ?_).mono fun e w' he => ?_⟩
  · rw [List.getElem?_map] at hs
    obtain ⟨x, hx, rfl⟩ := Option.map_eq_some_iff.1 hs
    exact .p ((hr i x u hx hu).weak fun b _ hok => ⟨hok, fun i bx hi => by cases hi⟩)
  · obtain ⟨v, γ', r', o', ⟨rfl, rfl⟩, h1, h2, h3, h4⟩ := he
    rw [baseOf_nil] at h2 h3
    exact ⟨v, γ', h1, belowB_entry.1 h2, h3, h4⟩
theorem tabOk_none {P : Program} {T : TT} {F : List (FuncId × FnI)} : TabOk P ⟨T, F, fun _ _ => none⟩ := fun f ps r h => by cases h
def FnOk (P : Program) (f : FuncId) (fi : FnI) : Prop := ∃ fn, P.funcs[f]? = some fn ∧ (fn.name == "runtime.NumGoroutine") = false ∧ fn.body = some fi.c ∧ fn.results = fi.ts.toArray ∧ fn.ntmps = fi.n ∧ Nat.ble fi.n 900 = true ∧ chkC fi.ords fi.c = true
theorem fok_nil {P : Program} {T : TT} {C : FuncId → List PV → Option SV} : FOk P ⟨T, [], C⟩ := fun f fi h => by cases h
theorem fok_cons {P : Program} {T : TT} {C : FuncId → List PV → Option SV} {F : List (FuncId × FnI)} {f : FuncId} {fi : FnI} (h : FnOk P f fi) (r : FOk P ⟨T, F, C⟩) : FOk P ⟨T, (f, fi) :: F, C⟩ := fun g gi hg => by
  have h2 : lk g ((f, fi) :: F) = some gi := hg
  clear hg
  rw [lk_cons] at h2
  by_cases e : g = f
  · rw [if_pos e] at h2
    obtain rfl := Option.some.inj h2
    subst e; exact h
  · rw [if_neg e] at h2; exact r g gi h2
end Go.Proofs.Ytjpcchipejmocaa
