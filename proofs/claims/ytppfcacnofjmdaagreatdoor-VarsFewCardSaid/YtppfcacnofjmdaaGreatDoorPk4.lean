/-
  What the statement leans on, part 4: EvalOk, Cvt, CellR, HasH, ExH, ExN, ExV, EvQ, EvR, SmallH, Within, FnsV, Dec, Itoa, VarsRuns, VarsAsks, VarH, FnsM, MkH, CombH, Fork, EvH, Nilc, EvJ, EvD, VarO, VarL.
-/
import Derived.Scope
import Derived.Laws.BytesString
import Derived.Shelf.Strconv.Itoa3
import Derived.Shelf.Small.Strs
import Derived.Shelf.Strconv.AtoiAll
import Derived.Test.YtppfcacnofjmdaaGreatDoorPk1
import Derived.Test.YtppfcacnofjmdaaGreatDoorPk2
import Derived.Test.YtppfcacnofjmdaaGreatDoorPk3
namespace Go.Proofs.YtppfcacnofjmdaaGreatDoor
set_option linter.unusedVariables false
set_option linter.unusedSimpArgs false
open Go.RowKit
theorem toList_loop (s : ByteArray) : ∀ (n i : Nat) (r : List UInt8), s.size - i = n → ByteArray.toList.loop s i r = r.reverse ++ s.data.toList.drop i
  | 0, i, r, h => by
    unfold ByteArray.toList.loop
    rw [if_neg (by omega), List.drop_of_length_le (by rw [Array.length_toList]; show s.size ≤ i; omega), List.append_nil]
  | n + 1, i, r, h => by
    unfold ByteArray.toList.loop
    have hi : i < s.data.toList.length := by rw [Array.length_toList]; show i < s.size; omega
    rw [if_pos (by omega), toList_loop s n (i + 1) _ (by omega), List.reverse_cons, List.append_assoc, ← List.getElem_cons_drop hi]
    have : s.get! i = s.data.toList[i] := by
      have h2 : i < s.data.size := by rw [Array.length_toList] at hi; exact hi
      show s.data[i]! = _
      rw [getElem!_pos s.data i h2]; simp
    rw [this]; rfl
theorem qaf (s : ByteArray) : s.toList = s.data.toList := by
  unfold ByteArray.toList
  rw [toList_loop s _ 0 [] rfl]; rfl
theorem sEq_ok : ∀ a b : List UInt8, sEq a b = (a == b)
  | [], [] => rfl
  | [], _ :: _ => rfl
  | _ :: _, [] => rfl
  | a :: r, b :: s => by
    rw [sEq, sEq_ok r s]
    by_cases h : a = b
    · subst h; simp
    · have : Nat.beq a.toNat b.toNat = false := by
        cases h2 : Nat.beq a.toNat b.toNat with
        | false => rfl
        | true => exact absurd (UInt8.toNat_inj.1 (Nat.eq_of_beq_eq_true h2)) h
      rw [this]; simp [h]
def RdO (P : Program) (K : List Nat) (st : St) (o : Oper) (s : SV) : Prop := ∀ (w0 : Base) (Sx : Nat → Prop) (γ : Nat → Value) (a : Act) (w : World), Sim w0 Sx γ st a w →
  ∃ v, RelS (okO Sx γ st.own) (hp γ st.own) w s v ∧ ∀ x, SameOn (vis K γ st.own) w x → (execOp a.eval o).run P x = .ok (.value v) x
section
variable {P : Program} {T : TT} (hT : zh P T) {K : List Nat} {st : St} {o : Oper} {β : Type} {k : SV → Option β} {b : β}
theorem RdO.of_sem {s : SV} {sem : Act → Sem Value} (he : ∀ a : Act, execOp a.eval o = (do pure (.value (← sem a)) : Sem Next)) (h : ∀ (w0 : Base) (Sx : Nat → Prop) (γ : Nat → Value) (a : Act) (w : World), Sim w0 Sx γ st a w → Rd P K Sx γ st w (sem a) s) : RdO P K st o s := fun w0 Sx γ a w hI => by
  obtain ⟨v, h1, h2⟩ := h w0 Sx γ a w hI
  exact ⟨v, h1, fun x hx => by rw [he]; exact run_v (h2 x hx)⟩
theorem qv {s : SV} {Q : St → Prop} (h : RdO P K st o s) (hd : zn st o.dst = true) (hQ : Q (st.put o.dst s)) : ActOk P [] o st Q := by
  intro w0 Sx γ a w QQ hI
  obtain ⟨v, h1, h2⟩ := h w0 Sx γ a w hI
  unfold Oper.wp
  rw [h2 w (SameOn.refl _ _)]
  refine ⟨γ, _, hQ, hI.put hd h1, SameOn.refl _ _, fun K _ b _ hv => ?_⟩
  rw [wP]; exact hv
include hT in
theorem qi {s : SV} {c : Prop} (h : opR T K st o.op = some (c, s)) (hc : c) : RdO P K st o s := fun _ _ _ _ _ hI => opR_ok hT hI h hc
theorem goF_ok {r : Option (Prop × SV)} {c : Bool} (h : goF r c k = some b) : ∃ p s, r = some (p, s) ∧ c = true ∧ k s = some b := by
  unfold goF at h
  split at h
  · rename_i p s
    cases c with
    | false => cases h
    | true => rw [cond_true, fSV_eq] at h; exact ⟨p, s, rfl, rfl, h⟩
  · cases h
theorem goP_ok {r : Option (Prop × SV)} (h : goP r k = some b) : ∃ p s, r = some (p, s) ∧ k s = some b := by
  unfold goP at h
  split at h
  · exact ⟨_, _, rfl, h⟩
  · cases h
theorem goS_ok {r : Option SV} (h : goS r k = some b) : ∃ s, r = some s ∧ k s = some b := by
  unfold goS at h
  split at h
  · exact ⟨_, rfl, h⟩
  · cases h
theorem binC_ok {op : BinOp} {x y v : Value} {c : Prop} (h : binV op x y = some (c, v)) (hc : binC op x y = true) : c := by
  unfold binV at h
  split at h
  · cases op <;> simp only [binC] at hc <;> dsimp only at h <;>
      first
        | (cases h; exact jT hc)
        | (split at h
           · first
               | (cases h; exact trivial)
               | (cases h; simpa using hc)
               | cases h
           · cases h)
        | cases h
  · cases op <;> simp only [binC] at hc <;> dsimp only at h <;>
      first
        | (cases h; exact trivial)
        | (cases h; have := Nat.le_of_ble_eq_true hc; show ((_ : Nat) : Int) ≤ 9223372036854775807; omega)
        | cases h
  · split at h
    · cases op <;> dsimp only at h <;> first | (cases h; exact trivial) | cases h
    · cases h
  · split at h
    · cases op <;> dsimp only at h <;> first | (cases h; exact trivial) | cases h
    · cases h
  · cases h
theorem rBinC_ok {op : BinOp} {t : TypeId} {x y : Option SV} {s : SV} {c : Prop} (h : rBin T op t x y = some (c, s)) (hc : rBinC T op t x y = true) : c := by
  unfold rBin at h
  split at h
  · split at h
    · split at h
      · cases h; exact trivial
      · cases h
    · cases h
  · rename_i x y _
    simp only [rBinC] at hc
    unfold ofV at h
    split at h
    · rename_i c' v hb
      cases h
      exact binC_ok hb hc
    · cases h
  · rename_i xs ys
    simp only [rBinC] at hc
    split at h
    · rename_i ht
      rw [qY, ht] at hc
      split at h
      · cases op <;> dsimp only at h <;> first | (cases h; exact hc) | cases h
      · cases h
    · cases h
  · cases h
theorem rIndexAddrC_ok {t : TypeId} {x i : Option SV} {s : SV} {c : Prop} (h : wh T st t x i = some (c, s)) (hc : jn T st t x i = true) : c := by
  unfold wh at h
  split at h
  · split at h
    · split at h
      · simp only [jn] at hc
        rename_i z l n
        generalize hb : Nat.beq _ _ = q at h
        cases q with
        | false => cases h
        | true => cases h; exact jq hc
      · simp only [jn, qY] at hc
        split at h
        · rename_i z l hj
          rw [hj] at hc
          generalize hb : Nat.beq _ _ = q at h
          cases q with
          | false => cases h
          | true => cases h; exact jq hc
        · cases h
      · simp only [jn] at hc
        rename_i z lo hi _ n
        generalize hb : Nat.beq _ _ = q at h
        cases q with
        | false => cases h
        | true => cases h; exact jq hc
      · cases h
    · cases h
  · rename_i ht
    split at h
    · split at h
      · simp only [jn, qY, ht] at hc
        cases h; exact jq hc
      · simp only [jn, qY, ht] at hc
        cases h; exact jq hc
      · cases h
    · cases h
  · cases h
theorem rIndexC_ok {t : TypeId} {x i : Option SV} {s : SV} {c : Prop} (h : rIndex T t x i = some (c, s)) (hc : rIndexC T t x i = true) : c := by
  unfold rIndex at h
  split at h
  · split at h
    · simp only [rIndexC] at hc
      cases h; exact jq hc
    · cases h
  · rename_i ht
    split at h
    · split at h
      · split at h
        · simp only [rIndexC, qY, ht] at hc
          cases h; exact jq hc
        · cases h
      · cases h
    · cases h
  · cases h
theorem endsC_ok {n : Nat} {lo hi : Option Operand} {l h : Int} (he : ends st n lo hi = some (l, h)) (hc : endsC st n lo hi = true) : 0 ≤ l ∧ l ≤ h ∧ h ≤ n := by
  unfold endsC at hc
  rw [he] at hc
  simp only [Bool.and_eq_true] at hc
  exact ⟨jT hc.1.1, jT hc.1.2, jT hc.2⟩
theorem rSliceC_ok {t : TypeId} {x : Option SV} {lo hi mx : Option Operand} {s : SV} {c : Prop} (h : rSlice T st t x lo hi mx = some (c, s)) (hc : rSliceC st x lo hi = true) : c := by
  unfold rSlice at h
  split at h
  · cases h
  · split at h
    · split at h
      · simp only [rSliceC] at hc
        split at h
        · rename_i he
          cases h; exact endsC_ok he hc
        · cases h
      · cases h
    · split at h
      · split at h
        · simp only [rSliceC] at hc
          rename_i z xs
          generalize hb : Nat.beq _ _ = q at h
          cases q with
          | false => cases h
          | true =>
            simp only [cond_true] at h
            split at h
            · rename_i he
              cases h; exact endsC_ok he hc
            · cases h
        · simp only [rSliceC, qY] at hc
          split at h
          · rename_i z xs hj
            rw [hj] at hc
            generalize hb : Nat.beq _ _ = q at h
            cases q with
            | false => cases h
            | true =>
              simp only [cond_true] at h
              split at h
              · rename_i he
                cases h; exact endsC_ok he hc
              · cases h
          · cases h
        · simp only [rSliceC] at hc
          rename_i z lo0 hi0
          generalize hb : Nat.beq _ _ = q at h
          cases q with
          | false => cases h
          | true =>
            simp only [cond_true] at h
            split at h
            · rename_i he
              cases h; exact endsC_ok he hc
            · cases h
        · cases h
      · cases h
    · cases h
theorem rLoadC_ok {t : TypeId} {x : Option SV} {s : SV} {c : Prop} (h : rLoad T K st t x = some (c, s)) (hc : rLoadC st x = true) : c := by
  unfold rLoad at h
  split at h
  · split at h
    · split at h
      · cases h; exact trivial
      · cases h
    · split at h
      · cases h
      · split at h
        · split at h
          · cases h; exact trivial
          · cases h
        · cases h
    · split at h
      · cases h
      · simp only [rLoadC, qY] at hc
        split at h
        · rename_i z' l hj
          rw [hj] at hc
          rename_i z kk _ _ _
          generalize hb : Nat.beq _ _ = q at h
          cases q with
          | false => cases h
          | true =>
            simp only [cond_true] at h
            split at h
            · cases h; simpa [Nat.blt, Nat.lt_iff_add_one_le] using hc
            · cases h
        · cases h
    · cases h
  · cases h
theorem rLookupC_ok {t : TypeId} {m key : Option SV} {s : SV} {c : Prop} (h : rLookup T K st t m key = some (c, s)) (hc : rLookupC T st t m = true) : c := by
  unfold rLookup at h
  split at h
  · rename_i ht
    split at h
    · rename_i hkt _
      split at h
      · split at h
        · cases h
        · split at h
          · rename_i es hj
            simp only [rLookupC, qY, ht, hkt, hj] at hc
            generalize hb : kdOk _ _ = q at h
            cases q with
            | false => cases h
            | true => cases h; exact hc
          · cases h
      · cases h
    · cases h
  · cases h
theorem isNil_ok {t : TypeId} {ptr b : Bool} {s : SV} (h : isNil T st t ptr s = some b) (hT : zh P T) {w0 : Base} {Sx : Nat → Prop} {γ : Nat → Value} {a : Act} {w : World} (hI : Sim w0 Sx γ st a w) {u : Value} (hu : RelS (okO Sx γ st.own) (hp γ st.own) w s u) :
    (ptr = false ∧ ∃ e A n c, P.underlying t = some (.slice e) ∧ u = .slice A n c ∧ A.isNone = b) ∨ (ptr = true ∧ ∃ e q, P.underlying t = some (.pointer e) ∧ u = .pointer q ∧ q.isNone = b) := by
  unfold isNil at h
  rw [qY] at h
  split at h
  · rename_i e _ _ ht
    have hd := (hT t _ ht).und
    simp only [jy] at hd
    refine Or.inl ⟨rfl, e, ?_⟩
    split at h
    · cases h; exact ⟨none, 0, 0, hd, hu.v_inv, rfl⟩
    · cases h
      obtain ⟨A, c, hv, hlc, hm, he, hsl⟩ := hu.p_inv.slat
      obtain ⟨b, o, rfl, _⟩ := hsl (by simp)
      exact ⟨_, _, _, hd, hv, rfl⟩
    · rw [qY] at h
      split at h
      · rename_i hj
        cases h
        obtain ⟨A, c, g1, g2, g3, g4, g5⟩ := row_slat hI.heap hj
        obtain ⟨b, o, rfl, _⟩ := g5 (by simp)
        cases hu with
        | row hg => rw [qP hj] at hg; cases hg; exact ⟨_, _, _, hd, g1, rfl⟩
      · cases h
    · cases h
  · rename_i ht
    have hd := (hT t _ ht).und
    simp only [jy] at hd
    obtain ⟨e, hd⟩ := hd
    refine Or.inr ⟨rfl, e, ?_⟩
    split at h
    · cases h; exact ⟨none, hd, hu.v_inv, rfl⟩
    · cases h
      obtain ⟨b, o, rfl⟩ := hu.p_inv.rp_form
      exact ⟨_, hd, rfl, rfl⟩
    · cases h
      obtain ⟨b, g, rfl, _⟩ := hu.ptr_form
      exact ⟨_, hd, rfl, rfl⟩
    · cases h
      obtain ⟨b, g, rfl, _⟩ := hu.eptr_form
      exact ⟨_, hd, rfl, rfl⟩
    · cases h
  · cases h
include hT in
theorem eNil_ok {op : BinOp} {t t' : TypeId} {x y : Operand} {ptr : Bool} (ho : o.op = .binOp op t x y t') (hy : evS st y = some (.p (.v (bif ptr then .pointer none else .slice none 0 0)))) (h : eNil T st op t t' ptr (evS st x) k = some b) : ∃ s, RdO P K st o s ∧ k s = some b := by
  unfold eNil at h
  split at h
  · rename_i s hx hbt
    have e1 : t = t' := Nat.eq_of_beq_eq_true hbt
    subst e1
    have key : ∀ r : Bool, isNil T st t ptr s = some r → (op = .eql → RdO P K st o (.p (.v (.bool r)))) ∧ (op = .neq → RdO P K st o (.p (.v (.bool !r)))) := by
      intro r hr
      have run : ∀ (w0 : Base) (Sx : Nat → Prop) (γ : Nat → Value) (a : Act) (w : World), Sim w0 Sx γ st a w → ∀ z, (op = .eql → (execOp a.eval o).run P z = .ok (.value (.bool r)) z) ∧ (op = .neq → (execOp a.eval o).run P z = .ok (.value (.bool !r)) z) := by
        intro w0 Sx γ a w hI z
        have hyv := (qx hI hy).v_inv
        rcases isNil_ok hr hT hI (qx hI hx) with ⟨rfl, e, A, n, c, hd, hv, rfl⟩ | ⟨rfl, e, q, hd, hv, rfl⟩
        · rw [cond_false] at hyv
          refine ⟨fun hop => ?_, fun hop => ?_⟩ <;> subst hop <;> simp only [execOp, ho, hv, hyv] <;> refine run_v ?_
          · have h1 : (eqGuard .eql t x y (.slice A n c) (.slice none 0 0)).run P z = .ok () z := rfl
            rw [Sem.run_bind, h1]
            simp only [Result.andThen_ok]
            simp [binOp, Op.equal, Op.maxDepth, wl z 9999 t e A n c hd]
          · have h1 : (eqGuard .neq t x y (.slice A n c) (.slice none 0 0)).run P z = .ok () z := rfl
            rw [Sem.run_bind, h1]
            simp only [Result.andThen_ok]
            simp [binOp, Op.equal, Op.maxDepth, wl z 9999 t e A n c hd]
        · rw [cond_true] at hyv
          have hq : ∀ d, (Op.equalIn (d + 1) t (.pointer q) (.pointer none)).run P z = .ok q.isNone z := fun d => by
            cases q <;> simp [Op.equalIn, run_underlying hd]
          refine ⟨fun hop => ?_, fun hop => ?_⟩ <;> subst hop <;> simp only [execOp, ho, hv, hyv] <;> refine run_v ?_
          · have h1 : (eqGuard .eql t x y (.pointer q) (.pointer none)).run P z = .ok () z := rfl
            rw [Sem.run_bind, h1]
            simp only [Result.andThen_ok]
            simp [binOp, Op.equal, Op.maxDepth, hq 9999]
          · have h1 : (eqGuard .neq t x y (.pointer q) (.pointer none)).run P z = .ok () z := rfl
            rw [Sem.run_bind, h1]
            simp only [Result.andThen_ok]
            simp [binOp, Op.equal, Op.maxDepth, hq 9999]
      exact ⟨fun hop w0 Sx γ a w hI => ⟨.bool r, .p (.v rfl), fun z _ => (run w0 Sx γ a w hI z).1 hop⟩, fun hop w0 Sx γ a w hI => ⟨.bool !r, .p (.v rfl), fun z _ => (run w0 Sx γ a w hI z).2 hop⟩⟩
    split at h
    · rename_i hr; exact ⟨_, (key _ hr).1 rfl, h⟩
    · rename_i hr; exact ⟨_, (key _ hr).2 rfl, h⟩
    · rename_i hr; exact ⟨_, (key _ hr).2 rfl, h⟩
    · cases h
  · cases h
include hT in
theorem eStr_ok {op : BinOp} {t t' : TypeId} {x y : Operand} {p q : ByteArray} (ho : o.op = .binOp op t x y t') (hx : evS st x = some (.p (.v (.string p)))) (hy : evS st y = some (.p (.v (.string q)))) (h : eStr op p q k = some b) : ∃ s, RdO P K st o s ∧ k s = some b := by
  have key : ∀ {c : Prop} {v : Value}, binV op (.string p) (.string q) = some (c, v) → c → RdO P K st o (.p (.v v)) := fun {c v} hv hc => by
    refine qi hT (c := c) ?_ hc
    rw [ho]
    show rBin T op t (evS st x) (evS st y) = _
    rw [hx, hy]
    show ofV (binV op (.string p) (.string q)) = _
    rw [hv]; rfl
  cases op <;> unfold eStr at h <;> dsimp only at h <;> first
    | (cases h; done)
    | (rw [fBool_eq, sEq_ok, ← qaf, ← qaf] at h; exact ⟨_, key rfl trivial, h⟩)
    | (rw [fBool_eq, ← qaf, ← qaf] at h; exact ⟨_, key rfl trivial, h⟩)
    | skip
  · cases hc : Nat.ble (p.size + q.size) 9223372036854775807 with
    | false => rw [hc] at h; cases h
    | true =>
      rw [hc, cond_true, wa] at h
      have e : (⟨⟨p.data.toList ++ q.data.toList⟩⟩ : ByteArray) = p ++ q := by
        apply ByteArray.ext
        rw [ByteArray.data_append]
        apply Array.toList_inj.1
        simp
      rw [e] at h
      refine ⟨_, key (v := .string (p ++ q)) rfl ?_, h⟩
      have := Nat.le_of_ble_eq_true hc
      show ((_ : Nat) : Int) ≤ 9223372036854775807; omega
include hT in
theorem eIfc_ok {op : BinOp} {t t' : TypeId} {x y : Operand} (ho : o.op = .binOp op t x y t') (hc : isConst y = true) (hy : evS st y = some (.p (.v .nilIface))) (h : eIfc T op t t' (evS st x) k = some b) : ∃ s, RdO P K st o s ∧ k s = some b := by
  unfold eIfc at h
  rw [qY] at h
  split at h
  · rename_i hx ht hbt
    have e1 : t = t' := Nat.eq_of_beq_eq_true hbt
    subst e1
    have hd := (hT t _ ht).und
    simp only [jy] at hd
    obtain ⟨m, hd⟩ := hd
    have hyc : ∃ v, y = .const v := by cases y <;> first | exact ⟨_, rfl⟩ | cases hc
    obtain ⟨yv, rfl⟩ := hyc
    have run : ∀ (w0 : Base) (Sx : Nat → Prop) (γ : Nat → Value) (a : Act) (w : World), Sim w0 Sx γ st a w → ∀ z, (op = .eql → (execOp a.eval o).run P z = .ok (.value (.bool true)) z) ∧ (op = .neq → (execOp a.eval o).run P z = .ok (.value (.bool false)) z) := by
      intro w0 Sx γ a w hI z
      have hyv := (qx hI hy).v_inv
      have hxv := (qx hI hx).v_inv
      have hq : ∀ d, (Op.equalIn (d + 1) t .nilIface .nilIface).run P z = .ok true z := fun d => by simp [Op.equalIn, run_underlying hd]
      refine ⟨fun hop => ?_, fun hop => ?_⟩ <;> subst hop <;> simp only [execOp, ho, hxv, hyv] <;> refine run_v ?_
      · have h1 : (eqGuard .eql t x (.const yv) .nilIface .nilIface).run P z = .ok () z := by simp [eqGuard]
        rw [Sem.run_bind, h1]
        simp only [Result.andThen_ok]
        simp [binOp, Op.equal, Op.maxDepth, hq 9999]
      · have h1 : (eqGuard .neq t x (.const yv) .nilIface .nilIface).run P z = .ok () z := by simp [eqGuard]
        rw [Sem.run_bind, h1]
        simp only [Result.andThen_ok]
        simp [binOp, Op.equal, Op.maxDepth, hq 9999]
    split at h
    · exact ⟨_, fun w0 Sx γ a w hI => ⟨.bool true, .p (.v rfl), fun z _ => (run w0 Sx γ a w hI z).1 rfl⟩, h⟩
    · exact ⟨_, fun w0 Sx γ a w hI => ⟨.bool false, .p (.v rfl), fun z _ => (run w0 Sx γ a w hI z).2 rfl⟩, h⟩
    · cases h
  · cases h
include hT in
theorem eBin_ok {op : BinOp} {t t' : TypeId} {x y : Operand} (ho : o.op = .binOp op t x y t') (h : eBin T st op t t' (isConst y) (evS st x) (evS st y) k = some b) : ∃ s, RdO P K st o s ∧ k s = some b := by
  unfold eBin at h
  split at h
  · rename_i hx hy; exact eStr_ok hT ho hx hy h
  · rename_i hy; exact eNil_ok hT ho (ptr := false) hy h
  · rename_i hy; exact eNil_ok hT ho (ptr := true) hy h
  · rename_i hy
    cases hc : isConst y with
    | false => rw [hc] at h; cases h
    | true => rw [hc] at h; exact eIfc_ok hT ho hc hy h
  · obtain ⟨p, s, h1, h2, h3⟩ := goF_ok h
    exact ⟨s, qi hT (by rw [ho]; exact h1) (rBinC_ok h1 h2), h3⟩
include hT in
theorem eIndex_ok {t : TypeId} {x i : Operand} (ho : o.op = .index t x i) (h : eIndex T t (evS st x) (evS st i) k = some b) : ∃ s, RdO P K st o s ∧ k s = some b := by
  unfold eIndex at h
  split at h
  · rename_i q q' n hx hi
    rw [qY] at h
    split at h
    · rename_i ht
      split at h
      · rename_i c hc
        cases hb : wu n q.size with
        | false => rw [hb] at h; cases h
        | true =>
          rw [hb, cond_true, qaj] at h
          have e : byteAt q n.toNat = Int.ofNat c.toNat := by
            unfold byteAt
            rw [Array.getElem?_toList] at hc
            rw [Array.getD_eq_getD_getElem?, hc]; rfl
          refine ⟨_, qi hT (c := 0 ≤ n ∧ n < q.size) ?_ (jq hb), h⟩
          rw [ho, ← e]
          show rIndex T t (evS st x) (evS st i) = _
          rw [hx, hi]
          unfold rIndex
          rw [ht]
      · cases h
    · cases h
  · obtain ⟨p, s, h1, h2, h3⟩ := goF_ok h
    exact ⟨s, qi hT (by rw [ho]; exact h1) (rIndexC_ok h1 h2), h3⟩
include hT in
theorem eSlice_ok {t : TypeId} {x : Operand} {lo hi mx : Option Operand} (ho : o.op = .slice t x lo hi mx) (h : eSlice T st t (evS st x) lo hi mx k = some b) : ∃ s, RdO P K st o s ∧ k s = some b := by
  unfold eSlice at h
  split at h
  · rename_i q hx
    split at h
    · rename_i l r ht he
      rw [qY] at ht
      cases hb : ((ible 0 l && ible l r) && ible r (.ofNat q.size)) with
      | false => rw [hb] at h; cases h
      | true =>
        rw [hb, cond_true, wa] at h
        simp only [Bool.and_eq_true] at hb
        have hc : 0 ≤ l ∧ l ≤ r ∧ r ≤ q.size := ⟨jT hb.1.1, jT hb.1.2, jT hb.2⟩
        have e : (⟨⟨(q.data.toList.drop l.toNat).take (r.toNat - l.toNat)⟩⟩ : ByteArray) = q.extract l.toNat r.toNat := by
          apply ByteArray.ext
          rw [ByteArray.data_extract]
          apply Array.toList_inj.1
          simp [List.extract_eq_take_drop]
        rw [e] at h
        refine ⟨_, qi hT (c := 0 ≤ l ∧ l ≤ r ∧ r ≤ q.size) ?_ hc, h⟩
        rw [ho]
        show rSlice T st t (evS st x) lo hi none = _
        rw [hx]
        unfold rSlice
        rw [ht]
        simp only [he]
    · cases h
  · rename_i hx
    split at h
    · unfold eSliceX at h
      rw [qY] at h
      split at h
      · rename_i e _ _ ht
        have hd := (hT t _ ht).und
        simp only [jy] at hd
        split at h
        · rename_i l r _ he
          rw [qY] at h
          cases hb : ((lk e T).isSome && (ible 0 l && ible l r && ible r 0)) with
          | false => rw [hb] at h; cases h
          | true =>
            rw [hb, cond_true] at h
            simp only [Bool.and_eq_true] at hb
            obtain ⟨ei, hei⟩ := Option.isSome_iff_exists.1 hb.1
            have hc : 0 ≤ l ∧ l ≤ r ∧ r ≤ ((0 : Nat) : Int) := ⟨jT hb.2.1.1, jT hb.2.1.2, jT hb.2.2⟩
            have hi' := hT e ei hei
            have hl0 : l.toNat = 0 := by omega
            have hr0 : r.toNat = 0 := by omega
            refine ⟨_, RdO.of_sem (sem := fun a => Instr.sliceAt t (a.eval x) (lo.map a.eval) (hi.map a.eval) none) (fun a => by simp only [execOp, ho, Option.map_none]) fun w0 Sx γ a w hI => ?_, h⟩
            rw [(qx hI hx).v_inv]
            refine qU (v := .slice none 0 0) (.p (.v rfl)) fun z => ?_
            simp only [Instr.sliceAt, Instr.slice, Sem.run_bind, run_underlying hd, Result.andThen_ok, Option.map_none, ends_ok hI (P := P) (isSlice := true) he hc (Nat.le_refl _) z, Sem.run_pure, hi'.size z, hl0, hr0]
            rfl
        · cases h
      · cases h
    · cases h
  · obtain ⟨p, s, h1, h2, h3⟩ := goF_ok h
    exact ⟨s, qi hT (by rw [ho]; exact h1) (rSliceC_ok h1 h2), h3⟩
theorem bytesOf_get : ∀ {l : List (List PV)} {bs : List UInt8}, bytesOf l = some bs → bs.length = l.length ∧ ∀ i : Nat, i < l.length → ∃ n : Int, l[i]? = some [.v (.int .u8 n)] ∧ bs[i]? = some (UInt8.ofNat n.toNat)
  | [], bs, h => by simp only [bytesOf, Option.some.injEq] at h; subst h; exact ⟨rfl, fun i hi => by simp at hi⟩
  | c :: r, bs, h => by
    unfold bytesOf at h
    split at h
    · rename_i b hb
      split at h
      · rename_i l hl
        simp only [Option.some.injEq] at h
        subst h
        obtain ⟨h1, h2⟩ := bytesOf_get hl
        refine ⟨by simp [h1], fun i hi => ?_⟩
        cases i with
        | zero =>
          unfold byteOf at hb
          split at hb
          · rename_i n
            cases hb; exact ⟨n, rfl, rfl⟩
          · cases hb
        | succ i =>
          obtain ⟨n, g1, g2⟩ := h2 i (by simpa using hi)
          exact ⟨n, by simpa using g1, by simpa using g2⟩
      · cases h
    · cases h
theorem push_fold : ∀ (ns : List Int) (s : ByteArray), ns.foldl (fun r n => r.push (UInt8.ofNat n.toNat)) s = ⟨⟨s.data.toList ++ ns.map fun n => UInt8.ofNat n.toNat⟩⟩
  | [], s => by
    apply ByteArray.ext
    apply Array.toList_inj.1
    simp
  | n :: ns, s => by
    rw [List.foldl_cons, push_fold ns]
    apply ByteArray.ext
    apply Array.toList_inj.1
    simp [ByteArray.push]
theorem run_text {sT dT e : TypeId} {A : Option Addr} {c : Nat} {l : List (List PV)} {bs : List UInt8} {x : World} (hs : P.underlying sT = some (.slice e)) (he : P.underlying e = some (.int .u8)) (hd : P.underlying dT = some .string) (hl : bytesOf l = some bs)
    (h : 0 < l.length → ∃ b o, A = some ⟨b, o, none⟩ ∧ ∀ i n, l[i]? = some [.v (.int .u8 n)] → x.cell? ⟨b, o + i, none⟩ = some (.int .u8 n)) :
    (convert sT dT (.slice A l.length c)).run P x = .ok (.string ⟨⟨bs⟩⟩) x := by
  rw [run_convert_bytes_string x sT dT e A l.length c hs he hd]
  obtain ⟨g1, g2⟩ := bytesOf_get hl
  cases A with
  | none =>
    have : l = [] := by
      rcases Nat.eq_zero_or_pos l.length with h0 | h0
      · exact List.eq_nil_of_length_eq_zero h0
      · obtain ⟨b, o, hA, _⟩ := h h0; cases hA
    subst this
    have : bs = [] := List.eq_nil_of_length_eq_zero g1
    subst this
    simp [Conv.bytesToString]; rfl
  | some ad =>
    have hex : ∀ i : Nat, ∃ n : Int, i < l.length → l[i]? = some [.v (.int .u8 n)] ∧ bs[i]? = some (UInt8.ofNat n.toNat) := fun i => by
      by_cases hi : i < l.length
      · obtain ⟨n, h1⟩ := g2 i hi; exact ⟨n, fun _ => h1⟩
      · exact ⟨0, fun h => absurd h hi⟩
    obtain ⟨f, hf⟩ := Classical.axiomOfChoice hex
    have hbs : bs = ((List.range l.length).map f).map fun n => UInt8.ofNat n.toNat := by
      refine List.ext_getElem? fun i => ?_
      by_cases hi : i < l.length
      · rw [(hf i hi).2]; simp [hi]
      · rw [List.getElem?_eq_none (by omega), List.getElem?_eq_none (by simp; omega)]
    have hcells : ∀ j v, (((List.range l.length).map f).map (Value.int .u8))[j]? = some v → x.cell? (ad.add j) = some v := fun j v hv => by
      have hj : j < l.length := by have := (List.getElem?_eq_some_iff.1 hv).1; simpa using this
      obtain ⟨b, o, hA, hx⟩ := h (by omega)
      cases hA
      rw [jH]
      simp [hj] at hv
      rw [← hv]
      exact hx j _ (hf j hj).1
    have h1 := run_loadCells_list (P := P) x ad _ hcells
    rw [List.length_map, List.length_map, List.length_range] at h1
    rw [run_bytesToString x ad l.length c _ h1, push_fold, hbs]
    rfl
include hT in
theorem eConv_ok {sT dT : TypeId} {x : Operand} (ho : o.op = .convert sT dT x) (h : eConv T K st sT dT (evS st x) k = some b) : ∃ s, RdO P K st o s ∧ k s = some b := by
  have put : ∀ {l : List (List PV)}, eText T sT dT l k = some b → (∀ (w0 : Base) (Sx : Nat → Prop) (γ : Nat → Value) (a : Act) (w : World), Sim w0 Sx γ st a w → ∃ A c, a.eval x = .slice A l.length c ∧ ∀ z, SameOn (vis K γ st.own) w z → 0 < l.length → ∃ b o, A = some ⟨b, o, none⟩ ∧ ∀ i n, l[i]? = some [.v (.int .u8 n)] → z.cell? ⟨b, o + i, none⟩ = some (.int .u8 n)) →
      ∃ s, RdO P K st o s ∧ k s = some b := fun {l} h hx => by
    unfold eText at h
    rw [qY, qY] at h
    split at h
    · rename_i e _ _ _ _ _ _ hs hd
      rw [qY] at h
      split at h
      · rename_i bs he hbs
        rw [wa] at h
        have us := (hT sT _ hs).und
        have ud := (hT dT _ hd).und
        have ue := (hT e _ he).und
        simp only [jy] at us ud ue
        refine ⟨_, RdO.of_sem (sem := fun a => convert sT dT (a.eval x)) (fun a => by simp only [execOp, ho]) fun w0 Sx γ a w hI => ?_, h⟩
        obtain ⟨A, c, ha, hc⟩ := hx w0 Sx γ a w hI
        exact ⟨_, .p (.v rfl), fun z hz => by rw [ha]; exact run_text us ue ud hbs (hc z hz)⟩
      · cases h
    · cases h
  unfold eConv at h
  split at h
  · rename_i zz l hx
    refine put h fun w0 Sx γ a w hI => ?_
    have hr := (qx hI hx).p_inv
    obtain ⟨A, c, hv, _⟩ := hr.slat
    refine ⟨A, c, hv, fun z hz hl => ?_⟩
    have hrz : RelP (okO Sx γ st.own) z (.sl zz l) (a.eval x) := hr.keep (hz.weak fun b _ hok => okO_vis hok)
    obtain ⟨A2, c2, hv2, _, _, he, hsl⟩ := hrz.slat
    rw [hv] at hv2
    cases hv2
    obtain ⟨b, o, hA, _, _, hc⟩ := hsl hl
    refine ⟨b, o, hA, fun i n hi => ?_⟩
    have hil : i < l.length := (List.getElem?_eq_some_iff.1 hi).1
    have hz1 : zz = 1 := by have := (he _ (List.mem_of_getElem? hi)).1; simpa using this.symm
    obtain ⟨cs, q1, q2, q3⟩ := hc i hil
    have hli : l[i] = [.v (.int .u8 n)] := by rw [List.getElem?_eq_getElem hil] at hi; exact Option.some.inj hi
    rw [hli] at q3
    have hcl : cs.length = 1 := q3.1
    have hcs : ∃ u, cs = [u] := by
      match cs, hcl with
      | [u], _ => exact ⟨u, rfl⟩
    obtain ⟨u, rfl⟩ := hcs
    have hu := zX (q3.2 0 _ u rfl rfl) rfl
    subst hu
    have := q2 0 _ rfl
    rw [hz1, Nat.mul_one, Nat.add_zero] at this
    exact this
  · rename_i hx
    refine put h fun w0 Sx γ a w hI => ⟨none, 0, (qx hI hx).v_inv, fun z _ hl => by simp at hl⟩
  · rename_i j hx
    cases hK : K.contains j with
    | true => rw [hK] at h; cases h
    | false =>
      rw [hK, cond_false, qY] at h
      split at h
      · rename_i e zz l hj
        refine put h fun w0 Sx γ a w hI => ?_
        have hr := qx hI hx
        obtain ⟨A, c, g1, g2, g3, g4, g5⟩ := row_slat hI.heap hj
        have ha : a.eval x = γ j := by
          generalize a.eval x = u at hr
          cases hr with
          | row hg => rw [qP hj] at hg; cases hg; rfl
        refine ⟨A, c, by rw [ha, g1], fun z hz hl => ?_⟩
        obtain ⟨b, o, hA, hlt, hc⟩ := g5 hl
        refine ⟨b, o, hA, fun i n hi => ?_⟩
        have hil : i < l.length := (List.getElem?_eq_some_iff.1 hi).1
        have hz1 : zz = 1 := by have := (g4 _ (List.mem_of_getElem? hi)).1; simpa using this.symm
        obtain ⟨cs, q1, q2, q3, q4⟩ := hc i hil
        have hli : l[i] = [.v (.int .u8 n)] := by rw [List.getElem?_eq_getElem hil] at hi; exact Option.some.inj hi
        rw [hli] at q4
        have hcs : ∃ u, cs = [u] := by
          match cs, (q4.1 : cs.length = 1) with
          | [u], _ => exact ⟨u, rfl⟩
        obtain ⟨u, rfl⟩ := hcs
        have hu := zX (q4.2 0 _ u rfl rfl) rfl
        subst hu
        have := q2 0 _ rfl
        rw [hz1, Nat.mul_one, Nat.add_zero] at this
        have hbj : qV (γ j) = some b := by rw [g1, hA]; rfl
        rw [World.cell?_of_block (w := w) (a := ⟨b, o + i, none⟩) (hz.block b hlt fun i2 bx h1 h2 h3 => ?_)]
        · exact this
        · have := hI.heap.inj i2 j _ _ b h1 hj h3 hbj
          subst this
          rw [hK] at h2; cases h2
      · cases h
  · obtain ⟨p, s, h1, _, h3⟩ := goF_ok h
    refine ⟨s, qi hT (by rw [ho]; exact h1) ?_, h3⟩
    unfold rConv at h1
    repeat' split at h1
    all_goals first | (cases h1; done) | (cases h1; exact trivial)
include hT in
theorem eCall_ok {c : Call} (ho : o.op = .call c) (h : eCall T st c k = some b) : ∃ s, RdO P K st o s ∧ k s = some b := by
  unfold eCall at h
  simp only [evF_eq] at h
  have put : ∀ {r : Option (Prop × SV)}, opR T K st (.call c) = r → (∀ p s, r = some (p, s) → p) → goF r true k = some b → ∃ s, RdO P K st o s ∧ k s = some b := fun {r} he hp h => by
    obtain ⟨p, s, h1, _, h3⟩ := goF_ok h
    exact ⟨s, qi hT (by rw [ho, he]; exact h1) (hp p s h1), h3⟩
  split at h
  · rename_i hcl
    split at h
    · rename_i hargs hts
      refine put ?_ (fun p s hr => ?_) h
      · simp only [opR, hcl, hargs, hts]
      · unfold rLen at hr
        repeat' split at hr
        all_goals first | (cases hr; done) | (cases hr; exact trivial)
    · cases h
  · rename_i hcl
    split at h
    · rename_i hargs
      refine put ?_ (fun p s hr => ?_) h
      · simp only [opR, hcl, hargs]
      · unfold rMinMax at hr
        repeat' split at hr
        all_goals first | (cases hr; done) | (cases hr; exact trivial)
    · cases h
  · rename_i hcl
    split at h
    · rename_i hargs
      refine put ?_ (fun p s hr => ?_) h
      · simp only [opR, hcl, hargs]
      · unfold rMinMax at hr
        repeat' split at hr
        all_goals first | (cases hr; done) | (cases hr; exact trivial)
    · cases h
  · rename_i hcl
    split at h
    · rename_i hargs
      obtain ⟨p, s, h1, h3⟩ := goP_ok h
      refine ⟨s, qi hT (c := p) (by rw [ho]; simp only [opR, hcl, hargs]; exact h1) ?_, h3⟩
      unfold rReal at h1
      repeat' split at h1
      all_goals first | (cases h1; done) | (cases h1; exact trivial)
    · cases h
  · rename_i hcl
    split at h
    · rename_i hargs
      obtain ⟨p, s, h1, h3⟩ := goP_ok h
      refine ⟨s, qi hT (c := p) (by rw [ho]; simp only [opR, hcl, hargs]; exact h1) ?_, h3⟩
      unfold rImag at h1
      repeat' split at h1
      all_goals first | (cases h1; done) | (cases h1; exact trivial)
    · cases h
  · rename_i hcl
    split at h
    · rename_i hargs
      obtain ⟨p, s, h1, h3⟩ := goP_ok h
      refine ⟨s, qi hT (c := p) (by rw [ho]; simp only [opR, hcl, hargs]; exact h1) ?_, h3⟩
      unfold rCplx at h1
      repeat' split at h1
      all_goals first | (cases h1; done) | (cases h1; exact trivial)
    · cases h
  · cases h
include hT in
theorem opE_ok (h : opE T K st o.op k = some b) : ∃ s, RdO P K st o s ∧ k s = some b := by
  unfold opE at h
  simp only [evF_eq] at h
  have yes_of : ∀ {r : Option (Prop × SV)}, (∀ p s, r = some (p, s) → p) → opR T K st o.op = r → goF r true k = some b → ∃ s, RdO P K st o s ∧ k s = some b := fun {r} hp he h => by
    obtain ⟨p, s, h1, _, h3⟩ := goF_ok h
    exact ⟨s, qi hT (he.trans h1) (hp p s h1), h3⟩
  split at h
  · rename_i x ho
    obtain ⟨s, h1, h2⟩ := goS_ok h
    exact ⟨s, qi hT (c := True) (by rw [ho]; simp only [opR, h1]; rfl) trivial, h2⟩
  · rename_i x ho
    obtain ⟨s, h1, h2⟩ := goS_ok h
    exact ⟨s, qi hT (c := True) (by rw [ho]; simp only [opR, h1]; rfl) trivial, h2⟩
  · rename_i c x y ho
    obtain ⟨p, s, h1, h2⟩ := goP_ok h
    refine ⟨s, qi hT (c := p) (by rw [ho]; exact h1) ?_, h2⟩
    unfold rPick at h1
    repeat' split at h1
    all_goals first | (cases h1; done) | (cases h1; exact trivial)
  · rename_i ho; exact eBin_ok hT ho h
  · rename_i op t x ho
    unfold eUn at h
    split at h
    · rename_i v hx
      split at h
      · rename_i v' hv
        rw [fVal_eq] at h
        exact ⟨_, qi hT (c := True) (by rw [ho]; simp only [opR, hx, hv]; rfl) trivial, h⟩
      · cases h
    · cases h
  · rename_i ho; exact eConv_ok hT ho h
  · rename_i ho
    refine yes_of (fun p s hr => ?_) (by rw [ho]; rfl) h
    unfold rField at hr
    repeat' split at hr
    all_goals first | (cases hr; done) | (cases hr; exact trivial)
  · rename_i ho
    refine yes_of (fun p s hr => ?_) (by rw [ho]; rfl) h
    unfold wR at hr
    split at hr
    · split at hr
      · split at hr
        · generalize Nat.beq _ _ = q at hr
          cases q with
          | true => cases hr
          | false =>
            rw [cond_false] at hr
            split at hr
            all_goals first | (cases hr; done) | (cases hr; exact trivial)
        · cases hr
      · cases hr
    · cases hr
  · rename_i ho
    obtain ⟨p, s, h1, h2, h3⟩ := goF_ok h
    exact ⟨s, qi hT (by rw [ho]; exact h1) (rIndexAddrC_ok h1 h2), h3⟩
  · rename_i ho; exact eIndex_ok hT ho h
  · rename_i ho; exact eSlice_ok hT ho h
  · rename_i ho
    obtain ⟨p, s, h1, h2, h3⟩ := goF_ok h
    exact ⟨s, qi hT (by rw [ho]; exact h1) (rLoadC_ok h1 h2), h3⟩
  · rename_i x n ho
    unfold eExtract at h
    split at h
    · rename_i cs hx
      obtain ⟨s, h1, h2⟩ := goS_ok h
      exact ⟨s, qi hT (c := True) (by rw [ho]; simp only [opR, hx, h1]; rfl) trivial, h2⟩
    · cases h
  · rename_i f first caps ho
    unfold eFn at h
    obtain ⟨p, s, h1, _, h3⟩ := goF_ok h
    refine ⟨s, qi hT (by rw [ho]; exact h1) ?_, h3⟩
    cases f with
    | func f =>
      simp only [opR] at h1
      repeat' split at h1
      all_goals first | (cases h1; done) | (cases h1; exact trivial)
    | _ => simp only [opR] at h1; cases h1
  · rename_i ho; exact eCall_ok hT ho h
  · rename_i ho
    obtain ⟨p, s, h1, h2, h3⟩ := goF_ok h
    exact ⟨s, qi hT (by rw [ho]; exact h1) (rLookupC_ok h1 h2), h3⟩
  · rename_i ho
    unfold eFn at h
    obtain ⟨p, s, h1, _, h3⟩ := goF_ok h
    refine ⟨s, qi hT (by rw [ho]; exact h1) ?_, h3⟩
    have h1 : rBuild T st _ _ = some (p, s) := h1
    unfold rBuild at h1
    split at h1
    · generalize (_ && _) = q at h1
      cases q with
      | false => cases h1
      | true =>
        rw [cond_true] at h1
        split at h1
        all_goals first | (cases h1; done) | (cases h1; exact trivial)
    · cases h1
  · rename_i ho
    unfold eFn at h
    obtain ⟨p, s, h1, _, h3⟩ := goF_ok h
    refine ⟨s, qi hT (by rw [ho]; exact h1) ?_, h3⟩
    simp only [opR] at h1
    split at h1
    all_goals first | (cases h1; done) | (cases h1; exact trivial)
  · cases h
end
section
variable {P : Program} {T : TT} (hT : zh P T) {st : St} {o : Oper} {β : Type} {k : List Nat → St → Option β} {b : β}
theorem blt_lt {a b : Nat} (h : Nat.blt a b = true) : a < b := by simpa [Nat.blt, Nat.lt_iff_add_one_le] using h
theorem newBox_ok {d : Nat} {s : SV} {bx : Box} (h : newBox st d s bx k = some b) : lk d st.own = none ∧ Nat.blt d st.n = true ∧ k [] ⟨st.n, (d, s) :: st.fr, (d, bx) :: st.own⟩ = some b := by
  unfold newBox at h
  rw [qY] at h
  cases hb : ((lk d st.own).isNone && Nat.blt d st.n) with
  | false => rw [hb] at h; cases h
  | true =>
    rw [hb, cond_true, fBox_eq, fN_eq] at h
    simp only [Bool.and_eq_true] at hb
    exact ⟨Option.isNone_iff_eq_none.1 hb.1, hb.2, h⟩
def Goes (P : Program) (st : St) (o : Oper) (k : List Nat → St → Option β) (b : β) : Prop := ∃ Ws st', ActOk P Ws o st (fun s => s = st') ∧ k Ws st' = some b
include hT in
theorem allocE_ok {e : TypeId} (ho : o.op = .alloc e) (h : allocE T st o.dst e k = some b) : Goes P st o k b := by
  unfold allocE at h
  rw [qY] at h
  split at h
  · rename_i d i hd hi
    cases hz : i.zero.all plain with
    | false => rw [hz] at h; cases h
    | true =>
      rw [hz, cond_true] at h
      obtain ⟨h1, h2, h3⟩ := newBox_ok h
      exact ⟨_, _, act_alloc hT ho hd hi hz h1 h2 rfl, h3⟩
  · cases h
theorem boxE_ok {e : TypeId} {x : Operand} (ho : o.op = .box e x) (h : boxE st o.dst (evS st x) k = some b) : Goes P st o k b := by
  unfold boxE at h
  split at h
  · rename_i d s hd hx
    split at h
    · rename_i cs hc
      cases hz : cs.all oneS with
      | false => rw [hz] at h; cases h
      | true =>
        rw [hz, cond_true] at h
        obtain ⟨h1, h2, h3⟩ := newBox_ok h
        exact ⟨_, _, act_box ho hd hx hc hz h1 h2 rfl, h3⟩
    · cases h
  · cases h
theorem ActOk.frz {Ws : List Nat} {Q : St → Prop} {i : Nat} {e : TypeId} {z : Nat} {l : List (List PV)} (hk : lk i st.own = some (.row e z l)) (h : ActOk P Ws o (st.frz i z l) Q) : ActOk P Ws o st Q := by
  intro w0 Sx γ a w QQ hI
  have old : ∀ {j bx}, lk j (st.frz i z l).own = some bx → ∃ b0, lk j st.own = some b0 := fun {j bx} hj => by
    have hj : lk j ((del i st.own).map fun p => (p.1, p.2.frz i z l)) = some bx := hj
    rw [lk_map, lk_del] at hj
    split at hj
    · cases hj
    · obtain ⟨b0, h1, _⟩ := Option.map_eq_some_iff.1 hj
      exact ⟨b0, h1⟩
  have hv : ∀ K b, vis K γ st.own b → vis K γ (st.frz i z l).own b := fun K b hv j bx hj hK hb => by
    obtain ⟨b0, h1⟩ := old hj
    exact hv j b0 h1 hK hb
  refine Oper.wp_mono (fun a' w' hq => ?_) (h w0 Sx γ a w QQ (sim_frz hk hI))
  obtain ⟨γ', st', h1, h2, h3, h4⟩ := hq
  exact ⟨γ', st', h1, h2, ⟨h3.size, fun b hb hv' => h3.block b hb (hv _ b hv')⟩, fun K hK b hb hv' => h4 K hK b hb (hv K b hv')⟩
theorem frzAll_ok {k : St → Option β} : ∀ {ids : List Nat} {st : St}, frzAll ids st k = some b → ∃ st1, (∀ Ws Q, ActOk P Ws o st1 Q → ActOk P Ws o st Q) ∧ k st1 = some b
  | [], st, h => ⟨st, fun _ _ h => h, h⟩
  | i :: r, st, h => by
    unfold frzAll at h
    rw [qY] at h
    split at h
    · rename_i hi
      rw [fSt_eq] at h
      obtain ⟨st1, h1, h2⟩ := frzAll_ok h
      exact ⟨st1, fun Ws Q hQ => ActOk.frz hi (h1 Ws Q hQ), h2⟩
    · exact frzAll_ok h
include hT in
theorem buildE_ok {t : TypeId} {len : Nat} {parts : Array (Nat × Operand)} {xs : List Operand} (ho : o.op = .buildSlice t len parts) (hp : jJ 0 parts.toList = some xs) (h : buildE T st o.dst t len xs k = some b) : Goes P st o k b := by
  unfold buildE at h
  rw [qY] at h
  split at h
  · rename_i d _ _ e _ _ ss hd ht hss
    rw [qY] at h
    split at h
    · rename_i ei hei
      cases hb : (Nat.blt 0 ei.size && Nat.ble (len * ei.size) 16777216 && Nat.beq xs.length len) with
      | false => rw [hb] at h; cases h
      | true =>
        rw [hb, cond_true, fNats_eq] at h
        simp only [Bool.and_eq_true] at hb
        obtain ⟨st1, h1, h2⟩ := frzAll_ok (P := P) (o := o) h
        split at h2
        · rename_i l hl
          rw [fEls_eq] at h2
          obtain ⟨g1, g2, g3⟩ := newBox_ok h2
          exact ⟨_, _, h1 _ _ (act_buildSlice hT ho hd ht rfl hei hb.1.1 hb.1.2 hp hb.2 hl g1 g2 rfl), g3⟩
        · cases h2
    · cases h
  · cases h
include hT in
theorem storeE_ok {t : TypeId} {ad x : Operand} (ho : o.op = .store t ad x) (hdst : o.dst = none) (h : storeE T st t (evS st ad) (evS st x) k = some b) : Goes P st o k b := by
  unfold storeE at h
  rw [qY] at h
  split at h
  · rename_i ti j off s ht had hx
    rw [qY] at h
    split at h
    · rename_i cs xs hj hc
      cases hb : (xs.all oneS && Nat.beq xs.length ti.size && Nat.ble (off + xs.length) cs.length) with
      | false => rw [hb] at h; cases h
      | true =>
        rw [hb, cond_true, fOnes_eq, fOwn_eq, fN_eq] at h
        simp only [Bool.and_eq_true] at hb
        exact ⟨_, _, act_store hT ho hdst ht had hj hx hc hb.1.1 hb.1.2 hb.2 rfl, h⟩
    · cases h
  · rename_i ti j z i off s ht had hx
    rw [qY] at h
    split at h
    · rename_i e z' l xs hj hc
      cases hb : (Nat.beq z z' && xs.all oneP && Nat.beq xs.length ti.size && Nat.ble (off + xs.length) z && Nat.blt i l.length) with
      | false => rw [hb] at h; cases h
      | true =>
        rw [hb, cond_true, fLeafs_eq, wa, fOwn_eq, fN_eq] at h
        simp only [Bool.and_eq_true] at hb
        have ez : z = z' := Nat.eq_of_beq_eq_true hb.1.1.1.1
        subst ez
        exact ⟨_, _, act_store_elem hT ho hdst ht had hj (blt_lt hb.2) hx hc hb.1.1.1.2 hb.1.1.2 hb.1.2 rfl, h⟩
    · cases h
  · cases h
include hT in
theorem mapE_ok {t : TypeId} {m key x : Operand} (ho : o.op = .mapUpdate t m key x) (hdst : o.dst = none) (h : mapE T st t (evS st m) (evS st key) (evS st x) k = some b) : Goes P st o k b := by
  unfold mapE at h
  rw [qY] at h
  split at h
  · rename_i _ _ kt et _ _ j kv p ht hm hkv hx
    rw [qY, qY] at h
    split at h
    · rename_i ki es hki hj
      cases hb : (kdOk ki.d kv && es.all (fun x => kdOk ki.d x.1) && (mfind kv es).isNone) with
      | false => rw [hb] at h; cases h
      | true =>
        rw [hb, cond_true, fMap_eq, fOwn_eq, fN_eq] at h
        simp only [Bool.and_eq_true] at hb
        exact ⟨_, _, act_mapUpdate hT ho hdst ht rfl hki hm hj hkv hb.1.1 hb.1.2 (Option.isNone_iff_eq_none.1 hb.2) hx rfl, h⟩
    · cases h
  · cases h
section
variable {sx xx : Operand} {t e : TypeId} {cl : Call} (ho : o.op = .call cl) (hcl : cl.callee = .builtin .append) (hargs : cl.args.toList = [sx, xx]) (hts : cl.argTypes.toList = [t, t]) {d : Nat} (hdst : o.dst = some d)
  {ti ei : TyI} (ht : lk t T = some ti) (hte : ti.d = .sl e) (he : lk e T = some ei) (hsz : Nat.blt 0 ei.size = true) (hz : Nat.beq ei.zero.length ei.size = true)
include hT ho hcl hargs hts hdst ht hte he hsz hz
theorem appNil_ok (hs : evS st sx = some (.p (.v (.slice none 0 0)))) (h : appNil st d e ei (evS st xx) k = some b) : Goes P st o k b := by
  unfold appNil at h
  split at h
  · rename_i s2 hx
    split at h
    · rename_i l2 hl2
      cases hc : Nat.ble (l2.length * ei.bytes) 140737488355328 with
      | false => rw [hc] at h; cases h
      | true =>
        rw [hc, cond_true] at h
        obtain ⟨g1, g2, g3⟩ := newBox_ok h
        exact ⟨_, _, act_append_nil hT ho hcl hargs hts hdst ht hte he hsz hz hs hx hl2 g1 g2 (Nat.le_of_ble_eq_true hc) rfl, g3⟩
    · cases h
  · cases h
theorem appRow_ok {k : St → Option β} {j : Nat} (hn : Nat.blt d st.n = true) (hs : evS st sx = some (.row j)) (h : appRow st d e ei j (evS st xx) k = some b) : ∃ st', ActOk P [j] o st (fun s => s = st') ∧ k st' = some b := by
  unfold appRow at h
  rw [qY] at h
  split at h
  · rename_i e' z l s2 hj hx
    split at h
    · rename_i l2 hl2
      cases hc : (Nat.beq e' e && Nat.beq z ei.size && Nat.ble (l.length + l2.length) reachBytes && Nat.ble ((l.length + l2.length) * ei.bytes) 140737488355328 && (lk d (killO j st.own)).isNone) with
      | false => rw [hc] at h; cases h
      | true =>
        rw [hc, cond_true, wa, fSt_eq] at h
        simp only [Bool.and_eq_true] at hc
        have e1 : e' = e := Nat.eq_of_beq_eq_true hc.1.1.1.1
        have e2 : z = ei.size := Nat.eq_of_beq_eq_true hc.1.1.1.2
        subst e1 e2
        exact ⟨_, qp hT ho hcl hargs hts hdst ht hte he hsz hz hs hj hx hl2 (Option.isNone_iff_eq_none.1 hc.2) hn (Nat.le_of_ble_eq_true hc.1.1.2) (Nat.le_of_ble_eq_true hc.1.2) rfl, h⟩
    · cases h
  · cases h
theorem appView_ok {k : St → Option β} {j zv m : Nat} (hn : Nat.blt d st.n = true) (hs : evS st sx = some (.view j zv 0 m)) (h : appView st d e ei sx xx j zv m k = some b) : ∃ st', ActOk P [j] o st (fun s => s = st') ∧ k st' = some b := by
  unfold appView at h
  rw [qY] at h
  split at h
  · rename_i tt e' z l0 hj
    cases hc : ((lk 904999 st.own).isNone && Nat.beq zv z) with
    | false => rw [hc] at h; cases h
    | true =>
      rw [hc, cond_true, fSt_eq, evF_eq] at h
      simp only [Bool.and_eq_true] at hc
      have e1 : zv = z := Nat.eq_of_beq_eq_true hc.2
      subst e1
      obtain ⟨st', h1, h2⟩ := appRow_ok (st := shrunk st tt j zv m e' l0) hT ho hcl hargs hts hdst ht hte he hsz hz hn (show lk tt ((tt, SV.row 904999) :: killF j st.fr) = _ by rw [qE, if_pos rfl]) h
      exact ⟨st', ActOk.shrink tt 904999 hs hj (Option.isNone_iff_eq_none.1 hc.1) rfl h1, h2⟩
  · cases h
end
include hT in
theorem appE_ok {sx xx : Operand} {t : TypeId} {cl : Call} (ho : o.op = .call cl) (hcl : cl.callee = .builtin .append) (hargs : cl.args.toList = [sx, xx]) (hts : cl.argTypes.toList = [t, t]) (h : appE T st o sx xx t k = some b) : Goes P st o k b := by
  unfold appE at h
  simp only [qY, evF_eq] at h
  split at h
  · rename_i d _ _ e _ _ hd ht
    split at h
    · rename_i ei he
      cases hc : (Nat.blt 0 ei.size && Nat.beq ei.zero.length ei.size && Nat.blt d st.n) with
      | false => rw [hc] at h; cases h
      | true =>
        rw [hc, cond_true] at h
        simp only [Bool.and_eq_true] at hc
        split at h
        · rename_i hs; exact appNil_ok hT ho hcl hargs hts hd ht rfl he hc.1.1 hc.1.2 hs h
        · rename_i hs
          obtain ⟨st', h1, h2⟩ := appRow_ok hT ho hcl hargs hts hd ht rfl he hc.1.1 hc.1.2 hc.2 hs h
          exact ⟨_, st', h1, h2⟩
        · rename_i hs
          obtain ⟨st', h1, h2⟩ := appView_ok hT ho hcl hargs hts hd ht rfl he hc.1.1 hc.1.2 hc.2 hs h
          exact ⟨_, st', h1, h2⟩
        · cases h
    · cases h
  · cases h
def EvOk (P : Program) (cx : Cx) (ev : FuncId → FnI → List SV → List (Nat × Box) → Ret) : Prop := ∀ f fi args own r own', lk f cx.F = some fi → ev f fi args own = some (r, own') → zZ P f args own r own'
def TabOk (P : Program) (cx : Cx) : Prop := ∀ f ps r, cx.C f ps = some r → Holds P f ps r []
theorem callE_ok {cx : Cx} {ev : FuncId → FnI → List SV → List (Nat × Box) → Ret} (hev : EvOk P cx ev) (hC : TabOk P cx) {cl : Call} {fo : Operand} {sf : SV} {f : FuncId} {caps : List SV} (ho : o.op = .call cl) (hcl : cl.callee = .value fo) (hfo : evS st fo = some sf) (hfn : fnOf sf = some (f, caps))
    (h : callE cx ev st o (isPS sf) f caps cl.args.toList k = some b) : Goes P st o k b := by
  unfold callE at h
  rw [qY] at h
  split at h
  · rename_i fi hfi
    split at h
    · rw [fRen_eq] at h
      generalize ju true 1000000 _ = ρ at h
      unfold enterE at h
      split at h
      · rename_i own a c hown hargs hcaps
        cases hρ : rhoOk ρ with
        | false => rw [hρ] at h; cases h
        | true =>
          rw [hρ, cond_true, fOnes_eq, fOwn_eq] at h
          unfold backE at h
          split at h
          · rename_i r own' hr
            have hW := hev f fi _ _ r own' hfi hr
            cases hb : (zn st o.dst && backOk st ρ o.dst own') with
            | false => rw [hb] at h; cases h
            | true =>
              rw [hb, cond_true] at h
              simp only [Bool.and_eq_true] at hb
              split at h
              · rename_i st' hst
                rw [fSt_eq] at h
                exact ⟨_, st', act_call_RS ρ ho hcl hfo hfn hcaps hown hρ hargs hW hb.1 fun r' o' ⟨e1, e2⟩ => by subst e1 e2; exact ⟨st', hst, hb.2, rfl⟩, h⟩
              · cases h
          · cases h
      · cases h
    · cases h
  · split at h
    · rename_i cps ps ids hpf hp ha
      split at h
      · rename_i r hr
        cases hb : (flatS r && zn st o.dst) with
        | false => rw [hb] at h; cases h
        | true =>
          rw [hb, cond_true, putE_eq] at h
          simp only [Bool.and_eq_true] at hb
          have hcap : caps = cps.map .p := by
            obtain ⟨q1, q2⟩ := pures_get hp
            refine List.ext_getElem? fun i => ?_
            rw [q2, List.getElem?_map]
          have hsf : sf = .p (.fn f cps) ∨ sf = .fn f caps := by
            cases sf with
            | p x =>
              cases x with
              | fn g cs =>
                simp only [fnOf, Option.some.injEq, Prod.mk.injEq] at hfn
                obtain ⟨rfl, h2⟩ := hfn
                rw [hcap] at h2
                have : cs = cps := (List.map_inj_right (fun a b h => by cases h; rfl)).1 h2
                rw [this]; exact Or.inl rfl
              | _ => cases hfn
            | fn g cs =>
              simp only [fnOf, Option.some.injEq, Prod.mk.injEq] at hfn
              obtain ⟨rfl, rfl⟩ := hfn
              exact Or.inr rfl
            | _ => cases hfn
          rcases hsf with rfl | rfl
          · exact ⟨_, _, qg ho hcl hfo ha (hC f _ r hr) hb.2 hb.1 rfl, h⟩
          · cases hpf
      · cases h
    · cases h
end
theorem ActOk.mono {P : Program} {Ws : List Nat} {o : Oper} {st : St} {Q Q' : St → Prop} (h : ActOk P Ws o st Q) (hq : ∀ s, Q s → Q' s) : ActOk P Ws o st Q' := fun w0 Sx γ a w QQ hI => by
  refine Oper.wp_mono (fun a' w' h' => ?_) (h w0 Sx γ a w QQ hI)
  obtain ⟨γ', st', h1, h2⟩ := h'
  exact ⟨γ', st', hq _ h1, h2⟩
section
variable {P : Program} {cx : Cx} (hT : zh P cx.T) (hC : TabOk P cx) {ev : FuncId → FnI → List SV → List (Nat × Box) → Ret} (hev : EvOk P cx ev)
section
variable {st : St} {o : Oper} {β : Type} {k : List Nat → St → Option β} {b : β}
include hT hC hev in
theorem actE_ok (h : actE cx ev st o k = some b) : Goes P st o k b := by
  unfold actE at h
  simp only [evF_eq] at h
  split at h
  · rename_i ho; exact allocE_ok hT ho h
  · rename_i ho; exact boxE_ok ho h
  · rename_i ho
    split at h
    · rename_i hp; exact buildE_ok hT ho hp h
    · cases h
  · rename_i ho
    split at h
    · rename_i hd; exact storeE_ok hT ho hd h
    · cases h
  · rename_i ho
    split at h
    · rename_i d hd
      obtain ⟨h1, h2, h3⟩ := newBox_ok h
      exact ⟨_, _, act_makeMap ho hd h1 h2 rfl, h3⟩
    · cases h
  · rename_i ho
    split at h
    · rename_i hd; exact mapE_ok hT ho hd h
    · cases h
  · rename_i ho
    unfold acallE at h
    simp only [evF_eq] at h
    split at h
    · rename_i hcl
      split at h
      · rename_i hargs hts
        generalize hb : Nat.beq _ _ = q at h
        cases q with
        | false => cases h
        | true =>
          rw [cond_true] at h
          rename_i t t'
          have e1 : t = t' := Nat.eq_of_beq_eq_true hb
          subst e1
          exact appE_ok hT ho hcl hargs hts h
      · cases h
    · rename_i hcl
      split at h
      · rename_i hfo
        split at h
        · rename_i hfn; exact callE_ok hev hC ho hcl hfo hfn h
        · cases h
      · cases h
    · cases h
  · cases h
include hT hC hev in
theorem stepE_ok (h : stepE cx ev [] st o k = some b) : Goes P st o k b := by
  unfold stepE at h
  cases hr : isRd o.op with
  | false => rw [hr] at h; exact actE_ok hT hC hev h
  | true =>
    rw [hr, cond_true] at h
    cases hd : zn st o.dst with
    | false => rw [hd] at h; cases h
    | true =>
      rw [hd, cond_true] at h
      obtain ⟨s, h1, h2⟩ := opE_ok hT h
      rw [putE_eq] at h2
      exact ⟨_, _, qv h1 hd rfl, h2⟩
end
include hT hC hev in
theorem evT_ok {ops : List Oper} : ∀ {l : List Oper} {st st' : St}, evT cx ev ops l st = some st' → SWT P ops l (fun s => s = st') st
  | [], st, st', h => by
    simp only [evT, Option.some.injEq] at h
    exact qc h
  | o :: r, st, st', h => by
    unfold evT at h
    split at h
    · rename_i hw
      obtain ⟨Ws, st1, h1, h2⟩ := stepE_ok hT hC hev h
      exact qn hw (h1.mono fun s e => by subst e; exact evT_ok h2)
    · rename_i hw
      cases hd : zn st o.dst with
      | false => rw [hd] at h; cases h
      | true =>
        rw [hd, cond_true, putE_eq] at h
        exact swt_skip hw hd (evT_ok h)
    · cases h
theorem swp_rd {ops : List Oper} {K : List Nat} {κ : Kap} {st : St} {Q : St → Prop} {i : Nat} {r : List (Nat × Bool)} {o : Oper} {s : SV} (hi : nthO ops i = some o) (hw : zw ops st o = some true) (hr : RdO P K st o s) (hd : zn st o.dst = true) (h : SWP P ops ((i, K) :: κ) r Q (st.put o.dst s)) : SWP P ops κ ((i, true) :: r) Q st := fun w0 Sx γ a w QQ hI hQ => by
  have hrest := fun v (hv : RelS (okO Sx γ st.own) (hp γ st.own) w s v) => h w0 Sx γ _ w QQ (hI.put (dst := o.dst) hd hv) hQ
  simp only [wP] at hrest
  obtain ⟨v, h1, h2⟩ := hr w0 Sx γ a w hI
  exact ⟨wC, _, o, v, _, SameOn.refl _ _, (qZ ops i).trans hi, Or.inl ⟨zD hI hw, h2⟩, Covers.refl _, hrest v h1⟩
theorem mem_ok : ∀ {l : List Nat} {i : Nat}, mem i l = true → l.contains i = true
  | j :: r, i, h => by
    unfold mem at h
    cases hb : Nat.beq i j with
    | true => have := Nat.eq_of_beq_eq_true hb; subst this; simp
    | false =>
      rw [hb, cond_false] at h
      have := mem_ok h
      simp at this ⊢
      exact Or.inr this
theorem okW_ok {w : List Nat} {κ : Kap} (h : okW w κ = true) : κ.all (fun p => w.all fun j => p.2.contains j) = true :=
  List.all_eq_true.2 fun p hp => List.all_eq_true.2 fun j hj => mem_ok (List.all_eq_true.1 (List.all_eq_true.1 h p hp) j hj)
include hT hC hev in
theorem evM_ok {ops : List Oper} {K : List Nat} {chk : Bool} : ∀ {od : List (Nat × Bool)} {κ : Kap} {ws ws' : List Nat} {st st' : St}, evM cx ev ops K chk od κ ws st = some (ws', st') → (∀ i ∈ ws, i ∈ ws') ∧ (chk = true ∨ ws' = [] → SWP P ops κ od (fun s => s = st') st)
  | [], κ, ws, ws', st, st', h => by
    simp only [evM, Option.some.injEq, Prod.mk.injEq] at h
    obtain ⟨rfl, rfl⟩ := h
    exact ⟨fun _ h => h, fun _ => swp_nil rfl⟩
  | (i, b) :: r, κ, ws, ws', st, st', h => by
    unfold evM at h
    split at h
    · rename_i o hi
      split at h
      · rename_i hw
        cases b with
        | true =>
          rw [cond_true] at h
          cases hd : zn st o.dst with
          | false => rw [hd] at h; cases h
          | true =>
            rw [hd, cond_true, fNats_eq] at h
            obtain ⟨s, h1, h2⟩ := opE_ok hT h
            rw [putE_eq] at h2
            obtain ⟨h3, h4⟩ := evM_ok h2
            exact ⟨h3, fun hK => swp_rd hi hw h1 hd (h4 hK)⟩
        | false =>
          rw [cond_false] at h
          obtain ⟨Ws, st1, h1, h2⟩ := stepE_ok hT hC hev h
          replace h2 : (bif (!chk || okW Ws (kapB o κ)) then evM cx ev ops K chk r (kapB o κ) (Ws ++ ws) st1 else none) = some (ws', st') := h2
          cases hc : (!chk || okW Ws (kapB o κ)) with
          | false => rw [hc] at h2; cases h2
          | true =>
            rw [hc, cond_true] at h2
            obtain ⟨h3, h4⟩ := evM_ok h2
            refine ⟨fun i hi => h3 i (List.mem_append_right _ hi), fun hK => swp_act hi hw ?_ (h1.mono fun s e => by subst e; exact h4 hK)⟩
            rcases hK with hK | hK
            · subst hK
              exact okW_ok (by simpa using hc)
            · have : Ws = [] := by
                cases Ws with
                | nil => rfl
                | cons j l => have := h3 j (by simp); rw [hK] at this; cases this
              subst this
              exact List.all_eq_true.2 fun _ _ => rfl
      · rename_i hw
        cases hd : zn st o.dst with
        | false => rw [hd] at h; cases h
        | true =>
          rw [hd, cond_true, putE_eq] at h
          obtain ⟨h3, h4⟩ := evM_ok h
          exact ⟨h3, fun hK => swp_skip hi hw hd (h4 hK)⟩
      · cases h
    · cases h
include hT hC hev in
theorem evReg_ok (hm : P.follows .mixedOrders = true) {ords : List (Nat × List (Nat × Bool))} {id : Nat} {ops : Array Oper} {st st' : St} {d : Bool} (hd : d = true → chkR ords id ops = true) (h : evReg cx ev ords id ops.toList st d = some st') : SW P (.region id ops d) (fun e s => e = .normal ∧ s = st') st := by
  have hops : ops = ops.toList.toArray := by simp
  cases d with
  | false =>
    simp only [evReg] at h
    rw [hops]
    refine qa (fun w0 Sx γ a w QQ hI hQ => ?_)
    exact evT_ok hT hC hev h w0 Sx γ a w QQ hI fun s' γ' a' w' hI' hq => hQ s' γ' a' w' hI' ⟨rfl, hq⟩
  | true =>
    have hd := hd rfl
    simp only [evReg, qY] at h
    unfold chkR at hd
    split at h
    · rename_i od hod
      rw [hod] at hd
      simp only [Bool.and_eq_true] at hd
      rw [fNats_eq] at h
      have key : ∀ {K ws : List Nat} {chk : Bool} {st1 : St}, evM cx ev ops.toList K chk od [] [] st = some (ws, st1) → (chk = true ∨ ws = []) → SW P (.region id ops true) (fun e s => e = .normal ∧ s = st1) st := fun {K ws chk st1} h1 hK => by
        rw [hops]
        refine sw_region_pend od hm (by rw [← hops]; exact hd.1) (by rw [← hops]; simp only [Bool.and_eq_true]; exact hd.2) (fun w0 Sx γ a w QQ hI hQ => ?_)
        exact (evM_ok hT hC hev h1).2 hK w0 Sx γ a w QQ hI fun s' γ' a' w' hI' hq => hQ s' γ' a' w' hI' ⟨rfl, hq⟩
      split at h
      · rename_i h1
        cases h
        exact key h1 (.inl rfl)
      · split at h
        · rename_i h1
          cases h
          exact key h1 (.inr rfl)
        · rw [fNats_eq] at h
          split at h
          · rename_i h2
            cases h
            exact key h2 (.inl rfl)
          · cases h
        · cases h
    · cases h
end
section
variable {P : Program} {T : TT} (hT : zh P T)
include hT in
theorem resO_ok {st : St} {w0 : Base} {Sx : Nat → Prop} {γ : Nat → Value} {a : Act} {w : World} (hI : Sim w0 Sx γ st a w) {f : ResultVar → Sem Value} (hf1 : ∀ t, f (.tmp t) = pure (a.tmps.getD t undef)) (hf2 : ∀ c t, f (.cell c t) = (do loadVar t (← asAddr (a.tmps.getD c undef)))) {rv : ResultVar} {s : SV} (h : resO T st rv = some s) :
    ∃ v, (f rv).run P w = .ok v w ∧ RelS (okO Sx γ st.own) (hp γ st.own) w s v := by
  cases rv with
  | tmp t => exact ⟨_, by rw [hf1]; rfl, hI.fr t s h⟩
  | cell c t =>
    simp only [resO] at h
    split at h
    · rename_i hl hc
      cases h
      obtain ⟨v, h1, h2⟩ := rLoad_ok hT hI (x := .tmp c) (K := []) hl (rLoadC_ok hl (by rw [hc]; rfl))
      have h3 := h2 w (SameOn.refl _ _)
      have hv := hI.fr c _ hc
      obtain ⟨b, g, hb, _⟩ := hv.ptr_form
      refine ⟨v, ?_, h1⟩
      rw [show a.eval (.tmp c) = a.tmps.getD c undef from rfl, hb] at h3
      rw [hf2, hb]
      exact h3
    · cases h
include hT in
theorem resOs_ok {st : St} {w0 : Base} {Sx : Nat → Prop} {γ : Nat → Value} {a : Act} {w : World} (hI : Sim w0 Sx γ st a w) {f : ResultVar → Sem Value} (hf1 : ∀ t, f (.tmp t) = pure (a.tmps.getD t undef)) (hf2 : ∀ c t, f (.cell c t) = (do loadVar t (← asAddr (a.tmps.getD c undef)))) : ∀ {rs : List ResultVar} {l : List SV}, resOs T st rs = some l →
    ∃ vs : List Value, (rs.mapM f).run P w = .ok vs w ∧ vs.length = l.length ∧ l.length = rs.length ∧ ∀ (i : Nat) (s : SV) (u : Value), l[i]? = some s → vs[i]? = some u → RelS (okO Sx γ st.own) (hp γ st.own) w s u
  | [], l, h => by
    simp only [resOs, Option.some.injEq] at h
    subst h
    exact ⟨[], by simp, rfl, rfl, fun i s u hs => by simp at hs⟩
  | r :: rs, l, h => by
    unfold resOs at h
    split at h
    · rename_i s hs
      split at h
      · rename_i l' hl
        simp only [Option.some.injEq] at h
        subst h
        obtain ⟨v, h1, h2⟩ := resO_ok hT hI hf1 hf2 hs
        obtain ⟨vs, h3, h4, h5, h6⟩ := resOs_ok hI hf1 hf2 hl
        refine ⟨v :: vs, ?_, by simp [h4], by simp [h5], fun i s' u hs' hu => ?_⟩
        · rw [List.mapM_cons, Sem.run_bind, h1]
          simp only [Result.andThen_ok, Sem.run_bind, h3, Sem.run_pure]
        · cases i with
          | zero => simp at hs' hu; subst hs' hu; exact h2
          | succ i => exact h6 i s' u (by simpa using hs') (by simpa using hu)
      · cases h
    · cases h
include hT in
theorem resC_ok {fn : Func} {st : St} {w0 : Base} {Sx : Nat → Prop} {γ : Nat → Value} {a : Act} {w : World} (hI : Sim w0 Sx γ st a w) {rs : List ResultVar} {s : SV} (h : resC T st rs = some s) (hres : fn.results = rs.toArray) :
    ∃ v, (results fn a.tmps).run P w = .ok v w ∧ RelS (okO Sx γ st.own) (hp γ st.own) w s v := by
  have key : ∀ {l : List SV}, resOs T st rs = some l → ∃ vs : List Value, (results fn a.tmps).run P w = .ok (if h : vs.toArray.size = 1 then vs.toArray[0] else .tuple vs.toArray) w ∧ vs.length = l.length ∧ l.length = rs.length ∧ ∀ (i : Nat) (s : SV) (u : Value), l[i]? = some s → vs[i]? = some u → RelS (okO Sx γ st.own) (hp γ st.own) w s u := fun {l} hl => by
    have gen : ∀ f : ResultVar → Sem Value, (∀ t, f (.tmp t) = pure (a.tmps.getD t undef)) → (∀ c t, f (.cell c t) = (do loadVar t (← asAddr (a.tmps.getD c undef)))) →
        ∃ vs : List Value, ((do let vs ← rs.toArray.mapM f; pure (if h : vs.size = 1 then vs[0] else .tuple vs)) : Sem Value).run P w = .ok (if h : vs.toArray.size = 1 then vs.toArray[0] else .tuple vs.toArray) w ∧ vs.length = l.length ∧ l.length = rs.length ∧ ∀ (i : Nat) (s : SV) (u : Value), l[i]? = some s → vs[i]? = some u → RelS (okO Sx γ st.own) (hp γ st.own) w s u := fun f hf1 hf2 => by
      obtain ⟨vs, h3, h4, h5, h6⟩ := resOs_ok hT hI hf1 hf2 hl
      refine ⟨vs, ?_, h4, h5, h6⟩
      rw [Sem.run_bind, List.mapM_toArray, Sem.run_map, h3]
      simp only [Result.andThen_ok, Sem.run_pure]
    unfold results
    rw [hres]
    exact gen _ (fun _ => rfl) (fun _ _ => rfl)
  unfold resC at h
  split at h
  · rename_i r
    obtain ⟨vs, h1, h2, h3, h4⟩ := key (l := [s]) (by simp only [resOs, h])
    have hv : ∃ v, vs = [v] := by
      match vs, h2 with
      | [v], _ => exact ⟨v, rfl⟩
    obtain ⟨v, rfl⟩ := hv
    exact ⟨v, by rw [h1]; rfl, h4 0 s v rfl rfl⟩
  · rename_i hne
    split at h
    · rename_i l hl
      simp only [Option.some.injEq] at h
      subst h
      obtain ⟨vs, h1, h2, h3, h4⟩ := key hl
      have hn : ¬ vs.toArray.size = 1 := fun e => by
        rw [List.size_toArray, h2, h3] at e
        match rs, hne, e with
        | [r], hne, _ => exact hne r rfl
      rw [dif_neg hn] at h1
      exact ⟨_, h1, .tup h2 h4⟩
    · cases h
include hT in
theorem holdsV_of {f : FuncId} {fn : Func} {c : Code} {args : List SV} {own : List (Nat × Box)} {r : SV} {own' : List (Nat × Box)} {rs : List ResultVar} {e' : SEx} {st' : St} (hf : P.funcs[f]? = some fn) (hname : (fn.name == "runtime.NumGoroutine") = false) (hb : fn.body = some c)
    (hres : fn.results = rs.toArray) (hn : args.length ≤ fn.ntmps ∧ fn.ntmps ≤ 900) (h : SW P c (fun e s => e = e' ∧ s = st') ⟨fn.ntmps, jN 0 args, own⟩) (he : e' = .normal ∨ e' = .ret) (hfin : finE T rs st' = some (r, own')) : zZ P f args own r own' := by
  refine ⟨⟨fn, hf, hname, by rw [hb]; rfl⟩, fun w Sx γ vs hh hl hr => ?_⟩
  refine calls_of_wp hf hb ?_
  have hget : ∀ t, t < args.length → (vs.toArray ++ Array.replicate (fn.ntmps - vs.toArray.size) undef).getD t undef = vs[t]?.getD undef := fun t ht => by
    have : t < vs.length := by omega
    have h2 : (vs.toArray ++ Array.replicate (fn.ntmps - vs.toArray.size) undef)[t]? = vs[t]? := by
      rw [Array.getElem?_append_left (by simpa using this)]; simp
    rw [Array.getD_eq_getD_getElem?, h2]
  have hI : Sim (jX w γ own) Sx γ ⟨fn.ntmps, jN 0 args, own⟩ ⟨vs.toArray ++ Array.replicate (fn.ntmps - vs.toArray.size) undef, []⟩ w := by
    refine ⟨⟨Below.refl _ w, fun _ _ => rfl⟩, ⟨by simp; omega, hn.2⟩, rfl, fun t s ht => ?_, hh⟩
    obtain ⟨_, hx⟩ := argFrS_get ht
    simp only [Nat.sub_zero] at hx
    have hlt : t < args.length := (List.getElem?_eq_some_iff.1 hx).1
    have hv : vs[t]? = some (vs[t]'(by omega)) := List.getElem?_eq_getElem (by omega)
    show RelS _ _ _ _ ((vs.toArray ++ Array.replicate (fn.ntmps - vs.toArray.size) undef).getD t undef)
    rw [hget t hlt, hv]
    exact hr t s _ hx hv
  refine h _ Sx _ _ w _ hI fun e st2 γ' a' w' hI' hq => ?_
  obtain ⟨rfl, rfl⟩ := hq
  unfold finE at hfin
  split at hfin
  · rename_i s hs
    rw [fRen_eq] at hfin
    generalize ju false 0 _ = ρ at hfin
    split at hfin
    · rename_i r' o' hr' ho'
      cases hρ : renOk ρ with
      | false => rw [hρ] at hfin; cases hfin
      | true =>
        rw [hρ, cond_true, fSV_eq, fOwn_eq] at hfin
        cases hfin
        obtain ⟨γ3, k1, k2⟩ := heap_mapR hI'.heap ho' hρ
        obtain ⟨v, k3, k4⟩ := resC_ok hT hI' hs hres
        have fin : a'.defers = [] ∧ ∃ v, (results fn a'.tmps).run P w' = .ok v w' ∧ ∃ v' γ2 r1 own1, (r1 = r ∧ own1 = own') ∧ Ending.returned v = .returned v' ∧ BelowB (jX w γ own) w' ∧ HeapOk (jX w γ own) Sx γ2 own1 w' ∧ RelS (okO Sx γ2 own1) (hp γ2 own1) w' r1 v' :=
          ⟨hI'.defers, v, k3, v, γ3, r, own', ⟨rfl, rfl⟩, rfl, hI'.below, k1, k2 s v r k4 hr'⟩
        rcases he with rfl | rfl
        · exact fin
        · exact fin
    · cases hfin
  · cases hfin
end
def jmpW (l : Nat) (J : Act → World → Prop) (Q : Exit → Act → World → Prop) : Exit → Act → World → Prop
  | .goto l', a, w => l' = l ∧ J a w
  | e, a, w => Q e a w
theorem wp_scope_ghost {P : Program} {a : Act} {w : World} {Q : Exit → Act → World → Prop} {c rest : Code} (l : Nat) (J : Nat → Act → World → Prop) (hf : findLabel c l = some rest)
    (first : c.wp P (jmpW l (fun a w => ∃ n, J n a w) Q) a w)
    (pass : ∀ n a w, J n a w → rest.wp P (jmpW l (fun a' w' => ∃ m, m < n ∧ J m a' w') Q) a w) : (Code.scope c).wp P Q a w := by
  intro b k cs
  have hg : gotoIn l (.inScope c :: k) = some (.code rest :: .inScope c :: k) := by simp [gotoIn, hf]
  have key : ∀ n a w, J n a w → ∃ e a' w', Q e a' w' ∧ Arrives P (lone (b.at a (.code rest :: .inScope c :: k)) cs w) b k cs e a' w' := by
    intro n
    induction n using Nat.strongRecOn with
    | _ n ih =>
      intro a w hJ
      obtain ⟨e, a₁, w₁, hq, harr⟩ := pass n a w hJ b (.inScope c :: k) cs
      cases e with
      | normal => exact ⟨.normal, a₁, w₁, hq, Steps.trans harr (.one step_inScope)⟩
      | exit id => exact ⟨.exit id, a₁, w₁, hq, fun k' hk => harr k' (by simp [exitTo, hk])⟩
      | goto l' =>
        obtain ⟨rfl, m, hlt, hJ'⟩ := hq
        obtain ⟨e₂, a₂, w₂, hq₂, harr₂⟩ := ih m hlt a₁ w₁ hJ'
        exact ⟨e₂, a₂, w₂, hq₂, .of_steps (harr _ hg) harr₂⟩
      | ret => exact ⟨_, a₁, w₁, hq, harr⟩
      | panic ch => exact ⟨_, a₁, w₁, hq, harr⟩
      | outgrown => exact ⟨_, a₁, w₁, hq, harr⟩
  obtain ⟨e, a₁, w₁, hq, harr⟩ := first b (.inScope c :: k) cs
  cases e with
  | normal => exact ⟨.normal, a₁, w₁, hq, .head step_scope (Steps.trans harr (.one step_inScope))⟩
  | exit id => exact ⟨.exit id, a₁, w₁, hq, fun k' hk => .head step_scope (harr k' (by simp [exitTo, hk]))⟩
  | goto l' =>
    obtain ⟨rfl, m, hJ'⟩ := hq
    obtain ⟨e₂, a₂, w₂, hq₂, harr₂⟩ := key m a₁ w₁ hJ'
    exact ⟨e₂, a₂, w₂, hq₂, .of_steps (.head step_scope (harr _ hg)) harr₂⟩
  | ret => exact ⟨_, a₁, w₁, hq, .of_steps (.one step_scope) harr⟩
  | panic ch => exact ⟨_, a₁, w₁, hq, .of_steps (.one step_scope) harr⟩
  | outgrown => exact ⟨_, a₁, w₁, hq, .of_steps (.one step_scope) harr⟩
def jmpS (l : Nat) (J : St → Prop) (Q : SEx → St → Prop) : SEx → St → Prop
  | .goto l', s => l' = l ∧ J s
  | e, s => Q e s
theorem sw_goto {P : Program} {Q : SEx → St → Prop} {st : St} {l : Nat} (h : Q (.goto l) st) : SW P (.goto l) Q st := fun _ _ γ a w _ hI hQ => wp_goto (hQ (.goto l) st γ a w hI h)
theorem sw_scope0 {P : Program} {Q : SEx → St → Prop} {st : St} {c : Code} (h : SW P c (fun e s => Q e s ∧ ∀ l, e ≠ .goto l) st) : SW P (.scope c) Q st := fun w0 Sx γ a w QQ hI hQ => by
  refine wp_scope_straight (h w0 Sx γ a w _ hI fun e s' γ' a' w' hI' hq => ?_)
  cases e with
  | goto l => exact absurd rfl (hq.2 l)
  | normal => exact hQ .normal s' γ' a' w' hI' hq.1
  | exit id => exact hQ (.exit id) s' γ' a' w' hI' hq.1
  | ret => exact hQ .ret s' γ' a' w' hI' hq.1
theorem sw_scope {P : Program} {Q : SEx → St → Prop} {st : St} {c rest : Code} (l : Nat) (I : Nat → St → Prop) (hf : findLabel c l = some rest) (first : SW P c (jmpS l (fun s' => ∃ n s'', Wk s' s'' ∧ I n s'') Q) st)
    (round : ∀ n s, I n s → SW P rest (jmpS l (fun s' => ∃ m s'', m < n ∧ Wk s' s'' ∧ I m s'') Q) s) : SW P (.scope c) Q st := fun w0 Sx γ a w QQ hI hQ => by
  refine wp_scope_ghost l (fun n a w => ∃ s γ, I n s ∧ Sim w0 Sx γ s a w) hf (first w0 Sx γ a w _ hI fun e s' γ' a' w' hI' hq => ?_) fun n a w ⟨s, γ, hn, hI⟩ => round n s hn w0 Sx γ a w _ hI fun e s' γ' a' w' hI' hq => ?_
  · cases e with
    | goto l' =>
      obtain ⟨rfl, n, s'', hwk, hn⟩ := hq
      obtain ⟨γ'', hI''⟩ := hwk w0 Sx γ' a' w' hI'
      exact ⟨rfl, n, s'', γ'', hn, hI''⟩
    | normal => exact hQ .normal s' γ' a' w' hI' hq
    | exit id => exact hQ (.exit id) s' γ' a' w' hI' hq
    | ret => exact hQ .ret s' γ' a' w' hI' hq
  · cases e with
    | goto l' =>
      obtain ⟨rfl, m, s'', hlt, hwk, hm⟩ := hq
      obtain ⟨γ'', hI''⟩ := hwk w0 Sx γ' a' w' hI'
      exact ⟨rfl, m, hlt, s'', γ'', hm, hI''⟩
    | normal => exact hQ .normal s' γ' a' w' hI' hq
    | exit id => exact hQ (.exit id) s' γ' a' w' hI' hq
    | ret => exact hQ .ret s' γ' a' w' hI' hq
theorem chkC_label {ords : List (Nat × List (Nat × Bool))} {l : Nat} : ∀ {c rest : Code}, chkC ords c = true → findLabel c l = some rest → chkC ords rest = true := by
  intro c
  induction c with
  | seq a b iha ihb =>
    intro rest h hf
    simp only [chkC, Bool.and_eq_true] at h
    simp only [findLabel] at hf
    split at hf
    · rename_i r hr
      cases hf
      simp only [chkC, Bool.and_eq_true]
      exact ⟨iha h.1 hr, h.2⟩
    · exact ihb h.2 hf
  | label l' =>
    intro rest h hf
    simp only [findLabel] at hf
    split at hf
    · cases hf; rfl
    · cases hf
  | _ => intro rest h hf; cases hf
def FOk (P : Program) (cx : Cx) : Prop := ∀ f fi, lk f cx.F = some fi → ∃ fn, P.funcs[f]? = some fn ∧ (fn.name == "runtime.NumGoroutine") = false ∧ fn.body = some fi.c ∧ fn.results = fi.ts.toArray ∧ fn.ntmps = fi.n ∧ Nat.ble fi.n 900 = true ∧ chkC fi.ords fi.c = true
theorem turnE_ok {β : Type} {ts : List Nat} {st : St} {k : St → Option β} {b : β} (h : turnE ts st k = some b) : ∃ st', Wk st st' ∧ k st' = some b := by
  unfold turnE at h
  rw [fRen_eq] at h
  generalize ju false 905000 _ = ρ at h
  cases hρ : renOk ρ with
  | false => rw [hρ] at h; cases h
  | true =>
    rw [hρ, cond_true] at h
    split at h
    · rename_i st' hst
      rw [fSt_eq] at h
      exact ⟨st', qq ts ρ hst hρ, h⟩
    · cases h
section
variable {P : Program} {cx : Cx} (hT : zh P cx.T) (hC : TabOk P cx) (hF : FOk P cx) (hm : P.follows .mixedOrders = true)
theorem jM {α β : Type} {a a' : α} {b b' : β} (h : some (a, b) = some (a', b')) : a = a' ∧ b = b' := by cases h; exact ⟨rfl, rfl⟩
include hT hC hF hm in
theorem evN_ok : ∀ n ords c st e s', chkC ords c = true → evN cx n ords c st = some (e, s') → SW P c (fun e1 s1 => e1 = e ∧ s1 = s') st := by
  intro n
  induction n using Nat.strongRecOn with
  | ind n IH =>
  cases n with
  | zero => intro ords c st e s' _ h; cases h
  | succ n =>
    have hev : EvOk P cx (fun _ fi args own => bif Nat.ble args.length fi.n then finR cx.T fi.ts (evN cx n fi.ords fi.c ⟨fi.n, jN 0 args, own⟩) else none) := by
      intro f fi args own r own' hfi h
      obtain ⟨fn, h1, h2, h3, h4, h5, h6, h7⟩ := hF f fi hfi
      cases hb : Nat.ble args.length fi.n with
      | false => simp only [hb, cond_false] at h; cases h
      | true =>
        simp only [hb, cond_true] at h
        unfold finR at h
        have hn : args.length ≤ fn.ntmps ∧ fn.ntmps ≤ 900 := by rw [h5]; exact ⟨Nat.le_of_ble_eq_true hb, Nat.le_of_ble_eq_true h6⟩
        split at h
        · rename_i st' he
          exact holdsV_of hT h1 h2 h3 h4 hn (by rw [h5]; exact IH n (Nat.lt_succ_self n) _ _ _ _ _ h7 he) (Or.inl rfl) h
        · rename_i st' he
          exact holdsV_of hT h1 h2 h3 h4 hn (by rw [h5]; exact IH n (Nat.lt_succ_self n) _ _ _ _ _ h7 he) (Or.inr rfl) h
        · cases h
    intro ords c
    induction c with
    | skip =>
      intro st e s' _ h
      obtain ⟨rfl, rfl⟩ := jM h
      exact qm ⟨rfl, rfl⟩
    | region id ops d =>
      intro st e s' hc h
      have h : (match evReg cx _ ords id ops.toList st d with | some st' => some (SEx.normal, st') | none => none) = some (e, s') := h
      split at h
      · rename_i st' hr
        obtain ⟨rfl, rfl⟩ := jM h
        exact (evReg_ok hT hC hev hm (fun hd => by subst hd; exact hc) hr).mono fun e s q => q
      · cases h
    | seq a b iha ihb =>
      intro st e s' hc h
      simp only [chkC, Bool.and_eq_true] at hc
      have h : (match evN cx (n + 1) ords a st with | some (.normal, st') => evN cx (n + 1) ords b st' | r => r) = some (e, s') := h
      refine qb ?_
      split at h
      · rename_i st1 ha
        exact (iha st _ _ hc.1 ha).mono fun e1 s1 ⟨q1, q2⟩ => by subst q1 q2; exact ihb _ _ _ hc.2 h
      · rename_i hne
        refine (iha st _ _ hc.1 h).mono fun e1 s1 ⟨q1, q2⟩ => ?_
        subst q1 q2
        cases e1 with
        | normal => exact absurd h (hne s1)
        | _ => exact ⟨rfl, rfl⟩
    | cond x a b iha ihb =>
      intro st e s' hc h
      simp only [chkC, Bool.and_eq_true] at hc
      have h : (match evF st x with | some (.p (.v (.bool true))) => evN cx (n + 1) ords a st | some (.p (.v (.bool false))) => evN cx (n + 1) ords b st | _ => none) = some (e, s') := h
      rw [evF_eq] at h
      split at h
      · rename_i hx
        exact qf hx (fun _ => iha _ _ _ hc.1 h) fun q => by cases q
      · rename_i hx
        exact qf hx (fun q => by cases q) fun _ => ihb _ _ _ hc.2 h
      · cases h
    | block id b ih =>
      intro st e s' hc h
      have h : (match evN cx (n + 1) ords b st with | some (.exit i, st') => bif Nat.beq i id then some (SEx.normal, st') else some (.exit i, st') | r => r) = some (e, s') := h
      refine ql ?_
      split at h
      · rename_i i st' hb
        refine (ih st _ _ hc hb).mono fun e1 s1 ⟨q1, q2⟩ => ?_
        subst q1 q2
        show (bif Nat.beq i id then _ else _)
        cases hi : Nat.beq i id with
        | true => rw [hi] at h; obtain ⟨rfl, rfl⟩ := jM h; exact ⟨rfl, rfl⟩
        | false => rw [hi] at h; obtain ⟨rfl, rfl⟩ := jM h; exact ⟨rfl, rfl⟩
      · rename_i hne
        refine (ih st _ _ hc h).mono fun e1 s1 ⟨q1, q2⟩ => ?_
        subst q1 q2
        cases e1 with
        | exit i => exact absurd h (hne i s1)
        | _ => exact ⟨rfl, rfl⟩
    | loop b ih =>
      intro st e s' hc h
      have hbody : ∀ m, m ≤ n → ∀ s e2 s2, evN cx (m + 1) ords b s = some (e2, s2) → SW P b (fun e1 s1 => e1 = e2 ∧ s1 = s2) s := fun m hmn s e2 s2 h2 => by
        rcases Nat.lt_or_eq_of_le hmn with hlt | rfl
        · exact IH (m + 1) (by omega) ords b s e2 s2 hc h2
        · exact ih s e2 s2 hc h2
      refine qO (fun m s => m ≤ n + 1 ∧ evN cx m ords (.loop b) s = some (e, s')) (n + 1) ⟨Nat.le_refl _, h⟩ ?_
      rintro m s ⟨hmn, h2⟩
      cases m with
      | zero => cases h2
      | succ m =>
        have h2 : (fNats (keys s.fr []) fun ts => match evN cx (m + 1) ords b s with | some (.normal, st') => turnE ts st' fun st'' => evN cx m ords (.loop b) st'' | r => r) = some (e, s') := h2
        rw [fNats_eq] at h2
        split at h2
        · rename_i st1 hb
          obtain ⟨st2, h3, h4⟩ := turnE_ok h2
          exact (hbody m (by omega) s _ _ hb).mono fun e1 s1 ⟨q1, q2⟩ => by
            subst q1 q2
            exact ⟨m, st2, Nat.lt_succ_self m, h3, by omega, h4⟩
        · rename_i hne
          refine (hbody m (by omega) s _ _ h2).mono fun e1 s1 ⟨q1, q2⟩ => ?_
          subst q1 q2
          cases e1 with
          | normal => exact absurd h2 (hne s1)
          | _ => exact ⟨rfl, rfl⟩
    | exit id =>
      intro st e s' _ h
      obtain ⟨rfl, rfl⟩ := jM h
      exact qK ⟨rfl, rfl⟩
    | ret =>
      intro st e s' _ h
      obtain ⟨rfl, rfl⟩ := jM h
      exact qk ⟨rfl, rfl⟩
    | label l =>
      intro st e s' _ h
      obtain ⟨rfl, rfl⟩ := jM h
      exact sw_label ⟨rfl, rfl⟩
    | rangeFunc _ _ _ _ _ _ => intro st e s' _ h; cases h
    | goto l =>
      intro st e s' _ h
      obtain ⟨rfl, rfl⟩ := jM h
      exact sw_goto ⟨rfl, rfl⟩
    | scope b ih =>
      intro st e s' hc h
      have h : (match evN cx (n + 1) ords b st with | some (.goto l, st') => turnE (keys st'.fr []) st' fun st'' => evJ cx n ords b l st'' | r => r) = some (e, s') := h
      split at h
      · rename_i l st1 hb
        obtain ⟨st2, h3, h4⟩ := turnE_ok h
        have hrest : ∃ rest, findLabel b l = some rest := by
          cases n with
          | zero => cases h4
          | succ n =>
            have h4 : jumpE (evN cx (n + 1) ords) (evJ cx n ords b l) b l st2 = some (e, s') := h4
            unfold jumpE at h4
            split at h4
            · rename_i rest hr; exact ⟨rest, hr⟩
            · cases h4
        obtain ⟨rest, hr⟩ := hrest
        refine sw_scope l (fun m s => m ≤ n ∧ evJ cx m ords b l s = some (e, s')) hr ((ih st _ _ hc hb).mono fun e1 s1 ⟨q1, q2⟩ => by subst q1 q2; exact ⟨rfl, n, st2, h3, Nat.le_refl _, h4⟩) ?_
        rintro m s ⟨hmn, h2⟩
        cases m with
        | zero => cases h2
        | succ m =>
          have h2 : jumpE (evN cx (m + 1) ords) (evJ cx m ords b l) b l s = some (e, s') := h2
          unfold jumpE at h2
          rw [hr] at h2
          simp only at h2
          split at h2
          · rename_i l' st3 hx
            cases hl : Nat.beq l' l with
            | false => rw [hl] at h2; cases h2
            | true =>
              rw [hl, cond_true] at h2
              have el : l' = l := Nat.eq_of_beq_eq_true hl
              subst el
              obtain ⟨st4, h5, h6⟩ := turnE_ok h2
              exact (IH (m + 1) (by omega) ords rest s _ _ (chkC_label (c := b) hc hr) hx).mono fun e1 s1 ⟨q1, q2⟩ => by
                subst q1 q2
                exact ⟨rfl, m, st4, Nat.lt_succ_self m, h5, by omega, h6⟩
          · rename_i hne
            refine (IH (m + 1) (by omega) ords rest s _ _ (chkC_label (c := b) hc hr) h2).mono fun e1 s1 ⟨q1, q2⟩ => ?_
            subst q1 q2
            cases e1 with
            | goto l' => exact absurd h2 (hne l' s1)
            | _ => exact ⟨rfl, rfl⟩
      · rename_i hne
        refine sw_scope0 ((ih st _ _ hc h).mono fun e1 s1 ⟨q1, q2⟩ => ?_)
        subst q1 q2
        refine ⟨⟨rfl, rfl⟩, fun l hl => ?_⟩
        subst hl
        exact hne l s1 h
    | refuse _ => intro st e s' _ h; cases h
noncomputable def evF1 (cx : Cx) (n : Nat) (f : FuncId) (args : List SV) (own : List (Nat × Box)) : Ret := match lkF f cx.F with
  | some fi => bif Nat.ble args.length fi.n then finR cx.T fi.ts (evN cx n fi.ords fi.c ⟨fi.n, jN 0 args, own⟩) else none
  | none => none
include hT hC hF hm in
theorem zT {n : Nat} {f : FuncId} {args : List SV} {own : List (Nat × Box)} {r : SV} {own' : List (Nat × Box)} (h : evF1 cx n f args own = some (r, own')) : zZ P f args own r own' := by
  unfold evF1 at h
  rw [qY] at h
  split at h
  · rename_i fi hfi
    obtain ⟨fn, h1, h2, h3, h4, h5, h6, h7⟩ := hF f fi hfi
    cases hb : Nat.ble args.length fi.n with
    | false => rw [hb] at h; cases h
    | true =>
      rw [hb, cond_true] at h
      unfold finR at h
      have hn : args.length ≤ fn.ntmps ∧ fn.ntmps ≤ 900 := by rw [h5]; exact ⟨Nat.le_of_ble_eq_true hb, Nat.le_of_ble_eq_true h6⟩
      split at h
      · rename_i st' he
        exact holdsV_of hT h1 h2 h3 h4 hn (by rw [h5]; exact evN_ok hT hC hF hm n _ _ _ _ _ h7 he) (Or.inl rfl) h
      · rename_i st' he
        exact holdsV_of hT h1 h2 h3 h4 hn (by rw [h5]; exact evN_ok hT hC hF hm n _ _ _ _ _ h7 he) (Or.inr rfl) h
      · cases h
  · cases h
end
theorem baseOf_nil (w : World) (γ : Nat → Value) : jX w γ [] = entry w := by
  unfold jX entry
  congr 1
  · funext b; exact propext ⟨fun h => h.1, fun h => ⟨h, fun i bx hi => by cases hi⟩⟩
  · funext i; split <;> rfl
theorem Holds.ofW {P : Program} {f : FuncId} {args : List PV} {r : SV} {own' : List (Nat × Box)} (h : zZ P f (args.map .p) [] r own') : Holds P f args r own' := by
  refine ⟨h.1, fun w Sx vs hSx hl hr => (h.2 w Sx (fun _ => .nilIface) vs (by rw [baseOf_nil]; exact heap_nil hSx _) (by simpa using hl) fun i s u hs hu => ?_).mono fun e w' he => ?_⟩
  · rw [List.getElem?_map] at hs
    obtain ⟨x, hx, rfl⟩ := Option.map_eq_some_iff.1 hs
    exact .p ((hr i x u hx hu).weak fun b _ hok => ⟨hok, fun i bx hi => by cases hi⟩)
  · obtain ⟨v, γ', r', o', ⟨rfl, rfl⟩, h1, h2, h3, h4⟩ := he
    rw [baseOf_nil] at h2 h3
    exact ⟨v, γ', h1, belowB_entry.1 h2, h3, h4⟩
def FnOk (P : Program) (f : FuncId) (fi : FnI) : Prop := ∃ fn, P.funcs[f]? = some fn ∧ (fn.name == "runtime.NumGoroutine") = false ∧ fn.body = some fi.c ∧ fn.results = fi.ts.toArray ∧ fn.ntmps = fi.n ∧ Nat.ble fi.n 900 = true ∧ chkC fi.ords fi.c = true
theorem fok_nil {P : Program} {T : TT} {C : FuncId → List PV → Option SV} : FOk P ⟨T, [], C⟩ := fun f fi h => by cases h
theorem qj {P : Program} {T : TT} {C : FuncId → List PV → Option SV} {F : List (FuncId × FnI)} {f : FuncId} {fi : FnI} (h : FnOk P f fi) (r : FOk P ⟨T, F, C⟩) : FOk P ⟨T, (f, fi) :: F, C⟩ := fun g gi hg => by
  have h2 : lk g ((f, fi) :: F) = some gi := hg
  clear hg
  rw [qE] at h2
  by_cases e : g = f
  · rw [if_pos e] at h2
    obtain rfl := Option.some.inj h2
    subst e; exact h
  · rw [if_neg e] at h2; exact r g gi h2
end Go.Proofs.YtppfcacnofjmdaaGreatDoor
namespace Go.Proofs.YtppfcacnofjmdaaGreatDoor
set_option linter.unusedVariables false
set_option linter.unusedSimpArgs false
open Go.RowKit
abbrev nilV : PV := .v (.slice none 0 0)
inductive Cv : PV → PV → Prop
  | refl (p : PV) : Cv p p
  | nil (z : Nat) : Cv (.v (.slice none 0 0)) (.sl z [])
  | agg {cs ds : List PV} (hl : cs.length = ds.length) (h : ∀ (i : Nat) (c d : PV), cs[i]? = some c → ds[i]? = some d → Cv c d) : Cv (.agg cs) (.agg ds)
  | sl {z : Nat} {l m : List (List PV)} (hl : l.length = m.length) (he : ∀ (i : Nat) (e f : List PV), l[i]? = some e → m[i]? = some f → e.length = f.length) (h : ∀ (i j : Nat) (e f : List PV) (c d : PV), l[i]? = some e → m[i]? = some f → e[j]? = some c → f[j]? = some d → Cv c d) : Cv (.sl z l) (.sl z m)
def CvL (cs ds : List PV) : Prop := cs.length = ds.length ∧ ∀ (i : Nat) (c d : PV), cs[i]? = some c → ds[i]? = some d → Cv c d
theorem CvL.nil : CvL [] [] := ⟨rfl, fun i c d h => by simp at h⟩
theorem CvL.cons {c d : PV} {cs ds : List PV} (h : Cv c d) (t : CvL cs ds) : CvL (c :: cs) (d :: ds) := ⟨by simp [t.1], fun i x y hx hy => by
  cases i with
  | zero => simp at hx hy; subst hx; subst hy; exact h
  | succ i => exact t.2 i x y (by simpa using hx) (by simpa using hy)⟩
theorem CvL.refl (l : List PV) : CvL l l := ⟨rfl, fun i c d h1 h2 => by rw [h1] at h2; cases h2; exact .refl _⟩
theorem CvL.agg {cs ds : List PV} (h : CvL cs ds) : Cv (.agg cs) (.agg ds) := .agg h.1 h.2
def CvM (l m : List (List PV)) : Prop := l.length = m.length ∧ ∀ (i : Nat) (e f : List PV), l[i]? = some e → m[i]? = some f → CvL e f
theorem CvM.nil : CvM [] [] := ⟨rfl, fun i c d h => by simp at h⟩
theorem CvM.cons {c d : List PV} {cs ds : List (List PV)} (h : CvL c d) (t : CvM cs ds) : CvM (c :: cs) (d :: ds) := ⟨by simp [t.1], fun i x y hx hy => by
  cases i with
  | zero => simp at hx hy; subst hx; subst hy; exact h
  | succ i => exact t.2 i x y (by simpa using hx) (by simpa using hy)⟩
theorem CvM.sl {z : Nat} {l m : List (List PV)} (h : CvM l m) : Cv (.sl z l) (.sl z m) := .sl h.1 (fun i e f h1 h2 => (h.2 i e f h1 h2).1) fun i j e f c d h1 h2 h3 h4 => (h.2 i e f h1 h2).2 j c d h3 h4
theorem Cv.one {p q : PV} (h : Cv p q) : oneP q = oneP p := by
  cases h <;> rfl
theorem RelP.cv {ok : Nat → Prop} {w : World} {p q : PV} (hc : Cv p q) : ∀ {u : Value}, RelP ok w p u → RelP ok w q u := by
  induction hc with
  | refl => exact fun h => h
  | nil z =>
    intro u h
    cases h
    exact .sl (l := []) (Nat.zero_le _) ⟨Nat.zero_le _, Nat.zero_le _⟩ (by simp) (fun h => absurd h (by simp)) (fun b o i j h => by cases h) (fun b o i j e s u h => by cases h)
  | agg hl h ih =>
    intro u hr
    cases hr with
    | @agg _ us hl2 hr =>
      refine .agg (by omega) fun i s u hs hu => ?_
      have hi : i < us.length := (List.getElem?_eq_some_iff.1 hu).1
      exact ih i _ s (List.getElem?_eq_getElem (by omega)) hs (hr i _ u (List.getElem?_eq_getElem (by omega)) hu)
  | @sl z l m hl he h ih =>
    intro u hr
    cases hr with
    | @sl _ _ A c hc hm hle hA hx hr =>
      rw [hl] at hc hm ⊢
      refine .sl hc hm (fun e hem => ?_) (fun h => hA (by omega)) (fun b o i j hAb hi hj => hx b o i j hAb (by omega) hj) (fun b o i j e s u hAb hi hj hu => ?_)
      · obtain ⟨i, hi, rfl⟩ := List.mem_iff_getElem.1 hem
        have hl0 : l[i]? = some (l[i]'(by omega)) := List.getElem?_eq_getElem (by omega)
        have hm0 : m[i]? = some m[i] := List.getElem?_eq_getElem hi
        obtain ⟨q1, q2⟩ := hle _ (List.getElem_mem (show i < l.length by omega))
        have q3 := he i _ _ hl0 hm0
        refine ⟨by omega, fun s hs => ?_⟩
        obtain ⟨j, hj, rfl⟩ := List.mem_iff_getElem.1 hs
        have := (h i j _ _ _ _ hl0 hm0 (List.getElem?_eq_getElem (by omega)) (List.getElem?_eq_getElem hj)).one
        rw [this]
        exact q2 _ (List.getElem_mem _)
      · have hi' : i < m.length := (List.getElem?_eq_some_iff.1 hi).1
        have hl0 : l[i]? = some (l[i]'(by omega)) := List.getElem?_eq_getElem (by omega)
        have q3 := he i _ _ hl0 hi
        have hj' : j < e.length := (List.getElem?_eq_some_iff.1 hj).1
        exact ih i j _ _ _ _ hl0 hi (List.getElem?_eq_getElem (by omega)) hj (hr b o i j _ _ u hAb hl0 (List.getElem?_eq_getElem (by omega)) hu)
theorem Holds.cv {P : Program} {f : FuncId} {args args' : List PV} {r : SV} {own : List (Nat × Box)} (h : Holds P f args r own) (hc : CvL args' args) : Holds P f args' r own :=
  ⟨h.1, fun w Sx vs hSx hl hr => h.2 w Sx vs hSx (by rw [hl, hc.1]) fun i s u hs hu => by
    have hi : i < args.length := (List.getElem?_eq_some_iff.1 hs).1
    have h0 : args'[i]? = some (args'[i]'(by rw [hc.1]; exact hi)) := List.getElem?_eq_getElem _
    exact (hr i _ u h0 hu).cv (hc.2 i _ s h0 hs)⟩
theorem Holds.res {P : Program} {f : FuncId} {args : List PV} {r r' : SV} {own : List (Nat × Box)} (h : Holds P f args r own) (e : r = r') : Holds P f args r' own := e ▸ h
end Go.Proofs.YtppfcacnofjmdaaGreatDoor
namespace Go.Proofs.YtppfcacnofjmdaaGreatDoor
set_option linter.unusedVariables false
set_option linter.unusedSimpArgs false
open Go.RowKit
inductive CvS : SV → SV → Prop
  | refl (s : SV) : CvS s s
  | p {a b : PV} (h : Cv a b) : CvS (.p a) (.p b)
  | two {a b c d : PV} (h : Cv a b) (h2 : Cv c d) : CvS (.tup [.p a, .p c]) (.tup [.p b, .p d])
theorem RelS.cvs {ok : Nat → Prop} {H : Nat → Option Value} {w : World} {s s' : SV} {u : Value} (hc : CvS s s') (h : RelS ok H w s u) : RelS ok H w s' u := by
  cases hc with
  | refl => exact h
  | p hc => exact .p (h.p_inv.cv hc)
  | two h1 h2 =>
    cases h with
    | @tup _ us hl hr =>
      refine .tup hl fun i s u hs hu => ?_
      match i, hs with
      | 0, hs => cases hs; exact .p ((hr 0 _ u rfl hu).p_inv.cv h1)
      | 1, hs => cases hs; exact .p ((hr 1 _ u rfl hu).p_inv.cv h2)
def FinC (T : TT) (rs : List ResultVar) (r : SV) (own' : List (Nat × Box)) (e : SEx) (st : St) : Prop := (e = .normal ∨ e = .ret) ∧ ∃ st' s ρ r0, Wk st st' ∧ resC T st' rs = some s ∧ s.mapR ρ = some r0 ∧ CvS r0 r ∧ ownR ρ st'.own ρ = some own' ∧ renOk ρ = true
theorem qR {P : Program} {T : TT} (hT : zh P T) {f : FuncId} {fn : Func} {c : Code} {args : List SV} {own : List (Nat × Box)} {r : SV} {own' : List (Nat × Box)} {rs : List ResultVar} (hf : P.funcs[f]? = some fn) (hname : (fn.name == "runtime.NumGoroutine") = false) (hb : fn.body = some c)
    (hres : fn.results = rs.toArray) (hn0 : (Nat.ble args.length fn.ntmps && Nat.ble fn.ntmps 900) = true) (h : SW P c (FinC T rs r own') ⟨fn.ntmps, jN 0 args, own⟩) : zZ P f args own r own' := by
  have hn : args.length ≤ fn.ntmps ∧ fn.ntmps ≤ 900 := by
    rw [Bool.and_eq_true] at hn0
    exact ⟨Nat.le_of_ble_eq_true hn0.1, Nat.le_of_ble_eq_true hn0.2⟩
  refine ⟨⟨fn, hf, hname, by rw [hb]; rfl⟩, fun w Sx γ vs hh hl hr => ?_⟩
  refine calls_of_wp hf hb ?_
  have hget : ∀ t, t < args.length → (vs.toArray ++ Array.replicate (fn.ntmps - vs.toArray.size) undef).getD t undef = vs[t]?.getD undef := fun t ht => by
    have : t < vs.length := by omega
    have h2 : (vs.toArray ++ Array.replicate (fn.ntmps - vs.toArray.size) undef)[t]? = vs[t]? := by
      rw [Array.getElem?_append_left (by simpa using this)]; simp
    rw [Array.getD_eq_getD_getElem?, h2]
  have hI : Sim (jX w γ own) Sx γ ⟨fn.ntmps, jN 0 args, own⟩ ⟨vs.toArray ++ Array.replicate (fn.ntmps - vs.toArray.size) undef, []⟩ w := by
    refine ⟨⟨Below.refl _ w, fun _ _ => rfl⟩, ⟨by simp; omega, hn.2⟩, rfl, fun t s ht => ?_, hh⟩
    obtain ⟨_, hx⟩ := argFrS_get ht
    simp only [Nat.sub_zero] at hx
    have hlt : t < args.length := (List.getElem?_eq_some_iff.1 hx).1
    have hv : vs[t]? = some (vs[t]'(by omega)) := List.getElem?_eq_getElem (by omega)
    show RelS _ _ _ _ ((vs.toArray ++ Array.replicate (fn.ntmps - vs.toArray.size) undef).getD t undef)
    rw [hget t hlt, hv]
    exact hr t s _ hx hv
  refine h _ Sx _ _ w _ hI fun e st2 γ' a' w' hI' hq => ?_
  obtain ⟨he, st', s, ρ, r0, hwk, hs, hm, hcv, ho, hρ⟩ := hq
  obtain ⟨γ'', hI''⟩ := hwk _ Sx γ' a' w' hI'
  obtain ⟨γ3, k1, k2⟩ := heap_mapR hI''.heap ho hρ
  obtain ⟨v, k3, k4⟩ := resC_ok hT hI'' hs hres
  have fin : a'.defers = [] ∧ ∃ v, (results fn a'.tmps).run P w' = .ok v w' ∧ ∃ v' γ2 r1 own1, (r1 = r ∧ own1 = own') ∧ Ending.returned v = .returned v' ∧ BelowB (jX w γ own) w' ∧ HeapOk (jX w γ own) Sx γ2 own1 w' ∧ RelS (okO Sx γ2 own1) (hp γ2 own1) w' r1 v' :=
    ⟨hI''.defers, v, k3, v, γ3, r, own', ⟨rfl, rfl⟩, rfl, hI''.below, k1, (k2 s v r0 k4 hm).cvs hcv⟩
  rcases he with rfl | rfl
  · exact fin
  · exact fin
end Go.Proofs.YtppfcacnofjmdaaGreatDoor
namespace Go.Proofs.YtppfcacnofjmdaaGreatDoor
set_option linter.unusedVariables false
set_option linter.unusedSimpArgs false
open Go.RowKit
set_option maxHeartbeats 1000000
end Go.Proofs.YtppfcacnofjmdaaGreatDoor
namespace Go.Proofs.YtppfcacnofjmdaaGreatDoor
set_option linter.unusedVariables false
set_option linter.unusedSimpArgs false
open Go.RowKit
set_option maxHeartbeats 2000000
end Go.Proofs.YtppfcacnofjmdaaGreatDoor
namespace Go.Proofs.YtppfcacnofjmdaaGreatDoor
set_option linter.unusedVariables false
set_option linter.unusedSimpArgs false
open Go.RowKit
set_option maxHeartbeats 4000000
end Go.Proofs.YtppfcacnofjmdaaGreatDoor
namespace Go.Proofs.YtppfcacnofjmdaaGreatDoor
set_option linter.unusedVariables false
set_option linter.unusedSimpArgs false
open Go.RowKit
set_option maxHeartbeats 4000000
end Go.Proofs.YtppfcacnofjmdaaGreatDoor
namespace Go.Proofs.YtppfcacnofjmdaaGreatDoor
set_option linter.unusedVariables false
set_option linter.unusedSimpArgs false
open Go.RowKit
end Go.Proofs.YtppfcacnofjmdaaGreatDoor
namespace Go.Proofs.YtppfcacnofjmdaaGreatDoor
set_option linter.unusedVariables false
set_option linter.unusedSimpArgs false
open Go.RowKit
inductive SubL {α : Type} (R : α → α → Prop) : List α → List α → Prop
  | nil : SubL R [] []
  | skip {a b : List α} {x : α} (h : SubL R a b) : SubL R a (x :: b)
  | keep {a b : List α} {x y : α} (hr : R y x) (h : SubL R a b) : SubL R (y :: a) (x :: b)
theorem SubL.len {α : Type} {R : α → α → Prop} {a b : List α} (h : SubL R a b) : a.length ≤ b.length := by
  induction h with
  | nil => exact Nat.le_refl _
  | skip h ih => simp; omega
  | keep hr h ih => simp; omega
def SubP : Nat → Pol → Pol → Prop
  | 0, _, _ => True
  | n + 1, q, p => q.id = p.id ∧ q.set = p.set ∧ q.alg = p.alg ∧ q.target = p.target ∧ q.rules = p.rules ∧ q.obls = p.obls ∧ SubL (SubP n) q.kids p.kids
theorem SubP.refl : ∀ (n : Nat) (p : Pol), SubP n p p
  | 0, _ => True.intro
  | n + 1, p => ⟨rfl, rfl, rfl, rfl, rfl, rfl, by
    have : ∀ l : List Pol, SubL (SubP n) l l := fun l => by
      induction l with
      | nil => exact .nil
      | cons x l ih => exact .keep (SubP.refl n x) ih
    exact this _⟩
theorem Wlk.le_trans {a b c : Wlk} (h : a.le b) (h' : b.le c) : a.le c := ⟨fun s hs => h'.1 s (h.1 s hs), Int.le_trans h.2 h'.2⟩
end Go.Proofs.YtppfcacnofjmdaaGreatDoor
namespace Go.Proofs.YtppfcacnofjmdaaGreatDoor
set_option linter.unusedVariables false
set_option linter.unusedSimpArgs false
open Go.RowKit
theorem nod_back {ok : Nat → Prop} {w : World} {cs : List Value} {x : Nod} (h : rPV ok w cs x.pv) (hf : x.Fit) : rNod w cs x :=
  ⟨rPV_plain (xs := [.int .i64 x.op, .int .i64 x.val.kind, .int .i64 x.val.n, .string x.val.s, .int .i64 x.attr.cat, .string x.attr.name, .bool x.attr.must]) h, hf⟩
theorem obl_back {ok : Nat → Prop} {w : World} {cs : List Value} {x : Obli} (h : rPV ok w cs x.pv) (hf : x.Fit) : rObl w cs x :=
  ⟨rPV_plain (xs := [.int .i64 x.on, .int .i64 x.kind, .string x.arg]) h, hf⟩
theorem slv_back {α : Type} {R : Rp α} {f : α → List PV} {z : Nat} {ok : Nat → Prop} {w : World} {u : Value} {l : List α} (h : RelP ok w (.sl z (l.map f)) u) (hf : ∀ x ∈ l, ∀ cs, rPV ok w cs (f x) → R w cs x) : SlV R z w u l := by
  obtain ⟨A, c, rfl, h1, h2, h3⟩ := sl_typed h hf
  exact ⟨A, c, rfl, h1, h2, h3⟩
theorem tar_back {ok : Nat → Prop} {w : World} {u : Value} {t : Tar} (h : RelP ok w (tgtP t) u) (hf : TarFit t) : SlV rTar' 1 w u t := by
  obtain ⟨A, c, rfl, h1, h2, h3⟩ := tgt_typed h hf
  exact ⟨A, c, rfl, h1, h2, h3⟩
theorem rul_back {ok : Nat → Prop} {w : World} {cs : List Value} {x : Rul} (h : rPV ok w cs (zt x)) (hf : RulFit x) : rRul w cs x := by
  have hl : cs.length = 5 := h.1
  match cs, hl with
  | [c0, c1, c2, c3, c4], _ =>
    have e0 := zX (h.2 0 _ c0 rfl rfl) rfl
    have e1 := zX (h.2 1 _ c1 rfl rfl) rfl
    subst e0 e1
    exact ⟨c2, c3, c4, rfl, hf.id, tar_back (h.2 2 _ c2 rfl rfl) hf.tgt, slv_back (h.2 3 _ c3 rfl rfl) (fun x hx cs hcs => nod_back hcs (hf.cond x hx)), slv_back (h.2 4 _ c4 rfl rfl) (fun x hx cs hcs => obl_back hcs (hf.obls x hx))⟩
theorem pol_back : ∀ {n : Nat} {ok : Nat → Prop} {w : World} {cs : List Value} {p : Pol}, rPV ok w cs (polP p) → PolF n p → rPolN n w cs p
  | n + 1, ok, w, cs, p, h, hf => by
    rw [zf] at h
    have hl : cs.length = 7 := h.1
    match cs, hl with
    | [c0, c1, c2, c3, c4, c5, c6], _ =>
      have e0 := zX (h.2 0 _ c0 rfl rfl) rfl
      have e1 := zX (h.2 1 _ c1 rfl rfl) rfl
      have e2 := zX (h.2 2 _ c2 rfl rfl) rfl
      subst e0 e1 e2
      exact ⟨c3, c4, c5, c6, rfl, hf.1.id, hf.2.1, tar_back (h.2 3 _ c3 rfl rfl) hf.1.tgt, slv_back (h.2 4 _ c4 rfl rfl) (fun x hx cs hcs => rul_back hcs (hf.1.rules x hx)),
        slv_back (h.2 5 _ c5 rfl rfl) (fun x hx cs hcs => pol_back hcs (hf.2.2 x hx)), slv_back (h.2 6 _ c6 rfl rfl) (fun x hx cs hcs => obl_back hcs (hf.1.obls x hx))⟩
theorem small_h {n : Nat} (p : Pol) (hf : PolF n p) : HoldsE Tryz.prog 15 [.agg (polP p)] (Upto p.sz 3000) :=
  .of_calls Tryz.func15 (by kernel_rfl) rfl fun w vs hl hr => by
    obtain ⟨u, rfl⟩ := one_arg hl
    have h := hr 0 _ u rfl rfl
    cases h with
    | @agg _ us hl2 hr2 =>
      have hp := pol_back ⟨hl2, hr2⟩ hf
      match n, hf, hp with
      | n + 1, _, ⟨c3, c4, c5, c6, he, h1⟩ =>
        subst he
        exact (small_any (n + 1) p w c3 c4 c5 c6 ⟨c3, c4, c5, c6, rfl, h1⟩).mono fun e w' h => upto_ok h
end Go.Proofs.YtppfcacnofjmdaaGreatDoor
namespace Go.Proofs.YtppfcacnofjmdaaGreatDoor
set_option linter.unusedVariables false
set_option linter.unusedSimpArgs false
open Go.RowKit
set_option maxHeartbeats 1000000
end Go.Proofs.YtppfcacnofjmdaaGreatDoor
namespace Go.Proofs.YtppfcacnofjmdaaGreatDoor
open Go.RowKit
noncomputable def fnsv29 : FnI := ⟨27, Tryz.f29.body.getD .skip, [.tmp 0], []⟩
theorem fnsv29_ok : FnOk Tryz.prog 29 fnsv29 := ⟨_, Tryz.func29, by kernel_rfl, by kernel_rfl, by kernel_rfl, by kernel_rfl, by kernel_rfl, by kernel_rfl⟩
noncomputable def fnsv32 : FnI := ⟨42, Tryz.f32.body.getD .skip, [.tmp 4], [(6, [(0, true), (1, true), (2, true), (3, true), (4, true), (5, true), (6, false), (7, false), (8, false), (9, false), (10, false), (11, false), (12, true), (13, true), (14, true), (15, true), (16, true), (17, true), (18, false), (19, false), (20, false), (21, false), (22, false), (23, false), (24, false)])]⟩
theorem fnsv32_ok : FnOk Tryz.prog 32 fnsv32 := ⟨_, Tryz.func32, by kernel_rfl, by kernel_rfl, by kernel_rfl, by kernel_rfl, by kernel_rfl, by kernel_rfl⟩
noncomputable def fnsv58 : FnI := ⟨26, Tryz.f58.body.getD .skip, [.tmp 4], [(6, [(0, true), (1, true), (2, true), (3, true), (4, true), (5, false), (6, false), (7, false), (8, false)])]⟩
theorem fnsv58_ok : FnOk Tryz.prog 58 fnsv58 := ⟨_, Tryz.func58, by kernel_rfl, by kernel_rfl, by kernel_rfl, by kernel_rfl, by kernel_rfl, by kernel_rfl⟩
noncomputable def fnsv30 : FnI := ⟨14, Tryz.f30.body.getD .skip, [.tmp 2, .tmp 3], []⟩
theorem fnsv30_ok : FnOk Tryz.prog 30 fnsv30 := ⟨_, Tryz.func30, by kernel_rfl, by kernel_rfl, by kernel_rfl, by kernel_rfl, by kernel_rfl, by kernel_rfl⟩
noncomputable def fnsv54 : FnI := ⟨46, Tryz.f54.body.getD .skip, [.tmp 4], []⟩
theorem fnsv54_ok : FnOk Tryz.prog 54 fnsv54 := ⟨_, Tryz.func54, by kernel_rfl, by kernel_rfl, by kernel_rfl, by kernel_rfl, by kernel_rfl, by kernel_rfl⟩
noncomputable def fnsv72 : FnI := ⟨18, Tryz.f72.body.getD .skip, [.tmp 4], []⟩
theorem fnsv72_ok : FnOk Tryz.prog 72 fnsv72 := ⟨_, Tryz.func72, by kernel_rfl, by kernel_rfl, by kernel_rfl, by kernel_rfl, by kernel_rfl, by kernel_rfl⟩
noncomputable def fnsv88 : FnI := ⟨8, Tryz.f88.body.getD .skip, [.tmp 2], []⟩
theorem fnsv88_ok : FnOk Tryz.prog 88 fnsv88 := ⟨_, Tryz.func88, by kernel_rfl, by kernel_rfl, by kernel_rfl, by kernel_rfl, by kernel_rfl, by kernel_rfl⟩
noncomputable def fnsv31 : FnI := ⟨8, Tryz.f31.body.getD .skip, [.tmp 4], []⟩
theorem fnsv31_ok : FnOk Tryz.prog 31 fnsv31 := ⟨_, Tryz.func31, by kernel_rfl, by kernel_rfl, by kernel_rfl, by kernel_rfl, by kernel_rfl, by kernel_rfl⟩
noncomputable def fnsv55 : FnI := ⟨19, Tryz.f55.body.getD .skip, [.tmp 4], []⟩
theorem fnsv55_ok : FnOk Tryz.prog 55 fnsv55 := ⟨_, Tryz.func55, by kernel_rfl, by kernel_rfl, by kernel_rfl, by kernel_rfl, by kernel_rfl, by kernel_rfl⟩
noncomputable def fnsv56 : FnI := ⟨16, Tryz.f56.body.getD .skip, [.tmp 3], []⟩
theorem fnsv56_ok : FnOk Tryz.prog 56 fnsv56 := ⟨_, Tryz.func56, by kernel_rfl, by kernel_rfl, by kernel_rfl, by kernel_rfl, by kernel_rfl, by kernel_rfl⟩
noncomputable def fnsv57 : FnI := ⟨26, Tryz.f57.body.getD .skip, [.tmp 4], [(6, [(0, true), (1, true), (2, true), (3, true), (4, true), (5, false), (6, false), (7, false), (8, false)])]⟩
theorem fnsv57_ok : FnOk Tryz.prog 57 fnsv57 := ⟨_, Tryz.func57, by kernel_rfl, by kernel_rfl, by kernel_rfl, by kernel_rfl, by kernel_rfl, by kernel_rfl⟩
noncomputable def fnsv71 : FnI := ⟨37, Tryz.f71.body.getD .skip, [.tmp 4], []⟩
theorem fnsv71_ok : FnOk Tryz.prog 71 fnsv71 := ⟨_, Tryz.func71, by kernel_rfl, by kernel_rfl, by kernel_rfl, by kernel_rfl, by kernel_rfl, by kernel_rfl⟩
noncomputable def fnsv17 : FnI := ⟨10, Tryz.f17.body.getD .skip, [.tmp 2], []⟩
theorem fnsv17_ok : FnOk Tryz.prog 17 fnsv17 := ⟨_, Tryz.func17, by kernel_rfl, by kernel_rfl, by kernel_rfl, by kernel_rfl, by kernel_rfl, by kernel_rfl⟩
noncomputable def fnsv44 : FnI := ⟨52, Tryz.f44.body.getD .skip, [.tmp 6], []⟩
theorem fnsv44_ok : FnOk Tryz.prog 44 fnsv44 := ⟨_, Tryz.func44, by kernel_rfl, by kernel_rfl, by kernel_rfl, by kernel_rfl, by kernel_rfl, by kernel_rfl⟩
noncomputable def fnsv68 : FnI := ⟨39, Tryz.f68.body.getD .skip, [.tmp 4], []⟩
theorem fnsv68_ok : FnOk Tryz.prog 68 fnsv68 := ⟨_, Tryz.func68, by kernel_rfl, by kernel_rfl, by kernel_rfl, by kernel_rfl, by kernel_rfl, by kernel_rfl⟩
noncomputable def fnsv86 : FnI := ⟨39, Tryz.f86.body.getD .skip, [.tmp 2], []⟩
theorem fnsv86_ok : FnOk Tryz.prog 86 fnsv86 := ⟨_, Tryz.func86, by kernel_rfl, by kernel_rfl, by kernel_rfl, by kernel_rfl, by kernel_rfl, by kernel_rfl⟩
noncomputable def fnsv105 : FnI := ⟨49, Tryz.f105.body.getD .skip, [.tmp 2], []⟩
theorem fnsv105_ok : FnOk Tryz.prog 105 fnsv105 := ⟨_, Tryz.func105, by kernel_rfl, by kernel_rfl, by kernel_rfl, by kernel_rfl, by kernel_rfl, by kernel_rfl⟩
noncomputable def fnsv73 : FnI := ⟨38, Tryz.f73.body.getD .skip, [.tmp 2], []⟩
theorem fnsv73_ok : FnOk Tryz.prog 73 fnsv73 := ⟨_, Tryz.func73, by kernel_rfl, by kernel_rfl, by kernel_rfl, by kernel_rfl, by kernel_rfl, by kernel_rfl⟩
noncomputable def fnsv89 : FnI := ⟨60, Tryz.f89.body.getD .skip, [.tmp 4, .tmp 5], [(11, [(0, true), (1, true), (2, true), (3, false), (4, false), (5, false), (6, false), (7, false), (8, false), (9, false)])]⟩
theorem fnsv89_ok : FnOk Tryz.prog 89 fnsv89 := ⟨_, Tryz.func89, by kernel_rfl, by kernel_rfl, by kernel_rfl, by kernel_rfl, by kernel_rfl, by kernel_rfl⟩
noncomputable def fnsv114 : FnI := ⟨37, Tryz.f114.body.getD .skip, [.tmp 2], []⟩
theorem fnsv114_ok : FnOk Tryz.prog 114 fnsv114 := ⟨_, Tryz.func114, by kernel_rfl, by kernel_rfl, by kernel_rfl, by kernel_rfl, by kernel_rfl, by kernel_rfl⟩
noncomputable def fnsv143 : FnI := ⟨16, Tryz.f143.body.getD .skip, [.tmp 2], []⟩
theorem fnsv143_ok : FnOk Tryz.prog 143 fnsv143 := ⟨_, Tryz.func143, by kernel_rfl, by kernel_rfl, by kernel_rfl, by kernel_rfl, by kernel_rfl, by kernel_rfl⟩
noncomputable def fnsv103 : FnI := ⟨61, Tryz.f103.body.getD .skip, [.tmp 2], []⟩
theorem fnsv103_ok : FnOk Tryz.prog 103 fnsv103 := ⟨_, Tryz.func103, by kernel_rfl, by kernel_rfl, by kernel_rfl, by kernel_rfl, by kernel_rfl, by kernel_rfl⟩
noncomputable def fnsv113 : FnI := ⟨35, Tryz.f113.body.getD .skip, [.tmp 2, .tmp 3], []⟩
theorem fnsv113_ok : FnOk Tryz.prog 113 fnsv113 := ⟨_, Tryz.func113, by kernel_rfl, by kernel_rfl, by kernel_rfl, by kernel_rfl, by kernel_rfl, by kernel_rfl⟩
noncomputable def fnsv85 : FnI := ⟨21, Tryz.f85.body.getD .skip, [.tmp 2], []⟩
theorem fnsv85_ok : FnOk Tryz.prog 85 fnsv85 := ⟨_, Tryz.func85, by kernel_rfl, by kernel_rfl, by kernel_rfl, by kernel_rfl, by kernel_rfl, by kernel_rfl⟩
noncomputable def fnsv106 : FnI := ⟨25, Tryz.f106.body.getD .skip, [.tmp 2], []⟩
theorem fnsv106_ok : FnOk Tryz.prog 106 fnsv106 := ⟨_, Tryz.func106, by kernel_rfl, by kernel_rfl, by kernel_rfl, by kernel_rfl, by kernel_rfl, by kernel_rfl⟩
noncomputable def fnsv135 : FnI := ⟨22, Tryz.f135.body.getD .skip, [.tmp 2], []⟩
theorem fnsv135_ok : FnOk Tryz.prog 135 fnsv135 := ⟨_, Tryz.func135, by kernel_rfl, by kernel_rfl, by kernel_rfl, by kernel_rfl, by kernel_rfl, by kernel_rfl⟩
noncomputable def fnsv153 : FnI := ⟨21, Tryz.f153.body.getD .skip, [.tmp 2], []⟩
theorem fnsv153_ok : FnOk Tryz.prog 153 fnsv153 := ⟨_, Tryz.func153, by kernel_rfl, by kernel_rfl, by kernel_rfl, by kernel_rfl, by kernel_rfl, by kernel_rfl⟩
noncomputable def fnsv134 : FnI := ⟨9, Tryz.f134.body.getD .skip, [.tmp 2], []⟩
theorem fnsv134_ok : FnOk Tryz.prog 134 fnsv134 := ⟨_, Tryz.func134, by kernel_rfl, by kernel_rfl, by kernel_rfl, by kernel_rfl, by kernel_rfl, by kernel_rfl⟩
noncomputable def fnsv84 : FnI := ⟨28, Tryz.f84.body.getD .skip, [.tmp 4], []⟩
theorem fnsv84_ok : FnOk Tryz.prog 84 fnsv84 := ⟨_, Tryz.func84, by kernel_rfl, by kernel_rfl, by kernel_rfl, by kernel_rfl, by kernel_rfl, by kernel_rfl⟩
noncomputable def fnsv67 : FnI := ⟨68, Tryz.f67.body.getD .skip, [.tmp 4], []⟩
theorem fnsv67_ok : FnOk Tryz.prog 67 fnsv67 := ⟨_, Tryz.func67, by kernel_rfl, by kernel_rfl, by kernel_rfl, by kernel_rfl, by kernel_rfl, by kernel_rfl⟩
noncomputable def fnsv53 : FnI := ⟨13, Tryz.f53.body.getD .skip, [.cell 2 28], []⟩
theorem fnsv53_ok : FnOk Tryz.prog 53 fnsv53 := ⟨_, Tryz.func53, by kernel_rfl, by kernel_rfl, by kernel_rfl, by kernel_rfl, by kernel_rfl, by kernel_rfl⟩
noncomputable def fnsv61 : FnI := ⟨61, Tryz.f61.body.getD .skip, [.cell 2 28, .tmp 3, .tmp 4], [(11, [(0, true), (1, true), (2, true), (3, true), (4, true), (5, true), (6, true), (7, true), (8, true), (9, false), (10, false), (11, false)])]⟩
theorem fnsv61_ok : FnOk Tryz.prog 61 fnsv61 := ⟨_, Tryz.func61, by kernel_rfl, by kernel_rfl, by kernel_rfl, by kernel_rfl, by kernel_rfl, by kernel_rfl⟩
noncomputable def fnsv80 : FnI := ⟨19, Tryz.f80.body.getD .skip, [], []⟩
theorem fnsv80_ok : FnOk Tryz.prog 80 fnsv80 := ⟨_, Tryz.func80, by kernel_rfl, by kernel_rfl, by kernel_rfl, by kernel_rfl, by kernel_rfl, by kernel_rfl⟩
noncomputable def fnsv79 : FnI := ⟨7, Tryz.f79.body.getD .skip, [], []⟩
theorem fnsv79_ok : FnOk Tryz.prog 79 fnsv79 := ⟨_, Tryz.func79, by kernel_rfl, by kernel_rfl, by kernel_rfl, by kernel_rfl, by kernel_rfl, by kernel_rfl⟩
noncomputable def fnsv78 : FnI := ⟨13, Tryz.f78.body.getD .skip, [.cell 2 143], [(1, [(0, true), (1, true), (2, true), (3, true), (4, false), (5, false), (6, false), (7, false), (8, false), (9, false), (10, false)])]⟩
theorem fnsv78_ok : FnOk Tryz.prog 78 fnsv78 := ⟨_, Tryz.func78, by kernel_rfl, by kernel_rfl, by kernel_rfl, by kernel_rfl, by kernel_rfl, by kernel_rfl⟩
noncomputable def fnsv77 : FnI := ⟨39, Tryz.f77.body.getD .skip, [.cell 4 28], []⟩
theorem fnsv77_ok : FnOk Tryz.prog 77 fnsv77 := ⟨_, Tryz.func77, by kernel_rfl, by kernel_rfl, by kernel_rfl, by kernel_rfl, by kernel_rfl, by kernel_rfl⟩
noncomputable def fnsv100 : FnI := ⟨28, Tryz.f100.body.getD .skip, [.tmp 2], []⟩
theorem fnsv100_ok : FnOk Tryz.prog 100 fnsv100 := ⟨_, Tryz.func100, by kernel_rfl, by kernel_rfl, by kernel_rfl, by kernel_rfl, by kernel_rfl, by kernel_rfl⟩
noncomputable def fnsv131 : FnI := ⟨10, Tryz.f131.body.getD .skip, [], []⟩
theorem fnsv131_ok : FnOk Tryz.prog 131 fnsv131 := ⟨_, Tryz.func131, by kernel_rfl, by kernel_rfl, by kernel_rfl, by kernel_rfl, by kernel_rfl, by kernel_rfl⟩
noncomputable def fnsv95 : FnI := ⟨25, Tryz.f95.body.getD .skip, [.tmp 2], []⟩
theorem fnsv95_ok : FnOk Tryz.prog 95 fnsv95 := ⟨_, Tryz.func95, by kernel_rfl, by kernel_rfl, by kernel_rfl, by kernel_rfl, by kernel_rfl, by kernel_rfl⟩
noncomputable def fnsv94 : FnI := ⟨28, Tryz.f94.body.getD .skip, [.tmp 4], []⟩
theorem fnsv94_ok : FnOk Tryz.prog 94 fnsv94 := ⟨_, Tryz.func94, by kernel_rfl, by kernel_rfl, by kernel_rfl, by kernel_rfl, by kernel_rfl, by kernel_rfl⟩
noncomputable def fnsv129 : FnI := ⟨18, Tryz.f129.body.getD .skip, [.tmp 4], []⟩
theorem fnsv129_ok : FnOk Tryz.prog 129 fnsv129 := ⟨_, Tryz.func129, by kernel_rfl, by kernel_rfl, by kernel_rfl, by kernel_rfl, by kernel_rfl, by kernel_rfl⟩
noncomputable def fnsv132 : FnI := ⟨29, Tryz.f132.body.getD .skip, [.tmp 4], []⟩
theorem fnsv132_ok : FnOk Tryz.prog 132 fnsv132 := ⟨_, Tryz.func132, by kernel_rfl, by kernel_rfl, by kernel_rfl, by kernel_rfl, by kernel_rfl, by kernel_rfl⟩
noncomputable def fnsv128 : FnI := ⟨19, Tryz.f128.body.getD .skip, [.tmp 4], []⟩
theorem fnsv128_ok : FnOk Tryz.prog 128 fnsv128 := ⟨_, Tryz.func128, by kernel_rfl, by kernel_rfl, by kernel_rfl, by kernel_rfl, by kernel_rfl, by kernel_rfl⟩
noncomputable def fnsv99 : FnI := ⟨51, Tryz.f99.body.getD .skip, [.tmp 2], []⟩
theorem fnsv99_ok : FnOk Tryz.prog 99 fnsv99 := ⟨_, Tryz.func99, by kernel_rfl, by kernel_rfl, by kernel_rfl, by kernel_rfl, by kernel_rfl, by kernel_rfl⟩
noncomputable def fnsv133 : FnI := ⟨23, Tryz.f133.body.getD .skip, [.cell 4 59], []⟩
theorem fnsv133_ok : FnOk Tryz.prog 133 fnsv133 := ⟨_, Tryz.func133, by kernel_rfl, by kernel_rfl, by kernel_rfl, by kernel_rfl, by kernel_rfl, by kernel_rfl⟩
noncomputable def fnsv97 : FnI := ⟨10, Tryz.f97.body.getD .skip, [], []⟩
theorem fnsv97_ok : FnOk Tryz.prog 97 fnsv97 := ⟨_, Tryz.func97, by kernel_rfl, by kernel_rfl, by kernel_rfl, by kernel_rfl, by kernel_rfl, by kernel_rfl⟩
noncomputable def fnsv152 : FnI := ⟨25, Tryz.f152.body.getD .skip, [.tmp 6], []⟩
theorem fnsv152_ok : FnOk Tryz.prog 152 fnsv152 := ⟨_, Tryz.func152, by kernel_rfl, by kernel_rfl, by kernel_rfl, by kernel_rfl, by kernel_rfl, by kernel_rfl⟩
noncomputable def fnsv160 : FnI := ⟨52, Tryz.f160.body.getD .skip, [.tmp 4, .tmp 5], [(10, [(0, true), (1, true), (2, true), (3, true), (4, false), (5, false)])]⟩
theorem fnsv160_ok : FnOk Tryz.prog 160 fnsv160 := ⟨_, Tryz.func160, by kernel_rfl, by kernel_rfl, by kernel_rfl, by kernel_rfl, by kernel_rfl, by kernel_rfl⟩
noncomputable def fnsv167 : FnI := ⟨56, Tryz.f167.body.getD .skip, [.cell 2 52], []⟩
theorem fnsv167_ok : FnOk Tryz.prog 167 fnsv167 := ⟨_, Tryz.func167, by kernel_rfl, by kernel_rfl, by kernel_rfl, by kernel_rfl, by kernel_rfl, by kernel_rfl⟩
noncomputable def fnsv166 : FnI := ⟨17, Tryz.f166.body.getD .skip, [.cell 2 54], []⟩
theorem fnsv166_ok : FnOk Tryz.prog 166 fnsv166 := ⟨_, Tryz.func166, by kernel_rfl, by kernel_rfl, by kernel_rfl, by kernel_rfl, by kernel_rfl, by kernel_rfl⟩
noncomputable def fnsv168 : FnI := ⟨36, Tryz.f168.body.getD .skip, [.tmp 4, .cell 5 56], [(9, [(0, true), (1, true), (2, false), (3, false)])]⟩
theorem fnsv168_ok : FnOk Tryz.prog 168 fnsv168 := ⟨_, Tryz.func168, by kernel_rfl, by kernel_rfl, by kernel_rfl, by kernel_rfl, by kernel_rfl, by kernel_rfl⟩
noncomputable def fnsv173 : FnI := ⟨15, Tryz.f173.body.getD .skip, [.tmp 2], []⟩
theorem fnsv173_ok : FnOk Tryz.prog 173 fnsv173 := ⟨_, Tryz.func173, by kernel_rfl, by kernel_rfl, by kernel_rfl, by kernel_rfl, by kernel_rfl, by kernel_rfl⟩
noncomputable def fnsv96 : FnI := ⟨23, Tryz.f96.body.getD .skip, [.tmp 2], []⟩
theorem fnsv96_ok : FnOk Tryz.prog 96 fnsv96 := ⟨_, Tryz.func96, by kernel_rfl, by kernel_rfl, by kernel_rfl, by kernel_rfl, by kernel_rfl, by kernel_rfl⟩
noncomputable def fnsv130 : FnI := ⟨24, Tryz.f130.body.getD .skip, [.tmp 2], []⟩
theorem fnsv130_ok : FnOk Tryz.prog 130 fnsv130 := ⟨_, Tryz.func130, by kernel_rfl, by kernel_rfl, by kernel_rfl, by kernel_rfl, by kernel_rfl, by kernel_rfl⟩
noncomputable def fnsv151 : FnI := ⟨20, Tryz.f151.body.getD .skip, [.tmp 2], []⟩
theorem fnsv151_ok : FnOk Tryz.prog 151 fnsv151 := ⟨_, Tryz.func151, by kernel_rfl, by kernel_rfl, by kernel_rfl, by kernel_rfl, by kernel_rfl, by kernel_rfl⟩
noncomputable def fnsv159 : FnI := ⟨32, Tryz.f159.body.getD .skip, [.cell 2 62], []⟩
theorem fnsv159_ok : FnOk Tryz.prog 159 fnsv159 := ⟨_, Tryz.func159, by kernel_rfl, by kernel_rfl, by kernel_rfl, by kernel_rfl, by kernel_rfl, by kernel_rfl⟩
noncomputable def fnsv98 : FnI := ⟨33, Tryz.f98.body.getD .skip, [.tmp 4], []⟩
theorem fnsv98_ok : FnOk Tryz.prog 98 fnsv98 := ⟨_, Tryz.func98, by kernel_rfl, by kernel_rfl, by kernel_rfl, by kernel_rfl, by kernel_rfl, by kernel_rfl⟩
noncomputable def fnsv76 : FnI := ⟨52, Tryz.f76.body.getD .skip, [.tmp 2, .tmp 3, .tmp 4], []⟩
theorem fnsv76_ok : FnOk Tryz.prog 76 fnsv76 := ⟨_, Tryz.func76, by kernel_rfl, by kernel_rfl, by kernel_rfl, by kernel_rfl, by kernel_rfl, by kernel_rfl⟩
noncomputable def fnsv93 : FnI := ⟨106, Tryz.f93.body.getD .skip, [.cell 2 143, .tmp 3], [(30, [(0, true), (1, true), (2, false), (3, false), (4, false), (5, false), (6, false)])]⟩
theorem fnsv93_ok : FnOk Tryz.prog 93 fnsv93 := ⟨_, Tryz.func93, by kernel_rfl, by kernel_rfl, by kernel_rfl, by kernel_rfl, by kernel_rfl, by kernel_rfl⟩
noncomputable def fnsv126 : FnI := ⟨50, Tryz.f126.body.getD .skip, [.tmp 2, .tmp 3], []⟩
theorem fnsv126_ok : FnOk Tryz.prog 126 fnsv126 := ⟨_, Tryz.func126, by kernel_rfl, by kernel_rfl, by kernel_rfl, by kernel_rfl, by kernel_rfl, by kernel_rfl⟩
noncomputable def fnsv149 : FnI := ⟨38, Tryz.f149.body.getD .skip, [.tmp 2, .tmp 3], [(3, [(0, true), (1, true), (4, true), (5, true), (2, false), (3, true), (6, false), (7, false), (8, false), (9, false)])]⟩
theorem fnsv149_ok : FnOk Tryz.prog 149 fnsv149 := ⟨_, Tryz.func149, by kernel_rfl, by kernel_rfl, by kernel_rfl, by kernel_rfl, by kernel_rfl, by kernel_rfl⟩
noncomputable def fnsv148 : FnI := ⟨17, Tryz.f148.body.getD .skip, [.tmp 2], []⟩
theorem fnsv148_ok : FnOk Tryz.prog 148 fnsv148 := ⟨_, Tryz.func148, by kernel_rfl, by kernel_rfl, by kernel_rfl, by kernel_rfl, by kernel_rfl, by kernel_rfl⟩
noncomputable def fnsv157 : FnI := ⟨20, Tryz.f157.body.getD .skip, [.tmp 2], []⟩
theorem fnsv157_ok : FnOk Tryz.prog 157 fnsv157 := ⟨_, Tryz.func157, by kernel_rfl, by kernel_rfl, by kernel_rfl, by kernel_rfl, by kernel_rfl, by kernel_rfl⟩
noncomputable def fnsv124 : FnI := ⟨9, Tryz.f124.body.getD .skip, [.tmp 2], []⟩
theorem fnsv124_ok : FnOk Tryz.prog 124 fnsv124 := ⟨_, Tryz.func124, by kernel_rfl, by kernel_rfl, by kernel_rfl, by kernel_rfl, by kernel_rfl, by kernel_rfl⟩
noncomputable def fnsv125 : FnI := ⟨35, Tryz.f125.body.getD .skip, [.tmp 4, .tmp 5], []⟩
theorem fnsv125_ok : FnOk Tryz.prog 125 fnsv125 := ⟨_, Tryz.func125, by kernel_rfl, by kernel_rfl, by kernel_rfl, by kernel_rfl, by kernel_rfl, by kernel_rfl⟩
noncomputable def fnsv145 : FnI := ⟨20, Tryz.f145.body.getD .skip, [.tmp 4], []⟩
theorem fnsv145_ok : FnOk Tryz.prog 145 fnsv145 := ⟨_, Tryz.func145, by kernel_rfl, by kernel_rfl, by kernel_rfl, by kernel_rfl, by kernel_rfl, by kernel_rfl⟩
noncomputable def fnsv123 : FnI := ⟨12, Tryz.f123.body.getD .skip, [.tmp 2], []⟩
theorem fnsv123_ok : FnOk Tryz.prog 123 fnsv123 := ⟨_, Tryz.func123, by kernel_rfl, by kernel_rfl, by kernel_rfl, by kernel_rfl, by kernel_rfl, by kernel_rfl⟩
noncomputable def fnsv146 : FnI := ⟨17, Tryz.f146.body.getD .skip, [.tmp 2], []⟩
theorem fnsv146_ok : FnOk Tryz.prog 146 fnsv146 := ⟨_, Tryz.func146, by kernel_rfl, by kernel_rfl, by kernel_rfl, by kernel_rfl, by kernel_rfl, by kernel_rfl⟩
noncomputable def FnsVF : List (FuncId × FnI) := [(29, fnsv29),
  (32, fnsv32),
  (58, fnsv58),
  (30, fnsv30),
  (54, fnsv54),
  (72, fnsv72),
  (88, fnsv88),
  (31, fnsv31),
  (55, fnsv55),
  (56, fnsv56),
  (57, fnsv57),
  (71, fnsv71),
  (17, fnsv17),
  (44, fnsv44),
  (68, fnsv68),
  (86, fnsv86),
  (105, fnsv105),
  (73, fnsv73),
  (89, fnsv89),
  (114, fnsv114),
  (143, fnsv143),
  (103, fnsv103),
  (113, fnsv113),
  (85, fnsv85),
  (106, fnsv106),
  (135, fnsv135),
  (153, fnsv153),
  (134, fnsv134),
  (84, fnsv84),
  (67, fnsv67),
  (53, fnsv53),
  (61, fnsv61),
  (80, fnsv80),
  (79, fnsv79),
  (78, fnsv78),
  (77, fnsv77),
  (100, fnsv100),
  (131, fnsv131),
  (95, fnsv95),
  (94, fnsv94),
  (129, fnsv129),
  (132, fnsv132),
  (128, fnsv128),
  (99, fnsv99),
  (133, fnsv133),
  (97, fnsv97),
  (152, fnsv152),
  (160, fnsv160),
  (167, fnsv167),
  (166, fnsv166),
  (168, fnsv168),
  (173, fnsv173),
  (96, fnsv96),
  (130, fnsv130),
  (151, fnsv151),
  (159, fnsv159),
  (98, fnsv98),
  (76, fnsv76),
  (93, fnsv93),
  (126, fnsv126),
  (149, fnsv149),
  (148, fnsv148),
  (157, fnsv157),
  (124, fnsv124),
  (125, fnsv125),
  (145, fnsv145),
  (123, fnsv123),
  (146, fnsv146)]
theorem FnsVF_ok (C : FuncId → List PV → Option SV) : FOk Tryz.prog ⟨TTab, FnsVF, C⟩ := qj fnsv29_ok <|
  qj fnsv32_ok <|
  qj fnsv58_ok <|
  qj fnsv30_ok <|
  qj fnsv54_ok <|
  qj fnsv72_ok <|
  qj fnsv88_ok <|
  qj fnsv31_ok <|
  qj fnsv55_ok <|
  qj fnsv56_ok <|
  qj fnsv57_ok <|
  qj fnsv71_ok <|
  qj fnsv17_ok <|
  qj fnsv44_ok <|
  qj fnsv68_ok <|
  qj fnsv86_ok <|
  qj fnsv105_ok <|
  qj fnsv73_ok <|
  qj fnsv89_ok <|
  qj fnsv114_ok <|
  qj fnsv143_ok <|
  qj fnsv103_ok <|
  qj fnsv113_ok <|
  qj fnsv85_ok <|
  qj fnsv106_ok <|
  qj fnsv135_ok <|
  qj fnsv153_ok <|
  qj fnsv134_ok <|
  qj fnsv84_ok <|
  qj fnsv67_ok <|
  qj fnsv53_ok <|
  qj fnsv61_ok <|
  qj fnsv80_ok <|
  qj fnsv79_ok <|
  qj fnsv78_ok <|
  qj fnsv77_ok <|
  qj fnsv100_ok <|
  qj fnsv131_ok <|
  qj fnsv95_ok <|
  qj fnsv94_ok <|
  qj fnsv129_ok <|
  qj fnsv132_ok <|
  qj fnsv128_ok <|
  qj fnsv99_ok <|
  qj fnsv133_ok <|
  qj fnsv97_ok <|
  qj fnsv152_ok <|
  qj fnsv160_ok <|
  qj fnsv167_ok <|
  qj fnsv166_ok <|
  qj fnsv168_ok <|
  qj fnsv173_ok <|
  qj fnsv96_ok <|
  qj fnsv130_ok <|
  qj fnsv151_ok <|
  qj fnsv159_ok <|
  qj fnsv98_ok <|
  qj fnsv76_ok <|
  qj fnsv93_ok <|
  qj fnsv126_ok <|
  qj fnsv149_ok <|
  qj fnsv148_ok <|
  qj fnsv157_ok <|
  qj fnsv124_ok <|
  qj fnsv125_ok <|
  qj fnsv145_ok <|
  qj fnsv123_ok <|
  qj fnsv146_ok <| fok_nil
end Go.Proofs.YtppfcacnofjmdaaGreatDoor
namespace Go.Proofs.YtppfcacnofjmdaaGreatDoor
set_option linter.unusedVariables false
set_option linter.unusedSimpArgs false
def decF : Nat → Nat → List UInt8
  | 0, _ => []
  | f + 1, u => bif Nat.blt u 10 then [UInt8.ofNat (48 + u)] else decF f (u / 10) ++ [UInt8.ofNat (48 + u % 10)]
def itoaF (n : Int) : List UInt8 := match n with
  | .ofNat u => decF 20 u
  | .negSucc u => 45 :: decF 20 (u + 1)
end Go.Proofs.YtppfcacnofjmdaaGreatDoor
namespace Go.Proofs.YtppfcacnofjmdaaGreatDoor
open Go.RowKit Go.Shelf
def laysItoa_ren : Go.Shelf.Ren := ⟨fun | 171 => 172 | 243 => 176 | 246 => 177 | 283 => 178 | 284 => 179 | 285 => 180 | 286 => 181 | 129 => 183 | 317 => 182 | 318 => 184 | 319 => 185 | 320 => 186 | 337 => 187 | 338 => 188 | n => n, fun | 3 => 3 | 9 => 9 | 2 => 2 | 4 => 4 | 171 => 251 | 0 => 0 | 53 => 236 | 37 => 214 | 5 => 5 | 173 => 254 | 212 => 257 | 51 => 258 | 20 => 20 | 213 => 259 | 46 => 239 | 232 => 262 | 233 => 263 | n => n, fun | 17 => 3 | 18 => 4 | 19 => 5 | n => n⟩
theorem laysItoa : Go.Proofs.LaysM.n171 Tryz.prog laysItoa_ren := {
  mixed := by kernel_rfl
  f129 := Tryz.func183.trans (congrArg some (by kernel_rfl))
  f171 := Tryz.func172.trans (congrArg some (by kernel_rfl))
  f243 := Tryz.func176.trans (congrArg some (by kernel_rfl))
  f246 := Tryz.func177.trans (congrArg some (by kernel_rfl))
  f283 := Tryz.func178.trans (congrArg some (by kernel_rfl))
  f284 := Tryz.func179.trans (congrArg some (by kernel_rfl))
  f285 := Tryz.func180.trans (congrArg some (by kernel_rfl))
  f286 := Tryz.func181.trans (congrArg some (by kernel_rfl))
  f317 := Tryz.func182.trans (congrArg some (by kernel_rfl))
  f318 := Tryz.func184.trans (congrArg some (by kernel_rfl))
  f319 := Tryz.func185.trans (congrArg some (by kernel_rfl))
  f320 := Tryz.func186.trans (congrArg some (by kernel_rfl))
  f337 := Tryz.func187.trans (congrArg some (by kernel_rfl))
  f338 := Tryz.func188.trans (congrArg some (by kernel_rfl))
  t0 := Tryz.underlying0
  a0 := Tryz.isAgg0
  z0 := Tryz.sizeOf0
  v0 := Tryz.zeroValue0
  t2 := Tryz.underlying2
  a2 := Tryz.isAgg2
  z2 := Tryz.sizeOf2
  v2 := Tryz.zeroValue2
  t3 := Tryz.underlying3
  a3 := Tryz.isAgg3
  z3 := Tryz.sizeOf3
  v3 := Tryz.zeroValue3
  t4 := Tryz.underlying4
  a4 := Tryz.isAgg4
  z4 := Tryz.sizeOf4
  v4 := Tryz.zeroValue4
  t5 := Tryz.underlying5
  a5 := Tryz.isAgg5
  z5 := Tryz.sizeOf5
  v5 := Tryz.zeroValue5
  t9 := Tryz.underlying9
  a9 := Tryz.isAgg9
  z9 := Tryz.sizeOf9
  v9 := Tryz.zeroValue9
  t20 := Tryz.underlying20
  a20 := Tryz.isAgg20
  z20 := Tryz.sizeOf20
  v20 := Tryz.zeroValue20
  t37 := Tryz.underlying214
  a37 := Tryz.isAgg214
  z37 := Tryz.sizeOf214
  v37 := Tryz.zeroValue214
  t46 := Tryz.underlying239
  a46 := Tryz.isAgg239
  z46 := Tryz.sizeOf239
  v46 := Tryz.zeroValue239
  t51 := Tryz.underlying258
  a51 := Tryz.isAgg258
  z51 := Tryz.sizeOf258
  v51 := Tryz.zeroValue258
  t53 := Tryz.underlying236
  a53 := Tryz.isAgg236
  z53 := Tryz.sizeOf236
  v53 := Tryz.zeroValue236
  t171 := Tryz.underlying251
  a171 := Tryz.isAgg251
  z171 := Tryz.sizeOf251
  v171 := Tryz.zeroValue251
  t173 := Tryz.underlying254
  a173 := Tryz.isAgg254
  z173 := Tryz.sizeOf254
  v173 := Tryz.zeroValue254
  t212 := Tryz.underlying257
  a212 := Tryz.isAgg257
  z212 := Tryz.sizeOf257
  v212 := Tryz.zeroValue257
  t213 := Tryz.underlying259
  a213 := Tryz.isAgg259
  z213 := Tryz.sizeOf259
  t232 := Tryz.underlying262
  a232 := Tryz.isAgg262
  z232 := Tryz.sizeOf262
  v232 := Tryz.zeroValue262
  t233 := Tryz.underlying263
  a233 := Tryz.isAgg263
  z233 := Tryz.sizeOf263
  v233 := Tryz.zeroValue263
  g17 := by kernel_rfl
  g18 := by kernel_rfl
  g19 := by kernel_rfl
  i0 := by kernel_rfl
  i2 := by kernel_rfl
  i3 := by kernel_rfl
  i4 := by kernel_rfl
  i5 := by kernel_rfl
  i9 := by kernel_rfl
  i20 := by kernel_rfl
  i37 := by kernel_rfl
  i46 := by kernel_rfl
  i51 := by kernel_rfl
  i53 := by kernel_rfl
  i171 := by kernel_rfl
  i173 := by kernel_rfl
  i212 := by kernel_rfl
  i232 := by kernel_rfl
  i233 := by kernel_rfl
  m17 := by kernel_rfl
  m18 := by kernel_rfl
  m19 := by kernel_rfl
}
def laysIdx_ren : Go.Shelf.Ren := ⟨fun | 137 => 127 | 217 => 150 | 266 => 158 | n => n, fun | 9 => 9 | 5 => 5 | 3 => 3 | n => n, fun | n => n⟩
theorem laysIdx : Go.Proofs.Lays.n137 Tryz.prog laysIdx_ren := {
  mixed := by kernel_rfl
  f137 := Tryz.func127.trans (congrArg some (by kernel_rfl))
  f217 := Tryz.func150.trans (congrArg some (by kernel_rfl))
  f266 := Tryz.func158.trans (congrArg some (by kernel_rfl))
  t3 := Tryz.underlying3
  a3 := Tryz.isAgg3
  z3 := Tryz.sizeOf3
  v3 := Tryz.zeroValue3
  t5 := Tryz.underlying5
  a5 := Tryz.isAgg5
  z5 := Tryz.sizeOf5
  v5 := Tryz.zeroValue5
  t9 := Tryz.underlying9
  a9 := Tryz.isAgg9
  z9 := Tryz.sizeOf9
  v9 := Tryz.zeroValue9
}
def laysAtoi_ren : Go.Shelf.Ren := ⟨fun | 172 => 147 | 244 => 155 | 245 => 156 | 247 => 161 | 279 => 162 | 280 => 163 | 281 => 164 | 282 => 165 | 287 => 169 | 316 => 170 | 171 => 172 | 205 => 171 | 321 => 174 | 322 => 175 | 243 => 176 | 246 => 177 | 283 => 178 | 284 => 179 | 285 => 180 | 286 => 181 | 129 => 183 | 317 => 182 | 318 => 184 | 319 => 185 | 320 => 186 | 337 => 187 | 338 => 188 | n => n, fun | 9 => 9 | 3 => 3 | 75 => 211 | 76 => 212 | 4 => 4 | 5 => 5 | 167 => 226 | 37 => 214 | 0 => 0 | 85 => 227 | 2 => 2 | 168 => 229 | 53 => 236 | 175 => 237 | 46 => 239 | 210 => 241 | 127 => 246 | 145 => 249 | 143 => 247 | 21 => 21 | 171 => 251 | 173 => 254 | 212 => 257 | 51 => 258 | 20 => 20 | 213 => 259 | 232 => 262 | 233 => 263 | 80 => 164 | n => n, fun | 15 => 1 | 16 => 2 | 17 => 3 | 18 => 4 | 19 => 5 | n => n⟩
theorem laysAtoi : Go.Proofs.LaysC.n172 Tryz.prog laysAtoi_ren := {
  mixed := by kernel_rfl
  f129 := Tryz.func183.trans (congrArg some (by kernel_rfl))
  f171 := Tryz.func172.trans (congrArg some (by kernel_rfl))
  f172 := Tryz.func147.trans (congrArg some (by kernel_rfl))
  f205 := Tryz.func171.trans (congrArg some (by kernel_rfl))
  f243 := Tryz.func176.trans (congrArg some (by kernel_rfl))
  f244 := Tryz.func155.trans (congrArg some (by kernel_rfl))
  f245 := Tryz.func156.trans (congrArg some (by kernel_rfl))
  f246 := Tryz.func177.trans (congrArg some (by kernel_rfl))
  f247 := Tryz.func161.trans (congrArg some (by kernel_rfl))
  f279 := Tryz.func162.trans (congrArg some (by kernel_rfl))
  f280 := Tryz.func163.trans (congrArg some (by kernel_rfl))
  f281 := Tryz.func164.trans (congrArg some (by kernel_rfl))
  f282 := Tryz.func165.trans (congrArg some (by kernel_rfl))
  f283 := Tryz.func178.trans (congrArg some (by kernel_rfl))
  f284 := Tryz.func179.trans (congrArg some (by kernel_rfl))
  f285 := Tryz.func180.trans (congrArg some (by kernel_rfl))
  f286 := Tryz.func181.trans (congrArg some (by kernel_rfl))
  f287 := Tryz.func169.trans (congrArg some (by kernel_rfl))
  f316 := Tryz.func170.trans (congrArg some (by kernel_rfl))
  f317 := Tryz.func182.trans (congrArg some (by kernel_rfl))
  f318 := Tryz.func184.trans (congrArg some (by kernel_rfl))
  f319 := Tryz.func185.trans (congrArg some (by kernel_rfl))
  f320 := Tryz.func186.trans (congrArg some (by kernel_rfl))
  f321 := Tryz.func174.trans (congrArg some (by kernel_rfl))
  f322 := Tryz.func175.trans (congrArg some (by kernel_rfl))
  f337 := Tryz.func187.trans (congrArg some (by kernel_rfl))
  f338 := Tryz.func188.trans (congrArg some (by kernel_rfl))
  t0 := Tryz.underlying0
  a0 := Tryz.isAgg0
  z0 := Tryz.sizeOf0
  v0 := Tryz.zeroValue0
  t2 := Tryz.underlying2
  a2 := Tryz.isAgg2
  z2 := Tryz.sizeOf2
  v2 := Tryz.zeroValue2
  t3 := Tryz.underlying3
  a3 := Tryz.isAgg3
  z3 := Tryz.sizeOf3
  v3 := Tryz.zeroValue3
  t4 := Tryz.underlying4
  a4 := Tryz.isAgg4
  z4 := Tryz.sizeOf4
  v4 := Tryz.zeroValue4
  t5 := Tryz.underlying5
  a5 := Tryz.isAgg5
  z5 := Tryz.sizeOf5
  v5 := Tryz.zeroValue5
  t9 := Tryz.underlying9
  a9 := Tryz.isAgg9
  z9 := Tryz.sizeOf9
  v9 := Tryz.zeroValue9
  t20 := Tryz.underlying20
  a20 := Tryz.isAgg20
  z20 := Tryz.sizeOf20
  v20 := Tryz.zeroValue20
  t21 := Tryz.underlying21
  a21 := Tryz.isAgg21
  z21 := Tryz.sizeOf21
  v21 := Tryz.zeroValue21
  t37 := Tryz.underlying214
  a37 := Tryz.isAgg214
  z37 := Tryz.sizeOf214
  v37 := Tryz.zeroValue214
  t46 := Tryz.underlying239
  a46 := Tryz.isAgg239
  z46 := Tryz.sizeOf239
  v46 := Tryz.zeroValue239
  t51 := Tryz.underlying258
  a51 := Tryz.isAgg258
  z51 := Tryz.sizeOf258
  v51 := Tryz.zeroValue258
  t53 := Tryz.underlying236
  a53 := Tryz.isAgg236
  z53 := Tryz.sizeOf236
  v53 := Tryz.zeroValue236
  t75 := Tryz.underlying211
  a75 := Tryz.isAgg211
  z75 := Tryz.sizeOf211
  v75 := Tryz.zeroValue211
  t76 := Tryz.underlying212
  a76 := Tryz.isAgg212
  z76 := Tryz.sizeOf212
  v76 := Tryz.zeroValue212
  t85 := Tryz.underlying227
  a85 := Tryz.isAgg227
  z85 := Tryz.sizeOf227
  v85 := Tryz.zeroValue227
  t127 := Tryz.underlying246
  a127 := Tryz.isAgg246
  z127 := Tryz.sizeOf246
  v127 := Tryz.zeroValue246
  t143 := Tryz.underlying247
  a143 := Tryz.isAgg247
  z143 := Tryz.sizeOf247
  v143 := Tryz.zeroValue247
  t145 := Tryz.underlying249
  a145 := Tryz.isAgg249
  z145 := Tryz.sizeOf249
  v145 := Tryz.zeroValue249
  t167 := Tryz.underlying226
  a167 := Tryz.isAgg226
  z167 := Tryz.sizeOf226
  v167 := Tryz.zeroValue226
  t168 := Tryz.underlying229
  a168 := Tryz.isAgg229
  z168 := Tryz.sizeOf229
  v168 := Tryz.zeroValue229
  t171 := Tryz.underlying251
  a171 := Tryz.isAgg251
  z171 := Tryz.sizeOf251
  v171 := Tryz.zeroValue251
  t173 := Tryz.underlying254
  a173 := Tryz.isAgg254
  z173 := Tryz.sizeOf254
  v173 := Tryz.zeroValue254
  t175 := Tryz.underlying237
  a175 := Tryz.isAgg237
  z175 := Tryz.sizeOf237
  v175 := Tryz.zeroValue237
  t210 := Tryz.underlying241
  a210 := Tryz.isAgg241
  z210 := Tryz.sizeOf241
  v210 := Tryz.zeroValue241
  t212 := Tryz.underlying257
  a212 := Tryz.isAgg257
  z212 := Tryz.sizeOf257
  v212 := Tryz.zeroValue257
  t213 := Tryz.underlying259
  a213 := Tryz.isAgg259
  z213 := Tryz.sizeOf259
  t232 := Tryz.underlying262
  a232 := Tryz.isAgg262
  z232 := Tryz.sizeOf262
  v232 := Tryz.zeroValue262
  t233 := Tryz.underlying263
  a233 := Tryz.isAgg263
  z233 := Tryz.sizeOf263
  v233 := Tryz.zeroValue263
  g15 := by kernel_rfl
  g16 := by kernel_rfl
  g17 := by kernel_rfl
  g18 := by kernel_rfl
  g19 := by kernel_rfl
  t80 := Tryz.underlying164
  a80 := Tryz.isAgg164
  z80 := Tryz.sizeOf164
  v80 := Tryz.zeroValue164
  i0 := by kernel_rfl
  i2 := by kernel_rfl
  i3 := by kernel_rfl
  i4 := by kernel_rfl
  i5 := by kernel_rfl
  i9 := by kernel_rfl
  i20 := by kernel_rfl
  i21 := by kernel_rfl
  i37 := by kernel_rfl
  i46 := by kernel_rfl
  i51 := by kernel_rfl
  i53 := by kernel_rfl
  i75 := by kernel_rfl
  i76 := by kernel_rfl
  i80 := by kernel_rfl
  i85 := by kernel_rfl
  i127 := by kernel_rfl
  i143 := by kernel_rfl
  i145 := by kernel_rfl
  i167 := by kernel_rfl
  i168 := by kernel_rfl
  i171 := by kernel_rfl
  i173 := by kernel_rfl
  i175 := by kernel_rfl
  i210 := by kernel_rfl
  i212 := by kernel_rfl
  i232 := by kernel_rfl
  i233 := by kernel_rfl
  m15 := by kernel_rfl
  m16 := by kernel_rfl
  m17 := by kernel_rfl
  m18 := by kernel_rfl
  m19 := by kernel_rfl
  c0 := by kernel_rfl
  c2 := by kernel_rfl
  c3 := by kernel_rfl
  c4 := by kernel_rfl
  c5 := by kernel_rfl
  c9 := by kernel_rfl
  c20 := by kernel_rfl
  c21 := by kernel_rfl
  c37 := by kernel_rfl
  c46 := by kernel_rfl
  c51 := by kernel_rfl
  c53 := by kernel_rfl
  c75 := by kernel_rfl
  c76 := by kernel_rfl
  c80 := by kernel_rfl
  c85 := by kernel_rfl
  c127 := by kernel_rfl
  c143 := by kernel_rfl
  c145 := by kernel_rfl
  c167 := by kernel_rfl
  c168 := by kernel_rfl
  c171 := by kernel_rfl
  c173 := by kernel_rfl
  c175 := by kernel_rfl
  c210 := by kernel_rfl
  c212 := by kernel_rfl
  c213 := by kernel_rfl
  c232 := by kernel_rfl
  c233 := by kernel_rfl
}
theorem decF_eq : ∀ (f u : Nat), u < 10 ^ f → 0 < f → decF f u = Lib.decDigits u
  | f + 1, u, h, _ => by
    rw [decF, Lib.decDigits]
    by_cases hu : u < 10
    · rw [show Nat.blt u 10 = true from by simpa [Nat.blt, Nat.lt_iff_add_one_le] using hu, dif_pos hu]; rfl
    · rw [show Nat.blt u 10 = false from by cases hb : Nat.blt u 10 with | false => rfl | true => exact absurd (by simpa [Nat.blt, Nat.lt_iff_add_one_le] using hb) hu, dif_neg hu, cond_false]
      have hf : 0 < f := by
        rcases Nat.eq_zero_or_pos f with h0 | h0
        · subst h0; exact absurd (by simpa using h) hu
        · exact h0
      rw [decF_eq f (u / 10) (by rw [Nat.pow_succ] at h; omega) hf]
theorem itoaF_eq (n : Int) (h : -9223372036854775808 ≤ n ∧ n ≤ 9223372036854775807) : itoaF n = Lib.itoa n := by
  unfold itoaF Lib.itoa
  cases n with
  | ofNat u =>
    have : u < 10 ^ 20 := by have := h.2; simp only [Int.ofNat_eq_natCast] at this; omega
    rw [if_neg (by simp)]
    exact decF_eq 20 u this (by decide)
  | negSucc u =>
    have : u + 1 < 10 ^ 20 := by have := h.1; simp only [Int.negSucc_eq] at this; omega
    rw [if_pos (Int.negSucc_lt_zero u)]
    exact congrArg _ (decF_eq 20 (u + 1) this (by decide))
theorem itoa_h (n : Int) (h : -9223372036854775808 ≤ n ∧ n ≤ 9223372036854775807) : Holds Tryz.prog 172 [.v (.int .i64 n)] (.p (.v (.string ⟨⟨itoaF n⟩⟩))) [] :=
  .of_callsG Tryz.func172 (by kernel_rfl) rfl (fun w vs hg hl hr => by
    have hv : ∃ u, vs = [u] := by
      match vs, hl with
      | [u], _ => exact ⟨u, rfl⟩
    obtain ⟨u, rfl⟩ := hv
    have h1 := zX (hr 0 _ u rfl rfl) rfl
    subst h1
    have htab : Lib.TabIs Tryz.prog w "internal/strconv.uint64pow10" .u64 Lib.pow10Tab := by
      obtain ⟨ty, m, hb⟩ := hg 3 _ rfl
      unfold Lib.TabIs World.var?
      rw [show Tryz.prog.globalNamed "internal/strconv.uint64pow10" = some 3 from by kernel_rfl]
      simp only [Option.bind_some, hb]
      rfl
    refine (Any.strconv_Itoa laysItoa n h.1 h.2 w htab).mono fun e w' ⟨h1, k, os, h2⟩ => ⟨?_, ?_⟩
    · rw [h1, ← itoaF_eq n h]; rfl
    · subst h2
      refine ⟨rfl, rfl, rfl, by simp [Sort.grow], fun b hb => ?_⟩
      show (_ ++ os)[b]? = _
      rw [Array.getElem?_append_left (by exact hb)]; rfl) rfl fun w => .p (.v rfl)
theorem indexByte_h (s : ByteArray) (c : Int) : Holds Tryz.prog 127 [.v (.string s), .v (.int .u8 c)] (.p (.v (.int .i64 (Lib.indexByte s.data.toList c.toNat.toUInt8)))) [] :=
  .of_callsG Tryz.func127 (by kernel_rfl) rfl (fun w vs hg hl hr => by
    have hv : ∃ u v, vs = [u, v] := by
      match vs, hl with
      | [u, v], _ => exact ⟨u, v, rfl⟩
    obtain ⟨u, v, rfl⟩ := hv
    have h1 := zX (hr 0 _ u rfl rfl) rfl
    have h2 := zX (hr 1 _ v rfl rfl) rfl
    subst h1 h2
    exact (Any.strings_IndexByte laysIdx s c w).mono fun e w' ⟨h1, h2⟩ => ⟨h1, h2 ▸ Below.refl _ _⟩) rfl fun w => .p (.v rfl)
theorem atoi_h (s : ByteArray) (hs : s.size ≤ 9223372036854775806) (v : Int) (h : Lib.atoiAll s.data.toList = .ok v) : Holds Tryz.prog 147 [.v (.string s)] (.tup [.p (.v (.int .i64 v)), .p (.v .nilIface)]) [] :=
  .of_callsG Tryz.func147 (by kernel_rfl) rfl (fun w vs hg hl hr => by
    have hv : ∃ u, vs = [u] := by
      match vs, hl with
      | [u], _ => exact ⟨u, rfl⟩
    obtain ⟨u, rfl⟩ := hv
    have h1 := zX (hr 0 _ u rfl rfl) rfl
    subst h1
    refine (Any.strconv_Atoi_ok laysAtoi s hs v h w).mono fun e w' ⟨h1, h2⟩ => ⟨h1, ?_⟩
    rcases h2 with rfl | ⟨t, rfl⟩
    · exact Below.refl _ _
    · exact Lib.bytesWorld_below _ _ _) rfl fun w => .tup (us := [.int .i64 v, .nilIface]) rfl fun i s u hs hu => by
      match i, hs, hu with
      | 0, hs, hu => cases hs; cases hu; exact .p (.v rfl)
      | 1, hs, hu => cases hs; cases hu; exact .p (.v rfl)
def ctab (f : FuncId) (ps : List PV) : Option SV := bif Nat.beq f 172 then (match ps with
  | [.v (.int .i64 n)] => bif ible (-9223372036854775808) n && ible n 9223372036854775807 then some (.p (.v (.string ⟨⟨itoaF n⟩⟩))) else none
  | _ => none)
  else bif Nat.beq f 127 then (match ps with
  | [.v (.string s), .v (.int .u8 c)] => some (.p (.v (.int .i64 (Lib.indexByte s.data.toList c.toNat.toUInt8))))
  | _ => none)
  else bif Nat.beq f 147 then (match ps with
  | [.v (.string s)] => bif Nat.ble s.size 9223372036854775806 then (match Lib.atoiAll s.data.toList with
    | .ok v => some (.tup [.p (.v (.int .i64 v)), .p (.v .nilIface)])
    | _ => none) else none
  | _ => none)
  else none
theorem zU (F : List (FuncId × FnI)) : TabOk Tryz.prog ⟨TTab, F, ctab⟩ := fun f ps r h0 => by
  have h : ctab f ps = some r := h0
  clear h0
  unfold ctab at h
  cases hf : Nat.beq f 172 with
  | false =>
    rw [hf, cond_false] at h
    cases hf : Nat.beq f 127 with
    | true =>
      rw [hf, cond_true] at h
      have e := Nat.eq_of_beq_eq_true hf
      subst e
      split at h
      · cases h; exact indexByte_h _ _
      · cases h
    | false =>
      rw [hf, cond_false] at h
      cases hf : Nat.beq f 147 with
      | true =>
        rw [hf, cond_true] at h
        have e := Nat.eq_of_beq_eq_true hf
        subst e
        split at h
        · rename_i s
          cases hb : Nat.ble s.size 9223372036854775806 with
          | false => rw [hb] at h; cases h
          | true =>
            rw [hb, cond_true] at h
            split at h
            · rename_i v hv
              cases h
              exact atoi_h s (Nat.le_of_ble_eq_true hb) v hv
            · cases h
        · cases h
      | false =>
        rw [hf, cond_false] at h
        cases h
  | true =>
    rw [hf, cond_true] at h
    have e := Nat.eq_of_beq_eq_true hf
    subst e
    split at h
    · rename_i n
      cases hb : (ible (-9223372036854775808) n && ible n 9223372036854775807) with
      | false => rw [hb] at h; cases h
      | true =>
        rw [hb, cond_true] at h
        cases h
        simp only [Bool.and_eq_true] at hb
        exact itoa_h n ⟨jT hb.1, jT hb.2⟩
    · cases h
end Go.Proofs.YtppfcacnofjmdaaGreatDoor
namespace Go.Proofs.YtppfcacnofjmdaaGreatDoor
set_option linter.unusedVariables false
set_option linter.unusedSimpArgs false
open Go.RowKit
theorem qaL : Holds Tryz.prog 29 [] (.p (.v (.bool true))) [] :=
  .ofW (zT (n := 5000) qe (zU _) (FnsVF_ok ctab) (by kernel_rfl) (by kernel_rfl))
end Go.Proofs.YtppfcacnofjmdaaGreatDoor
namespace Go.Proofs.YtppfcacnofjmdaaGreatDoor
set_option linter.unusedVariables false
set_option linter.unusedSimpArgs false
open Go.RowKit
set_option maxHeartbeats 4000000
theorem HoldsE.cv {P : Program} {f : FuncId} {args args' : List PV} {R : SV → Prop} (h : HoldsE P f args R) (hc : CvL args' args) : HoldsE P f args' R :=
  ⟨h.1, fun w Sx vs hSx hl hr => h.2 w Sx vs hSx (by rw [hl, hc.1]) fun i s u hs hu => by
    have hi : i < args.length := (List.getElem?_eq_some_iff.1 hs).1
    have h0 : args'[i]? = some (args'[i]'(by rw [hc.1]; exact hi)) := List.getElem?_eq_getElem _
    exact (hr i _ u h0 hu).cv (hc.2 i _ s h0 hs)⟩
def atmP (m : Mat) (c : PV) : List PV := [pI m.attr.cat, pS m.attr.name, pB m.attr.must, pI m.op, pI m.val.kind, pI m.val.n, pS m.val.s, c]
def p0 (m : Mat) (l : List Nod) : Pol := .mk ⟨#[]⟩ false 0 [[[m]]] [⟨⟨#[]⟩, false, [], l, []⟩] [] []
end Go.Proofs.YtppfcacnofjmdaaGreatDoor
namespace Go.Proofs.YtppfcacnofjmdaaGreatDoor
set_option linter.unusedVariables false
set_option linter.unusedSimpArgs false
open Go.RowKit
set_option maxHeartbeats 4000000
def Atm.pv (a : Atm) : List PV := atmP a.m (qar a.c)
abbrev atmsP (l : List Atm) : PV := .sl 8 (l.map Atm.pv)
theorem cloneN_h (l : List Nod) (hn : l.length ≤ 1000000) : Holds Tryz.prog 88 [qar l] (.row 0) [(0, .row 56 7 (l.map Nod.pv))] := by
  refine qA (ts := [2]) Tryz.func88 (by kernel_rfl) rfl rfl rfl ?_
  (repeat refine qb ?_); refine qa ?_
  repeat (first | refine zR ?_ | refine zK ?_ | refine zM ?_ | refine zB ?_ | refine zA ?_ | refine zS ?_ | refine zL ?_)
  refine qc ?_
  (repeat refine qb ?_); refine qa ?_
  repeat (first | refine zR ?_ | refine zK ?_ | refine zM ?_ | refine zB ?_ | refine zA ?_ | refine zS ?_ | refine zL ?_)
  refine qn rfl (act_nilcmp qe rfl rfl rfl rfl rfl rfl (fun b hb => ?_))
  refine qc ?_
  (repeat refine qb ?_); refine qf rfl (fun hc => ?_) (fun hc => ?_)
  · have hl := hb hc
    have hl' : l = [] := by simpa using hl
    subst hl'
    (repeat refine qb ?_); refine qa ?_
    repeat (first | refine zR ?_ | refine zK ?_ | refine zM ?_ | refine zB ?_ | refine zA ?_ | refine zS ?_ | refine zL ?_)
    refine qc ?_
    (repeat refine qb ?_); refine qk ?_
    exact ⟨Or.inr rfl, _, _, [(0, 0)], jP 2 0 56 7 rfl rfl, rfl, rfl, rfl, rfl⟩
  · refine qm ?_
    (repeat refine qb ?_); refine qa ?_
    repeat (first | refine zR ?_ | refine zK ?_ | refine zM ?_ | refine zB ?_ | refine zA ?_ | refine zS ?_ | refine zL ?_)
    refine qn rfl (qp qe rfl rfl rfl rfl rfl rfl rfl rfl rfl rfl rfl rfl rfl rfl rfl rfl (by simp [reachBytes]; omega) (by simp; omega) ?_)
    repeat (first | refine zR ?_ | refine zK ?_ | refine zM ?_ | refine zB ?_ | refine zA ?_ | refine zS ?_ | refine zL ?_)
    refine qc ?_
    (repeat refine qb ?_); refine qk ?_
    exact ⟨Or.inr rfl, _, _, [(7, 0)], Wk.refl _, rfl, rfl, rfl, rfl⟩
theorem eqL_mat (x y : Mat) : eqL x.pv y.pv = some (decide (x = y)) := by
  have h : eqL x.pv y.pv = some ((x.attr.cat == y.attr.cat) && ((x.attr.name.toList == y.attr.name.toList) && ((x.attr.must == y.attr.must) && ((x.op == y.op) && ((x.val.kind == y.val.kind) && ((x.val.n == y.val.n) && ((x.val.s.toList == y.val.s.toList) && true))))))) := rfl
  rw [h, beq_bytes, beq_bytes, Bool.and_true]
  congr 1
  rw [Bool.eq_iff_iff]
  obtain ⟨⟨a, b, c⟩, d, ⟨e, f, g⟩⟩ := x
  obtain ⟨⟨a', b', c'⟩, d', ⟨e', f', g'⟩⟩ := y
  simp [and_assoc]
theorem eqL_nod (x y : Nod) : eqL x.pv y.pv = some (decide (x = y)) := by
  have h : eqL x.pv y.pv = some ((x.op == y.op) && ((x.val.kind == y.val.kind) && ((x.val.n == y.val.n) && ((x.val.s.toList == y.val.s.toList) && ((x.attr.cat == y.attr.cat) && ((x.attr.name.toList == y.attr.name.toList) && ((x.attr.must == y.attr.must) && true))))))) := rfl
  rw [h, beq_bytes, beq_bytes, Bool.and_true]
  congr 1
  rw [Bool.eq_iff_iff]
  obtain ⟨a, ⟨b, c, d⟩, ⟨e, f, g⟩⟩ := x
  obtain ⟨a', ⟨b', c', d'⟩, ⟨e', f', g'⟩⟩ := y
  simp [and_assoc]
theorem opR_eqM {T : TT} {K : List Nat} {st : St} {o : Op} {t t' : TypeId} {a b : Operand} (x y : Mat) (ho : o = .binOp .eql t a b t') {n m : Nat} {d : Ty} {z : List Value} (ht : lk t T = some ⟨n, m, d, z, true⟩) (ha : evS st a = some (.p (.agg x.pv))) (hb : evS st b = some (.p (.agg y.pv))) : opR T K st o = some (zm x.pv z = true, .p (pB (decide (x = y)))) := by
  subst ho
  show rBin T .eql t (evS st a) (evS st b) = _
  rw [ha, hb]
  unfold rBin
  simp only [ht, eqL_mat]
theorem opR_neM {T : TT} {K : List Nat} {st : St} {o : Op} {t t' : TypeId} {a b : Operand} (x y : Mat) (ho : o = .binOp .neq t a b t') {n m : Nat} {d : Ty} {z : List Value} (ht : lk t T = some ⟨n, m, d, z, true⟩) (ha : evS st a = some (.p (.agg x.pv))) (hb : evS st b = some (.p (.agg y.pv))) : opR T K st o = some (zm x.pv z = true, .p (pB (!decide (x = y)))) := by
  subst ho
  show rBin T .neq t (evS st a) (evS st b) = _
  rw [ha, hb]
  unfold rBin
  simp only [ht, eqL_mat]
theorem opR_neN {T : TT} {K : List Nat} {st : St} {o : Op} {t t' : TypeId} {a b : Operand} (x y : Nod) (ho : o = .binOp .neq t a b t') {n m : Nat} {d : Ty} {z : List Value} (ht : lk t T = some ⟨n, m, d, z, true⟩) (ha : evS st a = some (.p (.agg x.pv))) (hb : evS st b = some (.p (.agg y.pv))) : opR T K st o = some (zm x.pv z = true, .p (pB (!decide (x = y)))) := by
  subst ho
  show rBin T .neq t (evS st a) (evS st b) = _
  rw [ha, hb]
  unfold rBin
  simp only [ht, eqL_nod]
theorem equalN_h (a b : List Nod) (ha : a.length ≤ 1000000) (hb : b.length ≤ 1000000) : Holds Tryz.prog 57 [qar a, qar b] (.p (pB (decide (a = b)))) [] := by
  have la : (a.map Nod.pv).length = a.length := by simp
  have lb : (b.map Nod.pv).length = b.length := by simp
  refine qA (ts := [4]) Tryz.func57 (by kernel_rfl) rfl rfl rfl ?_
  (repeat refine qb ?_); refine qa ?_
  repeat (first | refine zR ?_ | refine zK ?_ | refine zM ?_ | refine zB ?_ | refine zA ?_ | refine zS ?_ | refine zL ?_)
  refine qc ?_
  (repeat refine qb ?_); refine qa ?_
  repeat (first | refine zR ?_ | refine zK ?_ | refine zM ?_ | refine zB ?_ | refine zA ?_ | refine zS ?_ | refine zL ?_)
  refine qc ?_
  rw [la, lb]
  (repeat refine qb ?_); refine qf rfl (fun h0 => ?_) (fun h0 => ?_)
  · have e : a ≠ b := by intro e; subst e; simp at h0
    (repeat refine qb ?_); refine qa ?_
    repeat (first | refine zR ?_ | refine zK ?_ | refine zM ?_ | refine zB ?_ | refine zA ?_ | refine zS ?_ | refine zL ?_)
    refine qc ?_
    (repeat refine qb ?_); refine qk ?_
    exact wS rfl (by simp [e])
  · have hl : a.length = b.length := by simp at h0; omega
    refine qm ?_
    (repeat refine qb ?_); refine qa ?_
    repeat (first | refine zR ?_ | refine zK ?_ | refine zM ?_ | refine zB ?_ | refine zA ?_ | refine zS ?_ | refine zL ?_)
    refine qc ?_
    (repeat refine qb ?_); refine ql ?_
    refine SW.wk (qq [0, 1, 12, 13] [] rfl rfl) ?_
    refine qO (fun m s => ∃ (k : Nat) (kk : Int), k ≤ a.length ∧ m = a.length - k ∧ kk = k ∧ a.take k = b.take k ∧ s = ⟨26, [(0, .p (qar a)), (1, .p (qar b)), (12, .p (pI (a.map Nod.pv).length)), (13, .p (pI kk))], []⟩) a.length ⟨0, 0, Nat.zero_le _, rfl, rfl, rfl, rfl⟩ ?_
    rintro m s ⟨k, _, hk, rfl, rfl, he, rfl⟩
    (repeat refine qb ?_); refine qa ?_
    repeat (first | refine zR ?_ | refine zK ?_ | refine zM ?_ | refine zB ?_ | refine zA ?_ | refine zS ?_ | refine zL ?_)
    refine qc ?_
    (repeat refine qb ?_); refine qf rfl (fun hlt => ?_) (fun hlt => ?_)
    · refine qm ?_
      rw [la] at hlt
      simp only [decide_eq_true_eq] at hlt
      have hlt' : k < a.length := by omega
      have hlb : k < b.length := by omega
      obtain ⟨x, hx⟩ : ∃ x, x = a[k] := ⟨_, rfl⟩
      obtain ⟨y, hy⟩ : ∃ y, y = b[k] := ⟨_, rfl⟩
      (repeat refine qb ?_); refine ql ?_
      (repeat refine qb ?_); refine qa ?_
      repeat (first | refine zR ?_ | refine zK ?_ | refine zM ?_ | refine zB ?_ | refine zA ?_ | refine zS ?_ | refine zL ?_)
      refine qc ?_
      (repeat refine qb ?_); refine zl [] [(0, true), (1, true), (2, true), (3, true), (4, true), (5, true), (6, true), (7, true), (8, true)] (by kernel_rfl) (by kernel_rfl) (by kernel_rfl) ?_
      repeat (first | refine yR ?_ | refine yK ?_ | refine yM ?_ | refine yB ?_ | refine yA ?_ | refine yS ?_ | refine yL ?_)
      refine zi qe rfl rfl rfl (by rw [la]; omega) rfl ?_
      rw [qJ hlt', ← hx]
      repeat (first | refine yR ?_ | refine yK ?_ | refine yM ?_ | refine yB ?_ | refine yA ?_ | refine yS ?_ | refine yL ?_)
      refine zi qe rfl rfl rfl (by rw [lb]; omega) rfl ?_
      rw [qJ hlb, ← hy]
      repeat (first | refine yR ?_ | refine yK ?_ | refine yM ?_ | refine yB ?_ | refine yA ?_ | refine yS ?_ | refine yL ?_)
      refine zi qe rfl rfl (opR_neN x y rfl rfl rfl rfl) rfl rfl ?_
      repeat (first | refine yR ?_ | refine yK ?_ | refine yM ?_ | refine yB ?_ | refine yA ?_ | refine yS ?_ | refine yL ?_)
      refine swm_nil ?_
      (repeat refine qb ?_); refine qf rfl (fun hp => ?_) (fun hp => ?_)
      · have e : x ≠ y := by simpa using hp
        have e2 : a ≠ b := by intro e2; subst e2; exact e (by rw [hx, hy])
        (repeat refine qb ?_); refine qa ?_
        repeat (first | refine zR ?_ | refine zK ?_ | refine zM ?_ | refine zB ?_ | refine zA ?_ | refine zS ?_ | refine zL ?_)
        refine qc ?_
        (repeat refine qb ?_); refine qk ?_
        exact wS rfl (by simp [e2])
      · refine qm ?_
        (repeat refine qb ?_); refine qa ?_
        repeat (first | refine zR ?_ | refine zK ?_ | refine zM ?_ | refine zB ?_ | refine zA ?_ | refine zS ?_ | refine zL ?_)
        refine qc ?_
        refine ⟨_, _, ?_, qq [0, 1, 12, 13] [] rfl rfl, k + 1, _, hlt', rfl, qz hlt' (by omega), ?_, rfl⟩
        · omega
        · rw [List.take_succ_eq_append_getElem hlt', List.take_succ_eq_append_getElem hlb, he, ← hx, ← hy, show x = y by simpa using hp]
    · refine qK ?_
      rw [la] at hlt
      simp only [decide_eq_false_iff_not] at hlt
      have hkk : k = a.length := by omega
      subst hkk
      rw [List.take_length, List.take_of_length_le (by omega)] at he
      (repeat refine qb ?_); refine qa ?_
      repeat (first | refine zR ?_ | refine zK ?_ | refine zM ?_ | refine zB ?_ | refine zA ?_ | refine zS ?_ | refine zL ?_)
      refine qc ?_
      (repeat refine qb ?_); refine qk ?_
      exact wS rfl (by simp [he])
theorem find1_h (x a : Atm) (hx : x.c.length ≤ 1000000) (ha : a.c.length ≤ 1000000) : Holds Tryz.prog 56 [.agg x.pv, .rp a.pv] (.p (pB (decide (x = a)))) [] := by
  have H := equalN_h x.c a.c hx ha
  have e : (x = a) ↔ (x.m = a.m ∧ x.c = a.c) := ⟨fun h => by subst h; exact ⟨rfl, rfl⟩, fun h => by cases x; cases a; simp only at h; simp [h]⟩
  refine qA (ts := [3]) Tryz.func56 (by kernel_rfl) rfl rfl rfl ?_
  (repeat refine qb ?_); refine qa ?_
  repeat (first | refine zR ?_ | refine zK ?_ | refine zM ?_ | refine zB ?_ | refine zA ?_ | refine zS ?_ | refine zL ?_)
  refine qc ?_
  (repeat refine qb ?_); refine qa ?_
  repeat (first | refine zR ?_ | refine zK ?_ | refine zM ?_ | refine zB ?_ | refine zA ?_ | refine zS ?_ | refine zL ?_)
  refine qw qe rfl (opR_eqM x.m a.m rfl rfl rfl rfl) rfl rfl ?_
  by_cases hm : x.m = a.m
  · rw [decide_eq_true hm]
    repeat (first | refine zR ?_ | refine zK ?_ | refine zM ?_ | refine zB ?_ | refine zA ?_ | refine zS ?_ | refine zL ?_)
    refine qn rfl (qg rfl rfl rfl rfl (H) rfl rfl ?_)
    repeat (first | refine zR ?_ | refine zK ?_ | refine zM ?_ | refine zB ?_ | refine zA ?_ | refine zS ?_ | refine zL ?_)
    refine qc ?_
    (repeat refine qb ?_); refine qk ?_
    exact wS rfl (by simp [e, hm])
  · rw [decide_eq_false hm]
    repeat (first | refine zR ?_ | refine zK ?_ | refine zM ?_ | refine zB ?_ | refine zA ?_ | refine zS ?_ | refine zL ?_)
    refine qc ?_
    (repeat refine qb ?_); refine qk ?_
    exact wS rfl (by simp [e, hm])
theorem indexA_h (l : List Atm) (hn : l.length ≤ 1000000) (f : FuncId) (caps : List PV) (p : Atm → Bool) (hF : ∀ m ∈ l, Holds Tryz.prog f ([.agg m.pv] ++ caps) (.p (pB (p m))) []) :
    Holds Tryz.prog 55 [atmsP l, .fn f caps] (.p (pI (if l.findIdx p < l.length then (l.findIdx p : Int) else -1))) [] := by
  refine qA (ts := [4]) Tryz.func55 (by kernel_rfl) rfl rfl rfl ?_
  (repeat refine qb ?_); refine qa ?_
  repeat (first | refine zR ?_ | refine zK ?_ | refine zM ?_ | refine zB ?_ | refine zA ?_ | refine zS ?_ | refine zL ?_)
  refine qc ?_
  (repeat refine qb ?_); refine qa ?_
  repeat (first | refine zR ?_ | refine zK ?_ | refine zM ?_ | refine zB ?_ | refine zA ?_ | refine zS ?_ | refine zL ?_)
  refine qc ?_
  (repeat refine qb ?_); refine ql ?_
  refine SW.wk (qq [0, 1, 7, 8] [] rfl rfl) ?_
  refine qO (fun n s => ∃ (k : Nat) (kk : Int), k ≤ l.length ∧ n = l.length - k ∧ kk = k ∧ (∀ g ∈ l.take k, p g = false) ∧ s = ⟨19, [(0, .p (atmsP l)), (1, .p (.fn f caps)), (7, .p (pI (l.map Atm.pv).length)), (8, .p (pI kk))], []⟩) l.length ⟨0, 0, Nat.zero_le _, rfl, rfl, by simp, rfl⟩ ?_
  rintro n s ⟨k, _, hk, rfl, rfl, ha, rfl⟩
  (repeat refine qb ?_); refine qa ?_
  repeat (first | refine zR ?_ | refine zK ?_ | refine zM ?_ | refine zB ?_ | refine zA ?_ | refine zS ?_ | refine zL ?_)
  refine qc ?_
  (repeat refine qb ?_); refine qf rfl (fun hlt => ?_) (fun hlt => ?_)
  · refine qm ?_
    simp only [List.length_map, decide_eq_true_eq] at hlt
    have hlt' : k < l.length := by omega
    (repeat refine qb ?_); refine ql ?_
    (repeat refine qb ?_); refine qa ?_
    repeat (first | refine zR ?_ | refine zK ?_ | refine zM ?_ | refine zB ?_ | refine zA ?_ | refine zS ?_ | refine zL ?_)
    refine qc ?_
    (repeat refine qb ?_); refine qa ?_
    repeat (first | refine zR ?_ | refine zK ?_ | refine zM ?_ | refine zB ?_ | refine zA ?_ | refine zS ?_ | refine zL ?_)
    refine qw qe rfl rfl (by simp only [List.length_map]; omega) rfl ?_
    rw [qJ hlt']
    repeat (first | refine zR ?_ | refine zK ?_ | refine zM ?_ | refine zB ?_ | refine zA ?_ | refine zS ?_ | refine zL ?_)
    refine qn rfl (qg rfl rfl rfl rfl (hF l[k] (List.getElem_mem hlt')) rfl rfl ?_)
    repeat (first | refine zR ?_ | refine zK ?_ | refine zM ?_ | refine zB ?_ | refine zA ?_ | refine zS ?_ | refine zL ?_)
    refine qc ?_
    (repeat refine qb ?_); refine qf rfl (fun hp => ?_) (fun hp => ?_)
    · (repeat refine qb ?_); refine qa ?_
      repeat (first | refine zR ?_ | refine zK ?_ | refine zM ?_ | refine zB ?_ | refine zA ?_ | refine zS ?_ | refine zL ?_)
      refine qc ?_
      (repeat refine qb ?_); refine qk ?_
      refine zg rfl ?_
      have e : l.findIdx p = k := (List.findIdx_eq hlt').2 ⟨hp, fun j hj => ha _ (List.mem_take_iff_getElem.2 ⟨j, by omega, rfl⟩)⟩
      rw [e, if_pos hlt']
    · refine qm ?_
      (repeat refine qb ?_); refine qa ?_
      repeat (first | refine zR ?_ | refine zK ?_ | refine zM ?_ | refine zB ?_ | refine zA ?_ | refine zS ?_ | refine zL ?_)
      refine qc ?_
      refine ⟨_, _, ?_, qq [0, 1, 7, 8] [] rfl rfl, k + 1, _, hlt', rfl, qz hlt' (by omega), ?_, rfl⟩
      · omega
      · intro g hg
        rw [List.take_succ_eq_append_getElem hlt', List.mem_append, List.mem_singleton] at hg
        rcases hg with hg | rfl
        · exact ha g hg
        · exact hp
  · refine qK ?_
    simp only [List.length_map, decide_eq_false_iff_not] at hlt
    have hkk : k = l.length := by omega
    subst hkk
    (repeat refine qb ?_); refine qa ?_
    repeat (first | refine zR ?_ | refine zK ?_ | refine zM ?_ | refine zB ?_ | refine zA ?_ | refine zS ?_ | refine zL ?_)
    refine qc ?_
    (repeat refine qb ?_); refine qk ?_
    refine zg rfl ?_
    rw [List.take_length] at ha
    rw [if_neg]
    have := List.findIdx_eq_length_of_false ha
    omega
theorem find_h (l : List Atm) (a : Atm) (hn : l.length ≤ 1000000) (hl : ∀ x ∈ l, x.c.length ≤ 1000000) (ha : a.c.length ≤ 1000000) : Holds Tryz.prog 31 [atmsP l, .agg a.pv] (.p (pI (findA l a))) [] := by
  refine qA (ts := [4]) Tryz.func31 (by kernel_rfl) rfl rfl rfl ?_
  (repeat refine qb ?_); refine qa ?_
  repeat (first | refine zR ?_ | refine zK ?_ | refine zM ?_ | refine zB ?_ | refine zA ?_ | refine zS ?_ | refine zL ?_)
  refine qc ?_
  (repeat refine qb ?_); refine qa ?_
  repeat (first | refine zR ?_ | refine zK ?_ | refine zM ?_ | refine zB ?_ | refine zA ?_ | refine zS ?_ | refine zL ?_)
  refine qn rfl (qg rfl rfl rfl rfl (indexA_h l hn _ _ (fun x => decide (x = a)) (fun x hx => find1_h x a (hl x hx) ha)) rfl rfl ?_)
  repeat (first | refine zR ?_ | refine zK ?_ | refine zM ?_ | refine zB ?_ | refine zA ?_ | refine zS ?_ | refine zL ?_)
  refine qc ?_
  (repeat refine qb ?_); refine qk ?_
  exact zg rfl rfl
abbrev rowA (i : Nat) (l : List Atm) : List (Nat × Box) := [(i, .row 76 8 (l.map Atm.pv))]
theorem more_h (l : List Atm) (a : Atm) (hn : l.length ≤ 1000000) (hl : ∀ x ∈ l, x.c.length ≤ 1000000) (ha : a.c.length ≤ 1000000) : zZ Tryz.prog 72 [.row 1000000, .p (.agg a.pv)] (rowA 1000000 l) (.row 0) (rowA 0 (moreA l a)) := by
  have HF := find_h l a hn hl ha
  have HC := (cloneN_h a.c ha).row_sl
  by_cases hm : a ∈ l
  · have e1 : moreA l a = l := if_pos hm
    have e2 := findA_yes hm
    rw [e1]
    refine ja (ts := [4]) Tryz.func72 (by kernel_rfl) rfl rfl rfl ?_
    (repeat refine qb ?_); refine qa ?_
    repeat (first | refine zR ?_ | refine zK ?_ | refine zM ?_ | refine zB ?_ | refine zA ?_ | refine zS ?_ | refine zL ?_)
    refine qc ?_
    (repeat refine qb ?_); refine qa ?_
    repeat (first | refine zR ?_ | refine zK ?_ | refine zM ?_ | refine zB ?_ | refine zA ?_ | refine zS ?_ | refine zL ?_)
    refine qn rfl (qg rfl rfl rfl rfl (HF) rfl rfl ?_)
    repeat (first | refine zR ?_ | refine zK ?_ | refine zM ?_ | refine zB ?_ | refine zA ?_ | refine zS ?_ | refine zL ?_)
    refine qc ?_
    (repeat refine qb ?_); refine qf rfl (fun h => ?_) (fun h => ?_)
    · (repeat refine qb ?_); refine qa ?_
      repeat (first | refine zR ?_ | refine zK ?_ | refine zM ?_ | refine zB ?_ | refine zA ?_ | refine zS ?_ | refine zL ?_)
      refine qc ?_
      (repeat refine qb ?_); refine qk ?_
      exact ⟨Or.inr rfl, _, _, [(1000000, 0)], Wk.refl _, rfl, rfl, rfl, rfl⟩
    · exfalso
      simp at h
      omega
  · have e1 : moreA l a = l ++ [a] := if_neg hm
    rw [e1, show rowA 0 (l ++ [a]) = [(0, .row 76 8 (l.map Atm.pv ++ [a.pv]))] by simp [rowA]]
    rw [findA_no hm] at HF
    refine ja (ts := [4]) Tryz.func72 (by kernel_rfl) rfl rfl rfl ?_
    (repeat refine qb ?_); refine qa ?_
    repeat (first | refine zR ?_ | refine zK ?_ | refine zM ?_ | refine zB ?_ | refine zA ?_ | refine zS ?_ | refine zL ?_)
    refine qc ?_
    (repeat refine qb ?_); refine qa ?_
    repeat (first | refine zR ?_ | refine zK ?_ | refine zM ?_ | refine zB ?_ | refine zA ?_ | refine zS ?_ | refine zL ?_)
    refine qn rfl (qg rfl rfl rfl rfl (HF) rfl rfl ?_)
    repeat (first | refine zR ?_ | refine zK ?_ | refine zM ?_ | refine zB ?_ | refine zA ?_ | refine zS ?_ | refine zL ?_)
    refine qc ?_
    (repeat refine qb ?_); refine qf rfl (fun h => ?_) (fun h => ?_)
    · cases h
    · refine qm ?_
      (repeat refine qb ?_); refine qa ?_
      repeat (first | refine zR ?_ | refine zK ?_ | refine zM ?_ | refine zB ?_ | refine zA ?_ | refine zS ?_ | refine zL ?_)
      refine qn rfl (qD rfl rfl rfl rfl (HC) rfl rfl rfl ?_)
      repeat (first | refine zR ?_ | refine zK ?_ | refine zM ?_ | refine zB ?_ | refine zA ?_ | refine zS ?_ | refine zL ?_)
      refine qc ?_
      (repeat refine qb ?_); refine qa ?_
      repeat (first | refine zR ?_ | refine zK ?_ | refine zM ?_ | refine zB ?_ | refine zA ?_ | refine zS ?_ | refine zL ?_)
      refine qn rfl (qp qe rfl rfl rfl rfl rfl rfl rfl rfl rfl rfl rfl rfl rfl rfl rfl rfl (by simp only [List.length_append, List.length_map, List.length_take, List.length_cons, List.length_nil]; unfold reachBytes; omega) (by simp only [List.length_append, List.length_map, List.length_take, List.length_cons, List.length_nil]; omega) ?_)
      repeat (first | refine zR ?_ | refine zK ?_ | refine zM ?_ | refine zB ?_ | refine zA ?_ | refine zS ?_ | refine zL ?_)
      refine qc ?_
      (repeat refine qb ?_); refine qk ?_
      exact ⟨Or.inr rfl, _, _, [(17, 0)], Wk.refl _, rfl, rfl, rfl, rfl⟩
end Go.Proofs.YtppfcacnofjmdaaGreatDoor
namespace Go.Proofs.YtppfcacnofjmdaaGreatDoor
open Go.RowKit
end Go.Proofs.YtppfcacnofjmdaaGreatDoor
namespace Go.Proofs.YtppfcacnofjmdaaGreatDoor
set_option linter.unusedVariables false
set_option linter.unusedSimpArgs false
open Go.RowKit
set_option maxHeartbeats 4000000
def hb : Nat → Nat
  | 0 => 0
  | 1 => 4602678819172646912
  | _ => 4607182418800017408
end Go.Proofs.YtppfcacnofjmdaaGreatDoor
namespace Go.Proofs.YtppfcacnofjmdaaGreatDoor
set_option linter.unusedVariables false
set_option linter.unusedSimpArgs false
open Go.RowKit
set_option maxHeartbeats 4000000
end Go.Proofs.YtppfcacnofjmdaaGreatDoor
namespace Go.Proofs.YtppfcacnofjmdaaGreatDoor
set_option linter.unusedVariables false
set_option linter.unusedSimpArgs false
open Go.RowKit
def SWB (P : Program) (ops : List Oper) (κ : Kap) (ls : Array Bool) (fuel : Nat) (Q : St → Prop) (st : St) : Prop := ∀ (w0 : Base) (Sx : Nat → Prop) (γ : Nat → Value) (a : Act) (w : World) (QQ : Exit → Act → World → Prop), Sim w0 Sx γ st a w →
  (∀ st' γ' a' w', Sim w0 Sx γ' st' a' w' → Q st' → QQ .normal a' w') → wpAnyP P ops.toArray (NoPanic QQ) fuel (pendOf γ st.own w κ) ls a w
def SWBo (P : Program) (ops : List Oper) (κ : Kap) (ls : Array Bool) (fuel : Nat) (Q : St → Prop) (st : St) (i : Nat) : Prop := ∀ (w0 : Base) (Sx : Nat → Prop) (γ : Nat → Value) (a : Act) (w : World) (QQ : Exit → Act → World → Prop), Sim w0 Sx γ st a w →
  (∀ st' γ' a' w', Sim w0 Sx γ' st' a' w' → Q st' → QQ .normal a' w') → wpOp P ops.toArray (NoPanic QQ) i (fun a' w' => (∀ p ∈ alive ops.toArray i (pendOf γ st.own w κ), p.2 w') ∧ wpAnyP P ops.toArray (NoPanic QQ) fuel (alive ops.toArray i (pendOf γ st.own w κ)) (ls.setIfInBounds i true) a' w') a w
section
variable {P : Program} {ops : List Oper} {κ : Kap} {ls : Array Bool} {fuel : Nat} {st : St} {Q : St → Prop} {i j : Nat} {o : Oper}
theorem zd (hr : Region.ready .any ops.toArray ls = []) (h : Q st) : SWB P ops κ ls fuel Q st := fun _ _ γ a w _ hI hQ => by
  cases fuel with
  | zero => exact ⟨hr, hQ st γ a w hI h⟩
  | succ f => exact ⟨fun _ => hQ st γ a w hI h, fun i hi => by rw [hr] at hi; cases hi⟩
theorem qo (i : Nat) (hr : Region.ready .any ops.toArray ls = [i]) (h : SWBo P ops κ ls fuel Q st i) : SWB P ops κ ls (fuel + 1) Q st := fun w0 Sx γ a w QQ hI hQ =>
  ⟨fun h0 => (by rw [hr] at h0; cases h0), fun k hk => by
    rw [hr] at hk
    obtain rfl : k = i := by simpa using hk
    exact h w0 Sx γ a w QQ hI hQ⟩
theorem zE (i j : Nat) (hr : Region.ready .any ops.toArray ls = [i, j]) (h : SWBo P ops κ ls fuel Q st i) (h2 : SWBo P ops κ ls fuel Q st j) : SWB P ops κ ls (fuel + 1) Q st := fun w0 Sx γ a w QQ hI hQ =>
  ⟨fun h0 => (by rw [hr] at h0; cases h0), fun k hk => by
    rw [hr] at hk
    have hk : k = i ∨ k = j := by simpa using hk
    rcases hk with rfl | rfl
    · exact h w0 Sx γ a w QQ hI hQ
    · exact h2 w0 Sx γ a w QQ hI hQ⟩
theorem swb_fork3 (i j k : Nat) (hr : Region.ready .any ops.toArray ls = [i, j, k]) (h : SWBo P ops κ ls fuel Q st i) (h2 : SWBo P ops κ ls fuel Q st j) (h3 : SWBo P ops κ ls fuel Q st k) : SWB P ops κ ls (fuel + 1) Q st := fun w0 Sx γ a w QQ hI hQ =>
  ⟨fun h0 => (by rw [hr] at h0; cases h0), fun m hk => by
    rw [hr] at hk
    have hk : m = i ∨ m = j ∨ m = k := by simpa using hk
    rcases hk with rfl | rfl | rfl
    · exact h w0 Sx γ a w QQ hI hQ
    · exact h2 w0 Sx γ a w QQ hI hQ
    · exact h3 w0 Sx γ a w QQ hI hQ⟩
theorem qy {K : List Nat} {s : SV} (hB : (Region.free .any ops.toArray ls i && (Region.ready .any ops.toArray ls).contains i) = true) (hs : Region.noSelect ops.toArray = true) (hi : nthO ops i = some o) (hw : zw ops st o = some true) (hr : RdO P K st o s) (hd : zn st o.dst = true)
    (h : SWB P ops ((i, K) :: κ) (ls.setIfInBounds i true) fuel Q (st.put o.dst s)) : SWB P ops κ ls (fuel + 1) Q st := fun w0 Sx γ a w QQ hI hQ => by
  obtain ⟨v, h1, h2⟩ := hr w0 Sx γ a w hI
  have hrest := h w0 Sx γ _ w QQ (hI.put (dst := o.dst) hd h1) hQ
  simp only [wP] at hrest
  rw [Bool.and_eq_true] at hB
  have hio := (qZ ops i).trans hi
  exact wpAnyP_first hio (Region.noSelect_spec hs) (fun _ _ _ h => h) fuel _ ls a w (Region.free_spec hio hB.1) (by simpa using hB.2) (Or.inl ⟨zD hI hw, h2⟩) (SameOn.refl _ _) wC hrest
theorem qd {Ws : List Nat} (hi : nthO ops i = some o) (hw : zw ops st o = some true) (hK : (kapB o κ).all (fun p => Ws.all fun j => p.2.contains j) = true) (h : ActOk P Ws o st (SWB P ops (kapB o κ) (ls.setIfInBounds i true) fuel Q)) : SWBo P ops κ ls fuel Q st i := fun w0 Sx γ a w QQ hI hQ => by
  have hsub : ∀ p ∈ kapB o κ, ∀ j ∈ Ws, j ∈ p.2 := fun p hp j hj => by simpa using List.all_eq_true.1 (List.all_eq_true.1 hK p hp) j hj
  have hio := (qZ ops i).trans hi
  unfold wpOp
  rw [hio]
  simp only [zD hI hw, if_true]
  refine Or.inl ?_
  have := h w0 Sx γ a w (NoPanic QQ) hI
  have mono : ∀ {a' w'}, (∃ γ' st', SWB P ops (kapB o κ) (ls.setIfInBounds i true) fuel Q st' ∧ Sim w0 Sx γ' st' a' w' ∧ SameOn (vis Ws γ st.own) w w' ∧ ∀ K : List Nat, (∀ i ∈ Ws, i ∈ K) → ∀ b, b < w.heap.size → vis K γ st.own b → vis K γ' st'.own b) →
      (∀ p ∈ alive ops.toArray i (pendOf γ st.own w κ), p.2 w') ∧ wpAnyP P ops.toArray (NoPanic QQ) fuel (alive ops.toArray i (pendOf γ st.own w κ)) (ls.setIfInBounds i true) a' w' := fun {a' w'} ⟨γ', st', h1, h2, h3, h4⟩ => by
    have hc : Covers (alive ops.toArray i (pendOf γ st.own w κ)) (pendOf γ' st'.own w' (kapB o κ)) := fun p hp => by
      obtain ⟨hp1, hp2⟩ := mem_alive.1 hp
      obtain ⟨q, hq, rfl⟩ := List.mem_map.1 hp1
      have hq' : q ∈ kapB o κ := List.mem_filter.2 ⟨hq, by rw [hp2 o hio]; rfl⟩
      have hs := hsub q hq'
      refine .inr ⟨_, List.mem_map.2 ⟨q, hq', rfl⟩, rfl, fun x hx => ⟨Nat.le_trans h3.size hx.size, fun b hb hv => ?_⟩⟩
      have e1 := h3.block b hb (fun j bx hj hjW hjb => hv j bx hj (by simpa using hs j (by simpa using hjW)) hjb)
      have e2 := hx.block b (Nat.lt_of_lt_of_le hb h3.size) (h4 q.2 hs b hb hv)
      exact e2.trans e1
    exact ⟨hc.at wC, jC _ hc _ _ _ (h1 w0 Sx γ' a' w' QQ h2 hQ)⟩
  unfold Oper.wp at this ⊢
  generalize (execOp a.eval o).run P w = res at *
  cases res with
  | ok n w' =>
    cases n <;> simp only [Oper.upon] at this ⊢ <;> first
      | exact mono this
      | exact this
      | exact Calls.mono this (fun e w'' he => by cases e <;> first | exact mono he | exact he)
      | exact Rows.mono this (fun _ _ he => mono he)
  | halt x w' => cases x <;> simp only [Oper.upon] at this ⊢ <;> exact this
theorem zH {id : Nat} {l : List Oper} {QS : SEx → St → Prop} (n : Nat) (hn : l.length = n) (hm : P.follows .mixedOrders = true) (h : SWB P l [] (Array.replicate n false) n (QS .normal) st) : SW P (.region id l.toArray true) QS st := fun w0 Sx γ a w QQ hI hQ => by
  refine wp_region_noPanic (wp_region_any hm (wZ _ [] _ _ _ ?_))
  have h1 := h w0 Sx γ a w.drew QQ hI.drew fun s' γ' a' w' hI' hq => hQ .normal s' γ' a' w' hI' hq
  have e : l.toArray.size = n := by simpa using hn
  rw [e]
  exact h1
end
end Go.Proofs.YtppfcacnofjmdaaGreatDoor
namespace Go.Proofs.YtppfcacnofjmdaaGreatDoor
set_option linter.unusedVariables false
set_option linter.unusedSimpArgs false
open Go.RowKit
set_option maxHeartbeats 4000000
end Go.Proofs.YtppfcacnofjmdaaGreatDoor
namespace Go.Proofs.YtppfcacnofjmdaaGreatDoor
set_option linter.unusedVariables false
set_option linter.unusedSimpArgs false
open Go.RowKit
end Go.Proofs.YtppfcacnofjmdaaGreatDoor
namespace Go.Proofs.YtppfcacnofjmdaaGreatDoor
set_option linter.unusedVariables false
set_option linter.unusedSimpArgs false
open Go.RowKit
set_option maxHeartbeats 4000000
end Go.Proofs.YtppfcacnofjmdaaGreatDoor
namespace Go.Proofs.YtppfcacnofjmdaaGreatDoor
set_option linter.unusedVariables false
set_option linter.unusedSimpArgs false
open Go.RowKit
set_option maxHeartbeats 4000000
theorem tarSm_sz {t : Tar} {n : Nat} (h : tsz t ≤ n) (hn : n ≤ 100000) : TarSm t := by
  refine ⟨by unfold tsz at h; omega, fun x hx => ?_⟩
  have h1 := xsz_le hx
  refine ⟨by unfold xsz at h1; omega, fun y hy => ?_⟩
  have h4 : asz y ≤ xsz x := by have := wb (f := asz) hy; unfold xsz; omega
  unfold asz at h4
  omega
theorem sz_big {p : Pol} {n : Nat} (h : p.sz ≤ n) (hn : n ≤ 100000) : TarSm p.target ∧ p.rules.length ≤ 100000 ∧ p.kids.length ≤ 100000 ∧ p.obls.length ≤ 100000 ∧ (∀ r ∈ p.rules, TarSm r.target ∧ r.cond.length ≤ 100000 ∧ r.obls.length ≤ 100000) ∧ ∀ k ∈ p.kids, k.sz ≤ n := by
  have h1 := Pol.sz_eq p
  have h2 := len_sumBy Pol.sz (fun p => by rw [Pol.sz_eq]; omega) p.kids
  have h3 : p.obls.length ≤ osz p.obls := by unfold osz; omega
  refine ⟨tarSm_sz (n := n) (by omega) hn, by omega, by omega, by omega, fun r hr => ?_, fun k hk => ?_⟩
  · have h4 := wb (f := rusz) hr
    have h5 : r.obls.length ≤ osz r.obls := by unfold osz; omega
    have h6 : rusz r = txt r.id + tsz r.target + r.cond.length + osz r.obls + qT nsz r.cond := rfl
    exact ⟨tarSm_sz (n := n) (by omega) hn, by omega, by omega⟩
  · have := wb (f := Pol.sz) hk
    omega
end Go.Proofs.YtppfcacnofjmdaaGreatDoor
namespace Go.Proofs.YtppfcacnofjmdaaGreatDoor
set_option linter.unusedVariables false
set_option linter.unusedSimpArgs false
open Go.RowKit
set_option maxHeartbeats 4000000
theorem HoldsR.cv2 {P : Program} {f : FuncId} {s : SV} {x x' : PV} {own : List (Nat × Box)} {R : SV → List (Nat × Box) → Prop} (h : HoldsR P f [s, .p x] own R) (hc : Cv x' x) : HoldsR P f [s, .p x'] own R :=
  ⟨h.1, fun w Sx γ vs hh hl hr => h.2 w Sx γ vs hh hl fun i t u ht hu => by
    match i, ht with
    | 0, ht => exact hr 0 t u ht hu
    | 1, ht =>
      simp only [List.getElem?_cons_succ, List.getElem?_cons_zero, Option.some.injEq] at ht
      subst ht
      exact .p ((hr 1 (.p x') u rfl hu).p_inv.cv hc)⟩
theorem moreA_bd {l : List Atm} {a : Atm} {n : Nat} (h : ∀ x ∈ l, x.c.length ≤ n) (ha : a.c.length ≤ n) : ∀ x ∈ moreA l a, x.c.length ≤ n := fun x hx => by
  rcases moreA_mem.1 hx with hx | rfl
  · exact h x hx
  · exact ha
theorem flat_split {α : Type} (f : α → List Atm) {l : List α} {k : Nat} (hk : k < l.length) : l.flatMap f = (l.take k).flatMap f ++ (f l[k] ++ (l.drop (k + 1)).flatMap f) := by
  rw [← List.flatMap_cons, ← List.flatMap_append, ← List.drop_eq_getElem_cons hk, List.take_append_drop]
theorem qaM {α : Type} (f : α → List Atm) {l : List α} {k : Nat} (hk : k < l.length) : (l.take (k + 1)).flatMap f = (l.take k).flatMap f ++ f l[k] := by
  rw [List.take_succ_eq_append_getElem hk, List.flatMap_append]; simp
theorem flat_at {α : Type} (f : α → List Atm) {l : List α} {k : Nat} (hk : k < l.length) : ((l.take k).flatMap f).length + (f l[k]).length ≤ (l.flatMap f).length := by
  have := congrArg List.length (flat_split f hk)
  simp only [List.length_append] at this
  omega
theorem tarA_c {t : Tar} {x : Atm} (h : x ∈ tarA t) : x.c = [] := by
  obtain ⟨y, _, h⟩ := List.mem_flatMap.1 h
  obtain ⟨z, _, h⟩ := List.mem_flatMap.1 h
  obtain ⟨m, _, rfl⟩ := List.mem_map.1 h
  rfl
theorem addA_bd {l bs : List Atm} {n : Nat} (h : ∀ x ∈ l, x.c.length ≤ n) (hb : ∀ x ∈ bs, x.c.length ≤ n) : ∀ x ∈ addA l bs, x.c.length ≤ n := fun x hx => (addA_mem.1 hx).elim (h x) (hb x)
theorem rulA_c {r : Rul} {x : Atm} (h : x ∈ rulA r) : x.c.length ≤ r.cond.length := by
  rcases List.mem_append.1 h with h | h
  · rw [tarA_c h]; exact Nat.zero_le _
  · unfold condA at h
    split at h
    · cases h
    · rw [List.mem_singleton.1 h]; exact Nat.le_refl _
theorem polA_c : ∀ {n : Nat} {p : Pol} {x : Atm}, x ∈ polA n p → x.c.length ≤ p.sz
  | n + 1, p, x, h => by
    have e := Pol.sz_eq p
    rcases List.mem_append.1 h with h | h
    · rw [tarA_c h]; exact Nat.zero_le _
    · rcases List.mem_append.1 h with h | h
      · obtain ⟨r, hr, h⟩ := List.mem_flatMap.1 h
        have h1 := rulA_c h
        have h2 := wb (f := rusz) hr
        have h6 : rusz r = txt r.id + tsz r.target + r.cond.length + osz r.obls + qT nsz r.cond := rfl
        omega
      · obtain ⟨k, hk, h⟩ := List.mem_flatMap.1 h
        have h1 := polA_c h
        have h2 := wb (f := Pol.sz) hk
        omega
theorem ofTarget_h (t : Tar) (ht : TarSm t) (l : List Atm) (hl : ∀ x ∈ l, x.c.length ≤ 1000000) (hn : l.length + (tarA t).length ≤ 1000000) : zZ Tryz.prog 71 [.row 1000000, .p (tgtP t)] (rowA 1000000 l) (.row 0) (rowA 0 (addA l (tarA t))) := by
  have lt : (t.map fun x => [anyP x]).length = t.length := by simp
  have ht1 := ht.1
  refine ja (ts := [4]) Tryz.func71 (by kernel_rfl) rfl rfl rfl ?_
  (repeat refine qb ?_); refine qa ?_
  repeat (first | refine zR ?_ | refine zK ?_ | refine zM ?_ | refine zB ?_ | refine zA ?_ | refine zS ?_ | refine zL ?_)
  refine qc ?_
  (repeat refine qb ?_); refine qa ?_
  repeat (first | refine zR ?_ | refine zK ?_ | refine zM ?_ | refine zB ?_ | refine zA ?_ | refine zS ?_ | refine zL ?_)
  refine qc ?_
  (repeat refine qb ?_); refine ql ?_
  refine SW.wk (qq [0, 11, 12, 13] [(1000000, 0)] rfl rfl) ?_
  refine qO (fun m s => ∃ (k : Nat) (kk : Int) (L : List Atm), k ≤ t.length ∧ m = t.length - k ∧ kk = k ∧ L = addA l ((t.take k).flatMap anyA) ∧ s = ⟨37, [(0, .row 0), (11, .p (tgtP t)), (12, .p (pI (t.map fun x => [anyP x]).length)), (13, .p (pI kk))], rowA 0 L⟩) t.length ⟨0, 0, _, Nat.zero_le _, rfl, rfl, rfl, rfl⟩ ?_
  rintro m s ⟨k, _, L, hk, rfl, rfl, hL, rfl⟩
  (repeat refine qb ?_); refine qa ?_
  repeat (first | refine zR ?_ | refine zK ?_ | refine zM ?_ | refine zB ?_ | refine zA ?_ | refine zS ?_ | refine zL ?_)
  refine qc ?_
  (repeat refine qb ?_); refine qf rfl (fun hlt => ?_) (fun hlt => ?_)
  · refine qm ?_
    rw [lt] at hlt
    simp only [decide_eq_true_eq] at hlt
    have hlt' : k < t.length := by omega
    have hxl := ht.2 _ (List.getElem_mem hlt')
    have hA := flat_at anyA hlt'
    have hS := qaM anyA hlt'
    obtain ⟨x, hx⟩ : ∃ x, x = t[k] := ⟨_, rfl⟩
    rw [← hx] at hxl hA hS
    have hx1 := hxl.1
    have hL1 := qaJ ((t.take k).flatMap anyA) l
    have hLb : ∀ x ∈ L, x.c.length ≤ 1000000 := by
      rw [hL]
      refine addA_bd hl fun y hy => ?_
      have : y ∈ tarA t := by
        obtain ⟨z, hz, hy⟩ := List.mem_flatMap.1 hy
        exact List.mem_flatMap.2 ⟨z, List.mem_of_mem_take hz, hy⟩
      rw [tarA_c this]; exact Nat.zero_le _
    rw [← hL] at hL1
    have lx : (x.map fun y => [qaB y]).length = x.length := by simp
    (repeat refine qb ?_); refine ql ?_
    (repeat refine qb ?_); refine qa ?_
    repeat (first | refine zR ?_ | refine zK ?_ | refine zM ?_ | refine zB ?_ | refine zA ?_ | refine zS ?_ | refine zL ?_)
    refine qw qe rfl rfl (by rw [lt]; omega) rfl ?_
    rw [qJ hlt', ← hx]
    repeat (first | refine zR ?_ | refine zK ?_ | refine zM ?_ | refine zB ?_ | refine zA ?_ | refine zS ?_ | refine zL ?_)
    refine qc ?_
    (repeat refine qb ?_); refine qa ?_
    repeat (first | refine zR ?_ | refine zK ?_ | refine zM ?_ | refine zB ?_ | refine zA ?_ | refine zS ?_ | refine zL ?_)
    refine qc ?_
    (repeat refine qb ?_); refine ql ?_
    refine SW.wk (qq [0, 11, 12, 13, 17, 18, 19] [(0, 0)] rfl rfl) ?_
    refine qO (fun m s => ∃ (j : Nat) (jj : Int) (M : List Atm), j ≤ x.length ∧ m = x.length - j ∧ jj = j ∧ M = addA L ((x.take j).flatMap allA) ∧ (∀ x ∈ M, x.c.length ≤ 1000000) ∧ s = ⟨37, [(0, .row 0), (11, .p (tgtP t)), (12, .p (pI (t.map fun x => [anyP x]).length)), (13, .p (pI k)), (17, .p (anyP x)), (18, .p (pI (x.map fun y => [qaB y]).length)), (19, .p (pI jj))], rowA 0 M⟩) x.length ⟨0, 0, _, Nat.zero_le _, rfl, rfl, rfl, hLb, rfl⟩ ?_
    rintro m s ⟨j, _, M, hj, rfl, rfl, hM, hMb, rfl⟩
    (repeat refine qb ?_); refine qa ?_
    repeat (first | refine zR ?_ | refine zK ?_ | refine zM ?_ | refine zB ?_ | refine zA ?_ | refine zS ?_ | refine zL ?_)
    refine qc ?_
    (repeat refine qb ?_); refine qf rfl (fun hlj => ?_) (fun hlj => ?_)
    · refine qm ?_
      rw [lx] at hlj
      simp only [decide_eq_true_eq] at hlj
      have hlj' : j < x.length := by omega
      have hyl := hxl.2 _ (List.getElem_mem hlj')
      have hA2 := flat_at allA hlj'
      have hS2 := qaM allA hlj'
      obtain ⟨y, hy⟩ : ∃ y, y = x[j] := ⟨_, rfl⟩
      rw [← hy] at hyl hA2 hS2
      have hM1 := qaJ ((x.take j).flatMap allA) L
      rw [← hM] at hM1
      have ly : (y.map Mat.pv).length = y.length := by simp
      have ly2 : (allA y).length = y.length := by unfold allA; simp
      (repeat refine qb ?_); refine ql ?_
      (repeat refine qb ?_); refine qa ?_
      repeat (first | refine zR ?_ | refine zK ?_ | refine zM ?_ | refine zB ?_ | refine zA ?_ | refine zS ?_ | refine zL ?_)
      refine qw qe rfl rfl (by rw [lx]; omega) rfl ?_
      rw [qJ hlj', ← hy]
      repeat (first | refine zR ?_ | refine zK ?_ | refine zM ?_ | refine zB ?_ | refine zA ?_ | refine zS ?_ | refine zL ?_)
      refine qc ?_
      (repeat refine qb ?_); refine qa ?_
      repeat (first | refine zR ?_ | refine zK ?_ | refine zM ?_ | refine zB ?_ | refine zA ?_ | refine zS ?_ | refine zL ?_)
      refine qc ?_
      (repeat refine qb ?_); refine ql ?_
      refine SW.wk (qq [0, 11, 12, 13, 17, 18, 19, 23, 24, 25] [(0, 0)] rfl rfl) ?_
      refine qO (fun m s => ∃ (i : Nat) (ii : Int) (N : List Atm), i ≤ y.length ∧ m = y.length - i ∧ ii = i ∧ N = addA M (allA (y.take i)) ∧ (∀ x ∈ N, x.c.length ≤ 1000000) ∧ s = ⟨37, [(0, .row 0), (11, .p (tgtP t)), (12, .p (pI (t.map fun x => [anyP x]).length)), (13, .p (pI k)), (17, .p (anyP x)), (18, .p (pI (x.map fun y => [qaB y]).length)), (19, .p (pI j)), (23, .p (qaB y)), (24, .p (pI (y.map Mat.pv).length)), (25, .p (pI ii))], rowA 0 N⟩) y.length ⟨0, 0, _, Nat.zero_le _, rfl, rfl, rfl, hMb, rfl⟩ ?_
      rintro m s ⟨i, _, N, hi, rfl, rfl, hN, hNb, rfl⟩
      (repeat refine qb ?_); refine qa ?_
      repeat (first | refine zR ?_ | refine zK ?_ | refine zM ?_ | refine zB ?_ | refine zA ?_ | refine zS ?_ | refine zL ?_)
      refine qc ?_
      (repeat refine qb ?_); refine qf rfl (fun hli => ?_) (fun hli => ?_)
      · refine qm ?_
        rw [ly] at hli
        simp only [decide_eq_true_eq] at hli
        have hli' : i < y.length := by omega
        obtain ⟨z, hz⟩ : ∃ z, z = y[i] := ⟨_, rfl⟩
        have hN1 := qaJ (allA (y.take i)) M
        have ly3 : (allA (y.take i)).length = i := by unfold allA; simp; omega
        rw [← hN, ly3] at hN1
        have hta : (tarA t).length = (t.flatMap anyA).length := rfl
        have hxa : (anyA x).length = (x.flatMap allA).length := rfl
        have H := more_h N ⟨z, []⟩ (by omega) hNb (Nat.zero_le _)
        have H' : zZ Tryz.prog 72 [.row 1000000, .p (.agg (atmP z nilV))] (rowA 1000000 N) (.row 0) (rowA 0 (moreA N ⟨z, []⟩)) := HoldsR.cv2 H (CvL.agg (.cons (.refl _) (.cons (.refl _) (.cons (.refl _) (.cons (.refl _) (.cons (.refl _) (.cons (.refl _) (.cons (.refl _) (.cons (.nil 7) .nil)))))))))
        have hNb' := moreA_bd (a := ⟨z, []⟩) hNb (Nat.zero_le _)
        have hNs : moreA N ⟨z, []⟩ = addA M (allA (y.take (i + 1))) := by
          unfold allA
          rw [List.take_succ_eq_append_getElem hli', List.map_append, qaH, hN, ← hz]
          rfl
        (repeat refine qb ?_); refine ql ?_
        (repeat refine qb ?_); refine qa ?_
        repeat (first | refine zR ?_ | refine zK ?_ | refine zM ?_ | refine zB ?_ | refine zA ?_ | refine zS ?_ | refine zL ?_)
        refine qw qe rfl rfl (by rw [ly]; omega) rfl ?_
        rw [qJ hli', ← hz]
        repeat (first | refine zR ?_ | refine zK ?_ | refine zM ?_ | refine zB ?_ | refine zA ?_ | refine zS ?_ | refine zL ?_)
        refine qc ?_
        (repeat refine qb ?_); refine qa ?_
        repeat (first | refine zR ?_ | refine zK ?_ | refine zM ?_ | refine zB ?_ | refine zA ?_ | refine zS ?_ | refine zL ?_)
        refine qn rfl (zr [(0, 1000000)] rfl rfl rfl rfl rfl rfl (H') rfl rfl rfl ?_)
        repeat (first | refine zR ?_ | refine zK ?_ | refine zM ?_ | refine zB ?_ | refine zA ?_ | refine zS ?_ | refine zL ?_)
        refine qc ?_
        (repeat refine qb ?_); refine qa ?_
        repeat (first | refine zR ?_ | refine zK ?_ | refine zM ?_ | refine zB ?_ | refine zA ?_ | refine zS ?_ | refine zL ?_)
        refine qc ?_
        refine ⟨_, _, ?_, qq [0, 11, 12, 13, 17, 18, 19, 23, 24, 25] [(33000, 0)] rfl rfl, i + 1, _, _, hli', rfl, qz hli' (by omega), hNs, hNb', rfl⟩
        omega
      · refine qK ?_
        rw [ly] at hli
        simp only [decide_eq_false_iff_not] at hli
        have hii : i = y.length := by omega
        subst hii
        rw [List.take_length] at hN
        (repeat refine qb ?_); refine qa ?_
        repeat (first | refine zR ?_ | refine zK ?_ | refine zM ?_ | refine zB ?_ | refine zA ?_ | refine zS ?_ | refine zL ?_)
        refine qc ?_
        refine ⟨_, _, ?_, qq [0, 11, 12, 13, 17, 18, 19] [(0, 0)] rfl rfl, j + 1, _, _, hlj', rfl, qz hlj' (by omega), ?_, hNb, rfl⟩
        · omega
        · rw [hN, hM, hS2, qaH]
    · refine qK ?_
      rw [lx] at hlj
      simp only [decide_eq_false_iff_not] at hlj
      have hjj : j = x.length := by omega
      subst hjj
      rw [List.take_length] at hM
      (repeat refine qb ?_); refine qa ?_
      repeat (first | refine zR ?_ | refine zK ?_ | refine zM ?_ | refine zB ?_ | refine zA ?_ | refine zS ?_ | refine zL ?_)
      refine qc ?_
      refine ⟨_, _, ?_, qq [0, 11, 12, 13] [(0, 0)] rfl rfl, k + 1, _, _, hlt', rfl, qz hlt' (by omega), ?_, rfl⟩
      · omega
      · rw [hM, hL, hS, qaH]; rfl
  · refine qK ?_
    rw [lt] at hlt
    simp only [decide_eq_false_iff_not] at hlt
    have hkk : k = t.length := by omega
    subst hkk
    rw [List.take_length] at hL
    rw [hL]
    (repeat refine qb ?_); refine qa ?_
    repeat (first | refine zR ?_ | refine zK ?_ | refine zM ?_ | refine zB ?_ | refine zA ?_ | refine zS ?_ | refine zL ?_)
    refine qc ?_
    (repeat refine qb ?_); refine qk ?_
    exact ⟨Or.inr rfl, _, _, [(0, 0)], Wk.refl _, rfl, rfl, rfl, rfl⟩
theorem sumBy_at {α : Type} (f : α → Nat) {l : List α} {k : Nat} (hk : k < l.length) : qT f (l.take k) + f l[k] ≤ qT f l := by
  have e : l = l.take k ++ (l[k] :: l.drop (k + 1)) := by rw [← List.drop_eq_getElem_cons hk, List.take_append_drop]
  have h : ∀ (a b : List α) (x : α), qT f (a ++ x :: b) = qT f a + (f x + qT f b) := fun a b x => by simp [qT]
  have h2 := h (l.take k) (l.drop (k + 1)) l[k]
  rw [← e] at h2
  omega
theorem rul_eq (L : List Atm) (r : Rul) : addA L (rulA r) = if r.cond = [] then addA L (tarA r.target) else moreA (addA L (tarA r.target)) ⟨zeroM, r.cond⟩ := by
  unfold rulA condA
  rw [qaH]
  split <;> rfl
def VarOk (n : Nat) : Prop := ∀ (p : Pol), PolF n p → p.sz ≤ 100000 → ∀ l : List Atm, (∀ x ∈ l, x.c.length ≤ 1000000) → l.length + p.sz ≤ 500000 → zZ Tryz.prog 54 [.row 1000000, .p (.agg (polP p))] (rowA 1000000 l) (.row 0) (rowA 0 (addA l (polA n p)))
theorem ofPolicy_step (n : Nat) (IH : VarOk n) : VarOk (n + 1) := by
  intro p hf hsz l hl hn
  have eS := Pol.sz_eq p
  obtain ⟨hT, hrn, hkn, _, hrs, hks⟩ := sz_big hsz (Nat.le_refl _)
  have eP : polA (n + 1) p = tarA p.target ++ (p.rules.flatMap rulA ++ p.kids.flatMap (polA n)) := rfl
  have hTl := tarA_len p.target
  have hRl := qaK rulA rusz rulA_len p.rules
  have hkf := hf.2.2
  rw [eP, qaH, qaH, zf]
  clear eP
  obtain ⟨id, set, al, tg, rules, ks, obls⟩ := p
  simp only [Pol.id, Pol.set, Pol.alg, Pol.target, Pol.rules, Pol.kids, Pol.obls] at *
  have lr : ((rules.map zt).length) = rules.length := by simp
  have lk : ((ks.map polP).length) = ks.length := by simp
  refine ja (ts := [4]) Tryz.func54 (by kernel_rfl) rfl rfl rfl ?_
  (repeat refine qb ?_); refine qa ?_
  repeat (first | refine zR ?_ | refine zK ?_ | refine zM ?_ | refine zB ?_ | refine zA ?_ | refine zS ?_ | refine zL ?_)
  refine qc ?_
  (repeat refine qb ?_); refine qa ?_
  repeat (first | refine zR ?_ | refine zK ?_ | refine zM ?_ | refine zB ?_ | refine zA ?_ | refine zS ?_ | refine zL ?_)
  refine qn rfl (zr [(1000000, 1000000)] rfl rfl rfl rfl rfl rfl (ofTarget_h tg hT l hl (by omega)) rfl rfl rfl ?_)
  repeat (first | refine zR ?_ | refine zK ?_ | refine zM ?_ | refine zB ?_ | refine zA ?_ | refine zS ?_ | refine zL ?_)
  refine qc ?_
  have hMb : ∀ x ∈ addA l (tarA tg), x.c.length ≤ 1000000 := addA_bd hl fun x hx => by rw [tarA_c hx]; exact Nat.zero_le _
  have hMl := qaJ (tarA tg) l
  obtain ⟨M, hM⟩ : ∃ M, M = addA l (tarA tg) := ⟨_, rfl⟩
  rw [← hM] at hMb hMl
  rw [← hM]
  (repeat refine qb ?_); refine qa ?_
  repeat (first | refine zR ?_ | refine zK ?_ | refine zM ?_ | refine zB ?_ | refine zA ?_ | refine zS ?_ | refine zL ?_)
  refine qc ?_
  (repeat refine qb ?_); refine ql ?_
  refine SW.wk (qq [0, 3, 14, 15, 16] [(3, 3), (13000, 0)] rfl rfl) ?_
  refine qO (fun m s => ∃ (k : Nat) (kk : Int) (L : List Atm), k ≤ rules.length ∧ m = rules.length - k ∧ kk = k ∧ L = addA M ((rules.take k).flatMap rulA) ∧ (∀ x ∈ L, x.c.length ≤ 1000000) ∧ s = ⟨46, [(0, .row 0), (3, .ptr 3 0), (14, .p (.sl 5 (rules.map zt))), (15, .p (pI (rules.map zt).length)), (16, .p (pI kk))], (3, .cells [.p (pS id), .p (pB set), .p (pI al), .p (tgtP tg), .p (.sl 5 (rules.map zt)), .p (.sl 7 (ks.map polP)), .p (zQ obls)]) :: rowA 0 L⟩) rules.length ⟨0, 0, _, Nat.zero_le _, rfl, rfl, rfl, hMb, rfl⟩ ?_
  rintro m s ⟨k, _, L, hk, rfl, rfl, hL, hLb, rfl⟩
  (repeat refine qb ?_); refine qa ?_
  repeat (first | refine zR ?_ | refine zK ?_ | refine zM ?_ | refine zB ?_ | refine zA ?_ | refine zS ?_ | refine zL ?_)
  refine qc ?_
  (repeat refine qb ?_); refine qf rfl (fun hlt => ?_) (fun hlt => ?_)
  · refine qm ?_
    rw [lr] at hlt
    simp only [decide_eq_true_eq] at hlt
    have hlt' : k < rules.length := by omega
    have hr := hrs _ (List.getElem_mem hlt')
    have hA := flat_at rulA hlt'
    have hS := qaM rulA hlt'
    have hL1 := qaJ ((rules.take k).flatMap rulA) M
    rw [← hL] at hL1
    obtain ⟨r, hx⟩ : ∃ r, r = rules[k] := ⟨_, rfl⟩
    rw [← hx] at hr hA hS
    have hrl : (rulA r).length = (tarA r.target).length + (condA r.cond).length := by unfold rulA; rw [List.length_append]
    have hrc := hr.2.1
    have hE := rul_eq L r
    have hHT := ofTarget_h r.target hr.1 L hLb (by omega)
    have hTb : ∀ x ∈ addA L (tarA r.target), x.c.length ≤ 1000000 := addA_bd hLb fun x hx => by rw [tarA_c hx]; exact Nat.zero_le _
    have hTl2 := qaJ (tarA r.target) L
    have hLs : addA M ((rules.take (k + 1)).flatMap rulA) = addA L (rulA r) := by rw [hS, qaH, hL]
    obtain ⟨rid, rdeny, rtg, rc, ro⟩ := r
    simp only at hE hHT hTb hTl2 hrc hrl
    have lc : ((rc.map Nod.pv).length) = rc.length := by simp
    (repeat refine qb ?_); refine ql ?_
    (repeat refine qb ?_); refine qa ?_
    repeat (first | refine zR ?_ | refine zK ?_ | refine zM ?_ | refine zB ?_ | refine zA ?_ | refine zS ?_ | refine zL ?_)
    refine qw qe rfl rfl (by rw [lr]; omega) rfl ?_
    rw [qJ hlt', ← hx]
    repeat (first | refine zR ?_ | refine zK ?_ | refine zM ?_ | refine zB ?_ | refine zA ?_ | refine zS ?_ | refine zL ?_)
    refine qc ?_
    (repeat refine qb ?_); refine qa ?_
    repeat (first | refine zR ?_ | refine zK ?_ | refine zM ?_ | refine zB ?_ | refine zA ?_ | refine zS ?_ | refine zL ?_)
    refine qn rfl (zr [(0, 1000000)] rfl rfl rfl rfl rfl rfl (hHT) rfl rfl rfl ?_)
    repeat (first | refine zR ?_ | refine zK ?_ | refine zM ?_ | refine zB ?_ | refine zA ?_ | refine zS ?_ | refine zL ?_)
    refine qc ?_
    (repeat refine qb ?_); refine qa ?_
    repeat (first | refine zR ?_ | refine zK ?_ | refine zM ?_ | refine zB ?_ | refine zA ?_ | refine zS ?_ | refine zL ?_)
    refine qc ?_
    rw [lc]
    (repeat refine qb ?_); refine qf rfl (fun hq => ?_) (fun hq => ?_)
    · have hne : rc ≠ [] := by intro e; subst e; simp at hq
      rw [if_neg hne] at hE
      have hMo := more_h (addA L (tarA rtg)) ⟨zeroM, rc⟩ (by omega) hTb (by show rc.length ≤ 1000000; omega)
      have hMob := moreA_bd (a := ⟨zeroM, rc⟩) hTb (by show rc.length ≤ 1000000; omega)
      (repeat refine qb ?_); refine qa ?_
      repeat (first | refine zR ?_ | refine zK ?_ | refine zM ?_ | refine zB ?_ | refine zA ?_ | refine zS ?_ | refine zL ?_)
      refine qn rfl (zr [(24000, 1000000)] rfl rfl rfl rfl rfl rfl (hMo) rfl rfl rfl ?_)
      repeat (first | refine zR ?_ | refine zK ?_ | refine zM ?_ | refine zB ?_ | refine zA ?_ | refine zS ?_ | refine zL ?_)
      refine qc ?_
      (repeat refine qb ?_); refine qa ?_
      repeat (first | refine zR ?_ | refine zK ?_ | refine zM ?_ | refine zB ?_ | refine zA ?_ | refine zS ?_ | refine zL ?_)
      refine qc ?_
      refine ⟨_, _, ?_, qq [0, 3, 14, 15, 16] [(3, 3), (33000, 0)] rfl rfl, k + 1, _, _, hlt', rfl, qz hlt' (by omega), ?_, hMob, rfl⟩
      · omega
      · rw [hLs, hE]
    · have he : rc = [] := by
        refine List.length_eq_zero_iff.1 ?_
        have : ¬ ((rc.length : Int) > 0) := by simpa using hq
        omega
      rw [if_pos he] at hE
      refine qm ?_
      (repeat refine qb ?_); refine qa ?_
      repeat (first | refine zR ?_ | refine zK ?_ | refine zM ?_ | refine zB ?_ | refine zA ?_ | refine zS ?_ | refine zL ?_)
      refine qc ?_
      refine ⟨_, _, ?_, qq [0, 3, 14, 15, 16] [(3, 3), (24000, 0)] rfl rfl, k + 1, _, _, hlt', rfl, qz hlt' (by omega), ?_, hTb, rfl⟩
      · omega
      · rw [hLs, hE]
  · refine qK ?_
    rw [lr] at hlt
    simp only [decide_eq_false_iff_not] at hlt
    have hkk : k = rules.length := by omega
    subst hkk
    rw [List.take_length] at hL
    have hL1 := qaJ (rules.flatMap rulA) M
    rw [← hL] at hL1
    rw [← hL]
    (repeat refine qb ?_); refine qa ?_
    repeat (first | refine zR ?_ | refine zK ?_ | refine zM ?_ | refine zB ?_ | refine zA ?_ | refine zS ?_ | refine zL ?_)
    refine qc ?_
    (repeat refine qb ?_); refine ql ?_
    refine SW.wk (qq [0, 3, 35, 36, 37] [(3, 3), (0, 0)] rfl rfl) ?_
    refine qO (fun m s => ∃ (k : Nat) (kk : Int) (N : List Atm), k ≤ ks.length ∧ m = ks.length - k ∧ kk = k ∧ N = addA L ((ks.take k).flatMap (polA n)) ∧ (∀ x ∈ N, x.c.length ≤ 1000000) ∧ s = ⟨46, [(0, .row 0), (3, .ptr 3 0), (35, .p (.sl 7 (ks.map polP))), (36, .p (pI (ks.map polP).length)), (37, .p (pI kk))], (3, .cells [.p (pS id), .p (pB set), .p (pI al), .p (tgtP tg), .p (.sl 5 (rules.map zt)), .p (.sl 7 (ks.map polP)), .p (zQ obls)]) :: rowA 0 N⟩) ks.length ⟨0, 0, _, Nat.zero_le _, rfl, rfl, rfl, hLb, rfl⟩ ?_
    rintro m s ⟨k, _, N, hk, rfl, rfl, hN, hNb, rfl⟩
    (repeat refine qb ?_); refine qa ?_
    repeat (first | refine zR ?_ | refine zK ?_ | refine zM ?_ | refine zB ?_ | refine zA ?_ | refine zS ?_ | refine zL ?_)
    refine qc ?_
    (repeat refine qb ?_); refine qf rfl (fun hlt => ?_) (fun hlt => ?_)
    · refine qm ?_
      rw [lk] at hlt
      simp only [decide_eq_true_eq] at hlt
      have hlt' : k < ks.length := by omega
      have hN1 := qaJ ((ks.take k).flatMap (polA n)) L
      rw [← hN] at hN1
      have hfl := qaK (polA n) Pol.sz (polA_len n) (ks.take k)
      have hsa := sumBy_at Pol.sz hlt'
      have hS := qaM (polA n) hlt'
      have hksz := hks _ (List.getElem_mem hlt')
      have hkp := hkf _ (List.getElem_mem hlt')
      obtain ⟨q, hq⟩ : ∃ q, q = ks[k] := ⟨_, rfl⟩
      rw [← hq] at hsa hS hksz hkp
      have H := IH q hkp (by omega) N hNb (by omega)
      have hNs : addA N (polA n q) = addA L ((ks.take (k + 1)).flatMap (polA n)) := by rw [hS, qaH, hN]
      have hNb2 : ∀ x ∈ addA N (polA n q), x.c.length ≤ 1000000 := addA_bd hNb fun x hx => by have := polA_c hx; omega
      rw [zf] at H
      (repeat refine qb ?_); refine ql ?_
      (repeat refine qb ?_); refine qa ?_
      repeat (first | refine zR ?_ | refine zK ?_ | refine zM ?_ | refine zB ?_ | refine zA ?_ | refine zS ?_ | refine zL ?_)
      refine qw qe rfl rfl (by rw [lk]; omega) rfl ?_
      rw [qJ hlt', ← hq, zf]
      repeat (first | refine zR ?_ | refine zK ?_ | refine zM ?_ | refine zB ?_ | refine zA ?_ | refine zS ?_ | refine zL ?_)
      refine qc ?_
      (repeat refine qb ?_); refine qa ?_
      repeat (first | refine zR ?_ | refine zK ?_ | refine zM ?_ | refine zB ?_ | refine zA ?_ | refine zS ?_ | refine zL ?_)
      refine qn rfl (zr [(0, 1000000)] rfl rfl rfl rfl rfl rfl (H) rfl rfl rfl ?_)
      repeat (first | refine zR ?_ | refine zK ?_ | refine zM ?_ | refine zB ?_ | refine zA ?_ | refine zS ?_ | refine zL ?_)
      refine qc ?_
      (repeat refine qb ?_); refine qa ?_
      repeat (first | refine zR ?_ | refine zK ?_ | refine zM ?_ | refine zB ?_ | refine zA ?_ | refine zS ?_ | refine zL ?_)
      refine qc ?_
      refine ⟨_, _, ?_, qq [0, 3, 35, 36, 37] [(3, 3), (44000, 0)] rfl rfl, k + 1, _, _, hlt', rfl, qz hlt' (by omega), hNs, hNb2, rfl⟩
      omega
    · refine qK ?_
      rw [lk] at hlt
      simp only [decide_eq_false_iff_not] at hlt
      have hkk : k = ks.length := by omega
      subst hkk
      rw [List.take_length] at hN
      rw [← hN]
      (repeat refine qb ?_); refine qa ?_
      repeat (first | refine zR ?_ | refine zK ?_ | refine zM ?_ | refine zB ?_ | refine zA ?_ | refine zS ?_ | refine zL ?_)
      refine qc ?_
      (repeat refine qb ?_); refine qk ?_
      exact ⟨Or.inr rfl, _, _, [(0, 0)], Wk.refl _, rfl, rfl, rfl, rfl⟩
theorem ofPolicy_all : ∀ n, VarOk n
  | 0 => fun _ h => h.elim
  | n + 1 => ofPolicy_step n (ofPolicy_all n)
theorem nil_bd : ∀ x ∈ ([] : List Atm), x.c.length ≤ 1000000 := fun x hx => (nomatch hx)
theorem ofNil_h (n : Nat) (p : Pol) (hf : PolF (n + 1) p) (hsz : p.sz ≤ 100000) : Holds Tryz.prog 54 [nilV, .agg (polP p)] (.row 0) (rowA 0 (addA [] (polA (n + 1) p))) := by
  have IH := ofPolicy_all n
  have hn : ([] : List Atm).length + p.sz ≤ 500000 := by simp only [List.length_nil]; omega
  have eS := Pol.sz_eq p
  obtain ⟨hT, hrn, hkn, _, hrs, hks⟩ := sz_big hsz (Nat.le_refl _)
  have eP : polA (n + 1) p = tarA p.target ++ (p.rules.flatMap rulA ++ p.kids.flatMap (polA n)) := rfl
  have hTl := tarA_len p.target
  have hRl := qaK rulA rusz rulA_len p.rules
  have hkf := hf.2.2
  rw [eP, qaH, qaH, zf]
  clear eP
  obtain ⟨id, set, al, tg, rules, ks, obls⟩ := p
  simp only [Pol.id, Pol.set, Pol.alg, Pol.target, Pol.rules, Pol.kids, Pol.obls] at *
  have lr : ((rules.map zt).length) = rules.length := by simp
  have lk : ((ks.map polP).length) = ks.length := by simp
  refine qA (ts := [4]) Tryz.func54 (by kernel_rfl) rfl rfl rfl ?_
  refine SW.wk (jP 0 0 76 8 rfl rfl) ?_
  (repeat refine qb ?_); refine qa ?_
  repeat (first | refine zR ?_ | refine zK ?_ | refine zM ?_ | refine zB ?_ | refine zA ?_ | refine zS ?_ | refine zL ?_)
  refine qc ?_
  (repeat refine qb ?_); refine qa ?_
  repeat (first | refine zR ?_ | refine zK ?_ | refine zM ?_ | refine zB ?_ | refine zA ?_ | refine zS ?_ | refine zL ?_)
  refine qn rfl (zr [(0, 1000000)] rfl rfl rfl rfl rfl rfl (ofTarget_h tg hT ([] : List Atm) nil_bd (by omega)) rfl rfl rfl ?_)
  repeat (first | refine zR ?_ | refine zK ?_ | refine zM ?_ | refine zB ?_ | refine zA ?_ | refine zS ?_ | refine zL ?_)
  refine qc ?_
  have hMb : ∀ x ∈ addA ([] : List Atm) (tarA tg), x.c.length ≤ 1000000 := addA_bd nil_bd fun x hx => by rw [tarA_c hx]; exact Nat.zero_le _
  have hMl := qaJ (tarA tg) ([] : List Atm)
  obtain ⟨M, hM⟩ : ∃ M, M = addA ([] : List Atm) (tarA tg) := ⟨_, rfl⟩
  rw [← hM] at hMb hMl
  rw [← hM]
  (repeat refine qb ?_); refine qa ?_
  repeat (first | refine zR ?_ | refine zK ?_ | refine zM ?_ | refine zB ?_ | refine zA ?_ | refine zS ?_ | refine zL ?_)
  refine qc ?_
  (repeat refine qb ?_); refine ql ?_
  refine SW.wk (qq [0, 3, 14, 15, 16] [(3, 3), (13000, 0)] rfl rfl) ?_
  refine qO (fun m s => ∃ (k : Nat) (kk : Int) (L : List Atm), k ≤ rules.length ∧ m = rules.length - k ∧ kk = k ∧ L = addA M ((rules.take k).flatMap rulA) ∧ (∀ x ∈ L, x.c.length ≤ 1000000) ∧ s = ⟨46, [(0, .row 0), (3, .ptr 3 0), (14, .p (.sl 5 (rules.map zt))), (15, .p (pI (rules.map zt).length)), (16, .p (pI kk))], (3, .cells [.p (pS id), .p (pB set), .p (pI al), .p (tgtP tg), .p (.sl 5 (rules.map zt)), .p (.sl 7 (ks.map polP)), .p (zQ obls)]) :: rowA 0 L⟩) rules.length ⟨0, 0, _, Nat.zero_le _, rfl, rfl, rfl, hMb, rfl⟩ ?_
  rintro m s ⟨k, _, L, hk, rfl, rfl, hL, hLb, rfl⟩
  (repeat refine qb ?_); refine qa ?_
  repeat (first | refine zR ?_ | refine zK ?_ | refine zM ?_ | refine zB ?_ | refine zA ?_ | refine zS ?_ | refine zL ?_)
  refine qc ?_
  (repeat refine qb ?_); refine qf rfl (fun hlt => ?_) (fun hlt => ?_)
  · refine qm ?_
    rw [lr] at hlt
    simp only [decide_eq_true_eq] at hlt
    have hlt' : k < rules.length := by omega
    have hr := hrs _ (List.getElem_mem hlt')
    have hA := flat_at rulA hlt'
    have hS := qaM rulA hlt'
    have hL1 := qaJ ((rules.take k).flatMap rulA) M
    rw [← hL] at hL1
    obtain ⟨r, hx⟩ : ∃ r, r = rules[k] := ⟨_, rfl⟩
    rw [← hx] at hr hA hS
    have hrl : (rulA r).length = (tarA r.target).length + (condA r.cond).length := by unfold rulA; rw [List.length_append]
    have hrc := hr.2.1
    have hE := rul_eq L r
    have hHT := ofTarget_h r.target hr.1 L hLb (by omega)
    have hTb : ∀ x ∈ addA L (tarA r.target), x.c.length ≤ 1000000 := addA_bd hLb fun x hx => by rw [tarA_c hx]; exact Nat.zero_le _
    have hTl2 := qaJ (tarA r.target) L
    have hLs : addA M ((rules.take (k + 1)).flatMap rulA) = addA L (rulA r) := by rw [hS, qaH, hL]
    obtain ⟨rid, rdeny, rtg, rc, ro⟩ := r
    simp only at hE hHT hTb hTl2 hrc hrl
    have lc : ((rc.map Nod.pv).length) = rc.length := by simp
    (repeat refine qb ?_); refine ql ?_
    (repeat refine qb ?_); refine qa ?_
    repeat (first | refine zR ?_ | refine zK ?_ | refine zM ?_ | refine zB ?_ | refine zA ?_ | refine zS ?_ | refine zL ?_)
    refine qw qe rfl rfl (by rw [lr]; omega) rfl ?_
    rw [qJ hlt', ← hx]
    repeat (first | refine zR ?_ | refine zK ?_ | refine zM ?_ | refine zB ?_ | refine zA ?_ | refine zS ?_ | refine zL ?_)
    refine qc ?_
    (repeat refine qb ?_); refine qa ?_
    repeat (first | refine zR ?_ | refine zK ?_ | refine zM ?_ | refine zB ?_ | refine zA ?_ | refine zS ?_ | refine zL ?_)
    refine qn rfl (zr [(0, 1000000)] rfl rfl rfl rfl rfl rfl (hHT) rfl rfl rfl ?_)
    repeat (first | refine zR ?_ | refine zK ?_ | refine zM ?_ | refine zB ?_ | refine zA ?_ | refine zS ?_ | refine zL ?_)
    refine qc ?_
    (repeat refine qb ?_); refine qa ?_
    repeat (first | refine zR ?_ | refine zK ?_ | refine zM ?_ | refine zB ?_ | refine zA ?_ | refine zS ?_ | refine zL ?_)
    refine qc ?_
    rw [lc]
    (repeat refine qb ?_); refine qf rfl (fun hq => ?_) (fun hq => ?_)
    · have hne : rc ≠ [] := by intro e; subst e; simp at hq
      rw [if_neg hne] at hE
      have hMo := more_h (addA L (tarA rtg)) ⟨zeroM, rc⟩ (by omega) hTb (by show rc.length ≤ 1000000; omega)
      have hMob := moreA_bd (a := ⟨zeroM, rc⟩) hTb (by show rc.length ≤ 1000000; omega)
      (repeat refine qb ?_); refine qa ?_
      repeat (first | refine zR ?_ | refine zK ?_ | refine zM ?_ | refine zB ?_ | refine zA ?_ | refine zS ?_ | refine zL ?_)
      refine qn rfl (zr [(24000, 1000000)] rfl rfl rfl rfl rfl rfl (hMo) rfl rfl rfl ?_)
      repeat (first | refine zR ?_ | refine zK ?_ | refine zM ?_ | refine zB ?_ | refine zA ?_ | refine zS ?_ | refine zL ?_)
      refine qc ?_
      (repeat refine qb ?_); refine qa ?_
      repeat (first | refine zR ?_ | refine zK ?_ | refine zM ?_ | refine zB ?_ | refine zA ?_ | refine zS ?_ | refine zL ?_)
      refine qc ?_
      refine ⟨_, _, ?_, qq [0, 3, 14, 15, 16] [(3, 3), (33000, 0)] rfl rfl, k + 1, _, _, hlt', rfl, qz hlt' (by omega), ?_, hMob, rfl⟩
      · omega
      · rw [hLs, hE]
    · have he : rc = [] := by
        refine List.length_eq_zero_iff.1 ?_
        have : ¬ ((rc.length : Int) > 0) := by simpa using hq
        omega
      rw [if_pos he] at hE
      refine qm ?_
      (repeat refine qb ?_); refine qa ?_
      repeat (first | refine zR ?_ | refine zK ?_ | refine zM ?_ | refine zB ?_ | refine zA ?_ | refine zS ?_ | refine zL ?_)
      refine qc ?_
      refine ⟨_, _, ?_, qq [0, 3, 14, 15, 16] [(3, 3), (24000, 0)] rfl rfl, k + 1, _, _, hlt', rfl, qz hlt' (by omega), ?_, hTb, rfl⟩
      · omega
      · rw [hLs, hE]
  · refine qK ?_
    rw [lr] at hlt
    simp only [decide_eq_false_iff_not] at hlt
    have hkk : k = rules.length := by omega
    subst hkk
    rw [List.take_length] at hL
    have hL1 := qaJ (rules.flatMap rulA) M
    rw [← hL] at hL1
    rw [← hL]
    (repeat refine qb ?_); refine qa ?_
    repeat (first | refine zR ?_ | refine zK ?_ | refine zM ?_ | refine zB ?_ | refine zA ?_ | refine zS ?_ | refine zL ?_)
    refine qc ?_
    (repeat refine qb ?_); refine ql ?_
    refine SW.wk (qq [0, 3, 35, 36, 37] [(3, 3), (0, 0)] rfl rfl) ?_
    refine qO (fun m s => ∃ (k : Nat) (kk : Int) (N : List Atm), k ≤ ks.length ∧ m = ks.length - k ∧ kk = k ∧ N = addA L ((ks.take k).flatMap (polA n)) ∧ (∀ x ∈ N, x.c.length ≤ 1000000) ∧ s = ⟨46, [(0, .row 0), (3, .ptr 3 0), (35, .p (.sl 7 (ks.map polP))), (36, .p (pI (ks.map polP).length)), (37, .p (pI kk))], (3, .cells [.p (pS id), .p (pB set), .p (pI al), .p (tgtP tg), .p (.sl 5 (rules.map zt)), .p (.sl 7 (ks.map polP)), .p (zQ obls)]) :: rowA 0 N⟩) ks.length ⟨0, 0, _, Nat.zero_le _, rfl, rfl, rfl, hLb, rfl⟩ ?_
    rintro m s ⟨k, _, N, hk, rfl, rfl, hN, hNb, rfl⟩
    (repeat refine qb ?_); refine qa ?_
    repeat (first | refine zR ?_ | refine zK ?_ | refine zM ?_ | refine zB ?_ | refine zA ?_ | refine zS ?_ | refine zL ?_)
    refine qc ?_
    (repeat refine qb ?_); refine qf rfl (fun hlt => ?_) (fun hlt => ?_)
    · refine qm ?_
      rw [lk] at hlt
      simp only [decide_eq_true_eq] at hlt
      have hlt' : k < ks.length := by omega
      have hN1 := qaJ ((ks.take k).flatMap (polA n)) L
      rw [← hN] at hN1
      have hfl := qaK (polA n) Pol.sz (polA_len n) (ks.take k)
      have hsa := sumBy_at Pol.sz hlt'
      have hS := qaM (polA n) hlt'
      have hksz := hks _ (List.getElem_mem hlt')
      have hkp := hkf _ (List.getElem_mem hlt')
      obtain ⟨q, hq⟩ : ∃ q, q = ks[k] := ⟨_, rfl⟩
      rw [← hq] at hsa hS hksz hkp
      have H := IH q hkp (by omega) N hNb (by omega)
      have hNs : addA N (polA n q) = addA L ((ks.take (k + 1)).flatMap (polA n)) := by rw [hS, qaH, hN]
      have hNb2 : ∀ x ∈ addA N (polA n q), x.c.length ≤ 1000000 := addA_bd hNb fun x hx => by have := polA_c hx; omega
      rw [zf] at H
      (repeat refine qb ?_); refine ql ?_
      (repeat refine qb ?_); refine qa ?_
      repeat (first | refine zR ?_ | refine zK ?_ | refine zM ?_ | refine zB ?_ | refine zA ?_ | refine zS ?_ | refine zL ?_)
      refine qw qe rfl rfl (by rw [lk]; omega) rfl ?_
      rw [qJ hlt', ← hq, zf]
      repeat (first | refine zR ?_ | refine zK ?_ | refine zM ?_ | refine zB ?_ | refine zA ?_ | refine zS ?_ | refine zL ?_)
      refine qc ?_
      (repeat refine qb ?_); refine qa ?_
      repeat (first | refine zR ?_ | refine zK ?_ | refine zM ?_ | refine zB ?_ | refine zA ?_ | refine zS ?_ | refine zL ?_)
      refine qn rfl (zr [(0, 1000000)] rfl rfl rfl rfl rfl rfl (H) rfl rfl rfl ?_)
      repeat (first | refine zR ?_ | refine zK ?_ | refine zM ?_ | refine zB ?_ | refine zA ?_ | refine zS ?_ | refine zL ?_)
      refine qc ?_
      (repeat refine qb ?_); refine qa ?_
      repeat (first | refine zR ?_ | refine zK ?_ | refine zM ?_ | refine zB ?_ | refine zA ?_ | refine zS ?_ | refine zL ?_)
      refine qc ?_
      refine ⟨_, _, ?_, qq [0, 3, 35, 36, 37] [(3, 3), (44000, 0)] rfl rfl, k + 1, _, _, hlt', rfl, qz hlt' (by omega), hNs, hNb2, rfl⟩
      omega
    · refine qK ?_
      rw [lk] at hlt
      simp only [decide_eq_false_iff_not] at hlt
      have hkk : k = ks.length := by omega
      subst hkk
      rw [List.take_length] at hN
      rw [← hN]
      (repeat refine qb ?_); refine qa ?_
      repeat (first | refine zR ?_ | refine zK ?_ | refine zM ?_ | refine zB ?_ | refine zA ?_ | refine zS ?_ | refine zL ?_)
      refine qc ?_
      (repeat refine qb ?_); refine qk ?_
      exact ⟨Or.inr rfl, _, _, [(0, 0)], Wk.refl _, rfl, rfl, rfl, rfl⟩
end Go.Proofs.YtppfcacnofjmdaaGreatDoor
namespace Go.Proofs.YtppfcacnofjmdaaGreatDoor
set_option linter.unusedVariables false
set_option linter.unusedSimpArgs false
open Go.RowKit
set_option maxHeartbeats 4000000
theorem sameNodA_h (l : List Nod) (hn : l.length ≤ 1000000) : Holds Tryz.prog 58 [qar l, qar l] (.p (pB true)) [] := by
    refine qA (ts := [4]) Tryz.func58 (by kernel_rfl) rfl rfl rfl ?_
    (repeat refine qb ?_); refine qa ?_
    repeat (first | refine zR ?_ | refine zK ?_ | refine zM ?_ | refine zB ?_ | refine zA ?_ | refine zS ?_ | refine zL ?_)
    refine qc ?_
    (repeat refine qb ?_); refine qa ?_
    repeat (first | refine zR ?_ | refine zK ?_ | refine zM ?_ | refine zB ?_ | refine zA ?_ | refine zS ?_ | refine zL ?_)
    refine qc ?_
    (repeat refine qb ?_); refine qf rfl (fun h0 => ?_) (fun h0 => ?_)
    · exfalso
      simp at h0
    refine qm ?_
    (repeat refine qb ?_); refine qa ?_
    repeat (first | refine zR ?_ | refine zK ?_ | refine zM ?_ | refine zB ?_ | refine zA ?_ | refine zS ?_ | refine zL ?_)
    refine qc ?_
    (repeat refine qb ?_); refine ql ?_
    refine SW.wk (qq [0, 1, 4, 5] [] rfl rfl) ?_
    refine qO (fun m s => ∃ (k : Nat) (kk : Int), k ≤ l.length ∧ m = l.length - k ∧ kk = k ∧ s = ⟨26, [(0, .p (qar l)), (1, .p (qar l)), (4, .p (pB false)), (5, .p (pI kk))], []⟩) l.length ⟨0, 0, Nat.zero_le _, rfl, rfl, rfl⟩ ?_
    rintro m s ⟨k, _, hk, rfl, rfl, rfl⟩
    (repeat refine qb ?_); refine qa ?_
    repeat (first | refine zR ?_ | refine zK ?_ | refine zM ?_ | refine zB ?_ | refine zA ?_ | refine zS ?_ | refine zL ?_)
    refine qc ?_
    (repeat refine qb ?_); refine qf rfl (fun hlt => ?_) (fun hlt => ?_)
    · refine qm ?_
      simp only [List.length_map, decide_eq_true_eq] at hlt
      have hlt' : k < l.length := by omega
      obtain ⟨x, hx⟩ : ∃ x, x = l[k] := ⟨_, rfl⟩
      (repeat refine qb ?_); refine ql ?_
      (repeat refine qb ?_); refine zl [] [(0, true), (1, true), (2, true), (3, true), (4, true), (5, true), (6, true), (7, true), (8, true)] (by kernel_rfl) (by kernel_rfl) (by kernel_rfl) ?_
      repeat (first | refine yR ?_ | refine yK ?_ | refine yM ?_ | refine yB ?_ | refine yA ?_ | refine yS ?_ | refine yL ?_)
      refine zi qe rfl rfl rfl (by simp only [List.length_map]; omega) rfl ?_
      rw [qJ hlt', ← hx]
      repeat (first | refine yR ?_ | refine yK ?_ | refine yM ?_ | refine yB ?_ | refine yA ?_ | refine yS ?_ | refine yL ?_)
      refine zi qe rfl rfl rfl (by simp only [List.length_map]; omega) rfl ?_
      rw [qJ hlt', ← hx]
      repeat (first | refine yR ?_ | refine yK ?_ | refine yM ?_ | refine yB ?_ | refine yA ?_ | refine yS ?_ | refine yL ?_)
      refine zi qe rfl rfl rfl (rfl) rfl ?_
      repeat (first | refine yR ?_ | refine yK ?_ | refine yM ?_ | refine yB ?_ | refine yA ?_ | refine yS ?_ | refine yL ?_)
      refine swm_nil ?_
      (repeat refine qb ?_); refine qf rfl (fun hp => ?_) (fun hp => ?_)
      · exfalso
        simp at hp
      refine qm ?_
      (repeat refine qb ?_); refine qa ?_
      repeat (first | refine zR ?_ | refine zK ?_ | refine zM ?_ | refine zB ?_ | refine zA ?_ | refine zS ?_ | refine zL ?_)
      refine qc ?_
      refine ⟨_, _, ?_, qq [0, 1, 4, 5] [] rfl rfl, k + 1, _, hlt', rfl, qz hlt' (by omega), rfl⟩
      omega
    · refine qK ?_
      (repeat refine qb ?_); refine qa ?_
      repeat (first | refine zR ?_ | refine zK ?_ | refine zM ?_ | refine zB ?_ | refine zA ?_ | refine zS ?_ | refine zL ?_)
      refine qc ?_
      (repeat refine qb ?_); refine qk ?_
      exact wS rfl rfl
theorem polFV_up : ∀ {n : Nat} {p : Pol}, PolF n p → PolF (n + 1) p
  | n + 1, p, h => ⟨h.1, h.2.1, fun k hk => polFV_up (h.2.2 k hk)⟩
theorem polFV_add {n : Nat} {p : Pol} (h : PolF n p) : ∀ m, PolF (n + m) p
  | 0 => h
  | m + 1 => polFV_up (polFV_add h m)
theorem right_polA {p : Pol} (h : zb p = 0) (n : Nat) : polA (n + 4) p = polA 4 p := polA_dp (right_dp h) (by omega)
def qaI (p : Pol) : List Atm := addA [] (polA 4 p)
theorem of_bad {n : Nat} (p : Pol) (hf : PolF n p) (h : zb p ≠ 0) : Holds Tryz.prog 30 [.agg (polP p)] (.tup [.p nilV, .p (pI 1)]) [] := by
  have HR := right_h p (qaF 4 hf)
  rw [zf] at HR ⊢
  refine qA (ts := [2,3]) Tryz.func30 (by kernel_rfl) rfl rfl rfl ?_
  (repeat refine qb ?_); refine qa ?_
  repeat (first | refine zR ?_ | refine zK ?_ | refine zM ?_ | refine zB ?_ | refine zA ?_ | refine zS ?_ | refine zL ?_)
  refine qc ?_
  (repeat refine qb ?_); refine qa ?_
  repeat (first | refine zR ?_ | refine zK ?_ | refine zM ?_ | refine zB ?_ | refine zA ?_ | refine zS ?_ | refine zL ?_)
  refine qn rfl (qg rfl rfl rfl rfl (HR) rfl rfl ?_)
  repeat (first | refine zR ?_ | refine zK ?_ | refine zM ?_ | refine zB ?_ | refine zA ?_ | refine zS ?_ | refine zL ?_)
  rw [show (zb p != 0) = true by simpa using h]
  refine qc ?_
  (repeat refine qb ?_); refine qf rfl (fun hc => ?_) (fun hc => ?_)
  · (repeat refine qb ?_); refine qa ?_
    repeat (first | refine zR ?_ | refine zK ?_ | refine zM ?_ | refine zB ?_ | refine zA ?_ | refine zS ?_ | refine zL ?_)
    refine qc ?_
    (repeat refine qb ?_); refine qk ?_
    exact ⟨Or.inr rfl, _, _, [], Wk.refl _, rfl, rfl, rfl, rfl⟩
  · cases hc
theorem of_many {n : Nat} (p : Pol) (hf : PolF n p) (hsz : p.sz ≤ 100000) (h : zb p = 0) (hl : 64 < (qaI p).length) : Holds Tryz.prog 30 [.agg (polP p)] (.tup [.p nilV, .p (pI 6)]) [] := by
  have HR := right_h p (qaF 4 hf)
  have HO := ofNil_h (n + 3) p (polFV_add hf 4) hsz
  rw [right_polA h] at HO
  change Holds _ _ _ _ (rowA 0 (qaI p)) at HO
  rw [h] at HR
  have la : ((qaI p).map Atm.pv).length = (qaI p).length := by simp
  generalize qaI p = L at *
  rw [zf] at HR HO ⊢
  refine qA (ts := [2,3]) Tryz.func30 (by kernel_rfl) rfl rfl rfl ?_
  (repeat refine qb ?_); refine qa ?_
  repeat (first | refine zR ?_ | refine zK ?_ | refine zM ?_ | refine zB ?_ | refine zA ?_ | refine zS ?_ | refine zL ?_)
  refine qc ?_
  (repeat refine qb ?_); refine qa ?_
  repeat (first | refine zR ?_ | refine zK ?_ | refine zM ?_ | refine zB ?_ | refine zA ?_ | refine zS ?_ | refine zL ?_)
  refine qn rfl (qg rfl rfl rfl rfl (HR) rfl rfl ?_)
  repeat (first | refine zR ?_ | refine zK ?_ | refine zM ?_ | refine zB ?_ | refine zA ?_ | refine zS ?_ | refine zL ?_)
  refine qc ?_
  (repeat refine qb ?_); refine qf rfl (fun hc => ?_) (fun hc => ?_)
  · cases hc
  refine qm ?_
  (repeat refine qb ?_); refine qa ?_
  repeat (first | refine zR ?_ | refine zK ?_ | refine zM ?_ | refine zB ?_ | refine zA ?_ | refine zS ?_ | refine zL ?_)
  refine qn rfl (qD rfl rfl rfl rfl (HO) rfl rfl rfl ?_)
  repeat (first | refine zR ?_ | refine zK ?_ | refine zM ?_ | refine zB ?_ | refine zA ?_ | refine zS ?_ | refine zL ?_)
  refine qc ?_
  (repeat refine qb ?_); refine qa ?_
  repeat (first | refine zR ?_ | refine zK ?_ | refine zM ?_ | refine zB ?_ | refine zA ?_ | refine zS ?_ | refine zL ?_)
  refine qc ?_
  rw [la]
  rw [show decide ((L.length : Int) > 64) = true by simp; omega]
  (repeat refine qb ?_); refine qf rfl (fun hd => ?_) (fun hd => ?_)
  · (repeat refine qb ?_); refine qa ?_
    repeat (first | refine zR ?_ | refine zK ?_ | refine zM ?_ | refine zB ?_ | refine zA ?_ | refine zS ?_ | refine zL ?_)
    refine qc ?_
    (repeat refine qb ?_); refine qk ?_
    exact ⟨Or.inr rfl, _, _, [], Wk.refl _, rfl, rfl, rfl, rfl⟩
  · cases hd
theorem of_ok {n : Nat} (p : Pol) (hf : PolF n p) (hsz : p.sz ≤ 100000) (h : zb p = 0) (hl : (qaI p).length ≤ 64) : Holds Tryz.prog 30 [.agg (polP p)] (.tup [.row 0, .p (pI 0)]) (rowA 0 (qaI p)) := by
  have HR := right_h p (qaF 4 hf)
  have HO := ofNil_h (n + 3) p (polFV_add hf 4) hsz
  rw [right_polA h] at HO
  change Holds _ _ _ _ (rowA 0 (qaI p)) at HO
  rw [h] at HR
  have la : ((qaI p).map Atm.pv).length = (qaI p).length := by simp
  generalize qaI p = L at *
  rw [zf] at HR HO ⊢
  refine qA (ts := [2,3]) Tryz.func30 (by kernel_rfl) rfl rfl rfl ?_
  (repeat refine qb ?_); refine qa ?_
  repeat (first | refine zR ?_ | refine zK ?_ | refine zM ?_ | refine zB ?_ | refine zA ?_ | refine zS ?_ | refine zL ?_)
  refine qc ?_
  (repeat refine qb ?_); refine qa ?_
  repeat (first | refine zR ?_ | refine zK ?_ | refine zM ?_ | refine zB ?_ | refine zA ?_ | refine zS ?_ | refine zL ?_)
  refine qn rfl (qg rfl rfl rfl rfl (HR) rfl rfl ?_)
  repeat (first | refine zR ?_ | refine zK ?_ | refine zM ?_ | refine zB ?_ | refine zA ?_ | refine zS ?_ | refine zL ?_)
  refine qc ?_
  (repeat refine qb ?_); refine qf rfl (fun hc => ?_) (fun hc => ?_)
  · cases hc
  refine qm ?_
  (repeat refine qb ?_); refine qa ?_
  repeat (first | refine zR ?_ | refine zK ?_ | refine zM ?_ | refine zB ?_ | refine zA ?_ | refine zS ?_ | refine zL ?_)
  refine qn rfl (qD rfl rfl rfl rfl (HO) rfl rfl rfl ?_)
  repeat (first | refine zR ?_ | refine zK ?_ | refine zM ?_ | refine zB ?_ | refine zA ?_ | refine zS ?_ | refine zL ?_)
  refine qc ?_
  (repeat refine qb ?_); refine qa ?_
  repeat (first | refine zR ?_ | refine zK ?_ | refine zM ?_ | refine zB ?_ | refine zA ?_ | refine zS ?_ | refine zL ?_)
  refine qc ?_
  rw [la]
  rw [show decide ((L.length : Int) > 64) = false by simp; omega]
  (repeat refine qb ?_); refine qf rfl (fun hd => ?_) (fun hd => ?_)
  · cases hd
  · refine qm ?_
    (repeat refine qb ?_); refine qa ?_
    repeat (first | refine zR ?_ | refine zK ?_ | refine zM ?_ | refine zB ?_ | refine zA ?_ | refine zS ?_ | refine zL ?_)
    refine qc ?_
    (repeat refine qb ?_); refine qk ?_
    exact ⟨Or.inr rfl, _, _, [(10000, 0)], Wk.refl _, rfl, rfl, rfl, rfl⟩
theorem atoms_h (l : List Atm) (hn : l.length ≤ 1000000) (hl : ∀ x ∈ l, x.c.length ≤ 1000000) : Holds Tryz.prog 32 [atmsP l, atmsP l] (.p (pB true)) [] := by
  have la : (l.map Atm.pv).length = l.length := by simp
  refine qA (ts := [4]) Tryz.func32 (by kernel_rfl) rfl rfl rfl ?_
  (repeat refine qb ?_); refine qa ?_
  repeat (first | refine zR ?_ | refine zK ?_ | refine zM ?_ | refine zB ?_ | refine zA ?_ | refine zS ?_ | refine zL ?_)
  refine qc ?_
  (repeat refine qb ?_); refine qa ?_
  repeat (first | refine zR ?_ | refine zK ?_ | refine zM ?_ | refine zB ?_ | refine zA ?_ | refine zS ?_ | refine zL ?_)
  refine qc ?_
  (repeat refine qb ?_); refine qf rfl (fun h0 => ?_) (fun h0 => ?_)
  · exfalso
    simp at h0
  refine qm ?_
  (repeat refine qb ?_); refine qa ?_
  repeat (first | refine zR ?_ | refine zK ?_ | refine zM ?_ | refine zB ?_ | refine zA ?_ | refine zS ?_ | refine zL ?_)
  refine qc ?_
  (repeat refine qb ?_); refine ql ?_
  refine SW.wk (qq [0, 1, 12, 13] [] rfl rfl) ?_
  refine qO (fun m s => ∃ (k : Nat) (kk : Int), k ≤ l.length ∧ m = l.length - k ∧ kk = k ∧ s = ⟨42, [(0, .p (atmsP l)), (1, .p (atmsP l)), (12, .p (pI (l.map Atm.pv).length)), (13, .p (pI kk))], []⟩) l.length ⟨0, 0, Nat.zero_le _, rfl, rfl, rfl⟩ ?_
  rintro m s ⟨k, _, hk, rfl, rfl, rfl⟩
  (repeat refine qb ?_); refine qa ?_
  repeat (first | refine zR ?_ | refine zK ?_ | refine zM ?_ | refine zB ?_ | refine zA ?_ | refine zS ?_ | refine zL ?_)
  refine qc ?_
  (repeat refine qb ?_); refine qf rfl (fun hlt => ?_) (fun hlt => ?_)
  · refine qm ?_
    rw [la] at hlt
    simp only [decide_eq_true_eq] at hlt
    have hlt' : k < l.length := by omega
    have H := sameNodA_h _ (hl _ (List.getElem_mem hlt'))
    obtain ⟨x, hx⟩ : ∃ x, x = l[k] := ⟨_, rfl⟩
    rw [← hx] at H
    (repeat refine qb ?_); refine ql ?_
    (repeat refine qb ?_); refine qa ?_
    repeat (first | refine zR ?_ | refine zK ?_ | refine zM ?_ | refine zB ?_ | refine zA ?_ | refine zS ?_ | refine zL ?_)
    refine qc ?_
    (repeat refine qb ?_); refine zl [] [(0, true), (1, true), (2, true), (3, true), (4, true), (5, true), (6, true), (7, true), (8, true), (9, true), (10, true), (11, true), (12, true), (13, true), (14, true), (15, true), (16, true), (17, true), (18, true), (19, true), (20, true), (21, true), (22, false), (23, true), (24, true)] (by kernel_rfl) (by kernel_rfl) (by kernel_rfl) ?_
    repeat (first | refine yR ?_ | refine yK ?_ | refine yM ?_ | refine yB ?_ | refine yA ?_ | refine yS ?_ | refine yL ?_)
    refine zi qe rfl rfl rfl (by rw [la]; omega) rfl ?_
    rw [qJ hlt', ← hx]
    repeat (first | refine yR ?_ | refine yK ?_ | refine yM ?_ | refine yB ?_ | refine yA ?_ | refine yS ?_ | refine yL ?_)
    refine zi qe rfl rfl rfl (by rw [la]; omega) rfl ?_
    rw [qJ hlt', ← hx]
    repeat (first | refine yR ?_ | refine yK ?_ | refine yM ?_ | refine yB ?_ | refine yA ?_ | refine yS ?_ | refine yL ?_)
    refine zi qe rfl rfl (opR_neM x.m x.m rfl rfl rfl rfl) rfl rfl ?_
    rw [decide_eq_true rfl]
    repeat (first | refine yR ?_ | refine yK ?_ | refine yM ?_ | refine yB ?_ | refine yA ?_ | refine yS ?_ | refine yL ?_)
    refine zi qe rfl rfl rfl (by rw [la]; omega) rfl ?_
    rw [qJ hlt', ← hx]
    repeat (first | refine yR ?_ | refine yK ?_ | refine yM ?_ | refine yB ?_ | refine yA ?_ | refine yS ?_ | refine yL ?_)
    refine zi qe rfl rfl rfl (by rw [la]; omega) rfl ?_
    rw [qJ hlt', ← hx]
    repeat (first | refine yR ?_ | refine yK ?_ | refine yM ?_ | refine yB ?_ | refine yA ?_ | refine yS ?_ | refine yL ?_)
    refine qak rfl rfl rfl (qg rfl rfl rfl rfl (H) rfl rfl ?_)
    repeat (first | refine yR ?_ | refine yK ?_ | refine yM ?_ | refine yB ?_ | refine yA ?_ | refine yS ?_ | refine yL ?_)
    repeat (first | refine yR ?_ | refine yK ?_ | refine yM ?_ | refine yB ?_ | refine yA ?_ | refine yS ?_ | refine yL ?_)
    refine swm_nil ?_
    (repeat refine qb ?_); refine qf rfl (fun hp => ?_) (fun hp => ?_)
    · cases hp
    refine qm ?_
    (repeat refine qb ?_); refine qa ?_
    repeat (first | refine zR ?_ | refine zK ?_ | refine zM ?_ | refine zB ?_ | refine zA ?_ | refine zS ?_ | refine zL ?_)
    refine qc ?_
    refine ⟨_, _, ?_, qq [0, 1, 12, 13] [] rfl rfl, k + 1, _, hlt', rfl, qz hlt' (by omega), rfl⟩
    omega
  · refine qK ?_
    (repeat refine qb ?_); refine qa ?_
    repeat (first | refine zR ?_ | refine zK ?_ | refine zM ?_ | refine zB ?_ | refine zA ?_ | refine zS ?_ | refine zL ?_)
    refine qc ?_
    (repeat refine qb ?_); refine qk ?_
    exact wS rfl rfl
theorem atoms_c {p : Pol} : ∀ x ∈ qaI p, x.c.length ≤ p.sz := fun x hx => polA_c ((addA_mem.1 hx).elim (fun h => (nomatch h)) id)
theorem atoms_nodup (p : Pol) : (qaI p).Nodup := addA_nodup (by simp)
end Go.Proofs.YtppfcacnofjmdaaGreatDoor
