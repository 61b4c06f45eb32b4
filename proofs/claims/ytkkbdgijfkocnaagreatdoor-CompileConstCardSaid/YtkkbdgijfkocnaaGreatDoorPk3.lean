/-
  What the statement leans on, part 3: Pend, Eval, EvalOk, FnsC, Dec, Itoa, Enc, DagP, Fork, Size, Pol, PolS, Cvt, CellR, DagH, DagM, AppI.
-/
import Derived.Scope
import Derived.Laws.BytesString
import Derived.Shelf.Strconv.Itoa3
import Derived.Shelf.Small.Strs
import Derived.Shelf.Strconv.AtoiAll
import Derived.Test.YtkkbdgijfkocnaaGreatDoorRows
import Derived.Shelf.Strconv.AppendIntPublic10
import Derived.Test.YtkkbdgijfkocnaaGreatDoorPk1
import Derived.Test.YtkkbdgijfkocnaaGreatDoorPk2
namespace Go.Proofs.YtkkbdgijfkocnaaGreatDoor
set_option linter.unusedVariables false
set_option linter.unusedSimpArgs false
open Go.RowKit
def waitsO (o : Oper) (p : Nat) : Bool := o.after.toList.any fun e => Region.binds .any e && Nat.beq e.on p
section
variable {P : Program} {ops : Array Oper} {Q : Exit → Act → World → Prop}
abbrev Pend := List (Nat × (World → Prop))
def alive (ops : Array Oper) (i : Nat) (pd : Pend) : Pend := match ops[i]? with
 | some o => pd.filter fun p => !waitsO o p.1
 | none => pd
def wpAnyP (P : Program) (ops : Array Oper) (Q : Exit → Act → World → Prop) : Nat → Pend → Array Bool → Act → World → Prop
 | 0, _, listed, a, w => Region.ready .any ops listed = [] ∧ Q .normal a w
 | fuel + 1, pd, listed, a, w => (Region.ready .any ops listed = [] → Q .normal a w) ∧
  ∀ i ∈ Region.ready .any ops listed, wpOp P ops Q i (fun a' w' => (∀ p ∈ alive ops i pd, p.2 w') ∧ wpAnyP P ops Q fuel (alive ops i pd) (listed.setIfInBounds i true) a' w') a w
theorem qau : ∀ (fuel : Nat) (pd : Pend) (listed : Array Bool) (a : Act) (w : World), wpAnyP P ops Q fuel pd listed a w → wpAny P .any ops Q fuel listed a w
 | 0, _, _, _, _, h => h
 | fuel + 1, _, _, _, _, h => ⟨h.1, fun i hi => wpOp_mono (fun a' w' h' => qau fuel _ _ a' w' h'.2) (h.2 i hi)⟩
def Covers (pd pd' : Pend) : Prop := ∀ p ∈ pd, (∀ x, p.2 x) ∨ ∃ p' ∈ pd', p'.1 = p.1 ∧ ∀ x, p'.2 x → p.2 x
theorem Covers.refl (pd : Pend) : Covers pd pd := fun p hp => .inr ⟨p, hp, rfl, fun _ h => h⟩
theorem mem_alive {i : Nat} {pd : Pend} {p : Nat × (World → Prop)} : p ∈ alive ops i pd ↔ p ∈ pd ∧ (∀ o, ops[i]? = some o → waitsO o p.1 = false) := by
 unfold alive
 cases h : ops[i]? with
 | none => simp
 | some o => simp [List.mem_filter]
theorem Covers.alive {pd pd' : Pend} (h : Covers pd pd') (i : Nat) : Covers (alive ops i pd) (Go.Proofs.YtkkbdgijfkocnaaGreatDoor.alive ops i pd') := fun p hp => by
 obtain ⟨h1, h2⟩ := mem_alive.1 hp
 rcases h p h1 with h | ⟨p', h3, h4, h5⟩
 · exact .inl h
 · exact .inr ⟨p', mem_alive.2 ⟨h3, fun o ho => by rw [h4]; exact h2 o ho⟩, h4, h5⟩
theorem Covers.at {pd pd' : Pend} (h : Covers pd pd') {w : World} (hw : ∀ p ∈ pd', p.2 w) : ∀ p ∈ pd, p.2 w := fun p hp => by
 rcases h p hp with h | ⟨p', h3, h4, h5⟩
 · exact h w
 · exact h5 w (hw p' h3)
theorem wE : ∀ (f : Nat) {pd pd' : Pend} (_ : Covers pd pd') (ls : Array Bool) (a : Act) (w : World), wpAnyP P ops Q f pd' ls a w → wpAnyP P ops Q f pd ls a w
 | 0, _, _, _, _, _, _, h => h
 | f + 1, _, _, hc, ls, a, w, h => ⟨h.1, fun i hi => wpOp_mono (fun a' w' h' => ⟨(hc.alive i).at h'.1, wE f (hc.alive i) _ a' w' h'.2⟩) (h.2 i hi)⟩
theorem wpAnyP_first {i : Nat} {oi : Oper} {v : Value} (hi : ops[i]? = some oi) (hsel : ∀ (j : Nat) (o : Oper) cs b, ops[j]? = some o → o.op ≠ .select cs b)
 (hQ : ∀ c a w, Q (.panic c) (a.put oi.dst v) w → Q (.panic c) a w) {S : World → Prop} :
 ∀ (fuel : Nat) (pd : Pend) (listed : Array Bool) (a : Act) (w : World),
   (∀ j oj, ops[j]? = some oj → j ≠ i → listed.getD j true = false → (∀ e ∈ oj.after, Region.binds .any e = true → e.on ≠ i) → oi.apart ops oj = true) →
   i ∈ Region.ready .any ops listed → YieldsIf P ops S oi v a → S w → (∀ p ∈ pd, p.2 w) →
   wpAnyP P ops Q fuel ((i, S) :: pd) (listed.setIfInBounds i true) (a.put oi.dst v) w → wpAnyP P ops Q (fuel + 1) pd listed a w := by
 have drop : ∀ (pd : Pend), Covers (Go.Proofs.YtkkbdgijfkocnaaGreatDoor.alive ops i pd) ((i, S) :: pd) := fun pd p hp => .inr ⟨p, List.mem_cons_of_mem _ (mem_alive.1 hp).1, rfl, fun _ h => h⟩
 intro fuel
 induction fuel with
 | zero =>
   intro pd listed a w _ hr hy hS hpd H
   refine ⟨fun h => (by rw [h] at hr; cases hr), fun j hj => ?_⟩
   by_cases hji : j = i
   · subst hji; exact hy.wpOp hi hS ⟨fun p hp => hpd p (mem_alive.1 hp).1, H⟩
   · have := ready_mono hj hji
     rw [H.1] at this
     cases this
 | succ fuel ih =>
   intro pd listed a w hfree hr hy hS hpd H
   refine ⟨fun h => (by rw [h] at hr; cases hr), fun j hj => ?_⟩
   by_cases hji : j = i
   · subst hji; exact hy.wpOp hi hS ⟨fun p hp => hpd p (mem_alive.1 hp).1, wE _ (drop pd) _ _ _ H⟩
   · have h1 := H.2 j (ready_mono hj hji)
     obtain ⟨hjun, oj, hoj, hall⟩ := mem_ready.1 hj
     have hnot : ∀ e ∈ oj.after, Region.binds .any e = true → e.on ≠ i := fun e he hb heq => by
      have h1 := hall e he hb
      have h0 := (mem_ready.1 hr).1
      rw [heq] at h1
      rcases Nat.lt_or_ge i listed.size with h' | h'
      · simp [h'] at h0 h1; rw [h0] at h1; cases h1
      · simp [Array.getElem?_eq_none h'] at h1
     have hwait : waitsO oj i = false := by
      unfold waitsO
      rw [List.any_eq_false]
      intro e he h
      rw [Bool.and_eq_true] at h
      exact hnot e (by simpa using he) h.1 (Nat.eq_of_beq_eq_true h.2)
     have hal : Go.Proofs.YtkkbdgijfkocnaaGreatDoor.alive ops j ((i, S) :: pd) = (i, S) :: Go.Proofs.YtkkbdgijfkocnaaGreatDoor.alive ops j pd := by
      unfold Go.Proofs.YtkkbdgijfkocnaaGreatDoor.alive
      rw [hoj]
      simp [List.filter_cons, hwait]
     have h2 := wpOp_putIf hoj (hfree j oj hoj hji hjun hnot) (fun cs b => hsel i oi cs b hi) (fun cs b => hsel j oj cs b hoj) hQ hy h1
     have hfree' : ∀ k ok, ops[k]? = some ok → k ≠ i → (listed.setIfInBounds j true).getD k true = false →
      (∀ e ∈ ok.after, Region.binds .any e = true → e.on ≠ i) → oi.apart ops ok = true := fun k ok hk hki hun hno => by
      refine hfree k ok hk hki ?_ hno
      by_cases hjk : j = k
      · subst hjk; exact hjun
      · rw [getD_set_ne true hjk] at hun; exact hun
     refine wpOp_mono (fun a' w' h3 => ?_) h2
     obtain ⟨h31, h32, h33⟩ := h3
     rw [hal] at h32 h33
     have hpd' : ∀ p ∈ Go.Proofs.YtkkbdgijfkocnaaGreatDoor.alive ops j pd, p.2 w' := fun p hp => h32 p (List.mem_cons_of_mem _ hp)
     refine ⟨hpd', ih _ (listed.setIfInBounds j true) a' w' hfree' (ready_mono hr (Ne.symm hji)) h31 (h32 _ (List.mem_cons_self ..)) hpd' ?_⟩
     rw [Array.setIfInBounds_comm _ _ hji]
     exact h33
end
section
variable {P : Program} {ops : Array Oper} {Q : Exit → Act → World → Prop}
def wpMoveP (P : Program) (ops : Array Oper) (Q : Exit → Act → World → Prop) : Pend → List (Nat × Bool) → Act → World → Prop
 | _, [], a, w => Q .normal a w
 | pd, (i, true) :: r, a, w => (∀ p ∈ pd, p.2 w) ∧ ∃ S o v pd', S w ∧ ops[i]? = some o ∧ YieldsIf P ops S o v a ∧ Covers ((i, S) :: pd) pd' ∧ wpMoveP P ops Q pd' r (a.put o.dst v) w
 | pd, (i, false) :: r, a, w => wpOp P ops Q i (fun a' w' => ∃ pd', Covers (alive ops i pd) pd' ∧ (∀ p ∈ pd', p.2 w') ∧ wpMoveP P ops Q pd' r a' w') a w
theorem anyP_of_move (hs : Region.noSelect ops = true) (hQ : ∀ c a d v w, Q (.panic c) (a.put d v) w → Q (.panic c) a w) : ∀ (r : List (Nat × Bool)) (pd : Pend) (ls : Array Bool) (a : Act) (w : World),
 wY .any ops r ls = true → wpMoveP P ops Q pd r a w → wpAnyP P ops Q r.length pd ls a w
 | [], pd, ls, a, w, hB, h => ⟨by simpa [wY] using hB, h⟩
 | (i, true) :: r, pd, ls, a, w, hB, h => by
   obtain ⟨hpd, S, o, v, pd', hS, ho, hy, hc, hr⟩ := h
   simp only [wY, if_true, Bool.and_eq_true] at hB
   exact wpAnyP_first ho (Region.noSelect_spec hs) (fun c a w h => hQ c a _ _ w h) r.length pd ls a w (Region.free_spec ho hB.1.1) (by simpa using hB.1.2) hy hS hpd (wE _ hc _ _ _ (anyP_of_move hs hQ r pd' _ _ w hB.2 hr))
 | (i, false) :: r, pd, ls, a, w, hB, h => by
   simp only [wY, Bool.false_eq_true, if_false, Bool.and_eq_true, beq_iff_eq] at hB
   refine ⟨fun h0 => (by rw [hB.1] at h0; cases h0), fun j hj => ?_⟩
   rw [hB.1] at hj
   obtain rfl : j = i := by simpa using hj
   exact wpOp_mono (fun a' w' h' => by
    obtain ⟨pd', h1, h2, h3⟩ := h'
    exact ⟨h1.at h2, wE _ h1 _ _ _ (anyP_of_move hs hQ r pd' _ _ _ hB.2 h3)⟩) h
end
abbrev Kap := List (Nat × List Nat)
def pendOf (γ : Nat → Value) (own : List (Nat × Box)) (w : World) (κ : Kap) : Pend := κ.map fun p => (p.1, fun x => SameOn (vis p.2 γ own) w x)
theorem qak {γ : Nat → Value} {own : List (Nat × Box)} {w : World} {κ : Kap} : ∀ p ∈ pendOf γ own w κ, p.2 w := fun p hp => by
 obtain ⟨q, _, rfl⟩ := List.mem_map.1 hp
 exact SameOn.refl _ _
def kapB (o : Oper) (κ : Kap) : Kap := κ.filter fun p => !waitsO o p.1
def SWP (P : Program) (ops : List Oper) (κ : Kap) (order : List (Nat × Bool)) (Q : St → Prop) (st : St) : Prop := ∀ (w0 : Base) (Sx : Nat → Prop) (γ : Nat → Value) (a : Act) (w : World) (QQ : Exit → Act → World → Prop), Sim w0 Sx γ st a w →
 (∀ st' γ' a' w', Sim w0 Sx γ' st' a' w' → Q st' → QQ .normal a' w') → wpMoveP P ops.toArray (NoPanic QQ) (pendOf γ st.own w κ) order a w
section
variable {P : Program} {ops : List Oper} {κ : Kap} {st : St} {Q : St → Prop} {i : Nat} {r : List (Nat × Bool)} {o : Oper}
theorem swp_nil (h : Q st) : SWP P ops κ [] Q st := fun _ _ γ a w _ hI hQ => hQ st γ a w hI h
theorem swp_skip {b : Bool} (hi : nthO ops i = some o) (hw : ja ops st o = some false) (hd : zl st o.dst = true) (h : SWP P ops κ r Q (st.put o.dst (.tup []))) : SWP P ops κ ((i, b) :: r) Q st := fun w0 Sx γ a w QQ hI hQ => by
 have hrest := h w0 Sx γ _ w QQ (hI.skip hd) hQ
 simp only [wS] at hrest
 cases b with
 | true => exact ⟨qak, fun _ => True, o, undef, _, trivial, (zG ops i).trans hi, Or.inr ⟨zw hI hw, rfl⟩, fun p hp => by
  rcases List.mem_cons.1 hp with rfl | hp
  · exact .inl fun _ => trivial
  · exact .inr ⟨p, hp, rfl, fun _ h => h⟩, hrest⟩
 | false =>
   unfold wpMoveP wpOp
   rw [(zG ops i).trans hi]
   simp only [zw hI hw, Bool.false_eq_true, if_false]
   exact ⟨_, fun p hp => .inr ⟨p, (mem_alive.1 hp).1, rfl, fun _ h => h⟩, qak, hrest⟩
theorem swp_act {Ws : List Nat} (hi : nthO ops i = some o) (hw : ja ops st o = some true) (hK : (kapB o κ).all (fun p => Ws.all fun j => p.2.contains j) = true) (h : ActOk P Ws o st (SWP P ops (kapB o κ) r Q)) : SWP P ops κ ((i, false) :: r) Q st := fun w0 Sx γ a w QQ hI hQ => by
 have hsub : ∀ p ∈ kapB o κ, ∀ j ∈ Ws, j ∈ p.2 := fun p hp j hj => by simpa using List.all_eq_true.1 (List.all_eq_true.1 hK p hp) j hj
 have hio := (zG ops i).trans hi
 unfold wpMoveP wpOp
 rw [hio]
 simp only [zw hI hw, if_true]
 refine Or.inl ?_
 have := h w0 Sx γ a w (NoPanic QQ) hI
 have mono : ∀ {a' w'}, (∃ γ' st', SWP P ops (kapB o κ) r Q st' ∧ Sim w0 Sx γ' st' a' w' ∧ SameOn (vis Ws γ st.own) w w' ∧ ∀ K : List Nat, (∀ i ∈ Ws, i ∈ K) → ∀ b, b < w.heap.size → vis K γ st.own b → vis K γ' st'.own b) →
  ∃ pd' : Pend, Covers (alive ops.toArray i (pendOf γ st.own w κ)) pd' ∧ (∀ p ∈ pd', p.2 w') ∧ wpMoveP P ops.toArray (NoPanic QQ) pd' r a' w' := fun {a' w'} ⟨γ', st', h1, h2, h3, h4⟩ => by
  refine ⟨pendOf γ' st'.own w' (kapB o κ), fun p hp => ?_, qak, h1 w0 Sx γ' a' w' QQ h2 hQ⟩
  obtain ⟨hp1, hp2⟩ := mem_alive.1 hp
  obtain ⟨q, hq, rfl⟩ := List.mem_map.1 hp1
  have hq' : q ∈ kapB o κ := List.mem_filter.2 ⟨hq, by rw [hp2 o hio]; rfl⟩
  have hs := hsub q hq'
  refine .inr ⟨_, List.mem_map.2 ⟨q, hq', rfl⟩, rfl, fun x hx => ⟨Nat.le_trans h3.size hx.size, fun b hb hv => ?_⟩⟩
  have e1 := h3.block b hb (fun j bx hj hjW hjb => hv j bx hj (by simpa using hs j (by simpa using hjW)) hjb)
  have e2 := hx.block b (Nat.lt_of_lt_of_le hb h3.size) (h4 q.2 hs b hb hv)
  exact e2.trans e1
 unfold Oper.wp at this ⊢
 generalize (execOp a.eval o).run P w = res at *
 cases res with
 | ok n w' =>
   cases n <;> simp only [Oper.upon] at this ⊢ <;> first
    | exact mono this
    | exact this
    | exact Calls.mono this (fun e w'' he => by cases e <;> first | exact mono he | exact he)
    | exact Rows.mono this (fun _ _ he => mono he)
 | halt x w' => cases x <;> simp only [Oper.upon] at this ⊢ <;> exact this
theorem sw_region_pend {id : Nat} {l : List Oper} {QS : SEx → St → Prop} (order : List (Nat × Bool)) (hm : P.follows .mixedOrders = true) (hs : Region.noSelect l.toArray = true)
 (hB : (wY .any l.toArray order (Array.replicate l.toArray.size false) && order.length == l.toArray.size) = true) (h : SWP P l [] order (QS .normal) st) : SW P (.region id l.toArray true) QS st := fun w0 Sx γ a w QQ hI hQ => by
 simp only [Bool.and_eq_true, beq_iff_eq] at hB
 refine wp_region_noPanic (wp_region_any hm (qau _ [] _ _ _ ?_))
 have h1 := h w0 Sx γ a w.drew QQ hI.drew fun s' γ' a' w' hI' hq => hQ .normal s' γ' a' w' hI' hq
 have := anyP_of_move hs (fun _ _ _ _ _ h => h) order _ (Array.replicate l.toArray.size false) a w.drew hB.1 h1
 rw [hB.2] at this
 exact this
end
section
variable {α : Type}
def fNat (n : Nat) (k : Nat → α) : α := match n with
 | 0 => k 0
 | .succ m => k (.succ m)
theorem qar (n : Nat) (k : Nat → α) : fNat n k = k n := by cases n <;> rfl
def fInt (n : Int) (k : Int → α) : α := match n with
 | .ofNat a => fNat a fun a => k (.ofNat a)
 | .negSucc a => fNat a fun a => k (.negSucc a)
theorem fInt_eq (n : Int) (k : Int → α) : fInt n k = k n := by cases n <;> simp [fInt, qar]
def fBool (b : Bool) (k : Bool → α) : α := match b with
 | true => k true
 | false => k false
theorem fBool_eq (b : Bool) (k : Bool → α) : fBool b k = k b := by cases b <;> rfl
def fList {β : Type} : List β → (List β → α) → α
 | [], k => k []
 | x :: r, k => fList r fun r => k (x :: r)
theorem wm {β : Type} : ∀ (l : List β) (k : List β → α), fList l k = k l
 | [], k => rfl
 | x :: r, k => by rw [fList, wm r]
def fStr (s : ByteArray) (k : ByteArray → α) : α := match s with
 | ⟨⟨l⟩⟩ => fList l fun l => k ⟨⟨l⟩⟩
theorem fStr_eq (s : ByteArray) (k : ByteArray → α) : fStr s k = k s := by
 obtain ⟨⟨l⟩⟩ := s; simp [fStr, wm]
def fVal (v : Value) (k : Value → α) : α := match v with
 | .int q n => fInt n fun n => k (.int q n)
 | .bool b => fBool b fun b => k (.bool b)
 | .string s => fStr s fun s => k (.string s)
 | v => k v
theorem fVal_eq (v : Value) (k : Value → α) : fVal v k = k v := by
 cases v <;> simp [fVal, fInt_eq, fBool_eq, fStr_eq]
def fLeaf (p : PV) (k : PV → α) : α := match p with
 | .v x => fVal x fun x => k (.v x)
 | p => k p
theorem fLeaf_eq (p : PV) (k : PV → α) : fLeaf p k = k p := by cases p <;> simp [fLeaf, fVal_eq]
def fLeafs : List PV → (List PV → α) → α
 | [], k => k []
 | p :: r, k => fLeaf p fun p => fLeafs r fun r => k (p :: r)
theorem fLeafs_eq : ∀ (l : List PV) (k : List PV → α), fLeafs l k = k l
 | [], k => rfl
 | p :: r, k => by rw [fLeafs, fLeaf_eq, fLeafs_eq r]
def fPV (p : PV) (k : PV → α) : α := match p with
 | .v x => fVal x fun x => k (.v x)
 | .agg cs => fLeafs cs fun cs => k (.agg cs)
 | .rp cs => fLeafs cs fun cs => k (.rp cs)
 | .sl z l => fList l fun l => k (.sl z l)
 | p => k p
theorem fPV_eq (p : PV) (k : PV → α) : fPV p k = k p := by cases p <;> simp [fPV, fVal_eq, fLeafs_eq, wm]
def fOne (s : SV) (k : SV → α) : α := match s with
 | .p x => fPV x fun x => k (.p x)
 | .ptr i o => fNat i fun i => fNat o fun o => k (.ptr i o)
 | .eptr i z x o => fNat x fun x => fNat o fun o => k (.eptr i z x o)
 | .view i z lo hi => fNat lo fun lo => fNat hi fun hi => k (.view i z lo hi)
 | s => k s
theorem fOne_eq (s : SV) (k : SV → α) : fOne s k = k s := by cases s <;> simp [fOne, fPV_eq, qar]
def fOnes : List SV → (List SV → α) → α
 | [], k => k []
 | s :: r, k => fOne s fun s => fOnes r fun r => k (s :: r)
theorem fOnes_eq : ∀ (l : List SV) (k : List SV → α), fOnes l k = k l
 | [], k => rfl
 | s :: r, k => by rw [fOnes, fOne_eq, fOnes_eq r]
def fMid (s : SV) (k : SV → α) : α := match s with
 | .agg cs => fOnes cs fun cs => k (.agg cs)
 | .fn f cs => fOnes cs fun cs => k (.fn f cs)
 | s => fOne s k
theorem fMid_eq (s : SV) (k : SV → α) : fMid s k = k s := by cases s <;> simp [fMid, fOne_eq, fOnes_eq]
def fMids : List SV → (List SV → α) → α
 | [], k => k []
 | s :: r, k => fMid s fun s => fMids r fun r => k (s :: r)
theorem fMids_eq : ∀ (l : List SV) (k : List SV → α), fMids l k = k l
 | [], k => rfl
 | s :: r, k => by rw [fMids, fMid_eq, fMids_eq r]
def fSV (s : SV) (k : SV → α) : α := match s with
 | .tup cs => fMids cs fun cs => k (.tup cs)
 | s => fMid s k
theorem fSV_eq (s : SV) (k : SV → α) : fSV s k = k s := by cases s <;> simp [fSV, fMid_eq, fMids_eq]
def fFr : List (Nat × SV) → (List (Nat × SV) → α) → α
 | [], k => k []
 | (t, s) :: r, k => fMid s fun s => fFr r fun r => k ((t, s) :: r)
theorem fFr_eq : ∀ (l : List (Nat × SV)) (k : List (Nat × SV) → α), fFr l k = k l
 | [], k => rfl
 | (t, s) :: r, k => by rw [fFr, fMid_eq, fFr_eq r]
def fEls : List (List PV) → (List (List PV) → α) → α
 | [], k => k []
 | e :: r, k => fLeafs e fun e => fEls r fun r => k (e :: r)
theorem fEls_eq : ∀ (l : List (List PV)) (k : List (List PV) → α), fEls l k = k l
 | [], k => rfl
 | e :: r, k => by rw [fEls, fLeafs_eq, fEls_eq r]
def fMap : List (Value × PV) → (List (Value × PV) → α) → α
 | [], k => k []
 | (v, p) :: r, k => fVal v fun v => fPV p fun p => fMap r fun r => k ((v, p) :: r)
theorem fMap_eq : ∀ (l : List (Value × PV)) (k : List (Value × PV) → α), fMap l k = k l
 | [], k => rfl
 | (v, p) :: r, k => by rw [fMap, fVal_eq, fPV_eq, fMap_eq r]
def fBox (b : Box) (k : Box → α) : α := match b with
 | .row e z l => fList l fun l => k (.row e z l)
 | .cells cs => fOnes cs fun cs => k (.cells cs)
 | .mp es => fList es fun es => k (.mp es)
 | .rws e z pre mid post => fOnes mid fun mid => k (.rws e z pre mid post)
theorem fBox_eq (b : Box) (k : Box → α) : fBox b k = k b := by cases b <;> simp [fBox, wm, fOnes_eq]
def fOwn : List (Nat × Box) → (List (Nat × Box) → α) → α
 | [], k => k []
 | (i, b) :: r, k => fNat i fun i => fBox b fun b => fOwn r fun r => k ((i, b) :: r)
theorem fOwn_eq : ∀ (l : List (Nat × Box)) (k : List (Nat × Box) → α), fOwn l k = k l
 | [], k => rfl
 | (i, b) :: r, k => by rw [fOwn, qar, fBox_eq, fOwn_eq r]
end
def ible (a b : Int) : Bool := match a, b with
 | .ofNat a, .ofNat b => Nat.ble a b
 | .negSucc _, .ofNat _ => true
 | .ofNat _, .negSucc _ => false
 | .negSucc a, .negSucc b => Nat.ble b a
theorem jY {a b : Int} (h : ible a b = true) : a ≤ b := by
 cases a <;> cases b <;> simp only [ible, Nat.ble_eq] at h <;> first | (cases h; done) | (simp only [Int.ofNat_eq_natCast, Int.negSucc_eq]; omega)
def wI (n : Int) (m : Nat) : Bool := match n with
 | .ofNat a => Nat.blt a m
 | .negSucc _ => false
theorem zX {n : Int} {m : Nat} (h : wI n m = true) : 0 ≤ n ∧ n < m := by
 cases n <;> simp [wI, Nat.blt] at h
 simp only [Int.ofNat_eq_natCast]; omega
def sEq : List UInt8 → List UInt8 → Bool
 | [], [] => true
 | a :: r, b :: s => bif Nat.beq a.toNat b.toNat then sEq r s else false
 | _, _ => false
noncomputable def lkF {α : Type} (t : Nat) (l : List (Nat × α)) : Option α := @List.rec (Nat × α) (fun _ => Option α) none (fun p _ ih => @Prod.rec Nat α (fun _ => Option α) (fun u s => @Bool.rec (fun _ => Option α) ih (some s) (Nat.beq t u)) p) l
theorem qW {α : Type} (t : Nat) : ∀ l : List (Nat × α), lkF t l = lk t l
 | [] => rfl
 | (u, s) :: r => by
   have ih := qW t r
   unfold lkF at ih ⊢
   rw [lk]
   show @Bool.rec (fun _ => Option α) _ _ _ = _
   cases h : Nat.beq t u <;> simp [ih]
noncomputable def evF (st : St) (x : Operand) : Option SV := match x with
 | .tmp t => lkF t st.fr
 | x => evS st x
theorem evF_eq (st : St) (x : Operand) : evF st x = evS st x := by cases x <;> simp [evF, evS, qW]
noncomputable section
def binC (op : BinOp) (a b : Value) : Bool := match op with
 | .shl => (match b with | .int _ b => ible 0 b | _ => false)
 | .shr => (match b with | .int _ b => ible 0 b | _ => false)
 | .quo => (match b with | .int _ b => !(decide (b = 0)) | _ => false)
 | .rem => (match b with | .int _ b => !(decide (b = 0)) | _ => false)
 | .add => (match a, b with | .string a, .string b => Nat.ble (a.size + b.size) 9223372036854775807 | _, _ => true)
 | _ => true
def rBinC (T : TT) (op : BinOp) (t : TypeId) (a b : Option SV) : Bool := match a, b with
 | some (.p (.v a)), some (.p (.v b)) => binC op a b
 | some (.p (.agg xs)), some (.p (.agg _)) => (match lkF t T with
   | some ⟨_, _, _, z, _⟩ => zd xs z
   | none => false)
 | _, _ => false
def jn (T : TT) (st : St) (t : TypeId) (a i : Option SV) : Bool := match i with
 | some (.p (.v (.int _ n))) => (match a with
   | some (.p (.sl _ l)) => wI n l.length
   | some (.row j) => (match lkF j st.own with
     | some (.row _ _ l) => wI n l.length
     | some (.rws _ z pre mid post) => wI n (pre.length + (mid.length / z + post.length))
     | _ => false)
   | some (.view _ _ lo hi) => wI n (hi - lo)
   | _ => (match lkF t T with
     | some ⟨_, _, .arr len _, _, _⟩ => wI n len
     | _ => false))
 | _ => false
def rIndexC (T : TT) (t : TypeId) (a i : Option SV) : Bool := match i with
 | some (.p (.v (.int _ n))) => (match a with
   | some (.p (.v (.string s))) => wI n s.size
   | _ => (match lkF t T with
     | some ⟨_, _, .arr len _, _, _⟩ => wI n len
     | _ => false))
 | _ => false
def endsC (st : St) (n : Nat) (lo hi : Option Operand) : Bool := match ends st n lo hi with
 | some (l, h) => (ible 0 l && ible l h) && ible h (.ofNat n)
 | none => false
def rSliceC (st : St) (a : Option SV) (lo hi : Option Operand) : Bool := match a with
 | some (.p (.v (.string s))) => endsC st s.size lo hi
 | some (.p (.sl _ xs)) => endsC st xs.length lo hi
 | some (.row j) => (match lkF j st.own with
   | some (.row _ _ xs) => endsC st xs.length lo hi
   | _ => false)
 | some (.view _ _ lo0 hi0) => endsC st (hi0 - lo0) lo hi
 | _ => false
def rLoadC (st : St) (a : Option SV) : Bool := match a with
 | some (.eptr j _ k _) => (match lkF j st.own with
   | some (.row _ _ l) => Nat.blt k l.length
   | _ => false)
 | _ => true
def rLookupC (T : TT) (st : St) (t : TypeId) (m : Option SV) : Bool := match m, lkF t T with
 | some (.row j), some ⟨_, _, .mp kt _, _, _⟩ => (match lkF kt T, lkF j st.own with
   | some ki, some (.mp es) => es.all fun x => kdOk ki.d x.1
   | _, _ => false)
 | _, _ => false
section
variable {β : Type}
def goF (r : Option (Prop × SV)) (c : Bool) (k : SV → Option β) : Option β := match r with
 | some (_, s) => bif c then fSV s k else none
 | none => none
def goP (r : Option (Prop × SV)) (k : SV → Option β) : Option β := match r with
 | some (_, s) => k s
 | none => none
def goS (r : Option SV) (k : SV → Option β) : Option β := match r with
 | some s => k s
 | none => none
def eStr (op : BinOp) (a b : ByteArray) (k : SV → Option β) : Option β := match op with
 | .eql => fBool (sEq a.data.toList b.data.toList) fun r => k (.p (.v (.bool r)))
 | .neq => fBool (!(sEq a.data.toList b.data.toList)) fun r => k (.p (.v (.bool r)))
 | .add => bif Nat.ble (a.size + b.size) 9223372036854775807 then fList (a.data.toList ++ b.data.toList) fun l => k (.p (.v (.string ⟨⟨l⟩⟩))) else none
 | .lss => fBool (Op.bytesLess a.data.toList b.data.toList) fun r => k (.p (.v (.bool r)))
 | .geq => fBool (!(Op.bytesLess a.data.toList b.data.toList)) fun r => k (.p (.v (.bool r)))
 | .leq => fBool (Op.bytesLess a.data.toList b.data.toList || sEq a.data.toList b.data.toList) fun r => k (.p (.v (.bool r)))
 | .gtr => fBool (!(Op.bytesLess a.data.toList b.data.toList || sEq a.data.toList b.data.toList)) fun r => k (.p (.v (.bool r)))
 | _ => none
def isNil (T : TT) (st : St) (t : TypeId) (ptr : Bool) (a : SV) : Option Bool := match lkF t T, ptr with
 | some ⟨_, _, .sl _, _, _⟩, false => (match a with
   | .p (.v (.slice none 0 0)) => some true
   | .p (.sl _ (_ :: _)) => some false
   | .row j => (match lkF j st.own with
     | some (.row _ _ (_ :: _)) => some false
     | _ => none)
   | _ => none)
 | some ⟨_, _, .ptr, _, _⟩, true => (match a with
   | .p (.v (.pointer none)) => some true
   | .p (.rp _) => some false
   | .ptr _ _ => some false
   | .eptr _ _ _ _ => some false
   | _ => none)
 | _, _ => none
def eIfc (T : TT) (op : BinOp) (t t' : TypeId) (a : Option SV) (k : SV → Option β) : Option β := match a, lkF t T, Nat.beq t t' with
 | some (.p (.v .nilIface)), some ⟨_, _, .ifc, _, _⟩, true => (match op with
   | .eql => k (.p (.v (.bool true)))
   | .neq => k (.p (.v (.bool false)))
   | _ => none)
 | _, _, _ => none
def eNil (T : TT) (st : St) (op : BinOp) (t t' : TypeId) (ptr : Bool) (a : Option SV) (k : SV → Option β) : Option β := match a, Nat.beq t t' with
 | some a, true => (match isNil T st t ptr a, op with
   | some b, .eql => k (.p (.v (.bool b)))
   | some true, .neq => k (.p (.v (.bool false)))
   | some false, .neq => k (.p (.v (.bool true)))
   | _, _ => none)
 | _, _ => none
def isConst : Operand → Bool
 | .const _ => true
 | _ => false
def eBin (T : TT) (st : St) (op : BinOp) (t t' : TypeId) (cst : Bool) (a b : Option SV) (k : SV → Option β) : Option β := match a, b with
 | some (.p (.v (.string a))), some (.p (.v (.string b))) => eStr op a b k
 | a, some (.p (.v (.slice none 0 0))) => eNil T st op t t' false a k
 | a, some (.p (.v (.pointer none))) => eNil T st op t t' true a k
 | a, some (.p (.v .nilIface)) => bif cst then eIfc T op t t' a k else none
 | a, b => goF (rBin T op t a b) (rBinC T op t a b) k
def eIndex (T : TT) (t : TypeId) (a i : Option SV) (k : SV → Option β) : Option β := match a, i with
 | some (.p (.v (.string s))), some (.p (.v (.int _ n))) => (match lkF t T with
   | some ⟨_, _, .str, _, _⟩ => (match s.data.toList[n.toNat]? with
     | some b => bif wI n s.size then fNat b.toNat fun b => k (.p (.v (.int .u8 (.ofNat b)))) else none
     | none => none)
   | _ => none)
 | a, i => goF (rIndex T t a i) (rIndexC T t a i) k
def eSliceX (T : TT) (st : St) (t : TypeId) (a : Option SV) (lo hi : Option Operand) (k : SV → Option β) : Option β := match lkF t T with
 | some ⟨_, _, .sl e, _, _⟩ => (match a, ends st 0 lo hi with
   | some (.p (.v (.slice none 0 0))), some (l, h) => bif (lkF e T).isSome && (ible 0 l && ible l h && ible h 0) then k (.p (.v (.slice none 0 0))) else none
   | _, _ => none)
 | _ => none
def eSlice (T : TT) (st : St) (t : TypeId) (a : Option SV) (lo hi mx : Option Operand) (k : SV → Option β) : Option β := match a with
 | some (.p (.v (.string s))) => (match mx, lkF t T, ends st s.size lo hi with
   | none, some ⟨_, _, .str, _, _⟩, some (l, h) => bif (ible 0 l && ible l h) && ible h (.ofNat s.size) then fList ((s.data.toList.drop l.toNat).take (h.toNat - l.toNat)) fun l => k (.p (.v (.string ⟨⟨l⟩⟩))) else none
   | _, _, _ => none)
 | some (.p (.v (.slice none 0 0))) => (match mx with
   | none => eSliceX T st t a lo hi k
   | some _ => none)
 | a => goF (rSlice T st t a lo hi mx) (rSliceC st a lo hi) k
def eCall (T : TT) (st : St) (c : Call) (k : SV → Option β) : Option β := match c.callee with
 | .builtin .len => (match c.args.toList, c.argTypes.toList with
   | [x], [t] => goF (rLen T st t (evF st x)) true k
   | _, _ => none)
 | .builtin .min => (match c.args.toList with
   | [x, y] => goF (rMinMax true (evF st x) (evF st y)) true k
   | _ => none)
 | .builtin .max => (match c.args.toList with
   | [x, y] => goF (rMinMax false (evF st x) (evF st y)) true k
   | _ => none)
 | .builtin .real => (match c.args.toList with
   | [x] => goP (rReal (evF st x)) k
   | _ => none)
 | .builtin .imag => (match c.args.toList with
   | [x] => goP (rImag (evF st x)) k
   | _ => none)
 | .builtin .complex => (match c.args.toList with
   | [x, y] => goP (rCplx (evF st x) (evF st y)) k
   | _ => none)
 | _ => none
def eUn (op : UnOp) (x : Option SV) (k : SV → Option β) : Option β := match x with
 | some (.p (.v v)) => (match unS op v with
   | some v => fVal v fun v => k (.p (.v v))
   | none => none)
 | _ => none
def eFn (T : TT) (K : List Nat) (st : St) (o : Op) (k : SV → Option β) : Option β := goF (opR T K st o) true k
def eExtract (x : Option SV) (n : Nat) (k : SV → Option β) : Option β := match x with
 | some (.tup cs) => goS cs[n]? k
 | _ => none
def byteOf : List PV → Option UInt8
 | [.v (.int .u8 n)] => some (UInt8.ofNat n.toNat)
 | _ => none
def bytesOf : List (List PV) → Option (List UInt8)
 | [] => some []
 | c :: r => match byteOf c with
   | some b => match bytesOf r with
     | some l => some (b :: l)
     | none => none
   | none => none
def eText (T : TT) (s d : TypeId) (l : List (List PV)) (k : SV → Option β) : Option β := match lkF s T, lkF d T with
 | some ⟨_, _, .sl e, _, _⟩, some ⟨_, _, .str, _, _⟩ => (match lkF e T, bytesOf l with
   | some ⟨_, _, .int .u8, _, _⟩, some bs => fList bs fun bs => k (.p (.v (.string ⟨⟨bs⟩⟩)))
   | _, _ => none)
 | _, _ => none
def eConv (T : TT) (K : List Nat) (st : St) (s d : TypeId) (a : Option SV) (k : SV → Option β) : Option β := match a with
 | some (.p (.sl _ l)) => eText T s d l k
 | some (.p (.v (.slice none 0 0))) => eText T s d [] k
 | some (.row j) => bif K.contains j then none else (match lkF j st.own with
   | some (.row _ _ l) => eText T s d l k
   | _ => none)
 | a => goF (rConv T s d a) true k
def isRd (o : Op) : Bool := match o with
 | .move _ => true | .assign _ => true | .pick _ _ _ => true | .binOp _ _ _ _ _ => true | .unOp _ _ _ => true | .convert _ _ _ => true | .field _ _ _ => true | .fieldAddr _ _ _ => true
 | .indexAddr _ _ _ => true | .index _ _ _ => true | .slice _ _ _ _ _ => true | .load _ _ => true | .extract _ _ => true | .makeFunc _ _ _ => true | .lookup _ _ _ _ => true | .build _ _ => true | .nilCheck _ => true
 | .call c => (match c.callee with | .builtin .append => false | .builtin _ => true | _ => false)
 | _ => false
def opE (T : TT) (K : List Nat) (st : St) (o : Op) (k : SV → Option β) : Option β := match o with
 | .move x => goS (evF st x) k
 | .assign x => goS (evF st x) k
 | .pick c a b => goP (rPick (evF st c) (evF st a) (evF st b)) k
 | .binOp op t x y t' => eBin T st op t t' (isConst y) (evF st x) (evF st y) k
 | .unOp op _ x => eUn op (evF st x) k
 | .convert s d x => eConv T K st s d (evF st x) k
 | .field t x f => goF (rField T t (evF st x) f) true k
 | .fieldAddr t x f => goF (qal T t (evF st x) f) true k
 | .indexAddr t x i => goF (wu T st t (evF st x) (evF st i)) (jn T st t (evF st x) (evF st i)) k
 | .index t x i => eIndex T t (evF st x) (evF st i) k
 | .slice t x lo hi mx => eSlice T st t (evF st x) lo hi mx k
 | .load t a => goF (rLoad T K st t (evF st a)) (rLoadC st (evF st a)) k
 | .extract x n => eExtract (evF st x) n k
 | .makeFunc f first caps => eFn T K st (.makeFunc f first caps) k
 | .call c => eCall T st c k
 | .lookup t m key true => goF (rLookup T K st t (evF st m) (evF st key)) (rLookupC T st t (evF st m)) k
 | .build t parts => eFn T K st (.build t parts) k
 | .nilCheck x => eFn T K st (.nilCheck x) k
 | _ => none
end
def mem (i : Nat) : List Nat → Bool
 | [] => false
 | j :: r => bif Nat.beq i j then true else mem i r
mutual
def refs : SV → List Nat
 | .p _ => []
 | .junk => []
 | .row i => [i]
 | .ptr i _ => [i]
 | .eptr i _ _ _ => [i]
 | .view i _ _ _ => [i]
 | .agg cs => refss cs
 | .tup cs => refss cs
 | .fn _ cs => refss cs
def refss : List SV → List Nat
 | [] => []
 | s :: r => refs s ++ refss r
end
def reach (own : List (Nat × Box)) : Nat → List Nat → List Nat → List Nat
 | 0, _, seen => seen
 | _ + 1, [], seen => seen
 | f + 1, i :: todo, seen => bif mem i seen then reach own f todo seen else match lkF i own with
   | some (.cells cs) => reach own f (refss cs ++ todo) (i :: seen)
   | some _ => reach own f todo (i :: seen)
   | none => reach own f todo seen
def number (big : Bool) : Nat → List Nat → List (Nat × Nat)
 | _, [] => []
 | k, i :: r => bif !big && Nat.ble 1000000 i then (i, i) :: number big k r else (i, k) :: number big (k + 1) r
def rowsIn (st : St) : List Nat → List Nat
 | [] => []
 | i :: r => match lkF i st.own with
   | some (.row _ _ _) => i :: rowsIn st r
   | _ => rowsIn st r
def keys : List (Nat × SV) → List Nat → List Nat
 | [], acc => acc
 | (t, .junk) :: r, acc => keys r acc
 | (t, _) :: r, acc => bif mem t acc then keys r acc else keys r (t :: acc)
section
variable {α : Type}
def fNats : List Nat → (List Nat → α) → α
 | [], k => k []
 | i :: r, k => fNat i fun i => fNats r fun r => k (i :: r)
theorem fNats_eq : ∀ (l : List Nat) (k : List Nat → α), fNats l k = k l
 | [], k => rfl
 | i :: r, k => by rw [fNats, qar, fNats_eq r]
def fRen : List (Nat × Nat) → (List (Nat × Nat) → α) → α
 | [], k => k []
 | (i, j) :: r, k => fNat i fun i => fNat j fun j => fRen r fun r => k ((i, j) :: r)
theorem fRen_eq : ∀ (l : List (Nat × Nat)) (k : List (Nat × Nat) → α), fRen l k = k l
 | [], k => rfl
 | (i, j) :: r, k => by rw [fRen, qar, qar, fRen_eq r]
def fSt (st : St) (k : St → α) : α := match st with
 | ⟨n, fr, own⟩ => fNat n fun n => fFr fr fun fr => fOwn own fun own => k ⟨n, fr, own⟩
theorem fSt_eq (st : St) (k : St → α) : fSt st k = k st := by cases st; simp [fSt, qar, fFr_eq, fOwn_eq]
def fN (st : St) (k : St → α) : α := match st with
 | ⟨n, fr, own⟩ => fNat n fun n => k ⟨n, fr, own⟩
theorem fN_eq (st : St) (k : St → α) : fN st k = k st := by cases st; simp [fN, qar]
def putE (st : St) (dst : Option Tmp) (s : SV) (k : St → α) : α := match dst, st with
 | some d, ⟨n, fr, own⟩ => k ⟨n, (d, s) :: fr, own⟩
 | none, st => k st
theorem putE_eq (st : St) (dst : Option Tmp) (s : SV) (k : St → α) : putE st dst s k = k (st.put dst s) := by cases dst <;> rfl
end
section
variable {β : Type}
def frzAll : List Nat → St → (St → Option β) → Option β
 | [], st, k => k st
 | i :: r, st, k => match lkF i st.own with
   | some (.row _ z l) => fSt (st.frz i z l) fun st => frzAll r st k
   | _ => frzAll r st k
structure FnI where
 n : Nat
 c : Code
 ts : List ResultVar
 ords : List (Nat × List (Nat × Bool))
structure Cx where
 T : TT
 F : List (FuncId × FnI)
 C : FuncId → List PV → Option SV
abbrev Ret := Option (SV × List (Nat × Box))
def newBox (st : St) (d : Nat) (s : SV) (bx : Box) (k : List Nat → St → Option β) : Option β :=
 bif (lkF d st.own).isNone && Nat.blt d st.n then fBox bx fun bx => fN ⟨st.n, (d, s) :: st.fr, (d, bx) :: st.own⟩ fun st => k [] st else none
def rhoOk (ρ : List (Nat × Nat)) : Bool := (dist (ρ.map (·.1)) && dist (ρ.map (·.2))) && ρ.all (fun p => Nat.ble 1000000 p.2)
def backE (st : St) (o : Oper) (ρ : List (Nat × Nat)) (rt : Ret) (k : List Nat → St → Option β) : Option β := match rt with
 | some (r, own') => bif zl st o.dst && backOk st ρ o.dst own' then (match st.back ρ o.dst r own' with
   | some st' => fSt st' fun st' => k (ρ.map (·.1)) st'
   | none => none) else none
 | none => none
def enterE (ev : FuncId → FnI → List SV → List (Nat × Box) → Ret) (st : St) (o : Oper) (f : FuncId) (fi : FnI) (caps : List SV) (xs : List Operand) (ρ : List (Nat × Nat)) (k : List Nat → St → Option β) : Option β := match ownR ρ st.own ρ, argWs st ρ xs, mapRs ρ caps with
 | some own, some a, some c => bif rhoOk ρ then (fOnes (a ++ c) fun args => fOwn own fun own => backE st o ρ (ev f fi args own) k) else none
 | _, _, _ => none
def callE (cx : Cx) (ev : FuncId → FnI → List SV → List (Nat × Box) → Ret) (st : St) (o : Oper) (pf : Bool) (f : FuncId) (caps : List SV) (xs : List Operand) (k : List Nat → St → Option β) : Option β :=
 match lkF f cx.F with
 | some fi => (match evs st xs with
   | some ss => fRen (number true 1000000 (reach st.own 1000 (refss ss ++ refss caps) [])) fun ρ => enterE ev st o f fi caps xs ρ k
   | none => none)
 | none => (match pf, pures caps, argPs st xs with
   | true, some cps, some (ps, _) => (match cx.C f (ps ++ cps) with
     | some r => bif flatS r && zl st o.dst then (putE st o.dst r fun st => k [] st) else none
     | none => none)
   | _, _, _ => none)
def isPS : SV → Bool
 | .p _ => true
 | _ => false
def appRow (st : St) (d : Nat) (e : TypeId) (ei : TyI) (j : Nat) (s2 : Option SV) (k : St → Option β) : Option β := match lkF j st.own, s2 with
 | some (.row e' z l), some s2 => (match srcL st ei.size (some j) s2 with
   | some l2 => bif Nat.beq e' e && Nat.beq z ei.size && Nat.ble (l.length + l2.length) reachBytes && Nat.ble ((l.length + l2.length) * ei.bytes) 140737488355328 && (lk d (killO j st.own)).isNone then
     (fList (l ++ l2) fun l3 => fSt ⟨st.n, (d, .row d) :: killF j st.fr, (d, .row e ei.size l3) :: killO j st.own⟩ k) else none
   | none => none)
 | _, _ => none
def shrunk (st : St) (t j z m : Nat) (e : TypeId) (l : List (List PV)) : St := ⟨st.n, (t, .row 904999) :: killF j st.fr, (904999, .row e z (l.take m)) :: killO j st.own⟩
def appView (st : St) (d : Nat) (e : TypeId) (ei : TyI) (sx xx : Operand) (j zv m : Nat) (k : St → Option β) : Option β := match sx, lkF j st.own with
 | .tmp t, some (.row e' z l0) => bif (lk 904999 st.own).isNone && Nat.beq zv z then fSt (shrunk st t j z m e' l0) fun st1 => appRow st1 d e ei 904999 (evF st1 xx) k else none
 | _, _ => none
def appNil (st : St) (d : Nat) (e : TypeId) (ei : TyI) (s2 : Option SV) (k : List Nat → St → Option β) : Option β := match s2 with
 | some s2 => (match srcL st ei.size none s2 with
   | some l2 => bif Nat.ble (l2.length * ei.bytes) 140737488355328 then newBox st d (.row d) (.row e ei.size l2) k else none
   | none => none)
 | none => none
def appE (T : TT) (st : St) (o : Oper) (sx xx : Operand) (t : TypeId) (k : List Nat → St → Option β) : Option β := match o.dst, lkF t T with
 | some d, some ⟨_, _, .sl e, _, _⟩ => (match lkF e T with
   | some ei => bif Nat.blt 0 ei.size && Nat.beq ei.zero.length ei.size && Nat.blt d st.n then (match evF st sx with
     | some (.p (.v (.slice none 0 0))) => appNil st d e ei (evF st xx) k
     | some (.row j) => appRow st d e ei j (evF st xx) fun st => k [j] st
     | some (.view j z 0 m) => appView st d e ei sx xx j z m fun st => k [j] st
     | _ => none) else none
   | none => none)
 | _, _ => none
def boxE (st : St) (dst : Option Tmp) (s : Option SV) (k : List Nat → St → Option β) : Option β := match dst, s with
 | some d, some s => (match cellsOf s with
   | some cs => bif cs.all oneS then newBox st d (.ptr d 0) (.cells cs) k else none
   | none => none)
 | _, _ => none
def allocE (T : TT) (st : St) (dst : Option Tmp) (e : TypeId) (k : List Nat → St → Option β) : Option β := match dst, lkF e T with
 | some d, some i => bif i.zero.all plain then newBox st d (.ptr d 0) (.cells (i.zero.map fun z => .p (.v z))) k else none
 | _, _ => none
def buildE (T : TT) (st : St) (dst : Option Tmp) (t : TypeId) (len : Nat) (xs : List Operand) (k : List Nat → St → Option β) : Option β := match dst, lkF t T, evs st xs with
 | some d, some ⟨_, _, .sl e, _, _⟩, some ss => (match lkF e T with
   | some ei => bif Nat.blt 0 ei.size && Nat.ble (len * ei.size) 16777216 && Nat.beq xs.length len then
    (fNats (rowsIn st (refss ss)) fun ids => frzAll ids st fun st => match bElems st ei.size xs with
     | some l => fEls l fun l => newBox st d (.row d) (.row e ei.size l) k
     | none => none)
    else none
   | none => none)
 | _, _, _ => none
def storeE (T : TT) (st : St) (t : TypeId) (ad x : Option SV) (k : List Nat → St → Option β) : Option β := match lkF t T, ad, x with
 | some ti, some (.ptr j off), some s => (match lkF j st.own, cellsOf s with
   | some (.cells cs), some xs => bif xs.all oneS && Nat.beq xs.length ti.size && Nat.ble (off + xs.length) cs.length then
    (fOnes (cs.take off ++ xs ++ cs.drop (off + xs.length)) fun cs => fOwn (setB j (.cells cs) st.own) fun own => fN ⟨st.n, st.fr, own⟩ fun st => k [j] st) else none
   | _, _ => none)
 | some ti, some (.eptr j z i off), some s => (match lkF j st.own, cellsP s with
   | some (.row e z' l), some xs => bif Nat.beq z z' && xs.all oneP && Nat.beq xs.length ti.size && Nat.ble (off + xs.length) z && Nat.blt i l.length then
    (fLeafs ((l.getD i []).take off ++ xs ++ (l.getD i []).drop (off + xs.length)) fun c => fList (l.set i c) fun l => fOwn (setB j (.row e z l) st.own) fun own => fN ⟨st.n, st.fr, own⟩ fun st => k [j] st) else none
   | _, _ => none)
 | _, _, _ => none
def mapE (T : TT) (st : St) (t : TypeId) (m key x : Option SV) (k : List Nat → St → Option β) : Option β := match lkF t T, m, key, x with
 | some ⟨_, _, .mp kt _, _, _⟩, some (.row j), some (.p (.v kv)), some (.p p) => (match lkF kt T, lkF j st.own with
   | some ki, some (.mp es) => bif kdOk ki.d kv && es.all (fun x => kdOk ki.d x.1) && (mfind kv es).isNone then
    (fMap (es ++ [(kv, p)]) fun es => fOwn (setB j (.mp es) st.own) fun own => fN ⟨st.n, st.fr, own⟩ fun st => k [j] st) else none
   | _, _ => none)
 | _, _, _, _ => none
def acallE (cx : Cx) (ev : FuncId → FnI → List SV → List (Nat × Box) → Ret) (st : St) (o : Oper) (c : Call) (k : List Nat → St → Option β) : Option β := match c.callee with
 | .builtin .append => (match c.args.toList, c.argTypes.toList with
   | [sx, xx], [t, t'] => bif Nat.beq t t' then appE cx.T st o sx xx t k else none
   | _, _ => none)
 | .value fo => (match evF st fo with
   | some s => (match fnOf s with
     | some (f, caps) => callE cx ev st o (isPS s) f caps c.args.toList k
     | none => none)
   | none => none)
 | _ => none
def actE (cx : Cx) (ev : FuncId → FnI → List SV → List (Nat × Box) → Ret) (st : St) (o : Oper) (k : List Nat → St → Option β) : Option β := match o.op with
 | .alloc e => allocE cx.T st o.dst e k
 | .box _ x => boxE st o.dst (evF st x) k
 | .buildSlice t len parts => (match zZ 0 parts.toList with
   | some xs => buildE cx.T st o.dst t len xs k
   | none => none)
 | .store t ad x => (match o.dst with
   | none => storeE cx.T st t (evF st ad) (evF st x) k
   | some _ => none)
 | .makeMap _ none => (match o.dst with
   | some d => newBox st d (.row d) (.mp []) k
   | none => none)
 | .mapUpdate t m key x => (match o.dst with
   | none => mapE cx.T st t (evF st m) (evF st key) (evF st x) k
   | some _ => none)
 | .call c => acallE cx ev st o c k
 | _ => none
def stepE (cx : Cx) (ev : FuncId → FnI → List SV → List (Nat × Box) → Ret) (K : List Nat) (st : St) (o : Oper) (k : List Nat → St → Option β) : Option β :=
 bif isRd o.op then (bif zl st o.dst then opE cx.T K st o.op fun s => putE st o.dst s fun st => k [] st else none) else actE cx ev st o k
end
def evT (cx : Cx) (ev : FuncId → FnI → List SV → List (Nat × Box) → Ret) (ops : List Oper) : List Oper → St → Option St
 | [], st => some st
 | o :: r, st => match ja ops st o with
   | some true => stepE cx ev [] st o fun _ st' => evT cx ev ops r st'
   | some false => bif zl st o.dst then putE st o.dst (.tup []) fun st => evT cx ev ops r st else none
   | none => none
def kapOf (K : List Nat) (st : St) (o : Op) : List Nat := match o with
 | .load _ a => (match evF st a with
   | some s => K.filter fun j => !mem j (refs s)
   | none => K)
 | .lookup _ m _ _ => (match evF st m with
   | some s => K.filter fun j => !mem j (refs s)
   | none => K)
 | .convert _ _ x => (match evF st x with
   | some (.row j) => K.filter fun i => !(Nat.beq i j)
   | _ => K)
 | _ => K
def okW (w : List Nat) (κ : Kap) : Bool := κ.all fun p => w.all fun i => mem i p.2
def evM (cx : Cx) (ev : FuncId → FnI → List SV → List (Nat × Box) → Ret) (ops : List Oper) (K : List Nat) (chk : Bool) : List (Nat × Bool) → Kap → List Nat → St → Option (List Nat × St)
 | [], _, ws, st => some (ws, st)
 | (i, b) :: r, κ, ws, st => match nthO ops i with
   | some o => match ja ops st o with
     | some true => bif b then (bif zl st o.dst then fNats (kapOf K st o.op) fun Ki => opE cx.T Ki st o.op fun s => putE st o.dst s fun st => evM cx ev ops K chk r ((i, Ki) :: κ) ws st else none)
       else stepE cx ev [] st o fun w st' => bif !chk || okW w (kapB o κ) then evM cx ev ops K chk r (kapB o κ) (w ++ ws) st' else none
     | some false => bif zl st o.dst then putE st o.dst (.tup []) fun st => evM cx ev ops K chk r κ ws st else none
     | none => none
   | none => none
def dstsOf : List Oper → List Nat
 | [] => []
 | o :: r => match o.dst with
   | some d => d :: (1000 * (d + 1)) :: dstsOf r
   | none => dstsOf r
def idsOf : List (Nat × Box) → List Nat
 | [] => []
 | (i, _) :: r => i :: idsOf r
def evReg (cx : Cx) (ev : FuncId → FnI → List SV → List (Nat × Box) → Ret) (ords : List (Nat × List (Nat × Bool))) (id : Nat) (ops : List Oper) (st : St) : Bool → Option St
 | false => evT cx ev ops ops st
 | true => match lkF id ords with
   | some od => fNats (idsOf st.own ++ dstsOf ops) fun K0 => match evM cx ev ops K0 true od [] [] st with
     | some (_, st') => some st'
     | none => match evM cx ev ops [] false od [] [] st with
       | some ([], st') => some st'
       | some (ws, _) => fNats ws fun ws => match evM cx ev ops ws true od [] [] st with
         | some (_, st') => some st'
         | none => none
       | none => none
   | none => none
def lent : List (Nat × Box) → List Nat
 | [] => []
 | (i, _) :: r => bif Nat.ble 1000000 i then i :: lent r else lent r
def turnE {β : Type} (ts : List Nat) (st : St) (k : St → Option β) : Option β :=
 fRen (number false 905000 (reach st.own 1000 (match frR (st.own.map fun p => (p.1, p.1)) st.fr ts with | some fr => refss (fr.map (·.2)) ++ lent st.own | none => lent st.own) [])) fun ρ => bif renOk ρ then (match st.only ts ρ with
  | some st' => fSt st' k
  | none => none) else none
def evC (cx : Cx) (ev : FuncId → FnI → List SV → List (Nat × Box) → Ret) (ords : List (Nat × List (Nat × Bool))) (again : Code → St → Option (SEx × St)) (jump : Code → Nat → St → Option (SEx × St)) : Code → St → Option (SEx × St)
 | .skip, st => some (.normal, st)
 | .region id ops d, st => match evReg cx ev ords id ops.toList st d with
   | some st' => some (.normal, st')
   | none => none
 | .seq a b, st => match evC cx ev ords again jump a st with
   | some (.normal, st') => evC cx ev ords again jump b st'
   | r => r
 | .cond c a b, st => match evF st c with
   | some (.p (.v (.bool true))) => evC cx ev ords again jump a st
   | some (.p (.v (.bool false))) => evC cx ev ords again jump b st
   | _ => none
 | .block id b, st => match evC cx ev ords again jump b st with
   | some (.exit i, st') => bif Nat.beq i id then some (.normal, st') else some (.exit i, st')
   | r => r
 | .loop b, st => fNats (keys st.fr []) fun ts => match evC cx ev ords again jump b st with
   | some (.normal, st') => turnE ts st' fun st'' => again (.loop b) st''
   | r => r
 | .exit id, st => some (.exit id, st)
 | .ret, st => some (.ret, st)
 | .label _, st => some (.normal, st)
 | .goto l, st => some (.goto l, st)
 | .scope b, st => match evC cx ev ords again jump b st with
   | some (.goto l, st') => turnE (keys st'.fr []) st' fun st'' => jump b l st''
   | r => r
 | _, _ => none
def resO (T : TT) (st : St) : ResultVar → Option SV
 | .tmp t => lk t st.fr
 | .cell a t => match rLoad T [] st t (lk a st.fr), lk a st.fr with
   | some (_, s), some (.ptr _ _) => some s
   | _, _ => none
def resOs (T : TT) (st : St) : List ResultVar → Option (List SV)
 | [] => some []
 | t :: r => match resO T st t with
   | some s => match resOs T st r with
     | some l => some (s :: l)
     | none => none
   | none => none
def resC (T : TT) (st : St) : List ResultVar → Option SV
 | [t] => resO T st t
 | ts => match resOs T st ts with
   | some l => some (.tup l)
   | none => none
def finE (T : TT) (ts : List ResultVar) (st : St) : Ret := match resC T st ts with
 | some s => fRen (number false 0 (reach st.own 1000 (refs s ++ lent st.own) [])) fun ρ => match s.mapR ρ, ownR ρ st.own ρ with
   | some r, some own => bif renOk ρ then fSV r fun r => fOwn own fun own => some (r, own) else none
   | _, _ => none
 | none => none
def finR (T : TT) (ts : List ResultVar) (r : Option (SEx × St)) : Ret := match r with
 | some (.normal, st') => finE T ts st'
 | some (.ret, st') => finE T ts st'
 | _ => none
def jumpE (run : Code → St → Option (SEx × St)) (go : St → Option (SEx × St)) (b : Code) (l : Nat) (st : St) : Option (SEx × St) := match findLabel b l with
 | some rest => (match run rest st with
   | some (.goto l', st') => bif Nat.beq l' l then turnE (keys st'.fr []) st' go else none
   | r => r)
 | none => none
abbrev Ords := List (Nat × List (Nat × Bool))
def evNJ (cx : Cx) : Nat → (Ords → Code → St → Option (SEx × St)) × (Ords → Code → Nat → St → Option (SEx × St))
 | 0 => (fun _ _ _ => none, fun _ _ _ _ => none)
 | n + 1 =>
   (fun ords c st => evC cx (fun _ fi args own => bif Nat.ble args.length fi.n then finR cx.T fi.ts ((evNJ cx n).1 fi.ords fi.c ⟨fi.n, jT 0 args, own⟩) else none) ords ((evNJ cx n).1 ords) ((evNJ cx n).2 ords) c st,
    fun ords b l st => jumpE (evC cx (fun _ fi args own => bif Nat.ble args.length fi.n then finR cx.T fi.ts ((evNJ cx n).1 fi.ords fi.c ⟨fi.n, jT 0 args, own⟩) else none) ords ((evNJ cx n).1 ords) ((evNJ cx n).2 ords)) ((evNJ cx n).2 ords b l) b l st)
def evN (cx : Cx) (n : Nat) (ords : Ords) (c : Code) (st : St) : Option (SEx × St) := (evNJ cx n).1 ords c st
def evJ (cx : Cx) (n : Nat) (ords : Ords) (b : Code) (l : Nat) (st : St) : Option (SEx × St) := (evNJ cx n).2 ords b l st
def chkR (ords : List (Nat × List (Nat × Bool))) (id : Nat) (ops : Array Oper) : Bool := match lk id ords with
 | some od => Region.noSelect ops && (wY .any ops od (Array.replicate ops.size false) && od.length == ops.size)
 | none => true
def chkC (ords : List (Nat × List (Nat × Bool))) : Code → Bool
 | .region id ops true => chkR ords id ops
 | .seq a b => chkC ords a && chkC ords b
 | .cond _ a b => chkC ords a && chkC ords b
 | .block _ b => chkC ords b
 | .loop b => chkC ords b
 | .scope b => chkC ords b
 | _ => true
end
theorem toList_loop (s : ByteArray) : ∀ (n i : Nat) (r : List UInt8), s.size - i = n → ByteArray.toList.loop s i r = r.reverse ++ s.data.toList.drop i
 | 0, i, r, h => by
   unfold ByteArray.toList.loop
   rw [if_neg (by omega), List.drop_of_length_le (by rw [Array.length_toList]; show s.size ≤ i; omega), List.append_nil]
 | n + 1, i, r, h => by
   unfold ByteArray.toList.loop
   have hi : i < s.data.toList.length := by rw [Array.length_toList]; show i < s.size; omega
   rw [if_pos (by omega), toList_loop s n (i + 1) _ (by omega), List.reverse_cons, List.append_assoc, ← List.getElem_cons_drop hi]
   have : s.get! i = s.data.toList[i] := by
    have h2 : i < s.data.size := by rw [Array.length_toList] at hi; exact hi
    show s.data[i]! = _
    rw [getElem!_pos s.data i h2]; simp
   rw [this]; rfl
theorem qaA (s : ByteArray) : s.toList = s.data.toList := by
 unfold ByteArray.toList
 rw [toList_loop s _ 0 [] rfl]; rfl
theorem sEq_ok : ∀ a b : List UInt8, sEq a b = (a == b)
 | [], [] => rfl
 | [], _ :: _ => rfl
 | _ :: _, [] => rfl
 | a :: r, b :: s => by
   rw [sEq, sEq_ok r s]
   by_cases h : a = b
   · subst h; simp
   · have : Nat.beq a.toNat b.toNat = false := by
      cases h2 : Nat.beq a.toNat b.toNat with
      | false => rfl
      | true => exact absurd (UInt8.toNat_inj.1 (Nat.eq_of_beq_eq_true h2)) h
     rw [this]; simp [h]
def RdO (P : Program) (K : List Nat) (st : St) (o : Oper) (s : SV) : Prop := ∀ (w0 : Base) (Sx : Nat → Prop) (γ : Nat → Value) (a : Act) (w : World), Sim w0 Sx γ st a w →
 ∃ v, RelS (okO Sx γ st.own) (hp γ st.own) w s v ∧ ∀ x, SameOn (vis K γ st.own) w x → (execOp a.eval o).run P x = .ok (.value v) x
section
variable {P : Program} {T : TT} (hT : qX P T) {K : List Nat} {st : St} {o : Oper} {β : Type} {k : SV → Option β} {b : β}
theorem RdO.of_sem {s : SV} {sem : Act → Sem Value} (he : ∀ a : Act, execOp a.eval o = (do pure (.value (← sem a)) : Sem Next)) (h : ∀ (w0 : Base) (Sx : Nat → Prop) (γ : Nat → Value) (a : Act) (w : World), Sim w0 Sx γ st a w → Rd P K Sx γ st w (sem a) s) : RdO P K st o s := fun w0 Sx γ a w hI => by
 obtain ⟨v, h1, h2⟩ := h w0 Sx γ a w hI
 exact ⟨v, h1, fun x hx => by rw [he]; exact run_v (h2 x hx)⟩
theorem jl {s : SV} {Q : St → Prop} (h : RdO P K st o s) (hd : zl st o.dst = true) (hQ : Q (st.put o.dst s)) : ActOk P [] o st Q := by
 intro w0 Sx γ a w QQ hI
 obtain ⟨v, h1, h2⟩ := h w0 Sx γ a w hI
 unfold Oper.wp
 rw [h2 w (SameOn.refl _ _)]
 refine ⟨γ, _, hQ, hI.put hd h1, SameOn.refl _ _, fun K _ b _ hv => ?_⟩
 rw [wS]; exact hv
include hT in
theorem qs {s : SV} {c : Prop} (h : opR T K st o.op = some (c, s)) (hc : c) : RdO P K st o s := fun _ _ _ _ _ hI => opR_ok hT hI h hc
theorem goF_ok {r : Option (Prop × SV)} {c : Bool} (h : goF r c k = some b) : ∃ p s, r = some (p, s) ∧ c = true ∧ k s = some b := by
 unfold goF at h
 split at h
 · rename_i p s
   cases c with
   | false => cases h
   | true => rw [cond_true, fSV_eq] at h; exact ⟨p, s, rfl, rfl, h⟩
 · cases h
theorem goP_ok {r : Option (Prop × SV)} (h : goP r k = some b) : ∃ p s, r = some (p, s) ∧ k s = some b := by
 unfold goP at h
 split at h
 · exact ⟨_, _, rfl, h⟩
 · cases h
theorem goS_ok {r : Option SV} (h : goS r k = some b) : ∃ s, r = some s ∧ k s = some b := by
 unfold goS at h
 split at h
 · exact ⟨_, rfl, h⟩
 · cases h
theorem binC_ok {op : BinOp} {x y v : Value} {c : Prop} (h : binV op x y = some (c, v)) (hc : binC op x y = true) : c := by
 unfold binV at h
 split at h
 · cases op <;> simp only [binC] at hc <;> dsimp only at h <;>
    first
     | (cases h; exact jY hc)
     | (split at h
        · first
           | (cases h; exact trivial)
           | (cases h; simpa using hc)
           | cases h
        · cases h)
     | cases h
 · cases op <;> simp only [binC] at hc <;> dsimp only at h <;>
    first
     | (cases h; exact trivial)
     | (cases h; have := Nat.le_of_ble_eq_true hc; show ((_ : Nat) : Int) ≤ 9223372036854775807; omega)
     | cases h
 · split at h
   · cases op <;> dsimp only at h <;> first | (cases h; exact trivial) | cases h
   · cases h
 · split at h
   · cases op <;> dsimp only at h <;> first | (cases h; exact trivial) | cases h
   · cases h
 · cases h
theorem rBinC_ok {op : BinOp} {t : TypeId} {x y : Option SV} {s : SV} {c : Prop} (h : rBin T op t x y = some (c, s)) (hc : rBinC T op t x y = true) : c := by
 unfold rBin at h
 split at h
 · split at h
   · split at h
     · cases h; exact trivial
     · cases h
   · cases h
 · rename_i x y _
   simp only [rBinC] at hc
   unfold ofV at h
   split at h
   · rename_i c' v hb
     cases h
     exact binC_ok hb hc
   · cases h
 · rename_i xs ys
   simp only [rBinC] at hc
   split at h
   · rename_i ht
     rw [qW, ht] at hc
     split at h
     · cases op <;> dsimp only at h <;> first | (cases h; exact hc) | cases h
     · cases h
   · cases h
 · cases h
theorem rIndexAddrC_ok {t : TypeId} {x i : Option SV} {s : SV} {c : Prop} (h : wu T st t x i = some (c, s)) (hc : jn T st t x i = true) : c := by
 unfold wu at h
 split at h
 · split at h
   · split at h
     · simp only [jn] at hc
       rename_i z l n
       generalize hb : Nat.beq _ _ = q at h
       cases q with
       | false => cases h
       | true => cases h; exact zX hc
     · simp only [jn, qW] at hc
       split at h
       · rename_i z l hj
         rw [hj] at hc
         generalize hb : Nat.beq _ _ = q at h
         cases q with
         | false => cases h
         | true => cases h; exact zX hc
       · rename_i z l hj
         rw [hj] at hc
         generalize hb : Nat.beq _ _ = q at h
         cases q with
         | false => cases h
         | true => cases h; exact zX hc
       · cases h
     · simp only [jn] at hc
       rename_i z lo hi _ n
       generalize hb : Nat.beq _ _ = q at h
       cases q with
       | false => cases h
       | true => cases h; exact zX hc
     · cases h
   · cases h
 · rename_i ht
   split at h
   · split at h
     · simp only [jn, qW, ht] at hc
       cases h; exact zX hc
     · simp only [jn, qW, ht] at hc
       cases h; exact zX hc
     · cases h
   · cases h
 · cases h
theorem rIndexC_ok {t : TypeId} {x i : Option SV} {s : SV} {c : Prop} (h : rIndex T t x i = some (c, s)) (hc : rIndexC T t x i = true) : c := by
 unfold rIndex at h
 split at h
 · split at h
   · simp only [rIndexC] at hc
     cases h; exact zX hc
   · cases h
 · rename_i ht
   split at h
   · split at h
     · split at h
       · simp only [rIndexC, qW, ht] at hc
         cases h; exact zX hc
       · cases h
     · cases h
   · cases h
 · cases h
theorem endsC_ok {n : Nat} {lo hi : Option Operand} {l h : Int} (he : ends st n lo hi = some (l, h)) (hc : endsC st n lo hi = true) : 0 ≤ l ∧ l ≤ h ∧ h ≤ n := by
 unfold endsC at hc
 rw [he] at hc
 simp only [Bool.and_eq_true] at hc
 exact ⟨jY hc.1.1, jY hc.1.2, jY hc.2⟩
theorem rSliceC_ok {t : TypeId} {x : Option SV} {lo hi mx : Option Operand} {s : SV} {c : Prop} (h : rSlice T st t x lo hi mx = some (c, s)) (hc : rSliceC st x lo hi = true) : c := by
 unfold rSlice at h
 split at h
 · cases h
 · split at h
   · split at h
     · simp only [rSliceC] at hc
       split at h
       · rename_i he
         cases h; exact endsC_ok he hc
       · cases h
     · cases h
   · split at h
     · split at h
       · simp only [rSliceC] at hc
         rename_i z xs
         generalize hb : Nat.beq _ _ = q at h
         cases q with
         | false => cases h
         | true =>
           simp only [cond_true] at h
           split at h
           · rename_i he
             cases h; exact endsC_ok he hc
           · cases h
       · simp only [rSliceC, qW] at hc
         split at h
         · rename_i z xs hj
           rw [hj] at hc
           generalize hb : Nat.beq _ _ = q at h
           cases q with
           | false => cases h
           | true =>
             simp only [cond_true] at h
             split at h
             · rename_i he
               cases h; exact endsC_ok he hc
             · cases h
         · cases h
       · simp only [rSliceC] at hc
         rename_i z lo0 hi0
         generalize hb : Nat.beq _ _ = q at h
         cases q with
         | false => cases h
         | true =>
           simp only [cond_true] at h
           split at h
           · rename_i he
             cases h; exact endsC_ok he hc
           · cases h
       · cases h
     · cases h
   · cases h
theorem rLoadC_ok {t : TypeId} {x : Option SV} {s : SV} {c : Prop} (h : rLoad T K st t x = some (c, s)) (hc : rLoadC st x = true) : c := by
 unfold rLoad at h
 split at h
 · split at h
   · split at h
     · cases h; exact trivial
     · cases h
   · split at h
     · cases h
     · split at h
       · split at h
         · split at h
           · cases h; exact trivial
           · cases h
         · cases h
       · cases h
   · split at h
     · cases h
     · simp only [rLoadC, qW] at hc
       split at h
       · rename_i z' l hj
         rw [hj] at hc
         rename_i z kk _ _ _
         generalize hb : Nat.beq _ _ = q at h
         cases q with
         | false => cases h
         | true =>
           simp only [cond_true] at h
           split at h
           · cases h; simpa [Nat.blt, Nat.lt_iff_add_one_le] using hc
           · cases h
       · cases h
   · cases h
 · cases h
theorem rLookupC_ok {t : TypeId} {m key : Option SV} {s : SV} {c : Prop} (h : rLookup T K st t m key = some (c, s)) (hc : rLookupC T st t m = true) : c := by
 unfold rLookup at h
 split at h
 · rename_i ht
   split at h
   · rename_i hkt _
     split at h
     · split at h
       · cases h
       · split at h
         · rename_i es hj
           simp only [rLookupC, qW, ht, hkt, hj] at hc
           generalize hb : kdOk _ _ = q at h
           cases q with
           | false => cases h
           | true => cases h; exact hc
         · cases h
     · cases h
   · cases h
 · cases h
theorem isNil_ok {t : TypeId} {ptr b : Bool} {s : SV} (h : isNil T st t ptr s = some b) (hT : qX P T) {w0 : Base} {Sx : Nat → Prop} {γ : Nat → Value} {a : Act} {w : World} (hI : Sim w0 Sx γ st a w) {u : Value} (hu : RelS (okO Sx γ st.own) (hp γ st.own) w s u) :
 (ptr = false ∧ ∃ e A n c, P.underlying t = some (.slice e) ∧ u = .slice A n c ∧ A.isNone = b) ∨ (ptr = true ∧ ∃ e q, P.underlying t = some (.pointer e) ∧ u = .pointer q ∧ q.isNone = b) := by
 unfold isNil at h
 rw [qW] at h
 split at h
 · rename_i e _ _ ht
   have hd := (hT t _ ht).und
   simp only [je] at hd
   refine Or.inl ⟨rfl, e, ?_⟩
   split at h
   · cases h; exact ⟨none, 0, 0, hd, hu.v_inv, rfl⟩
   · cases h
     obtain ⟨A, c, hv, hlc, hm, he, hsl⟩ := hu.p_inv.slat
     obtain ⟨b, o, rfl, _⟩ := hsl (by simp)
     exact ⟨_, _, _, hd, hv, rfl⟩
   · rw [qW] at h
     split at h
     · rename_i hj
       cases h
       obtain ⟨A, c, g1, g2, g3, g4, g5⟩ := row_slat hI.heap hj
       obtain ⟨b, o, rfl, _⟩ := g5 (by simp)
       cases hu with
       | row hg => rw [qI hj] at hg; cases hg; exact ⟨_, _, _, hd, g1, rfl⟩
     · cases h
   · cases h
 · rename_i ht
   have hd := (hT t _ ht).und
   simp only [je] at hd
   obtain ⟨e, hd⟩ := hd
   refine Or.inr ⟨rfl, e, ?_⟩
   split at h
   · cases h; exact ⟨none, hd, hu.v_inv, rfl⟩
   · cases h
     obtain ⟨b, o, rfl⟩ := hu.p_inv.rp_form
     exact ⟨_, hd, rfl, rfl⟩
   · cases h
     obtain ⟨b, g, rfl, _⟩ := hu.ptr_form
     exact ⟨_, hd, rfl, rfl⟩
   · cases h
     obtain ⟨b, g, rfl, _⟩ := hu.eptr_form
     exact ⟨_, hd, rfl, rfl⟩
   · cases h
 · cases h
include hT in
theorem eNil_ok {op : BinOp} {t t' : TypeId} {x y : Operand} {ptr : Bool} (ho : o.op = .binOp op t x y t') (hy : evS st y = some (.p (.v (bif ptr then .pointer none else .slice none 0 0)))) (h : eNil T st op t t' ptr (evS st x) k = some b) : ∃ s, RdO P K st o s ∧ k s = some b := by
 unfold eNil at h
 split at h
 · rename_i s hx hbt
   have e1 : t = t' := Nat.eq_of_beq_eq_true hbt
   subst e1
   have key : ∀ r : Bool, isNil T st t ptr s = some r → (op = .eql → RdO P K st o (.p (.v (.bool r)))) ∧ (op = .neq → RdO P K st o (.p (.v (.bool !r)))) := by
    intro r hr
    have run : ∀ (w0 : Base) (Sx : Nat → Prop) (γ : Nat → Value) (a : Act) (w : World), Sim w0 Sx γ st a w → ∀ z, (op = .eql → (execOp a.eval o).run P z = .ok (.value (.bool r)) z) ∧ (op = .neq → (execOp a.eval o).run P z = .ok (.value (.bool !r)) z) := by
     intro w0 Sx γ a w hI z
     have hyv := (qp hI hy).v_inv
     rcases isNil_ok hr hT hI (qp hI hx) with ⟨rfl, e, A, n, c, hd, hv, rfl⟩ | ⟨rfl, e, q, hd, hv, rfl⟩
     · rw [cond_false] at hyv
       refine ⟨fun hop => ?_, fun hop => ?_⟩ <;> subst hop <;> simp only [execOp, ho, hv, hyv] <;> refine run_v ?_
       · have h1 : (eqGuard .eql t x y (.slice A n c) (.slice none 0 0)).run P z = .ok () z := rfl
         rw [Sem.run_bind, h1]
         simp only [Result.andThen_ok]
         simp [binOp, Op.equal, Op.maxDepth, wz z 9999 t e A n c hd]
       · have h1 : (eqGuard .neq t x y (.slice A n c) (.slice none 0 0)).run P z = .ok () z := rfl
         rw [Sem.run_bind, h1]
         simp only [Result.andThen_ok]
         simp [binOp, Op.equal, Op.maxDepth, wz z 9999 t e A n c hd]
     · rw [cond_true] at hyv
       have hq : ∀ d, (Op.equalIn (d + 1) t (.pointer q) (.pointer none)).run P z = .ok q.isNone z := fun d => by
        cases q <;> simp [Op.equalIn, run_underlying hd]
       refine ⟨fun hop => ?_, fun hop => ?_⟩ <;> subst hop <;> simp only [execOp, ho, hv, hyv] <;> refine run_v ?_
       · have h1 : (eqGuard .eql t x y (.pointer q) (.pointer none)).run P z = .ok () z := rfl
         rw [Sem.run_bind, h1]
         simp only [Result.andThen_ok]
         simp [binOp, Op.equal, Op.maxDepth, hq 9999]
       · have h1 : (eqGuard .neq t x y (.pointer q) (.pointer none)).run P z = .ok () z := rfl
         rw [Sem.run_bind, h1]
         simp only [Result.andThen_ok]
         simp [binOp, Op.equal, Op.maxDepth, hq 9999]
    exact ⟨fun hop w0 Sx γ a w hI => ⟨.bool r, .p (.v rfl), fun z _ => (run w0 Sx γ a w hI z).1 hop⟩, fun hop w0 Sx γ a w hI => ⟨.bool !r, .p (.v rfl), fun z _ => (run w0 Sx γ a w hI z).2 hop⟩⟩
   split at h
   · rename_i hr; exact ⟨_, (key _ hr).1 rfl, h⟩
   · rename_i hr; exact ⟨_, (key _ hr).2 rfl, h⟩
   · rename_i hr; exact ⟨_, (key _ hr).2 rfl, h⟩
   · cases h
 · cases h
include hT in
theorem eStr_ok {op : BinOp} {t t' : TypeId} {x y : Operand} {p q : ByteArray} (ho : o.op = .binOp op t x y t') (hx : evS st x = some (.p (.v (.string p)))) (hy : evS st y = some (.p (.v (.string q)))) (h : eStr op p q k = some b) : ∃ s, RdO P K st o s ∧ k s = some b := by
 have key : ∀ {c : Prop} {v : Value}, binV op (.string p) (.string q) = some (c, v) → c → RdO P K st o (.p (.v v)) := fun {c v} hv hc => by
  refine qs hT (c := c) ?_ hc
  rw [ho]
  show rBin T op t (evS st x) (evS st y) = _
  rw [hx, hy]
  show ofV (binV op (.string p) (.string q)) = _
  rw [hv]; rfl
 cases op <;> unfold eStr at h <;> dsimp only at h <;> first
  | (cases h; done)
  | (rw [fBool_eq, sEq_ok, ← qaA, ← qaA] at h; exact ⟨_, key rfl trivial, h⟩)
  | (rw [fBool_eq, ← qaA, ← qaA] at h; exact ⟨_, key rfl trivial, h⟩)
  | skip
 · cases hc : Nat.ble (p.size + q.size) 9223372036854775807 with
   | false => rw [hc] at h; cases h
   | true =>
     rw [hc, cond_true, wm] at h
     have e : (⟨⟨p.data.toList ++ q.data.toList⟩⟩ : ByteArray) = p ++ q := by
      apply ByteArray.ext
      rw [ByteArray.data_append]
      apply Array.toList_inj.1
      simp
     rw [e] at h
     refine ⟨_, key (v := .string (p ++ q)) rfl ?_, h⟩
     have := Nat.le_of_ble_eq_true hc
     show ((_ : Nat) : Int) ≤ 9223372036854775807; omega
include hT in
theorem eIfc_ok {op : BinOp} {t t' : TypeId} {x y : Operand} (ho : o.op = .binOp op t x y t') (hc : isConst y = true) (hy : evS st y = some (.p (.v .nilIface))) (h : eIfc T op t t' (evS st x) k = some b) : ∃ s, RdO P K st o s ∧ k s = some b := by
 unfold eIfc at h
 rw [qW] at h
 split at h
 · rename_i hx ht hbt
   have e1 : t = t' := Nat.eq_of_beq_eq_true hbt
   subst e1
   have hd := (hT t _ ht).und
   simp only [je] at hd
   obtain ⟨m, hd⟩ := hd
   have hyc : ∃ v, y = .const v := by cases y <;> first | exact ⟨_, rfl⟩ | cases hc
   obtain ⟨yv, rfl⟩ := hyc
   have run : ∀ (w0 : Base) (Sx : Nat → Prop) (γ : Nat → Value) (a : Act) (w : World), Sim w0 Sx γ st a w → ∀ z, (op = .eql → (execOp a.eval o).run P z = .ok (.value (.bool true)) z) ∧ (op = .neq → (execOp a.eval o).run P z = .ok (.value (.bool false)) z) := by
    intro w0 Sx γ a w hI z
    have hyv := (qp hI hy).v_inv
    have hxv := (qp hI hx).v_inv
    have hq : ∀ d, (Op.equalIn (d + 1) t .nilIface .nilIface).run P z = .ok true z := fun d => by simp [Op.equalIn, run_underlying hd]
    refine ⟨fun hop => ?_, fun hop => ?_⟩ <;> subst hop <;> simp only [execOp, ho, hxv, hyv] <;> refine run_v ?_
    · have h1 : (eqGuard .eql t x (.const yv) .nilIface .nilIface).run P z = .ok () z := by simp [eqGuard]
      rw [Sem.run_bind, h1]
      simp only [Result.andThen_ok]
      simp [binOp, Op.equal, Op.maxDepth, hq 9999]
    · have h1 : (eqGuard .neq t x (.const yv) .nilIface .nilIface).run P z = .ok () z := by simp [eqGuard]
      rw [Sem.run_bind, h1]
      simp only [Result.andThen_ok]
      simp [binOp, Op.equal, Op.maxDepth, hq 9999]
   split at h
   · exact ⟨_, fun w0 Sx γ a w hI => ⟨.bool true, .p (.v rfl), fun z _ => (run w0 Sx γ a w hI z).1 rfl⟩, h⟩
   · exact ⟨_, fun w0 Sx γ a w hI => ⟨.bool false, .p (.v rfl), fun z _ => (run w0 Sx γ a w hI z).2 rfl⟩, h⟩
   · cases h
 · cases h
include hT in
theorem eBin_ok {op : BinOp} {t t' : TypeId} {x y : Operand} (ho : o.op = .binOp op t x y t') (h : eBin T st op t t' (isConst y) (evS st x) (evS st y) k = some b) : ∃ s, RdO P K st o s ∧ k s = some b := by
 unfold eBin at h
 split at h
 · rename_i hx hy; exact eStr_ok hT ho hx hy h
 · rename_i hy; exact eNil_ok hT ho (ptr := false) hy h
 · rename_i hy; exact eNil_ok hT ho (ptr := true) hy h
 · rename_i hy
   cases hc : isConst y with
   | false => rw [hc] at h; cases h
   | true => rw [hc] at h; exact eIfc_ok hT ho hc hy h
 · obtain ⟨p, s, h1, h2, h3⟩ := goF_ok h
   exact ⟨s, qs hT (by rw [ho]; exact h1) (rBinC_ok h1 h2), h3⟩
include hT in
theorem eIndex_ok {t : TypeId} {x i : Operand} (ho : o.op = .index t x i) (h : eIndex T t (evS st x) (evS st i) k = some b) : ∃ s, RdO P K st o s ∧ k s = some b := by
 unfold eIndex at h
 split at h
 · rename_i q q' n hx hi
   rw [qW] at h
   split at h
   · rename_i ht
     split at h
     · rename_i c hc
       cases hb : wI n q.size with
       | false => rw [hb] at h; cases h
       | true =>
         rw [hb, cond_true, qar] at h
         have e : byteAt q n.toNat = Int.ofNat c.toNat := by
          unfold byteAt
          rw [Array.getElem?_toList] at hc
          rw [Array.getD_eq_getD_getElem?, hc]; rfl
         refine ⟨_, qs hT (c := 0 ≤ n ∧ n < q.size) ?_ (zX hb), h⟩
         rw [ho, ← e]
         show rIndex T t (evS st x) (evS st i) = _
         rw [hx, hi]
         unfold rIndex
         rw [ht]
     · cases h
   · cases h
 · obtain ⟨p, s, h1, h2, h3⟩ := goF_ok h
   exact ⟨s, qs hT (by rw [ho]; exact h1) (rIndexC_ok h1 h2), h3⟩
include hT in
theorem eSlice_ok {t : TypeId} {x : Operand} {lo hi mx : Option Operand} (ho : o.op = .slice t x lo hi mx) (h : eSlice T st t (evS st x) lo hi mx k = some b) : ∃ s, RdO P K st o s ∧ k s = some b := by
 unfold eSlice at h
 split at h
 · rename_i q hx
   split at h
   · rename_i l r ht he
     rw [qW] at ht
     cases hb : ((ible 0 l && ible l r) && ible r (.ofNat q.size)) with
     | false => rw [hb] at h; cases h
     | true =>
       rw [hb, cond_true, wm] at h
       simp only [Bool.and_eq_true] at hb
       have hc : 0 ≤ l ∧ l ≤ r ∧ r ≤ q.size := ⟨jY hb.1.1, jY hb.1.2, jY hb.2⟩
       have e : (⟨⟨(q.data.toList.drop l.toNat).take (r.toNat - l.toNat)⟩⟩ : ByteArray) = q.extract l.toNat r.toNat := by
        apply ByteArray.ext
        rw [ByteArray.data_extract]
        apply Array.toList_inj.1
        simp [List.extract_eq_take_drop]
       rw [e] at h
       refine ⟨_, qs hT (c := 0 ≤ l ∧ l ≤ r ∧ r ≤ q.size) ?_ hc, h⟩
       rw [ho]
       show rSlice T st t (evS st x) lo hi none = _
       rw [hx]
       unfold rSlice
       rw [ht]
       simp only [he]
   · cases h
 · rename_i hx
   split at h
   · unfold eSliceX at h
     rw [qW] at h
     split at h
     · rename_i e _ _ ht
       have hd := (hT t _ ht).und
       simp only [je] at hd
       split at h
       · rename_i l r _ he
         rw [qW] at h
         cases hb : ((lk e T).isSome && (ible 0 l && ible l r && ible r 0)) with
         | false => rw [hb] at h; cases h
         | true =>
           rw [hb, cond_true] at h
           simp only [Bool.and_eq_true] at hb
           obtain ⟨ei, hei⟩ := Option.isSome_iff_exists.1 hb.1
           have hc : 0 ≤ l ∧ l ≤ r ∧ r ≤ ((0 : Nat) : Int) := ⟨jY hb.2.1.1, jY hb.2.1.2, jY hb.2.2⟩
           have hi' := hT e ei hei
           have hl0 : l.toNat = 0 := by omega
           have hr0 : r.toNat = 0 := by omega
           refine ⟨_, RdO.of_sem (sem := fun a => Instr.sliceAt t (a.eval x) (lo.map a.eval) (hi.map a.eval) none) (fun a => by simp only [execOp, ho, Option.map_none]) fun w0 Sx γ a w hI => ?_, h⟩
           rw [(qp hI hx).v_inv]
           refine qO (v := .slice none 0 0) (.p (.v rfl)) fun z => ?_
           simp only [Instr.sliceAt, Instr.slice, Sem.run_bind, run_underlying hd, Result.andThen_ok, Option.map_none, ends_ok hI (P := P) (isSlice := true) he hc (Nat.le_refl _) z, Sem.run_pure, hi'.size z, hl0, hr0]
           rfl
       · cases h
     · cases h
   · cases h
 · obtain ⟨p, s, h1, h2, h3⟩ := goF_ok h
   exact ⟨s, qs hT (by rw [ho]; exact h1) (rSliceC_ok h1 h2), h3⟩
theorem bytesOf_get : ∀ {l : List (List PV)} {bs : List UInt8}, bytesOf l = some bs → bs.length = l.length ∧ ∀ i : Nat, i < l.length → ∃ n : Int, l[i]? = some [.v (.int .u8 n)] ∧ bs[i]? = some (UInt8.ofNat n.toNat)
 | [], bs, h => by simp only [bytesOf, Option.some.injEq] at h; subst h; exact ⟨rfl, fun i hi => by simp at hi⟩
 | c :: r, bs, h => by
   unfold bytesOf at h
   split at h
   · rename_i b hb
     split at h
     · rename_i l hl
       simp only [Option.some.injEq] at h
       subst h
       obtain ⟨h1, h2⟩ := bytesOf_get hl
       refine ⟨by simp [h1], fun i hi => ?_⟩
       cases i with
       | zero =>
         unfold byteOf at hb
         split at hb
         · rename_i n
           cases hb; exact ⟨n, rfl, rfl⟩
         · cases hb
       | succ i =>
         obtain ⟨n, g1, g2⟩ := h2 i (by simpa using hi)
         exact ⟨n, by simpa using g1, by simpa using g2⟩
     · cases h
   · cases h
theorem push_fold : ∀ (ns : List Int) (s : ByteArray), ns.foldl (fun r n => r.push (UInt8.ofNat n.toNat)) s = ⟨⟨s.data.toList ++ ns.map fun n => UInt8.ofNat n.toNat⟩⟩
 | [], s => by
   apply ByteArray.ext
   apply Array.toList_inj.1
   simp
 | n :: ns, s => by
   rw [List.foldl_cons, push_fold ns]
   apply ByteArray.ext
   apply Array.toList_inj.1
   simp [ByteArray.push]
theorem run_text {sT dT e : TypeId} {A : Option Addr} {c : Nat} {l : List (List PV)} {bs : List UInt8} {x : World} (hs : P.underlying sT = some (.slice e)) (he : P.underlying e = some (.int .u8)) (hd : P.underlying dT = some .string) (hl : bytesOf l = some bs)
 (h : 0 < l.length → ∃ b o, A = some ⟨b, o, none⟩ ∧ ∀ i n, l[i]? = some [.v (.int .u8 n)] → x.cell? ⟨b, o + i, none⟩ = some (.int .u8 n)) :
 (convert sT dT (.slice A l.length c)).run P x = .ok (.string ⟨⟨bs⟩⟩) x := by
 rw [run_convert_bytes_string x sT dT e A l.length c hs he hd]
 obtain ⟨g1, g2⟩ := bytesOf_get hl
 cases A with
 | none =>
   have : l = [] := by
    rcases Nat.eq_zero_or_pos l.length with h0 | h0
    · exact List.eq_nil_of_length_eq_zero h0
    · obtain ⟨b, o, hA, _⟩ := h h0; cases hA
   subst this
   have : bs = [] := List.eq_nil_of_length_eq_zero g1
   subst this
   simp [Conv.bytesToString]; rfl
 | some ad =>
   have hex : ∀ i : Nat, ∃ n : Int, i < l.length → l[i]? = some [.v (.int .u8 n)] ∧ bs[i]? = some (UInt8.ofNat n.toNat) := fun i => by
    by_cases hi : i < l.length
    · obtain ⟨n, h1⟩ := g2 i hi; exact ⟨n, fun _ => h1⟩
    · exact ⟨0, fun h => absurd h hi⟩
   obtain ⟨f, hf⟩ := Classical.axiomOfChoice hex
   have hbs : bs = ((List.range l.length).map f).map fun n => UInt8.ofNat n.toNat := by
    refine List.ext_getElem? fun i => ?_
    by_cases hi : i < l.length
    · rw [(hf i hi).2]; simp [hi]
    · rw [List.getElem?_eq_none (by omega), List.getElem?_eq_none (by simp; omega)]
   have hcells : ∀ j v, (((List.range l.length).map f).map (Value.int .u8))[j]? = some v → x.cell? (ad.add j) = some v := fun j v hv => by
    have hj : j < l.length := by have := (List.getElem?_eq_some_iff.1 hv).1; simpa using this
    obtain ⟨b, o, hA, hx⟩ := h (by omega)
    cases hA
    rw [jC]
    simp [hj] at hv
    rw [← hv]
    exact hx j _ (hf j hj).1
   have h1 := run_loadCells_list (P := P) x ad _ hcells
   rw [List.length_map, List.length_map, List.length_range] at h1
   rw [run_bytesToString x ad l.length c _ h1, push_fold, hbs]
   rfl
include hT in
theorem eConv_ok {sT dT : TypeId} {x : Operand} (ho : o.op = .convert sT dT x) (h : eConv T K st sT dT (evS st x) k = some b) : ∃ s, RdO P K st o s ∧ k s = some b := by
 have put : ∀ {l : List (List PV)}, eText T sT dT l k = some b → (∀ (w0 : Base) (Sx : Nat → Prop) (γ : Nat → Value) (a : Act) (w : World), Sim w0 Sx γ st a w → ∃ A c, a.eval x = .slice A l.length c ∧ ∀ z, SameOn (vis K γ st.own) w z → 0 < l.length → ∃ b o, A = some ⟨b, o, none⟩ ∧ ∀ i n, l[i]? = some [.v (.int .u8 n)] → z.cell? ⟨b, o + i, none⟩ = some (.int .u8 n)) →
  ∃ s, RdO P K st o s ∧ k s = some b := fun {l} h hx => by
  unfold eText at h
  rw [qW, qW] at h
  split at h
  · rename_i e _ _ _ _ _ _ hs hd
    rw [qW] at h
    split at h
    · rename_i bs he hbs
      rw [wm] at h
      have us := (hT sT _ hs).und
      have ud := (hT dT _ hd).und
      have ue := (hT e _ he).und
      simp only [je] at us ud ue
      refine ⟨_, RdO.of_sem (sem := fun a => convert sT dT (a.eval x)) (fun a => by simp only [execOp, ho]) fun w0 Sx γ a w hI => ?_, h⟩
      obtain ⟨A, c, ha, hc⟩ := hx w0 Sx γ a w hI
      exact ⟨_, .p (.v rfl), fun z hz => by rw [ha]; exact run_text us ue ud hbs (hc z hz)⟩
    · cases h
  · cases h
 unfold eConv at h
 split at h
 · rename_i zz l hx
   refine put h fun w0 Sx γ a w hI => ?_
   have hr := (qp hI hx).p_inv
   obtain ⟨A, c, hv, _⟩ := hr.slat
   refine ⟨A, c, hv, fun z hz hl => ?_⟩
   have hrz : RelP (okO Sx γ st.own) z (.sl zz l) (a.eval x) := hr.keep (hz.weak fun b _ hok => okO_vis hok)
   obtain ⟨A2, c2, hv2, _, _, he, hsl⟩ := hrz.slat
   rw [hv] at hv2
   cases hv2
   obtain ⟨b, o, hA, _, _, hc⟩ := hsl hl
   refine ⟨b, o, hA, fun i n hi => ?_⟩
   have hil : i < l.length := (List.getElem?_eq_some_iff.1 hi).1
   have hz1 : zz = 1 := by have := (he _ (List.mem_of_getElem? hi)).1; simpa using this.symm
   obtain ⟨cs, q1, q2, q3⟩ := hc i hil
   have hli : l[i] = [.v (.int .u8 n)] := by rw [List.getElem?_eq_getElem hil] at hi; exact Option.some.inj hi
   rw [hli] at q3
   have hcl : cs.length = 1 := q3.1
   have hcs : ∃ u, cs = [u] := by
    match cs, hcl with
    | [u], _ => exact ⟨u, rfl⟩
   obtain ⟨u, rfl⟩ := hcs
   have hu := jd (q3.2 0 _ u rfl rfl) rfl
   subst hu
   have := q2 0 _ rfl
   rw [hz1, Nat.mul_one, Nat.add_zero] at this
   exact this
 · rename_i hx
   refine put h fun w0 Sx γ a w hI => ⟨none, 0, (qp hI hx).v_inv, fun z _ hl => by simp at hl⟩
 · rename_i j hx
   cases hK : K.contains j with
   | true => rw [hK] at h; cases h
   | false =>
     rw [hK, cond_false, qW] at h
     split at h
     · rename_i e zz l hj
       refine put h fun w0 Sx γ a w hI => ?_
       have hr := qp hI hx
       obtain ⟨A, c, g1, g2, g3, g4, g5⟩ := row_slat hI.heap hj
       have ha : a.eval x = γ j := by
        generalize a.eval x = u at hr
        cases hr with
        | row hg => rw [qI hj] at hg; cases hg; rfl
       refine ⟨A, c, by rw [ha, g1], fun z hz hl => ?_⟩
       obtain ⟨b, o, hA, hlt, hc⟩ := g5 hl
       refine ⟨b, o, hA, fun i n hi => ?_⟩
       have hil : i < l.length := (List.getElem?_eq_some_iff.1 hi).1
       have hz1 : zz = 1 := by have := (g4 _ (List.mem_of_getElem? hi)).1; simpa using this.symm
       obtain ⟨cs, q1, q2, q3, q4⟩ := hc i hil
       have hli : l[i] = [.v (.int .u8 n)] := by rw [List.getElem?_eq_getElem hil] at hi; exact Option.some.inj hi
       rw [hli] at q4
       have hcs : ∃ u, cs = [u] := by
        match cs, (q4.1 : cs.length = 1) with
        | [u], _ => exact ⟨u, rfl⟩
       obtain ⟨u, rfl⟩ := hcs
       have hu := jd (q4.2 0 _ u rfl rfl) rfl
       subst hu
       have := q2 0 _ rfl
       rw [hz1, Nat.mul_one, Nat.add_zero] at this
       have hbj : qK (γ j) = some b := by rw [g1, hA]; rfl
       rw [World.cell?_of_block (w := w) (a := ⟨b, o + i, none⟩) (hz.block b hlt fun i2 bx h1 h2 h3 => ?_)]
       · exact this
       · have := hI.heap.inj i2 j _ _ b h1 hj h3 hbj
         subst this
         rw [hK] at h2; cases h2
     · cases h
 · obtain ⟨p, s, h1, _, h3⟩ := goF_ok h
   refine ⟨s, qs hT (by rw [ho]; exact h1) ?_, h3⟩
   unfold rConv at h1
   repeat' split at h1
   all_goals first | (cases h1; done) | (cases h1; exact trivial)
include hT in
theorem eCall_ok {c : Call} (ho : o.op = .call c) (h : eCall T st c k = some b) : ∃ s, RdO P K st o s ∧ k s = some b := by
 unfold eCall at h
 simp only [evF_eq] at h
 have put : ∀ {r : Option (Prop × SV)}, opR T K st (.call c) = r → (∀ p s, r = some (p, s) → p) → goF r true k = some b → ∃ s, RdO P K st o s ∧ k s = some b := fun {r} he hp h => by
  obtain ⟨p, s, h1, _, h3⟩ := goF_ok h
  exact ⟨s, qs hT (by rw [ho, he]; exact h1) (hp p s h1), h3⟩
 split at h
 · rename_i hcl
   split at h
   · rename_i hargs hts
     refine put ?_ (fun p s hr => ?_) h
     · simp only [opR, hcl, hargs, hts]
     · unfold rLen at hr
       repeat' split at hr
       all_goals first | (cases hr; done) | (cases hr; exact trivial)
   · cases h
 · rename_i hcl
   split at h
   · rename_i hargs
     refine put ?_ (fun p s hr => ?_) h
     · simp only [opR, hcl, hargs]
     · unfold rMinMax at hr
       repeat' split at hr
       all_goals first | (cases hr; done) | (cases hr; exact trivial)
   · cases h
 · rename_i hcl
   split at h
   · rename_i hargs
     refine put ?_ (fun p s hr => ?_) h
     · simp only [opR, hcl, hargs]
     · unfold rMinMax at hr
       repeat' split at hr
       all_goals first | (cases hr; done) | (cases hr; exact trivial)
   · cases h
 · rename_i hcl
   split at h
   · rename_i hargs
     obtain ⟨p, s, h1, h3⟩ := goP_ok h
     refine ⟨s, qs hT (c := p) (by rw [ho]; simp only [opR, hcl, hargs]; exact h1) ?_, h3⟩
     unfold rReal at h1
     repeat' split at h1
     all_goals first | (cases h1; done) | (cases h1; exact trivial)
   · cases h
 · rename_i hcl
   split at h
   · rename_i hargs
     obtain ⟨p, s, h1, h3⟩ := goP_ok h
     refine ⟨s, qs hT (c := p) (by rw [ho]; simp only [opR, hcl, hargs]; exact h1) ?_, h3⟩
     unfold rImag at h1
     repeat' split at h1
     all_goals first | (cases h1; done) | (cases h1; exact trivial)
   · cases h
 · rename_i hcl
   split at h
   · rename_i hargs
     obtain ⟨p, s, h1, h3⟩ := goP_ok h
     refine ⟨s, qs hT (c := p) (by rw [ho]; simp only [opR, hcl, hargs]; exact h1) ?_, h3⟩
     unfold rCplx at h1
     repeat' split at h1
     all_goals first | (cases h1; done) | (cases h1; exact trivial)
   · cases h
 · cases h
include hT in
theorem opE_ok (h : opE T K st o.op k = some b) : ∃ s, RdO P K st o s ∧ k s = some b := by
 unfold opE at h
 simp only [evF_eq] at h
 have yes_of : ∀ {r : Option (Prop × SV)}, (∀ p s, r = some (p, s) → p) → opR T K st o.op = r → goF r true k = some b → ∃ s, RdO P K st o s ∧ k s = some b := fun {r} hp he h => by
  obtain ⟨p, s, h1, _, h3⟩ := goF_ok h
  exact ⟨s, qs hT (he.trans h1) (hp p s h1), h3⟩
 split at h
 · rename_i x ho
   obtain ⟨s, h1, h2⟩ := goS_ok h
   exact ⟨s, qs hT (c := True) (by rw [ho]; simp only [opR, h1]; rfl) trivial, h2⟩
 · rename_i x ho
   obtain ⟨s, h1, h2⟩ := goS_ok h
   exact ⟨s, qs hT (c := True) (by rw [ho]; simp only [opR, h1]; rfl) trivial, h2⟩
 · rename_i c x y ho
   obtain ⟨p, s, h1, h2⟩ := goP_ok h
   refine ⟨s, qs hT (c := p) (by rw [ho]; exact h1) ?_, h2⟩
   unfold rPick at h1
   repeat' split at h1
   all_goals first | (cases h1; done) | (cases h1; exact trivial)
 · rename_i ho; exact eBin_ok hT ho h
 · rename_i op t x ho
   unfold eUn at h
   split at h
   · rename_i v hx
     split at h
     · rename_i v' hv
       rw [fVal_eq] at h
       exact ⟨_, qs hT (c := True) (by rw [ho]; simp only [opR, hx, hv]; rfl) trivial, h⟩
     · cases h
   · cases h
 · rename_i ho; exact eConv_ok hT ho h
 · rename_i ho
   refine yes_of (fun p s hr => ?_) (by rw [ho]; rfl) h
   unfold rField at hr
   repeat' split at hr
   all_goals first | (cases hr; done) | (cases hr; exact trivial)
 · rename_i ho
   refine yes_of (fun p s hr => ?_) (by rw [ho]; rfl) h
   unfold qal at hr
   split at hr
   · split at hr
     · split at hr
       · generalize Nat.beq _ _ = q at hr
         cases q with
         | true => cases hr
         | false =>
           rw [cond_false] at hr
           split at hr
           all_goals first | (cases hr; done) | (cases hr; exact trivial)
       · cases hr
     · cases hr
   · cases hr
 · rename_i ho
   obtain ⟨p, s, h1, h2, h3⟩ := goF_ok h
   exact ⟨s, qs hT (by rw [ho]; exact h1) (rIndexAddrC_ok h1 h2), h3⟩
 · rename_i ho; exact eIndex_ok hT ho h
 · rename_i ho; exact eSlice_ok hT ho h
 · rename_i ho
   obtain ⟨p, s, h1, h2, h3⟩ := goF_ok h
   exact ⟨s, qs hT (by rw [ho]; exact h1) (rLoadC_ok h1 h2), h3⟩
 · rename_i x n ho
   unfold eExtract at h
   split at h
   · rename_i cs hx
     obtain ⟨s, h1, h2⟩ := goS_ok h
     exact ⟨s, qs hT (c := True) (by rw [ho]; simp only [opR, hx, h1]; rfl) trivial, h2⟩
   · cases h
 · rename_i f first caps ho
   unfold eFn at h
   obtain ⟨p, s, h1, _, h3⟩ := goF_ok h
   refine ⟨s, qs hT (by rw [ho]; exact h1) ?_, h3⟩
   cases f with
   | func f =>
     simp only [opR] at h1
     repeat' split at h1
     all_goals first | (cases h1; done) | (cases h1; exact trivial)
   | _ => simp only [opR] at h1; cases h1
 · rename_i ho; exact eCall_ok hT ho h
 · rename_i ho
   obtain ⟨p, s, h1, h2, h3⟩ := goF_ok h
   exact ⟨s, qs hT (by rw [ho]; exact h1) (rLookupC_ok h1 h2), h3⟩
 · rename_i ho
   unfold eFn at h
   obtain ⟨p, s, h1, _, h3⟩ := goF_ok h
   refine ⟨s, qs hT (by rw [ho]; exact h1) ?_, h3⟩
   have h1 : rBuild T st _ _ = some (p, s) := h1
   unfold rBuild at h1
   split at h1
   · generalize (_ && _) = q at h1
     cases q with
     | false => cases h1
     | true =>
       rw [cond_true] at h1
       split at h1
       all_goals first | (cases h1; done) | (cases h1; exact trivial)
   · cases h1
 · rename_i ho
   unfold eFn at h
   obtain ⟨p, s, h1, _, h3⟩ := goF_ok h
   refine ⟨s, qs hT (by rw [ho]; exact h1) ?_, h3⟩
   simp only [opR] at h1
   split at h1
   all_goals first | (cases h1; done) | (cases h1; exact trivial)
 · cases h
end
section
variable {P : Program} {T : TT} (hT : qX P T) {st : St} {o : Oper} {β : Type} {k : List Nat → St → Option β} {b : β}
theorem blt_lt {a b : Nat} (h : Nat.blt a b = true) : a < b := by simpa [Nat.blt, Nat.lt_iff_add_one_le] using h
theorem newBox_ok {d : Nat} {s : SV} {bx : Box} (h : newBox st d s bx k = some b) : lk d st.own = none ∧ Nat.blt d st.n = true ∧ k [] ⟨st.n, (d, s) :: st.fr, (d, bx) :: st.own⟩ = some b := by
 unfold newBox at h
 rw [qW] at h
 cases hb : ((lk d st.own).isNone && Nat.blt d st.n) with
 | false => rw [hb] at h; cases h
 | true =>
   rw [hb, cond_true, fBox_eq, fN_eq] at h
   simp only [Bool.and_eq_true] at hb
   exact ⟨Option.isNone_iff_eq_none.1 hb.1, hb.2, h⟩
def Goes (P : Program) (st : St) (o : Oper) (k : List Nat → St → Option β) (b : β) : Prop := ∃ Ws st', ActOk P Ws o st (fun s => s = st') ∧ k Ws st' = some b
include hT in
theorem allocE_ok {e : TypeId} (ho : o.op = .alloc e) (h : allocE T st o.dst e k = some b) : Goes P st o k b := by
 unfold allocE at h
 rw [qW] at h
 split at h
 · rename_i d i hd hi
   cases hz : i.zero.all plain with
   | false => rw [hz] at h; cases h
   | true =>
     rw [hz, cond_true] at h
     obtain ⟨h1, h2, h3⟩ := newBox_ok h
     exact ⟨_, _, act_alloc hT ho hd hi hz h1 h2 rfl, h3⟩
 · cases h
theorem boxE_ok {e : TypeId} {x : Operand} (ho : o.op = .box e x) (h : boxE st o.dst (evS st x) k = some b) : Goes P st o k b := by
 unfold boxE at h
 split at h
 · rename_i d s hd hx
   split at h
   · rename_i cs hc
     cases hz : cs.all oneS with
     | false => rw [hz] at h; cases h
     | true =>
       rw [hz, cond_true] at h
       obtain ⟨h1, h2, h3⟩ := newBox_ok h
       exact ⟨_, _, act_box ho hd hx hc hz h1 h2 rfl, h3⟩
   · cases h
 · cases h
theorem ActOk.frz {Ws : List Nat} {Q : St → Prop} {i : Nat} {e : TypeId} {z : Nat} {l : List (List PV)} (hk : lk i st.own = some (.row e z l)) (h : ActOk P Ws o (st.frz i z l) Q) : ActOk P Ws o st Q := by
 intro w0 Sx γ a w QQ hI
 have old : ∀ {j bx}, lk j (st.frz i z l).own = some bx → ∃ b0, lk j st.own = some b0 := fun {j bx} hj => by
  have hj : lk j ((del i st.own).map fun p => (p.1, p.2.frz i z l)) = some bx := hj
  rw [lk_map, lk_del] at hj
  split at hj
  · cases hj
  · obtain ⟨b0, h1, _⟩ := Option.map_eq_some_iff.1 hj
    exact ⟨b0, h1⟩
 have hv : ∀ K b, vis K γ st.own b → vis K γ (st.frz i z l).own b := fun K b hv j bx hj hK hb => by
  obtain ⟨b0, h1⟩ := old hj
  exact hv j b0 h1 hK hb
 refine Oper.wp_mono (fun a' w' hq => ?_) (h w0 Sx γ a w QQ (sim_frz hk hI))
 obtain ⟨γ', st', h1, h2, h3, h4⟩ := hq
 exact ⟨γ', st', h1, h2, ⟨h3.size, fun b hb hv' => h3.block b hb (hv _ b hv')⟩, fun K hK b hb hv' => h4 K hK b hb (hv K b hv')⟩
theorem frzAll_ok {k : St → Option β} : ∀ {ids : List Nat} {st : St}, frzAll ids st k = some b → ∃ st1, (∀ Ws Q, ActOk P Ws o st1 Q → ActOk P Ws o st Q) ∧ k st1 = some b
 | [], st, h => ⟨st, fun _ _ h => h, h⟩
 | i :: r, st, h => by
   unfold frzAll at h
   rw [qW] at h
   split at h
   · rename_i hi
     rw [fSt_eq] at h
     obtain ⟨st1, h1, h2⟩ := frzAll_ok h
     exact ⟨st1, fun Ws Q hQ => ActOk.frz hi (h1 Ws Q hQ), h2⟩
   · exact frzAll_ok h
include hT in
theorem buildE_ok {t : TypeId} {len : Nat} {parts : Array (Nat × Operand)} {xs : List Operand} (ho : o.op = .buildSlice t len parts) (hp : zZ 0 parts.toList = some xs) (h : buildE T st o.dst t len xs k = some b) : Goes P st o k b := by
 unfold buildE at h
 rw [qW] at h
 split at h
 · rename_i d _ _ e _ _ ss hd ht hss
   rw [qW] at h
   split at h
   · rename_i ei hei
     cases hb : (Nat.blt 0 ei.size && Nat.ble (len * ei.size) 16777216 && Nat.beq xs.length len) with
     | false => rw [hb] at h; cases h
     | true =>
       rw [hb, cond_true, fNats_eq] at h
       simp only [Bool.and_eq_true] at hb
       obtain ⟨st1, h1, h2⟩ := frzAll_ok (P := P) (o := o) h
       split at h2
       · rename_i l hl
         rw [fEls_eq] at h2
         obtain ⟨g1, g2, g3⟩ := newBox_ok h2
         exact ⟨_, _, h1 _ _ (act_buildSlice hT ho hd ht rfl hei hb.1.1 hb.1.2 hp hb.2 hl g1 g2 rfl), g3⟩
       · cases h2
   · cases h
 · cases h
include hT in
theorem storeE_ok {t : TypeId} {ad x : Operand} (ho : o.op = .store t ad x) (hdst : o.dst = none) (h : storeE T st t (evS st ad) (evS st x) k = some b) : Goes P st o k b := by
 unfold storeE at h
 rw [qW] at h
 split at h
 · rename_i ti j off s ht had hx
   rw [qW] at h
   split at h
   · rename_i cs xs hj hc
     cases hb : (xs.all oneS && Nat.beq xs.length ti.size && Nat.ble (off + xs.length) cs.length) with
     | false => rw [hb] at h; cases h
     | true =>
       rw [hb, cond_true, fOnes_eq, fOwn_eq, fN_eq] at h
       simp only [Bool.and_eq_true] at hb
       exact ⟨_, _, act_store hT ho hdst ht had hj hx hc hb.1.1 hb.1.2 hb.2 rfl, h⟩
   · cases h
 · rename_i ti j z i off s ht had hx
   rw [qW] at h
   split at h
   · rename_i e z' l xs hj hc
     cases hb : (Nat.beq z z' && xs.all oneP && Nat.beq xs.length ti.size && Nat.ble (off + xs.length) z && Nat.blt i l.length) with
     | false => rw [hb] at h; cases h
     | true =>
       rw [hb, cond_true, fLeafs_eq, wm, fOwn_eq, fN_eq] at h
       simp only [Bool.and_eq_true] at hb
       have ez : z = z' := Nat.eq_of_beq_eq_true hb.1.1.1.1
       subst ez
       exact ⟨_, _, zi hT ho hdst ht had hj (blt_lt hb.2) hx hc hb.1.1.1.2 hb.1.1.2 hb.1.2 rfl, h⟩
   · cases h
 · cases h
include hT in
theorem mapE_ok {t : TypeId} {m key x : Operand} (ho : o.op = .mapUpdate t m key x) (hdst : o.dst = none) (h : mapE T st t (evS st m) (evS st key) (evS st x) k = some b) : Goes P st o k b := by
 unfold mapE at h
 rw [qW] at h
 split at h
 · rename_i _ _ kt et _ _ j kv p ht hm hkv hx
   rw [qW, qW] at h
   split at h
   · rename_i ki es hki hj
     cases hb : (kdOk ki.d kv && es.all (fun x => kdOk ki.d x.1) && (mfind kv es).isNone) with
     | false => rw [hb] at h; cases h
     | true =>
       rw [hb, cond_true, fMap_eq, fOwn_eq, fN_eq] at h
       simp only [Bool.and_eq_true] at hb
       exact ⟨_, _, zh hT ho hdst ht rfl hki hm hj hkv hb.1.1 hb.1.2 (Option.isNone_iff_eq_none.1 hb.2) hx rfl, h⟩
   · cases h
 · cases h
section
variable {sx xx : Operand} {t e : TypeId} {cl : Call} (ho : o.op = .call cl) (hcl : cl.callee = .builtin .append) (hargs : cl.args.toList = [sx, xx]) (hts : cl.argTypes.toList = [t, t]) {d : Nat} (hdst : o.dst = some d)
 {ti ei : TyI} (ht : lk t T = some ti) (hte : ti.d = .sl e) (he : lk e T = some ei) (hsz : Nat.blt 0 ei.size = true) (hz : Nat.beq ei.zero.length ei.size = true)
include hT ho hcl hargs hts hdst ht hte he hsz hz
theorem appNil_ok (hs : evS st sx = some (.p (.v (.slice none 0 0)))) (h : appNil st d e ei (evS st xx) k = some b) : Goes P st o k b := by
 unfold appNil at h
 split at h
 · rename_i s2 hx
   split at h
   · rename_i l2 hl2
     cases hc : Nat.ble (l2.length * ei.bytes) 140737488355328 with
     | false => rw [hc] at h; cases h
     | true =>
       rw [hc, cond_true] at h
       obtain ⟨g1, g2, g3⟩ := newBox_ok h
       exact ⟨_, _, act_append_nil hT ho hcl hargs hts hdst ht hte he hsz hz hs hx hl2 g1 g2 (Nat.le_of_ble_eq_true hc) rfl, g3⟩
   · cases h
 · cases h
theorem appRow_ok {k : St → Option β} {j : Nat} (hn : Nat.blt d st.n = true) (hs : evS st sx = some (.row j)) (h : appRow st d e ei j (evS st xx) k = some b) : ∃ st', ActOk P [j] o st (fun s => s = st') ∧ k st' = some b := by
 unfold appRow at h
 rw [qW] at h
 split at h
 · rename_i e' z l s2 hj hx
   split at h
   · rename_i l2 hl2
     cases hc : (Nat.beq e' e && Nat.beq z ei.size && Nat.ble (l.length + l2.length) reachBytes && Nat.ble ((l.length + l2.length) * ei.bytes) 140737488355328 && (lk d (killO j st.own)).isNone) with
     | false => rw [hc] at h; cases h
     | true =>
       rw [hc, cond_true, wm, fSt_eq] at h
       simp only [Bool.and_eq_true] at hc
       have e1 : e' = e := Nat.eq_of_beq_eq_true hc.1.1.1.1
       have e2 : z = ei.size := Nat.eq_of_beq_eq_true hc.1.1.1.2
       subst e1 e2
       exact ⟨_, qg hT ho hcl hargs hts hdst ht hte he hsz hz hs hj hx hl2 (Option.isNone_iff_eq_none.1 hc.2) hn (Nat.le_of_ble_eq_true hc.1.1.2) (Nat.le_of_ble_eq_true hc.1.2) rfl, h⟩
   · cases h
 · cases h
theorem appView_ok {k : St → Option β} {j zv m : Nat} (hn : Nat.blt d st.n = true) (hs : evS st sx = some (.view j zv 0 m)) (h : appView st d e ei sx xx j zv m k = some b) : ∃ st', ActOk P [j] o st (fun s => s = st') ∧ k st' = some b := by
 unfold appView at h
 rw [qW] at h
 split at h
 · rename_i tt e' z l0 hj
   cases hc : ((lk 904999 st.own).isNone && Nat.beq zv z) with
   | false => rw [hc] at h; cases h
   | true =>
     rw [hc, cond_true, fSt_eq, evF_eq] at h
     simp only [Bool.and_eq_true] at hc
     have e1 : zv = z := Nat.eq_of_beq_eq_true hc.2
     subst e1
     obtain ⟨st', h1, h2⟩ := appRow_ok (st := shrunk st tt j zv m e' l0) hT ho hcl hargs hts hdst ht hte he hsz hz hn (show lk tt ((tt, SV.row 904999) :: killF j st.fr) = _ by rw [qA, if_pos rfl]) h
     exact ⟨st', ActOk.shrink tt 904999 hs hj (Option.isNone_iff_eq_none.1 hc.1) rfl h1, h2⟩
 · cases h
end
include hT in
theorem appE_ok {sx xx : Operand} {t : TypeId} {cl : Call} (ho : o.op = .call cl) (hcl : cl.callee = .builtin .append) (hargs : cl.args.toList = [sx, xx]) (hts : cl.argTypes.toList = [t, t]) (h : appE T st o sx xx t k = some b) : Goes P st o k b := by
 unfold appE at h
 simp only [qW, evF_eq] at h
 split at h
 · rename_i d _ _ e _ _ hd ht
   split at h
   · rename_i ei he
     cases hc : (Nat.blt 0 ei.size && Nat.beq ei.zero.length ei.size && Nat.blt d st.n) with
     | false => rw [hc] at h; cases h
     | true =>
       rw [hc, cond_true] at h
       simp only [Bool.and_eq_true] at hc
       split at h
       · rename_i hs; exact appNil_ok hT ho hcl hargs hts hd ht rfl he hc.1.1 hc.1.2 hs h
       · rename_i hs
         obtain ⟨st', h1, h2⟩ := appRow_ok hT ho hcl hargs hts hd ht rfl he hc.1.1 hc.1.2 hc.2 hs h
         exact ⟨_, st', h1, h2⟩
       · rename_i hs
         obtain ⟨st', h1, h2⟩ := appView_ok hT ho hcl hargs hts hd ht rfl he hc.1.1 hc.1.2 hc.2 hs h
         exact ⟨_, st', h1, h2⟩
       · cases h
   · cases h
 · cases h
def EvOk (P : Program) (cx : Cx) (ev : FuncId → FnI → List SV → List (Nat × Box) → Ret) : Prop := ∀ f fi args own r own', lk f cx.F = some fi → ev f fi args own = some (r, own') → qJ P f args own r own'
def TabOk (P : Program) (cx : Cx) : Prop := ∀ f ps r, cx.C f ps = some r → Holds P f ps r []
theorem callE_ok {cx : Cx} {ev : FuncId → FnI → List SV → List (Nat × Box) → Ret} (hev : EvOk P cx ev) (hC : TabOk P cx) {cl : Call} {fo : Operand} {sf : SV} {f : FuncId} {caps : List SV} (ho : o.op = .call cl) (hcl : cl.callee = .value fo) (hfo : evS st fo = some sf) (hfn : fnOf sf = some (f, caps))
 (h : callE cx ev st o (isPS sf) f caps cl.args.toList k = some b) : Goes P st o k b := by
 unfold callE at h
 rw [qW] at h
 split at h
 · rename_i fi hfi
   split at h
   · rw [fRen_eq] at h
     generalize number true 1000000 _ = ρ at h
     unfold enterE at h
     split at h
     · rename_i own a c hown hargs hcaps
       cases hρ : rhoOk ρ with
       | false => rw [hρ] at h; cases h
       | true =>
         rw [hρ, cond_true, fOnes_eq, fOwn_eq] at h
         unfold backE at h
         split at h
         · rename_i r own' hr
           have hW := hev f fi _ _ r own' hfi hr
           cases hb : (zl st o.dst && backOk st ρ o.dst own') with
           | false => rw [hb] at h; cases h
           | true =>
             rw [hb, cond_true] at h
             simp only [Bool.and_eq_true] at hb
             split at h
             · rename_i st' hst
               rw [fSt_eq] at h
               exact ⟨_, st', act_call_RS ρ ho hcl hfo hfn hcaps hown hρ hargs hW hb.1 fun r' o' ⟨e1, e2⟩ => by subst e1 e2; exact ⟨st', hst, hb.2, rfl⟩, h⟩
             · cases h
         · cases h
     · cases h
   · cases h
 · split at h
   · rename_i cps ps ids hpf hp ha
     split at h
     · rename_i r hr
       cases hb : (flatS r && zl st o.dst) with
       | false => rw [hb] at h; cases h
       | true =>
         rw [hb, cond_true, putE_eq] at h
         simp only [Bool.and_eq_true] at hb
         have hcap : caps = cps.map .p := by
          obtain ⟨q1, q2⟩ := qad hp
          refine List.ext_getElem? fun i => ?_
          rw [q2, List.getElem?_map]
         have hsf : sf = .p (.fn f cps) ∨ sf = .fn f caps := by
          cases sf with
          | p x =>
            cases x with
            | fn g cs =>
              simp only [fnOf, Option.some.injEq, Prod.mk.injEq] at hfn
              obtain ⟨rfl, h2⟩ := hfn
              rw [hcap] at h2
              have : cs = cps := (List.map_inj_right (fun a b h => by cases h; rfl)).1 h2
              rw [this]; exact Or.inl rfl
            | _ => cases hfn
          | fn g cs =>
            simp only [fnOf, Option.some.injEq, Prod.mk.injEq] at hfn
            obtain ⟨rfl, rfl⟩ := hfn
            exact Or.inr rfl
          | _ => cases hfn
         rcases hsf with rfl | rfl
         · exact ⟨_, _, qay ho hcl hfo ha (hC f _ r hr) hb.2 hb.1 rfl, h⟩
         · cases hpf
     · cases h
   · cases h
end
theorem ActOk.mono {P : Program} {Ws : List Nat} {o : Oper} {st : St} {Q Q' : St → Prop} (h : ActOk P Ws o st Q) (hq : ∀ s, Q s → Q' s) : ActOk P Ws o st Q' := fun w0 Sx γ a w QQ hI => by
 refine Oper.wp_mono (fun a' w' h' => ?_) (h w0 Sx γ a w QQ hI)
 obtain ⟨γ', st', h1, h2⟩ := h'
 exact ⟨γ', st', hq _ h1, h2⟩
section
variable {P : Program} {cx : Cx} (hT : qX P cx.T) (hC : TabOk P cx) {ev : FuncId → FnI → List SV → List (Nat × Box) → Ret} (hev : EvOk P cx ev)
section
variable {st : St} {o : Oper} {β : Type} {k : List Nat → St → Option β} {b : β}
include hT hC hev in
theorem actE_ok (h : actE cx ev st o k = some b) : Goes P st o k b := by
 unfold actE at h
 simp only [evF_eq] at h
 split at h
 · rename_i ho; exact allocE_ok hT ho h
 · rename_i ho; exact boxE_ok ho h
 · rename_i ho
   split at h
   · rename_i hp; exact buildE_ok hT ho hp h
   · cases h
 · rename_i ho
   split at h
   · rename_i hd; exact storeE_ok hT ho hd h
   · cases h
 · rename_i ho
   split at h
   · rename_i d hd
     obtain ⟨h1, h2, h3⟩ := newBox_ok h
     exact ⟨_, _, act_makeMap ho hd h1 h2 rfl, h3⟩
   · cases h
 · rename_i ho
   split at h
   · rename_i hd; exact mapE_ok hT ho hd h
   · cases h
 · rename_i ho
   unfold acallE at h
   simp only [evF_eq] at h
   split at h
   · rename_i hcl
     split at h
     · rename_i hargs hts
       generalize hb : Nat.beq _ _ = q at h
       cases q with
       | false => cases h
       | true =>
         rw [cond_true] at h
         rename_i t t'
         have e1 : t = t' := Nat.eq_of_beq_eq_true hb
         subst e1
         exact appE_ok hT ho hcl hargs hts h
     · cases h
   · rename_i hcl
     split at h
     · rename_i hfo
       split at h
       · rename_i hfn; exact callE_ok hev hC ho hcl hfo hfn h
       · cases h
     · cases h
   · cases h
 · cases h
include hT hC hev in
theorem stepE_ok (h : stepE cx ev [] st o k = some b) : Goes P st o k b := by
 unfold stepE at h
 cases hr : isRd o.op with
 | false => rw [hr] at h; exact actE_ok hT hC hev h
 | true =>
   rw [hr, cond_true] at h
   cases hd : zl st o.dst with
   | false => rw [hd] at h; cases h
   | true =>
     rw [hd, cond_true] at h
     obtain ⟨s, h1, h2⟩ := opE_ok hT h
     rw [putE_eq] at h2
     exact ⟨_, _, jl h1 hd rfl, h2⟩
end
include hT hC hev in
theorem evT_ok {ops : List Oper} : ∀ {l : List Oper} {st st' : St}, evT cx ev ops l st = some st' → SWT P ops l (fun s => s = st') st
 | [], st, st', h => by
   simp only [evT, Option.some.injEq] at h
   exact qb h
 | o :: r, st, st', h => by
   unfold evT at h
   split at h
   · rename_i hw
     obtain ⟨Ws, st1, h1, h2⟩ := stepE_ok hT hC hev h
     exact qy hw (h1.mono fun s e => by subst e; exact evT_ok h2)
   · rename_i hw
     cases hd : zl st o.dst with
     | false => rw [hd] at h; cases h
     | true =>
       rw [hd, cond_true, putE_eq] at h
       exact swt_skip hw hd (evT_ok h)
   · cases h
theorem swp_rd {ops : List Oper} {K : List Nat} {κ : Kap} {st : St} {Q : St → Prop} {i : Nat} {r : List (Nat × Bool)} {o : Oper} {s : SV} (hi : nthO ops i = some o) (hw : ja ops st o = some true) (hr : RdO P K st o s) (hd : zl st o.dst = true) (h : SWP P ops ((i, K) :: κ) r Q (st.put o.dst s)) : SWP P ops κ ((i, true) :: r) Q st := fun w0 Sx γ a w QQ hI hQ => by
 have hrest := fun v (hv : RelS (okO Sx γ st.own) (hp γ st.own) w s v) => h w0 Sx γ _ w QQ (hI.put (dst := o.dst) hd hv) hQ
 simp only [wS] at hrest
 obtain ⟨v, h1, h2⟩ := hr w0 Sx γ a w hI
 exact ⟨qak, _, o, v, _, SameOn.refl _ _, (zG ops i).trans hi, Or.inl ⟨zw hI hw, h2⟩, Covers.refl _, hrest v h1⟩
theorem mem_ok : ∀ {l : List Nat} {i : Nat}, mem i l = true → l.contains i = true
 | j :: r, i, h => by
   unfold mem at h
   cases hb : Nat.beq i j with
   | true => have := Nat.eq_of_beq_eq_true hb; subst this; simp
   | false =>
     rw [hb, cond_false] at h
     have := mem_ok h
     simp at this ⊢
     exact Or.inr this
theorem okW_ok {w : List Nat} {κ : Kap} (h : okW w κ = true) : κ.all (fun p => w.all fun j => p.2.contains j) = true :=
 List.all_eq_true.2 fun p hp => List.all_eq_true.2 fun j hj => mem_ok (List.all_eq_true.1 (List.all_eq_true.1 h p hp) j hj)
include hT hC hev in
theorem evM_ok {ops : List Oper} {K : List Nat} {chk : Bool} : ∀ {od : List (Nat × Bool)} {κ : Kap} {ws ws' : List Nat} {st st' : St}, evM cx ev ops K chk od κ ws st = some (ws', st') → (∀ i ∈ ws, i ∈ ws') ∧ (chk = true ∨ ws' = [] → SWP P ops κ od (fun s => s = st') st)
 | [], κ, ws, ws', st, st', h => by
   simp only [evM, Option.some.injEq, Prod.mk.injEq] at h
   obtain ⟨rfl, rfl⟩ := h
   exact ⟨fun _ h => h, fun _ => swp_nil rfl⟩
 | (i, b) :: r, κ, ws, ws', st, st', h => by
   unfold evM at h
   split at h
   · rename_i o hi
     split at h
     · rename_i hw
       cases b with
       | true =>
         rw [cond_true] at h
         cases hd : zl st o.dst with
         | false => rw [hd] at h; cases h
         | true =>
           rw [hd, cond_true, fNats_eq] at h
           obtain ⟨s, h1, h2⟩ := opE_ok hT h
           rw [putE_eq] at h2
           obtain ⟨h3, h4⟩ := evM_ok h2
           exact ⟨h3, fun hK => swp_rd hi hw h1 hd (h4 hK)⟩
       | false =>
         rw [cond_false] at h
         obtain ⟨Ws, st1, h1, h2⟩ := stepE_ok hT hC hev h
         replace h2 : (bif (!chk || okW Ws (kapB o κ)) then evM cx ev ops K chk r (kapB o κ) (Ws ++ ws) st1 else none) = some (ws', st') := h2
         cases hc : (!chk || okW Ws (kapB o κ)) with
         | false => rw [hc] at h2; cases h2
         | true =>
           rw [hc, cond_true] at h2
           obtain ⟨h3, h4⟩ := evM_ok h2
           refine ⟨fun i hi => h3 i (List.mem_append_right _ hi), fun hK => swp_act hi hw ?_ (h1.mono fun s e => by subst e; exact h4 hK)⟩
           rcases hK with hK | hK
           · subst hK
             exact okW_ok (by simpa using hc)
           · have : Ws = [] := by
              cases Ws with
              | nil => rfl
              | cons j l => have := h3 j (by simp); rw [hK] at this; cases this
             subst this
             exact List.all_eq_true.2 fun _ _ => rfl
     · rename_i hw
       cases hd : zl st o.dst with
       | false => rw [hd] at h; cases h
       | true =>
         rw [hd, cond_true, putE_eq] at h
         obtain ⟨h3, h4⟩ := evM_ok h
         exact ⟨h3, fun hK => swp_skip hi hw hd (h4 hK)⟩
     · cases h
   · cases h
include hT hC hev in
theorem evReg_ok (hm : P.follows .mixedOrders = true) {ords : List (Nat × List (Nat × Bool))} {id : Nat} {ops : Array Oper} {st st' : St} {d : Bool} (hd : d = true → chkR ords id ops = true) (h : evReg cx ev ords id ops.toList st d = some st') : SW P (.region id ops d) (fun e s => e = .normal ∧ s = st') st := by
 have hops : ops = ops.toList.toArray := by simp
 cases d with
 | false =>
   simp only [evReg] at h
   rw [hops]
   refine sw_region (fun w0 Sx γ a w QQ hI hQ => ?_)
   exact evT_ok hT hC hev h w0 Sx γ a w QQ hI fun s' γ' a' w' hI' hq => hQ s' γ' a' w' hI' ⟨rfl, hq⟩
 | true =>
   have hd := hd rfl
   simp only [evReg, qW] at h
   unfold chkR at hd
   split at h
   · rename_i od hod
     rw [hod] at hd
     simp only [Bool.and_eq_true] at hd
     rw [fNats_eq] at h
     have key : ∀ {K ws : List Nat} {chk : Bool} {st1 : St}, evM cx ev ops.toList K chk od [] [] st = some (ws, st1) → (chk = true ∨ ws = []) → SW P (.region id ops true) (fun e s => e = .normal ∧ s = st1) st := fun {K ws chk st1} h1 hK => by
      rw [hops]
      refine sw_region_pend od hm (by rw [← hops]; exact hd.1) (by rw [← hops]; simp only [Bool.and_eq_true]; exact hd.2) (fun w0 Sx γ a w QQ hI hQ => ?_)
      exact (evM_ok hT hC hev h1).2 hK w0 Sx γ a w QQ hI fun s' γ' a' w' hI' hq => hQ s' γ' a' w' hI' ⟨rfl, hq⟩
     split at h
     · rename_i h1
       cases h
       exact key h1 (.inl rfl)
     · split at h
       · rename_i h1
         cases h
         exact key h1 (.inr rfl)
       · rw [fNats_eq] at h
         split at h
         · rename_i h2
           cases h
           exact key h2 (.inl rfl)
         · cases h
       · cases h
   · cases h
end
section
variable {P : Program} {T : TT} (hT : qX P T)
include hT in
theorem resO_ok {st : St} {w0 : Base} {Sx : Nat → Prop} {γ : Nat → Value} {a : Act} {w : World} (hI : Sim w0 Sx γ st a w) {f : ResultVar → Sem Value} (hf1 : ∀ t, f (.tmp t) = pure (a.tmps.getD t undef)) (hf2 : ∀ c t, f (.cell c t) = (do loadVar t (← asAddr (a.tmps.getD c undef)))) {rv : ResultVar} {s : SV} (h : resO T st rv = some s) :
 ∃ v, (f rv).run P w = .ok v w ∧ RelS (okO Sx γ st.own) (hp γ st.own) w s v := by
 cases rv with
 | tmp t => exact ⟨_, by rw [hf1]; rfl, hI.fr t s h⟩
 | cell c t =>
   simp only [resO] at h
   split at h
   · rename_i hl hc
     cases h
     obtain ⟨v, h1, h2⟩ := rLoad_ok hT hI (x := .tmp c) (K := []) hl (rLoadC_ok hl (by rw [hc]; rfl))
     have h3 := h2 w (SameOn.refl _ _)
     have hv := hI.fr c _ hc
     obtain ⟨b, g, hb, _⟩ := hv.ptr_form
     refine ⟨v, ?_, h1⟩
     rw [show a.eval (.tmp c) = a.tmps.getD c undef from rfl, hb] at h3
     rw [hf2, hb]
     exact h3
   · cases h
include hT in
theorem resOs_ok {st : St} {w0 : Base} {Sx : Nat → Prop} {γ : Nat → Value} {a : Act} {w : World} (hI : Sim w0 Sx γ st a w) {f : ResultVar → Sem Value} (hf1 : ∀ t, f (.tmp t) = pure (a.tmps.getD t undef)) (hf2 : ∀ c t, f (.cell c t) = (do loadVar t (← asAddr (a.tmps.getD c undef)))) : ∀ {rs : List ResultVar} {l : List SV}, resOs T st rs = some l →
 ∃ vs : List Value, (rs.mapM f).run P w = .ok vs w ∧ vs.length = l.length ∧ l.length = rs.length ∧ ∀ (i : Nat) (s : SV) (u : Value), l[i]? = some s → vs[i]? = some u → RelS (okO Sx γ st.own) (hp γ st.own) w s u
 | [], l, h => by
   simp only [resOs, Option.some.injEq] at h
   subst h
   exact ⟨[], by simp, rfl, rfl, fun i s u hs => by simp at hs⟩
 | r :: rs, l, h => by
   unfold resOs at h
   split at h
   · rename_i s hs
     split at h
     · rename_i l' hl
       simp only [Option.some.injEq] at h
       subst h
       obtain ⟨v, h1, h2⟩ := resO_ok hT hI hf1 hf2 hs
       obtain ⟨vs, h3, h4, h5, h6⟩ := resOs_ok hI hf1 hf2 hl
       refine ⟨v :: vs, ?_, by simp [h4], by simp [h5], fun i s' u hs' hu => ?_⟩
       · rw [List.mapM_cons, Sem.run_bind, h1]
         simp only [Result.andThen_ok, Sem.run_bind, h3, Sem.run_pure]
       · cases i with
         | zero => simp at hs' hu; subst hs' hu; exact h2
         | succ i => exact h6 i s' u (by simpa using hs') (by simpa using hu)
     · cases h
   · cases h
include hT in
theorem resC_ok {fn : Func} {st : St} {w0 : Base} {Sx : Nat → Prop} {γ : Nat → Value} {a : Act} {w : World} (hI : Sim w0 Sx γ st a w) {rs : List ResultVar} {s : SV} (h : resC T st rs = some s) (hres : fn.results = rs.toArray) :
 ∃ v, (results fn a.tmps).run P w = .ok v w ∧ RelS (okO Sx γ st.own) (hp γ st.own) w s v := by
 have key : ∀ {l : List SV}, resOs T st rs = some l → ∃ vs : List Value, (results fn a.tmps).run P w = .ok (if h : vs.toArray.size = 1 then vs.toArray[0] else .tuple vs.toArray) w ∧ vs.length = l.length ∧ l.length = rs.length ∧ ∀ (i : Nat) (s : SV) (u : Value), l[i]? = some s → vs[i]? = some u → RelS (okO Sx γ st.own) (hp γ st.own) w s u := fun {l} hl => by
  have gen : ∀ f : ResultVar → Sem Value, (∀ t, f (.tmp t) = pure (a.tmps.getD t undef)) → (∀ c t, f (.cell c t) = (do loadVar t (← asAddr (a.tmps.getD c undef)))) →
   ∃ vs : List Value, ((do let vs ← rs.toArray.mapM f; pure (if h : vs.size = 1 then vs[0] else .tuple vs)) : Sem Value).run P w = .ok (if h : vs.toArray.size = 1 then vs.toArray[0] else .tuple vs.toArray) w ∧ vs.length = l.length ∧ l.length = rs.length ∧ ∀ (i : Nat) (s : SV) (u : Value), l[i]? = some s → vs[i]? = some u → RelS (okO Sx γ st.own) (hp γ st.own) w s u := fun f hf1 hf2 => by
   obtain ⟨vs, h3, h4, h5, h6⟩ := resOs_ok hT hI hf1 hf2 hl
   refine ⟨vs, ?_, h4, h5, h6⟩
   rw [Sem.run_bind, List.mapM_toArray, Sem.run_map, h3]
   simp only [Result.andThen_ok, Sem.run_pure]
  unfold results
  rw [hres]
  exact gen _ (fun _ => rfl) (fun _ _ => rfl)
 unfold resC at h
 split at h
 · rename_i r
   obtain ⟨vs, h1, h2, h3, h4⟩ := key (l := [s]) (by simp only [resOs, h])
   have hv : ∃ v, vs = [v] := by
    match vs, h2 with
    | [v], _ => exact ⟨v, rfl⟩
   obtain ⟨v, rfl⟩ := hv
   exact ⟨v, by rw [h1]; rfl, h4 0 s v rfl rfl⟩
 · rename_i hne
   split at h
   · rename_i l hl
     simp only [Option.some.injEq] at h
     subst h
     obtain ⟨vs, h1, h2, h3, h4⟩ := key hl
     have hn : ¬ vs.toArray.size = 1 := fun e => by
      rw [List.size_toArray, h2, h3] at e
      match rs, hne, e with
      | [r], hne, _ => exact hne r rfl
     rw [dif_neg hn] at h1
     exact ⟨_, h1, .tup h2 h4⟩
   · cases h
include hT in
theorem holdsV_of {f : FuncId} {fn : Func} {c : Code} {args : List SV} {own : List (Nat × Box)} {r : SV} {own' : List (Nat × Box)} {rs : List ResultVar} {e' : SEx} {st' : St} (hf : P.funcs[f]? = some fn) (hname : (fn.name == "runtime.NumGoroutine") = false) (hb : fn.body = some c)
 (hres : fn.results = rs.toArray) (hn : args.length ≤ fn.ntmps ∧ fn.ntmps ≤ 900) (h : SW P c (fun e s => e = e' ∧ s = st') ⟨fn.ntmps, jT 0 args, own⟩) (he : e' = .normal ∨ e' = .ret) (hfin : finE T rs st' = some (r, own')) : qJ P f args own r own' := by
 refine ⟨⟨fn, hf, hname, by rw [hb]; rfl⟩, fun w Sx γ vs hh hl hr => ?_⟩
 refine calls_of_wp hf hb ?_
 have hget : ∀ t, t < args.length → (vs.toArray ++ Array.replicate (fn.ntmps - vs.toArray.size) undef).getD t undef = vs[t]?.getD undef := fun t ht => by
  have : t < vs.length := by omega
  have h2 : (vs.toArray ++ Array.replicate (fn.ntmps - vs.toArray.size) undef)[t]? = vs[t]? := by
   rw [Array.getElem?_append_left (by simpa using this)]; simp
  rw [Array.getD_eq_getD_getElem?, h2]
 have hI : Sim (wa w γ own) Sx γ ⟨fn.ntmps, jT 0 args, own⟩ ⟨vs.toArray ++ Array.replicate (fn.ntmps - vs.toArray.size) undef, []⟩ w := by
  refine ⟨⟨Below.refl _ w, fun _ _ => rfl⟩, ⟨by simp; omega, hn.2⟩, rfl, fun t s ht => ?_, hh⟩
  obtain ⟨_, hx⟩ := argFrS_get ht
  simp only [Nat.sub_zero] at hx
  have hlt : t < args.length := (List.getElem?_eq_some_iff.1 hx).1
  have hv : vs[t]? = some (vs[t]'(by omega)) := List.getElem?_eq_getElem (by omega)
  show RelS _ _ _ _ ((vs.toArray ++ Array.replicate (fn.ntmps - vs.toArray.size) undef).getD t undef)
  rw [hget t hlt, hv]
  exact hr t s _ hx hv
 refine h _ Sx _ _ w _ hI fun e st2 γ' a' w' hI' hq => ?_
 obtain ⟨rfl, rfl⟩ := hq
 unfold finE at hfin
 split at hfin
 · rename_i s hs
   rw [fRen_eq] at hfin
   generalize number false 0 _ = ρ at hfin
   split at hfin
   · rename_i r' o' hr' ho'
     cases hρ : renOk ρ with
     | false => rw [hρ] at hfin; cases hfin
     | true =>
       rw [hρ, cond_true, fSV_eq, fOwn_eq] at hfin
       cases hfin
       obtain ⟨γ3, k1, k2⟩ := heap_mapR hI'.heap ho' hρ
       obtain ⟨v, k3, k4⟩ := resC_ok hT hI' hs hres
       have fin : a'.defers = [] ∧ ∃ v, (results fn a'.tmps).run P w' = .ok v w' ∧ ∃ v' γ2 r1 own1, (r1 = r ∧ own1 = own') ∧ Ending.returned v = .returned v' ∧ BelowB (wa w γ own) w' ∧ HeapOk (wa w γ own) Sx γ2 own1 w' ∧ RelS (okO Sx γ2 own1) (hp γ2 own1) w' r1 v' :=
        ⟨hI'.defers, v, k3, v, γ3, r, own', ⟨rfl, rfl⟩, rfl, hI'.below, k1, k2 s v r k4 hr'⟩
       rcases he with rfl | rfl
       · exact fin
       · exact fin
   · cases hfin
 · cases hfin
end
def jmpW (l : Nat) (J : Act → World → Prop) (Q : Exit → Act → World → Prop) : Exit → Act → World → Prop
 | .goto l', a, w => l' = l ∧ J a w
 | e, a, w => Q e a w
theorem wp_scope_ghost {P : Program} {a : Act} {w : World} {Q : Exit → Act → World → Prop} {c rest : Code} (l : Nat) (J : Nat → Act → World → Prop) (hf : findLabel c l = some rest)
 (first : c.wp P (jmpW l (fun a w => ∃ n, J n a w) Q) a w)
 (pass : ∀ n a w, J n a w → rest.wp P (jmpW l (fun a' w' => ∃ m, m < n ∧ J m a' w') Q) a w) : (Code.scope c).wp P Q a w := by
 intro b k cs
 have hg : gotoIn l (.inScope c :: k) = some (.code rest :: .inScope c :: k) := by simp [gotoIn, hf]
 have key : ∀ n a w, J n a w → ∃ e a' w', Q e a' w' ∧ Arrives P (lone (b.at a (.code rest :: .inScope c :: k)) cs w) b k cs e a' w' := by
  intro n
  induction n using Nat.strongRecOn with
  | _ n ih =>
    intro a w hJ
    obtain ⟨e, a₁, w₁, hq, harr⟩ := pass n a w hJ b (.inScope c :: k) cs
    cases e with
    | normal => exact ⟨.normal, a₁, w₁, hq, Steps.trans harr (.one step_inScope)⟩
    | exit id => exact ⟨.exit id, a₁, w₁, hq, fun k' hk => harr k' (by simp [exitTo, hk])⟩
    | goto l' =>
      obtain ⟨rfl, m, hlt, hJ'⟩ := hq
      obtain ⟨e₂, a₂, w₂, hq₂, harr₂⟩ := ih m hlt a₁ w₁ hJ'
      exact ⟨e₂, a₂, w₂, hq₂, .of_steps (harr _ hg) harr₂⟩
    | ret => exact ⟨_, a₁, w₁, hq, harr⟩
    | panic ch => exact ⟨_, a₁, w₁, hq, harr⟩
    | outgrown => exact ⟨_, a₁, w₁, hq, harr⟩
 obtain ⟨e, a₁, w₁, hq, harr⟩ := first b (.inScope c :: k) cs
 cases e with
 | normal => exact ⟨.normal, a₁, w₁, hq, .head step_scope (Steps.trans harr (.one step_inScope))⟩
 | exit id => exact ⟨.exit id, a₁, w₁, hq, fun k' hk => .head step_scope (harr k' (by simp [exitTo, hk]))⟩
 | goto l' =>
   obtain ⟨rfl, m, hJ'⟩ := hq
   obtain ⟨e₂, a₂, w₂, hq₂, harr₂⟩ := key m a₁ w₁ hJ'
   exact ⟨e₂, a₂, w₂, hq₂, .of_steps (.head step_scope (harr _ hg)) harr₂⟩
 | ret => exact ⟨_, a₁, w₁, hq, .of_steps (.one step_scope) harr⟩
 | panic ch => exact ⟨_, a₁, w₁, hq, .of_steps (.one step_scope) harr⟩
 | outgrown => exact ⟨_, a₁, w₁, hq, .of_steps (.one step_scope) harr⟩
def jmpS (l : Nat) (J : St → Prop) (Q : SEx → St → Prop) : SEx → St → Prop
 | .goto l', s => l' = l ∧ J s
 | e, s => Q e s
theorem qaF {P : Program} {Q : SEx → St → Prop} {st : St} {l : Nat} (h : Q (.goto l) st) : SW P (.goto l) Q st := fun _ _ γ a w _ hI hQ => wp_goto (hQ (.goto l) st γ a w hI h)
theorem sw_scope0 {P : Program} {Q : SEx → St → Prop} {st : St} {c : Code} (h : SW P c (fun e s => Q e s ∧ ∀ l, e ≠ .goto l) st) : SW P (.scope c) Q st := fun w0 Sx γ a w QQ hI hQ => by
 refine wp_scope_straight (h w0 Sx γ a w _ hI fun e s' γ' a' w' hI' hq => ?_)
 cases e with
 | goto l => exact absurd rfl (hq.2 l)
 | normal => exact hQ .normal s' γ' a' w' hI' hq.1
 | exit id => exact hQ (.exit id) s' γ' a' w' hI' hq.1
 | ret => exact hQ .ret s' γ' a' w' hI' hq.1
theorem sw_scope {P : Program} {Q : SEx → St → Prop} {st : St} {c rest : Code} (l : Nat) (I : Nat → St → Prop) (hf : findLabel c l = some rest) (first : SW P c (jmpS l (fun s' => ∃ n s'', Wk s' s'' ∧ I n s'') Q) st)
 (round : ∀ n s, I n s → SW P rest (jmpS l (fun s' => ∃ m s'', m < n ∧ Wk s' s'' ∧ I m s'') Q) s) : SW P (.scope c) Q st := fun w0 Sx γ a w QQ hI hQ => by
 refine wp_scope_ghost l (fun n a w => ∃ s γ, I n s ∧ Sim w0 Sx γ s a w) hf (first w0 Sx γ a w _ hI fun e s' γ' a' w' hI' hq => ?_) fun n a w ⟨s, γ, hn, hI⟩ => round n s hn w0 Sx γ a w _ hI fun e s' γ' a' w' hI' hq => ?_
 · cases e with
   | goto l' =>
     obtain ⟨rfl, n, s'', hwk, hn⟩ := hq
     obtain ⟨γ'', hI''⟩ := hwk w0 Sx γ' a' w' hI'
     exact ⟨rfl, n, s'', γ'', hn, hI''⟩
   | normal => exact hQ .normal s' γ' a' w' hI' hq
   | exit id => exact hQ (.exit id) s' γ' a' w' hI' hq
   | ret => exact hQ .ret s' γ' a' w' hI' hq
 · cases e with
   | goto l' =>
     obtain ⟨rfl, m, s'', hlt, hwk, hm⟩ := hq
     obtain ⟨γ'', hI''⟩ := hwk w0 Sx γ' a' w' hI'
     exact ⟨rfl, m, hlt, s'', γ'', hm, hI''⟩
   | normal => exact hQ .normal s' γ' a' w' hI' hq
   | exit id => exact hQ (.exit id) s' γ' a' w' hI' hq
   | ret => exact hQ .ret s' γ' a' w' hI' hq
theorem chkC_label {ords : List (Nat × List (Nat × Bool))} {l : Nat} : ∀ {c rest : Code}, chkC ords c = true → findLabel c l = some rest → chkC ords rest = true := by
 intro c
 induction c with
 | seq a b iha ihb =>
   intro rest h hf
   simp only [chkC, Bool.and_eq_true] at h
   simp only [findLabel] at hf
   split at hf
   · rename_i r hr
     cases hf
     simp only [chkC, Bool.and_eq_true]
     exact ⟨iha h.1 hr, h.2⟩
   · exact ihb h.2 hf
 | label l' =>
   intro rest h hf
   simp only [findLabel] at hf
   split at hf
   · cases hf; rfl
   · cases hf
 | _ => intro rest h hf; cases hf
def FOk (P : Program) (cx : Cx) : Prop := ∀ f fi, lk f cx.F = some fi → ∃ fn, P.funcs[f]? = some fn ∧ (fn.name == "runtime.NumGoroutine") = false ∧ fn.body = some fi.c ∧ fn.results = fi.ts.toArray ∧ fn.ntmps = fi.n ∧ Nat.ble fi.n 900 = true ∧ chkC fi.ords fi.c = true
theorem turnE_ok {β : Type} {ts : List Nat} {st : St} {k : St → Option β} {b : β} (h : turnE ts st k = some b) : ∃ st', Wk st st' ∧ k st' = some b := by
 unfold turnE at h
 rw [fRen_eq] at h
 generalize number false 905000 _ = ρ at h
 cases hρ : renOk ρ with
 | false => rw [hρ] at h; cases h
 | true =>
   rw [hρ, cond_true] at h
   split at h
   · rename_i st' hst
     rw [fSt_eq] at h
     exact ⟨st', qh ts ρ hst hρ, h⟩
   · cases h
section
variable {P : Program} {cx : Cx} (hT : qX P cx.T) (hC : TabOk P cx) (hF : FOk P cx) (hm : P.follows .mixedOrders = true)
theorem jQ {α β : Type} {a a' : α} {b b' : β} (h : some (a, b) = some (a', b')) : a = a' ∧ b = b' := by cases h; exact ⟨rfl, rfl⟩
include hT hC hF hm in
theorem evN_ok : ∀ n ords c st e s', chkC ords c = true → evN cx n ords c st = some (e, s') → SW P c (fun e1 s1 => e1 = e ∧ s1 = s') st := by
 intro n
 induction n using Nat.strongRecOn with
 | ind n IH =>
 cases n with
 | zero => intro ords c st e s' _ h; cases h
 | succ n =>
   have hev : EvOk P cx (fun _ fi args own => bif Nat.ble args.length fi.n then finR cx.T fi.ts (evN cx n fi.ords fi.c ⟨fi.n, jT 0 args, own⟩) else none) := by
    intro f fi args own r own' hfi h
    obtain ⟨fn, h1, h2, h3, h4, h5, h6, h7⟩ := hF f fi hfi
    cases hb : Nat.ble args.length fi.n with
    | false => simp only [hb, cond_false] at h; cases h
    | true =>
      simp only [hb, cond_true] at h
      unfold finR at h
      have hn : args.length ≤ fn.ntmps ∧ fn.ntmps ≤ 900 := by rw [h5]; exact ⟨Nat.le_of_ble_eq_true hb, Nat.le_of_ble_eq_true h6⟩
      split at h
      · rename_i st' he
        exact holdsV_of hT h1 h2 h3 h4 hn (by rw [h5]; exact IH n (Nat.lt_succ_self n) _ _ _ _ _ h7 he) (Or.inl rfl) h
      · rename_i st' he
        exact holdsV_of hT h1 h2 h3 h4 hn (by rw [h5]; exact IH n (Nat.lt_succ_self n) _ _ _ _ _ h7 he) (Or.inr rfl) h
      · cases h
   intro ords c
   induction c with
   | skip =>
     intro st e s' _ h
     obtain ⟨rfl, rfl⟩ := jQ h
     exact qd ⟨rfl, rfl⟩
   | region id ops d =>
     intro st e s' hc h
     have h : (match evReg cx _ ords id ops.toList st d with | some st' => some (SEx.normal, st') | none => none) = some (e, s') := h
     split at h
     · rename_i st' hr
       obtain ⟨rfl, rfl⟩ := jQ h
       exact (evReg_ok hT hC hev hm (fun hd => by subst hd; exact hc) hr).mono fun e s q => q
     · cases h
   | seq a b iha ihb =>
     intro st e s' hc h
     simp only [chkC, Bool.and_eq_true] at hc
     have h : (match evN cx (n + 1) ords a st with | some (.normal, st') => evN cx (n + 1) ords b st' | r => r) = some (e, s') := h
     refine qH ?_
     split at h
     · rename_i st1 ha
       exact (iha st _ _ hc.1 ha).mono fun e1 s1 ⟨q1, q2⟩ => by subst q1 q2; exact ihb _ _ _ hc.2 h
     · rename_i hne
       refine (iha st _ _ hc.1 h).mono fun e1 s1 ⟨q1, q2⟩ => ?_
       subst q1 q2
       cases e1 with
       | normal => exact absurd h (hne s1)
       | _ => exact ⟨rfl, rfl⟩
   | cond x a b iha ihb =>
     intro st e s' hc h
     simp only [chkC, Bool.and_eq_true] at hc
     have h : (match evF st x with | some (.p (.v (.bool true))) => evN cx (n + 1) ords a st | some (.p (.v (.bool false))) => evN cx (n + 1) ords b st | _ => none) = some (e, s') := h
     rw [evF_eq] at h
     split at h
     · rename_i hx
       exact sw_cond hx (fun _ => iha _ _ _ hc.1 h) fun q => by cases q
     · rename_i hx
       exact sw_cond hx (fun q => by cases q) fun _ => ihb _ _ _ hc.2 h
     · cases h
   | block id b ih =>
     intro st e s' hc h
     have h : (match evN cx (n + 1) ords b st with | some (.exit i, st') => bif Nat.beq i id then some (SEx.normal, st') else some (.exit i, st') | r => r) = some (e, s') := h
     refine sw_block ?_
     split at h
     · rename_i i st' hb
       refine (ih st _ _ hc hb).mono fun e1 s1 ⟨q1, q2⟩ => ?_
       subst q1 q2
       show (bif Nat.beq i id then _ else _)
       cases hi : Nat.beq i id with
       | true => rw [hi] at h; obtain ⟨rfl, rfl⟩ := jQ h; exact ⟨rfl, rfl⟩
       | false => rw [hi] at h; obtain ⟨rfl, rfl⟩ := jQ h; exact ⟨rfl, rfl⟩
     · rename_i hne
       refine (ih st _ _ hc h).mono fun e1 s1 ⟨q1, q2⟩ => ?_
       subst q1 q2
       cases e1 with
       | exit i => exact absurd h (hne i s1)
       | _ => exact ⟨rfl, rfl⟩
   | loop b ih =>
     intro st e s' hc h
     have hbody : ∀ m, m ≤ n → ∀ s e2 s2, evN cx (m + 1) ords b s = some (e2, s2) → SW P b (fun e1 s1 => e1 = e2 ∧ s1 = s2) s := fun m hmn s e2 s2 h2 => by
      rcases Nat.lt_or_eq_of_le hmn with hlt | rfl
      · exact IH (m + 1) (by omega) ords b s e2 s2 hc h2
      · exact ih s e2 s2 hc h2
     refine qw (fun m s => m ≤ n + 1 ∧ evN cx m ords (.loop b) s = some (e, s')) (n + 1) ⟨Nat.le_refl _, h⟩ ?_
     rintro m s ⟨hmn, h2⟩
     cases m with
     | zero => cases h2
     | succ m =>
       have h2 : (fNats (keys s.fr []) fun ts => match evN cx (m + 1) ords b s with | some (.normal, st') => turnE ts st' fun st'' => evN cx m ords (.loop b) st'' | r => r) = some (e, s') := h2
       rw [fNats_eq] at h2
       split at h2
       · rename_i st1 hb
         obtain ⟨st2, h3, h4⟩ := turnE_ok h2
         exact (hbody m (by omega) s _ _ hb).mono fun e1 s1 ⟨q1, q2⟩ => by
          subst q1 q2
          exact ⟨m, st2, Nat.lt_succ_self m, h3, by omega, h4⟩
       · rename_i hne
         refine (hbody m (by omega) s _ _ h2).mono fun e1 s1 ⟨q1, q2⟩ => ?_
         subst q1 q2
         cases e1 with
         | normal => exact absurd h2 (hne s1)
         | _ => exact ⟨rfl, rfl⟩
   | exit id =>
     intro st e s' _ h
     obtain ⟨rfl, rfl⟩ := jQ h
     exact qt ⟨rfl, rfl⟩
   | ret =>
     intro st e s' _ h
     obtain ⟨rfl, rfl⟩ := jQ h
     exact sw_ret ⟨rfl, rfl⟩
   | label l =>
     intro st e s' _ h
     obtain ⟨rfl, rfl⟩ := jQ h
     exact sw_label ⟨rfl, rfl⟩
   | rangeFunc _ _ _ _ _ _ => intro st e s' _ h; cases h
   | goto l =>
     intro st e s' _ h
     obtain ⟨rfl, rfl⟩ := jQ h
     exact qaF ⟨rfl, rfl⟩
   | scope b ih =>
     intro st e s' hc h
     have h : (match evN cx (n + 1) ords b st with | some (.goto l, st') => turnE (keys st'.fr []) st' fun st'' => evJ cx n ords b l st'' | r => r) = some (e, s') := h
     split at h
     · rename_i l st1 hb
       obtain ⟨st2, h3, h4⟩ := turnE_ok h
       have hrest : ∃ rest, findLabel b l = some rest := by
        cases n with
        | zero => cases h4
        | succ n =>
          have h4 : jumpE (evN cx (n + 1) ords) (evJ cx n ords b l) b l st2 = some (e, s') := h4
          unfold jumpE at h4
          split at h4
          · rename_i rest hr; exact ⟨rest, hr⟩
          · cases h4
       obtain ⟨rest, hr⟩ := hrest
       refine sw_scope l (fun m s => m ≤ n ∧ evJ cx m ords b l s = some (e, s')) hr ((ih st _ _ hc hb).mono fun e1 s1 ⟨q1, q2⟩ => by subst q1 q2; exact ⟨rfl, n, st2, h3, Nat.le_refl _, h4⟩) ?_
       rintro m s ⟨hmn, h2⟩
       cases m with
       | zero => cases h2
       | succ m =>
         have h2 : jumpE (evN cx (m + 1) ords) (evJ cx m ords b l) b l s = some (e, s') := h2
         unfold jumpE at h2
         rw [hr] at h2
         simp only at h2
         split at h2
         · rename_i l' st3 hx
           cases hl : Nat.beq l' l with
           | false => rw [hl] at h2; cases h2
           | true =>
             rw [hl, cond_true] at h2
             have el : l' = l := Nat.eq_of_beq_eq_true hl
             subst el
             obtain ⟨st4, h5, h6⟩ := turnE_ok h2
             exact (IH (m + 1) (by omega) ords rest s _ _ (chkC_label (c := b) hc hr) hx).mono fun e1 s1 ⟨q1, q2⟩ => by
              subst q1 q2
              exact ⟨rfl, m, st4, Nat.lt_succ_self m, h5, by omega, h6⟩
         · rename_i hne
           refine (IH (m + 1) (by omega) ords rest s _ _ (chkC_label (c := b) hc hr) h2).mono fun e1 s1 ⟨q1, q2⟩ => ?_
           subst q1 q2
           cases e1 with
           | goto l' => exact absurd h2 (hne l' s1)
           | _ => exact ⟨rfl, rfl⟩
     · rename_i hne
       refine sw_scope0 ((ih st _ _ hc h).mono fun e1 s1 ⟨q1, q2⟩ => ?_)
       subst q1 q2
       refine ⟨⟨rfl, rfl⟩, fun l hl => ?_⟩
       subst hl
       exact hne l s1 h
   | refuse _ => intro st e s' _ h; cases h
noncomputable def evF1 (cx : Cx) (n : Nat) (f : FuncId) (args : List SV) (own : List (Nat × Box)) : Ret := match lkF f cx.F with
 | some fi => bif Nat.ble args.length fi.n then finR cx.T fi.ts (evN cx n fi.ords fi.c ⟨fi.n, jT 0 args, own⟩) else none
 | none => none
include hT hC hF hm in
theorem qan {n : Nat} {f : FuncId} {args : List SV} {own : List (Nat × Box)} {r : SV} {own' : List (Nat × Box)} (h : evF1 cx n f args own = some (r, own')) : qJ P f args own r own' := by
 unfold evF1 at h
 rw [qW] at h
 split at h
 · rename_i fi hfi
   obtain ⟨fn, h1, h2, h3, h4, h5, h6, h7⟩ := hF f fi hfi
   cases hb : Nat.ble args.length fi.n with
   | false => rw [hb] at h; cases h
   | true =>
     rw [hb, cond_true] at h
     unfold finR at h
     have hn : args.length ≤ fn.ntmps ∧ fn.ntmps ≤ 900 := by rw [h5]; exact ⟨Nat.le_of_ble_eq_true hb, Nat.le_of_ble_eq_true h6⟩
     split at h
     · rename_i st' he
       exact holdsV_of hT h1 h2 h3 h4 hn (by rw [h5]; exact evN_ok hT hC hF hm n _ _ _ _ _ h7 he) (Or.inl rfl) h
     · rename_i st' he
       exact holdsV_of hT h1 h2 h3 h4 hn (by rw [h5]; exact evN_ok hT hC hF hm n _ _ _ _ _ h7 he) (Or.inr rfl) h
     · cases h
 · cases h
end
theorem baseOf_nil (w : World) (γ : Nat → Value) : wa w γ [] = entry w := by
 unfold wa entry
 congr 1
 · funext b; exact propext ⟨fun h => h.1, fun h => ⟨h, fun i bx hi => by cases hi⟩⟩
 · funext i; split <;> rfl
theorem Holds.ofW {P : Program} {f : FuncId} {args : List PV} {r : SV} {own' : List (Nat × Box)} (h : qJ P f (args.map .p) [] r own') : Holds P f args r own' := by
 refine ⟨h.1, fun w Sx vs hSx hl hr => (h.2 w Sx (fun _ => .nilIface) vs (by rw [baseOf_nil]; exact heap_nil hSx _) (by simpa using hl) fun i s u hs hu => ?_).mono fun e w' he => ?_⟩
 · rw [List.getElem?_map] at hs
   obtain ⟨x, hx, rfl⟩ := Option.map_eq_some_iff.1 hs
   exact .p ((hr i x u hx hu).weak fun b _ hok => ⟨hok, fun i bx hi => by cases hi⟩)
 · obtain ⟨v, γ', r', o', ⟨rfl, rfl⟩, h1, h2, h3, h4⟩ := he
   rw [baseOf_nil] at h2 h3
   exact ⟨v, γ', h1, belowB_entry.1 h2, h3, h4⟩
def FnOk (P : Program) (f : FuncId) (fi : FnI) : Prop := ∃ fn, P.funcs[f]? = some fn ∧ (fn.name == "runtime.NumGoroutine") = false ∧ fn.body = some fi.c ∧ fn.results = fi.ts.toArray ∧ fn.ntmps = fi.n ∧ Nat.ble fi.n 900 = true ∧ chkC fi.ords fi.c = true
theorem fok_nil {P : Program} {T : TT} {C : FuncId → List PV → Option SV} : FOk P ⟨T, [], C⟩ := fun f fi h => by cases h
theorem qn {P : Program} {T : TT} {C : FuncId → List PV → Option SV} {F : List (FuncId × FnI)} {f : FuncId} {fi : FnI} (h : FnOk P f fi) (r : FOk P ⟨T, F, C⟩) : FOk P ⟨T, (f, fi) :: F, C⟩ := fun g gi hg => by
 have h2 : lk g ((f, fi) :: F) = some gi := hg
 clear hg
 rw [qA] at h2
 by_cases e : g = f
 · rw [if_pos e] at h2
   obtain rfl := Option.some.inj h2
   subst e; exact h
 · rw [if_neg e] at h2; exact r g gi h2
end Go.Proofs.YtkkbdgijfkocnaaGreatDoor
namespace Go.Proofs.YtkkbdgijfkocnaaGreatDoor
open Go.RowKit
noncomputable def fnsc3 : FnI := ⟨87, Tryz.f3.body.getD .skip, [.tmp 0], []⟩
theorem fnsc3_ok : FnOk Tryz.prog 3 fnsc3 := ⟨_, Tryz.func3, by kernel_rfl, by kernel_rfl, by kernel_rfl, by kernel_rfl, by kernel_rfl, by kernel_rfl⟩
noncomputable def fnsc10 : FnI := ⟨14, Tryz.f10.body.getD .skip, [.tmp 2], [(1, [(0, true), (1, true), (2, true), (3, true), (4, true), (5, false), (6, false), (7, false), (8, false), (9, false), (10, false), (11, false)])]⟩
theorem fnsc10_ok : FnOk Tryz.prog 10 fnsc10 := ⟨_, Tryz.func10, by kernel_rfl, by kernel_rfl, by kernel_rfl, by kernel_rfl, by kernel_rfl, by kernel_rfl⟩
noncomputable def fnsc26 : FnI := ⟨55, Tryz.f26.body.getD .skip, [.tmp 4], []⟩
theorem fnsc26_ok : FnOk Tryz.prog 26 fnsc26 := ⟨_, Tryz.func26, by kernel_rfl, by kernel_rfl, by kernel_rfl, by kernel_rfl, by kernel_rfl, by kernel_rfl⟩
noncomputable def fnsc23 : FnI := ⟨25, Tryz.f23.body.getD .skip, [.cell 4 68, .tmp 5], []⟩
theorem fnsc23_ok : FnOk Tryz.prog 23 fnsc23 := ⟨_, Tryz.func23, by kernel_rfl, by kernel_rfl, by kernel_rfl, by kernel_rfl, by kernel_rfl, by kernel_rfl⟩
noncomputable def fnsc8 : FnI := ⟨47, Tryz.f8.body.getD .skip, [.cell 4 37, .tmp 5], [(7, [(0, true), (1, true), (2, true), (3, true), (4, true), (5, true), (6, true), (7, true), (8, true), (10, true), (9, false), (11, false), (12, false), (13, false)])]⟩
theorem fnsc8_ok : FnOk Tryz.prog 8 fnsc8 := ⟨_, Tryz.func8, by kernel_rfl, by kernel_rfl, by kernel_rfl, by kernel_rfl, by kernel_rfl, by kernel_rfl⟩
noncomputable def fnsc25 : FnI := ⟨17, Tryz.f25.body.getD .skip, [.tmp 4], []⟩
theorem fnsc25_ok : FnOk Tryz.prog 25 fnsc25 := ⟨_, Tryz.func25, by kernel_rfl, by kernel_rfl, by kernel_rfl, by kernel_rfl, by kernel_rfl, by kernel_rfl⟩
noncomputable def fnsc50 : FnI := ⟨38, Tryz.f50.body.getD .skip, [.tmp 4], []⟩
theorem fnsc50_ok : FnOk Tryz.prog 50 fnsc50 := ⟨_, Tryz.func50, by kernel_rfl, by kernel_rfl, by kernel_rfl, by kernel_rfl, by kernel_rfl, by kernel_rfl⟩
noncomputable def fnsc85 : FnI := ⟨42, Tryz.f85.body.getD .skip, [.tmp 4, .tmp 5], []⟩
theorem fnsc85_ok : FnOk Tryz.prog 85 fnsc85 := ⟨_, Tryz.func85, by kernel_rfl, by kernel_rfl, by kernel_rfl, by kernel_rfl, by kernel_rfl, by kernel_rfl⟩
noncomputable def fnsc123 : FnI := ⟨40, Tryz.f123.body.getD .skip, [.tmp 4, .tmp 5], []⟩
theorem fnsc123_ok : FnOk Tryz.prog 123 fnsc123 := ⟨_, Tryz.func123, by kernel_rfl, by kernel_rfl, by kernel_rfl, by kernel_rfl, by kernel_rfl, by kernel_rfl⟩
noncomputable def fnsc156 : FnI := ⟨9, Tryz.f156.body.getD .skip, [.tmp 2], []⟩
theorem fnsc156_ok : FnOk Tryz.prog 156 fnsc156 := ⟨_, Tryz.func156, by kernel_rfl, by kernel_rfl, by kernel_rfl, by kernel_rfl, by kernel_rfl, by kernel_rfl⟩
noncomputable def fnsc155 : FnI := ⟨61, Tryz.f155.body.getD .skip, [.tmp 2], []⟩
theorem fnsc155_ok : FnOk Tryz.prog 155 fnsc155 := ⟨_, Tryz.func155, by kernel_rfl, by kernel_rfl, by kernel_rfl, by kernel_rfl, by kernel_rfl, by kernel_rfl⟩
noncomputable def fnsc124 : FnI := ⟨49, Tryz.f124.body.getD .skip, [.tmp 2], []⟩
theorem fnsc124_ok : FnOk Tryz.prog 124 fnsc124 := ⟨_, Tryz.func124, by kernel_rfl, by kernel_rfl, by kernel_rfl, by kernel_rfl, by kernel_rfl, by kernel_rfl⟩
noncomputable def fnsc84 : FnI := ⟨30, Tryz.f84.body.getD .skip, [.tmp 4, .tmp 5], []⟩
theorem fnsc84_ok : FnOk Tryz.prog 84 fnsc84 := ⟨_, Tryz.func84, by kernel_rfl, by kernel_rfl, by kernel_rfl, by kernel_rfl, by kernel_rfl, by kernel_rfl⟩
noncomputable def fnsc122 : FnI := ⟨8, Tryz.f122.body.getD .skip, [.tmp 2], []⟩
theorem fnsc122_ok : FnOk Tryz.prog 122 fnsc122 := ⟨_, Tryz.func122, by kernel_rfl, by kernel_rfl, by kernel_rfl, by kernel_rfl, by kernel_rfl, by kernel_rfl⟩
noncomputable def fnsc121 : FnI := ⟨10, Tryz.f121.body.getD .skip, [.tmp 6], []⟩
theorem fnsc121_ok : FnOk Tryz.prog 121 fnsc121 := ⟨_, Tryz.func121, by kernel_rfl, by kernel_rfl, by kernel_rfl, by kernel_rfl, by kernel_rfl, by kernel_rfl⟩
noncomputable def fnsc153 : FnI := ⟨19, Tryz.f153.body.getD .skip, [.tmp 4], []⟩
theorem fnsc153_ok : FnOk Tryz.prog 153 fnsc153 := ⟨_, Tryz.func153, by kernel_rfl, by kernel_rfl, by kernel_rfl, by kernel_rfl, by kernel_rfl, by kernel_rfl⟩
noncomputable def fnsc154 : FnI := ⟨15, Tryz.f154.body.getD .skip, [.tmp 4], []⟩
theorem fnsc154_ok : FnOk Tryz.prog 154 fnsc154 := ⟨_, Tryz.func154, by kernel_rfl, by kernel_rfl, by kernel_rfl, by kernel_rfl, by kernel_rfl, by kernel_rfl⟩
noncomputable def fnsc49 : FnI := ⟨26, Tryz.f49.body.getD .skip, [.tmp 4], []⟩
theorem fnsc49_ok : FnOk Tryz.prog 49 fnsc49 := ⟨_, Tryz.func49, by kernel_rfl, by kernel_rfl, by kernel_rfl, by kernel_rfl, by kernel_rfl, by kernel_rfl⟩
noncomputable def fnsc83 : FnI := ⟨15, Tryz.f83.body.getD .skip, [.tmp 4], []⟩
theorem fnsc83_ok : FnOk Tryz.prog 83 fnsc83 := ⟨_, Tryz.func83, by kernel_rfl, by kernel_rfl, by kernel_rfl, by kernel_rfl, by kernel_rfl, by kernel_rfl⟩
noncomputable def fnsc82 : FnI := ⟨51, Tryz.f82.body.getD .skip, [.cell 4 76, .tmp 5], [(8, [(0, true), (1, true), (2, true), (3, true), (4, true), (5, true), (6, true), (7, false), (8, false), (9, false), (10, false), (11, false)]), (10, [(0, true), (1, true), (2, true), (3, true), (4, true), (5, true), (6, true), (7, true), (8, false), (9, false)])]⟩
theorem fnsc82_ok : FnOk Tryz.prog 82 fnsc82 := ⟨_, Tryz.func82, by kernel_rfl, by kernel_rfl, by kernel_rfl, by kernel_rfl, by kernel_rfl, by kernel_rfl⟩
noncomputable def fnsc120 : FnI := ⟨122, Tryz.f120.body.getD .skip, [.cell 6 176], [(28, [(0, true), (1, true), (2, true), (3, true), (4, false), (5, false), (6, false), (7, false), (8, false), (9, false), (10, false)])]⟩
theorem fnsc120_ok : FnOk Tryz.prog 120 fnsc120 := ⟨_, Tryz.func120, by kernel_rfl, by kernel_rfl, by kernel_rfl, by kernel_rfl, by kernel_rfl, by kernel_rfl⟩
noncomputable def fnsc152 : FnI := ⟨111, Tryz.f152.body.getD .skip, [.cell 4 76, .tmp 5], [(5, [(0, true), (1, true), (2, true), (3, true), (4, false), (5, false), (6, false), (7, false), (8, false)]), (7, [(0, true), (1, true), (2, true), (3, false), (4, false), (5, false), (6, false), (7, false), (8, false), (9, false)]), (9, [(0, true), (1, true), (2, true), (3, false), (4, false), (5, false), (6, false), (7, false), (8, true), (9, true), (10, false), (11, false)])]⟩
theorem fnsc152_ok : FnOk Tryz.prog 152 fnsc152 := ⟨_, Tryz.func152, by kernel_rfl, by kernel_rfl, by kernel_rfl, by kernel_rfl, by kernel_rfl, by kernel_rfl⟩
noncomputable def fnsc176 : FnI := ⟨18, Tryz.f176.body.getD .skip, [.tmp 4], []⟩
theorem fnsc176_ok : FnOk Tryz.prog 176 fnsc176 := ⟨_, Tryz.func176, by kernel_rfl, by kernel_rfl, by kernel_rfl, by kernel_rfl, by kernel_rfl, by kernel_rfl⟩
noncomputable def fnsc175 : FnI := ⟨36, Tryz.f175.body.getD .skip, [.tmp 4, .tmp 5], []⟩
theorem fnsc175_ok : FnOk Tryz.prog 175 fnsc175 := ⟨_, Tryz.func175, by kernel_rfl, by kernel_rfl, by kernel_rfl, by kernel_rfl, by kernel_rfl, by kernel_rfl⟩
noncomputable def fnsc174 : FnI := ⟨27, Tryz.f174.body.getD .skip, [.tmp 4, .tmp 5], []⟩
theorem fnsc174_ok : FnOk Tryz.prog 174 fnsc174 := ⟨_, Tryz.func174, by kernel_rfl, by kernel_rfl, by kernel_rfl, by kernel_rfl, by kernel_rfl, by kernel_rfl⟩
noncomputable def fnsc173 : FnI := ⟨27, Tryz.f173.body.getD .skip, [.tmp 4, .tmp 5], []⟩
theorem fnsc173_ok : FnOk Tryz.prog 173 fnsc173 := ⟨_, Tryz.func173, by kernel_rfl, by kernel_rfl, by kernel_rfl, by kernel_rfl, by kernel_rfl, by kernel_rfl⟩
noncomputable def fnsc172 : FnI := ⟨31, Tryz.f172.body.getD .skip, [.cell 4 76, .tmp 5], [(3, [(0, true), (1, true), (2, true), (3, true), (4, true), (5, false), (6, false), (7, false), (8, false), (9, false), (10, false), (11, true), (12, true), (13, false), (14, false)])]⟩
theorem fnsc172_ok : FnOk Tryz.prog 172 fnsc172 := ⟨_, Tryz.func172, by kernel_rfl, by kernel_rfl, by kernel_rfl, by kernel_rfl, by kernel_rfl, by kernel_rfl⟩
noncomputable def fnsc171 : FnI := ⟨8, Tryz.f171.body.getD .skip, [.cell 2 76], []⟩
theorem fnsc171_ok : FnOk Tryz.prog 171 fnsc171 := ⟨_, Tryz.func171, by kernel_rfl, by kernel_rfl, by kernel_rfl, by kernel_rfl, by kernel_rfl, by kernel_rfl⟩
noncomputable def fnsc170 : FnI := ⟨32, Tryz.f170.body.getD .skip, [.tmp 4], []⟩
theorem fnsc170_ok : FnOk Tryz.prog 170 fnsc170 := ⟨_, Tryz.func170, by kernel_rfl, by kernel_rfl, by kernel_rfl, by kernel_rfl, by kernel_rfl, by kernel_rfl⟩
noncomputable def fnsc151 : FnI := ⟨8, Tryz.f151.body.getD .skip, [.tmp 4], []⟩
theorem fnsc151_ok : FnOk Tryz.prog 151 fnsc151 := ⟨_, Tryz.func151, by kernel_rfl, by kernel_rfl, by kernel_rfl, by kernel_rfl, by kernel_rfl, by kernel_rfl⟩
noncomputable def fnsc169 : FnI := ⟨9, Tryz.f169.body.getD .skip, [.tmp 4], []⟩
theorem fnsc169_ok : FnOk Tryz.prog 169 fnsc169 := ⟨_, Tryz.func169, by kernel_rfl, by kernel_rfl, by kernel_rfl, by kernel_rfl, by kernel_rfl, by kernel_rfl⟩
noncomputable def fnsc188 : FnI := ⟨19, Tryz.f188.body.getD .skip, [.tmp 4], [(4, [(0, true), (1, true), (2, false), (3, false), (4, false), (5, false)])]⟩
theorem fnsc188_ok : FnOk Tryz.prog 188 fnsc188 := ⟨_, Tryz.func188, by kernel_rfl, by kernel_rfl, by kernel_rfl, by kernel_rfl, by kernel_rfl, by kernel_rfl⟩
noncomputable def fnsc150 : FnI := ⟨10, Tryz.f150.body.getD .skip, [.cell 2 176], []⟩
theorem fnsc150_ok : FnOk Tryz.prog 150 fnsc150 := ⟨_, Tryz.func150, by kernel_rfl, by kernel_rfl, by kernel_rfl, by kernel_rfl, by kernel_rfl, by kernel_rfl⟩
noncomputable def fnsc119 : FnI := ⟨11, Tryz.f119.body.getD .skip, [.tmp 2], []⟩
theorem fnsc119_ok : FnOk Tryz.prog 119 fnsc119 := ⟨_, Tryz.func119, by kernel_rfl, by kernel_rfl, by kernel_rfl, by kernel_rfl, by kernel_rfl, by kernel_rfl⟩
noncomputable def fnsc89 : FnI := ⟨38, Tryz.f89.body.getD .skip, [.tmp 2], []⟩
theorem fnsc89_ok : FnOk Tryz.prog 89 fnsc89 := ⟨_, Tryz.func89, by kernel_rfl, by kernel_rfl, by kernel_rfl, by kernel_rfl, by kernel_rfl, by kernel_rfl⟩
noncomputable def fnsc126 : FnI := ⟨60, Tryz.f126.body.getD .skip, [.tmp 4, .tmp 5], [(11, [(0, true), (1, true), (2, true), (3, false), (4, false), (5, false), (6, false), (7, false), (8, false), (9, false)])]⟩
theorem fnsc126_ok : FnOk Tryz.prog 126 fnsc126 := ⟨_, Tryz.func126, by kernel_rfl, by kernel_rfl, by kernel_rfl, by kernel_rfl, by kernel_rfl, by kernel_rfl⟩
noncomputable def fnsc160 : FnI := ⟨37, Tryz.f160.body.getD .skip, [.tmp 2], []⟩
theorem fnsc160_ok : FnOk Tryz.prog 160 fnsc160 := ⟨_, Tryz.func160, by kernel_rfl, by kernel_rfl, by kernel_rfl, by kernel_rfl, by kernel_rfl, by kernel_rfl⟩
noncomputable def fnsc178 : FnI := ⟨16, Tryz.f178.body.getD .skip, [.tmp 2], []⟩
theorem fnsc178_ok : FnOk Tryz.prog 178 fnsc178 := ⟨_, Tryz.func178, by kernel_rfl, by kernel_rfl, by kernel_rfl, by kernel_rfl, by kernel_rfl, by kernel_rfl⟩
noncomputable def fnsc159 : FnI := ⟨35, Tryz.f159.body.getD .skip, [.tmp 2, .tmp 3], []⟩
theorem fnsc159_ok : FnOk Tryz.prog 159 fnsc159 := ⟨_, Tryz.func159, by kernel_rfl, by kernel_rfl, by kernel_rfl, by kernel_rfl, by kernel_rfl, by kernel_rfl⟩
noncomputable def fnsc24 : FnI := ⟨18, Tryz.f24.body.getD .skip, [.cell 4 37], []⟩
theorem fnsc24_ok : FnOk Tryz.prog 24 fnsc24 := ⟨_, Tryz.func24, by kernel_rfl, by kernel_rfl, by kernel_rfl, by kernel_rfl, by kernel_rfl, by kernel_rfl⟩
noncomputable def fnsc48 : FnI := ⟨8, Tryz.f48.body.getD .skip, [.tmp 2], []⟩
theorem fnsc48_ok : FnOk Tryz.prog 48 fnsc48 := ⟨_, Tryz.func48, by kernel_rfl, by kernel_rfl, by kernel_rfl, by kernel_rfl, by kernel_rfl, by kernel_rfl⟩
noncomputable def fnsc9 : FnI := ⟨8, Tryz.f9.body.getD .skip, [.tmp 2], []⟩
theorem fnsc9_ok : FnOk Tryz.prog 9 fnsc9 := ⟨_, Tryz.func9, by kernel_rfl, by kernel_rfl, by kernel_rfl, by kernel_rfl, by kernel_rfl, by kernel_rfl⟩
noncomputable def fnsc6 : FnI := ⟨31, Tryz.f6.body.getD .skip, [.tmp 2, .tmp 3], []⟩
theorem fnsc6_ok : FnOk Tryz.prog 6 fnsc6 := ⟨_, Tryz.func6, by kernel_rfl, by kernel_rfl, by kernel_rfl, by kernel_rfl, by kernel_rfl, by kernel_rfl⟩
noncomputable def fnsc21 : FnI := ⟨77, Tryz.f21.body.getD .skip, [.cell 4 58, .tmp 5], [(8, [(0, true), (1, true), (2, true), (3, false), (4, false), (5, false), (6, false), (7, false), (8, true), (9, true), (10, false), (11, false)]), (9, [(0, true), (1, true), (2, true), (3, true), (4, false), (5, false), (6, false), (7, false), (8, false), (9, false), (10, false), (11, false), (12, true), (13, true), (14, false), (15, false)])]⟩
theorem fnsc21_ok : FnOk Tryz.prog 21 fnsc21 := ⟨_, Tryz.func21, by kernel_rfl, by kernel_rfl, by kernel_rfl, by kernel_rfl, by kernel_rfl, by kernel_rfl⟩
noncomputable def fnsc39 : FnI := ⟨46, Tryz.f39.body.getD .skip, [.cell 4 58, .tmp 5], []⟩
theorem fnsc39_ok : FnOk Tryz.prog 39 fnsc39 := ⟨_, Tryz.func39, by kernel_rfl, by kernel_rfl, by kernel_rfl, by kernel_rfl, by kernel_rfl, by kernel_rfl⟩
noncomputable def fnsc67 : FnI := ⟨100, Tryz.f67.body.getD .skip, [.tmp 4, .tmp 5], [(10, [(0, true), (1, true), (2, true), (3, true), (4, true), (5, true), (6, false), (7, false), (8, false)]), (21, [(0, true), (1, true), (2, true), (3, true), (4, false), (5, false), (6, false), (7, true), (8, true), (9, false), (10, false)])]⟩
theorem fnsc67_ok : FnOk Tryz.prog 67 fnsc67 := ⟨_, Tryz.func67, by kernel_rfl, by kernel_rfl, by kernel_rfl, by kernel_rfl, by kernel_rfl, by kernel_rfl⟩
noncomputable def fnsc93 : FnI := ⟨77, Tryz.f93.body.getD .skip, [.tmp 4, .tmp 5], [(13, [(0, true), (1, true), (2, true), (3, true), (4, false), (5, false), (6, false)]), (16, [(0, true), (1, true), (2, true), (3, true), (4, true), (5, false), (6, false), (7, false), (8, false), (9, false)]), (18, [(0, true), (1, true), (2, true), (3, true), (4, true), (5, false), (6, false), (7, false), (8, false), (9, false), (10, false)])]⟩
theorem fnsc93_ok : FnOk Tryz.prog 93 fnsc93 := ⟨_, Tryz.func93, by kernel_rfl, by kernel_rfl, by kernel_rfl, by kernel_rfl, by kernel_rfl, by kernel_rfl⟩
noncomputable def fnsc131 : FnI := ⟨19, Tryz.f131.body.getD .skip, [.tmp 4], [(4, [(0, true), (1, true), (2, false), (3, false), (4, false), (5, false)])]⟩
theorem fnsc131_ok : FnOk Tryz.prog 131 fnsc131 := ⟨_, Tryz.func131, by kernel_rfl, by kernel_rfl, by kernel_rfl, by kernel_rfl, by kernel_rfl, by kernel_rfl⟩
noncomputable def fnsc130 : FnI := ⟨30, Tryz.f130.body.getD .skip, [.tmp 6], []⟩
theorem fnsc130_ok : FnOk Tryz.prog 130 fnsc130 := ⟨_, Tryz.func130, by kernel_rfl, by kernel_rfl, by kernel_rfl, by kernel_rfl, by kernel_rfl, by kernel_rfl⟩
noncomputable def fnsc99 : FnI := ⟨52, Tryz.f99.body.getD .skip, [.tmp 8], []⟩
theorem fnsc99_ok : FnOk Tryz.prog 99 fnsc99 := ⟨_, Tryz.func99, by kernel_rfl, by kernel_rfl, by kernel_rfl, by kernel_rfl, by kernel_rfl, by kernel_rfl⟩
noncomputable def fnsc133 : FnI := ⟨8, Tryz.f133.body.getD .skip, [.tmp 2], []⟩
theorem fnsc133_ok : FnOk Tryz.prog 133 fnsc133 := ⟨_, Tryz.func133, by kernel_rfl, by kernel_rfl, by kernel_rfl, by kernel_rfl, by kernel_rfl, by kernel_rfl⟩
noncomputable def fnsc98 : FnI := ⟨27, Tryz.f98.body.getD .skip, [.tmp 4], []⟩
theorem fnsc98_ok : FnOk Tryz.prog 98 fnsc98 := ⟨_, Tryz.func98, by kernel_rfl, by kernel_rfl, by kernel_rfl, by kernel_rfl, by kernel_rfl, by kernel_rfl⟩
noncomputable def fnsc97 : FnI := ⟨37, Tryz.f97.body.getD .skip, [.tmp 4], []⟩
theorem fnsc97_ok : FnOk Tryz.prog 97 fnsc97 := ⟨_, Tryz.func97, by kernel_rfl, by kernel_rfl, by kernel_rfl, by kernel_rfl, by kernel_rfl, by kernel_rfl⟩
noncomputable def fnsc96 : FnI := ⟨20, Tryz.f96.body.getD .skip, [.tmp 2], []⟩
theorem fnsc96_ok : FnOk Tryz.prog 96 fnsc96 := ⟨_, Tryz.func96, by kernel_rfl, by kernel_rfl, by kernel_rfl, by kernel_rfl, by kernel_rfl, by kernel_rfl⟩
noncomputable def fnsc132 : FnI := ⟨11, Tryz.f132.body.getD .skip, [.tmp 6], []⟩
theorem fnsc132_ok : FnOk Tryz.prog 132 fnsc132 := ⟨_, Tryz.func132, by kernel_rfl, by kernel_rfl, by kernel_rfl, by kernel_rfl, by kernel_rfl, by kernel_rfl⟩
noncomputable def fnsc161 : FnI := ⟨21, Tryz.f161.body.getD .skip, [.tmp 6], []⟩
theorem fnsc161_ok : FnOk Tryz.prog 161 fnsc161 := ⟨_, Tryz.func161, by kernel_rfl, by kernel_rfl, by kernel_rfl, by kernel_rfl, by kernel_rfl, by kernel_rfl⟩
noncomputable def fnsc179 : FnI := ⟨36, Tryz.f179.body.getD .skip, [.tmp 6], []⟩
theorem fnsc179_ok : FnOk Tryz.prog 179 fnsc179 := ⟨_, Tryz.func179, by kernel_rfl, by kernel_rfl, by kernel_rfl, by kernel_rfl, by kernel_rfl, by kernel_rfl⟩
noncomputable def fnsc192 : FnI := ⟨102, Tryz.f192.body.getD .skip, [.tmp 10, .tmp 11], []⟩
theorem fnsc192_ok : FnOk Tryz.prog 192 fnsc192 := ⟨_, Tryz.func192, by kernel_rfl, by kernel_rfl, by kernel_rfl, by kernel_rfl, by kernel_rfl, by kernel_rfl⟩
noncomputable def fnsc202 : FnI := ⟨8, Tryz.f202.body.getD .skip, [.tmp 2], []⟩
theorem fnsc202_ok : FnOk Tryz.prog 202 fnsc202 := ⟨_, Tryz.func202, by kernel_rfl, by kernel_rfl, by kernel_rfl, by kernel_rfl, by kernel_rfl, by kernel_rfl⟩
noncomputable def fnsc207 : FnI := ⟨14, Tryz.f207.body.getD .skip, [.tmp 2], []⟩
theorem fnsc207_ok : FnOk Tryz.prog 207 fnsc207 := ⟨_, Tryz.func207, by kernel_rfl, by kernel_rfl, by kernel_rfl, by kernel_rfl, by kernel_rfl, by kernel_rfl⟩
noncomputable def fnsc206 : FnI := ⟨14, Tryz.f206.body.getD .skip, [.tmp 2], []⟩
theorem fnsc206_ok : FnOk Tryz.prog 206 fnsc206 := ⟨_, Tryz.func206, by kernel_rfl, by kernel_rfl, by kernel_rfl, by kernel_rfl, by kernel_rfl, by kernel_rfl⟩
noncomputable def fnsc201 : FnI := ⟨8, Tryz.f201.body.getD .skip, [.tmp 2], []⟩
theorem fnsc201_ok : FnOk Tryz.prog 201 fnsc201 := ⟨_, Tryz.func201, by kernel_rfl, by kernel_rfl, by kernel_rfl, by kernel_rfl, by kernel_rfl, by kernel_rfl⟩
noncomputable def fnsc191 : FnI := ⟨167, Tryz.f191.body.getD .skip, [], [(7, [(0, true), (1, true), (2, true), (3, true), (4, true), (5, true), (6, true), (7, true), (8, true), (9, true), (10, true), (11, false), (12, false), (13, false), (14, false)]), (8, [(0, true), (1, true), (2, true), (3, true), (4, true), (5, true), (6, true), (7, true), (8, true), (9, true), (10, true), (11, false), (12, false), (13, false), (14, false)]), (9, [(0, true), (1, true), (2, true), (3, true), (4, true), (5, true), (6, true), (7, true), (8, true), (9, true), (10, true), (11, false), (12, false), (13, false), (14, false)]), (10, [(0, true), (1, true), (2, true), (3, true), (4, true), (5, true), (6, true), (7, true), (8, true), (9, true), (10, true), (11, false), (12, false), (13, false), (14, false)]), (17, [(0, true), (1, true), (2, true), (3, true), (4, true), (5, true), (6, true), (7, true), (8, true), (9, true), (10, true), (11, false), (12, false), (13, false), (14, false)]), (18, [(0, true), (1, true), (2, true), (3, true), (4, true), (5, true), (6, true), (7, true), (8, true), (9, true), (10, true), (11, false), (12, false), (13, false), (14, false)]), (23, [(0, true), (1, true), (2, true), (3, true), (4, true), (5, true), (6, true), (7, true), (8, true), (9, true), (10, true), (11, false), (12, false), (13, false), (14, false)])]⟩
theorem fnsc191_ok : FnOk Tryz.prog 191 fnsc191 := ⟨_, Tryz.func191, by kernel_rfl, by kernel_rfl, by kernel_rfl, by kernel_rfl, by kernel_rfl, by kernel_rfl⟩
noncomputable def fnsc190 : FnI := ⟨15, Tryz.f190.body.getD .skip, [.tmp 2], []⟩
theorem fnsc190_ok : FnOk Tryz.prog 190 fnsc190 := ⟨_, Tryz.func190, by kernel_rfl, by kernel_rfl, by kernel_rfl, by kernel_rfl, by kernel_rfl, by kernel_rfl⟩
noncomputable def fnsc200 : FnI := ⟨4, Tryz.f200.body.getD .skip, [.tmp 2], []⟩
theorem fnsc200_ok : FnOk Tryz.prog 200 fnsc200 := ⟨_, Tryz.func200, by kernel_rfl, by kernel_rfl, by kernel_rfl, by kernel_rfl, by kernel_rfl, by kernel_rfl⟩
noncomputable def fnsc198 : FnI := ⟨6, Tryz.f198.body.getD .skip, [.tmp 2], []⟩
theorem fnsc198_ok : FnOk Tryz.prog 198 fnsc198 := ⟨_, Tryz.func198, by kernel_rfl, by kernel_rfl, by kernel_rfl, by kernel_rfl, by kernel_rfl, by kernel_rfl⟩
noncomputable def fnsc199 : FnI := ⟨25, Tryz.f199.body.getD .skip, [.tmp 2], []⟩
theorem fnsc199_ok : FnOk Tryz.prog 199 fnsc199 := ⟨_, Tryz.func199, by kernel_rfl, by kernel_rfl, by kernel_rfl, by kernel_rfl, by kernel_rfl, by kernel_rfl⟩
noncomputable def fnsc189 : FnI := ⟨15, Tryz.f189.body.getD .skip, [.tmp 2], []⟩
theorem fnsc189_ok : FnOk Tryz.prog 189 fnsc189 := ⟨_, Tryz.func189, by kernel_rfl, by kernel_rfl, by kernel_rfl, by kernel_rfl, by kernel_rfl, by kernel_rfl⟩
noncomputable def fnsc66 : FnI := ⟨13, Tryz.f66.body.getD .skip, [.tmp 2, .tmp 3], []⟩
theorem fnsc66_ok : FnOk Tryz.prog 66 fnsc66 := ⟨_, Tryz.func66, by kernel_rfl, by kernel_rfl, by kernel_rfl, by kernel_rfl, by kernel_rfl, by kernel_rfl⟩
noncomputable def fnsc40 : FnI := ⟨34, Tryz.f40.body.getD .skip, [.tmp 4], [(7, [(0, true), (1, true), (2, true), (3, true), (4, true), (5, false), (6, false), (7, false), (8, false)])]⟩
theorem fnsc40_ok : FnOk Tryz.prog 40 fnsc40 := ⟨_, Tryz.func40, by kernel_rfl, by kernel_rfl, by kernel_rfl, by kernel_rfl, by kernel_rfl, by kernel_rfl⟩
noncomputable def fnsc41 : FnI := ⟨30, Tryz.f41.body.getD .skip, [.tmp 4], [(4, [(0, true), (1, true), (2, true), (3, true), (4, true), (5, false), (6, false), (7, false), (8, false), (9, false), (10, false)])]⟩
theorem fnsc41_ok : FnOk Tryz.prog 41 fnsc41 := ⟨_, Tryz.func41, by kernel_rfl, by kernel_rfl, by kernel_rfl, by kernel_rfl, by kernel_rfl, by kernel_rfl⟩
noncomputable def fnsc68 : FnI := ⟨19, Tryz.f68.body.getD .skip, [.tmp 4], []⟩
theorem fnsc68_ok : FnOk Tryz.prog 68 fnsc68 := ⟨_, Tryz.func68, by kernel_rfl, by kernel_rfl, by kernel_rfl, by kernel_rfl, by kernel_rfl, by kernel_rfl⟩
noncomputable def fnsc69 : FnI := ⟨7, Tryz.f69.body.getD .skip, [.tmp 3], []⟩
theorem fnsc69_ok : FnOk Tryz.prog 69 fnsc69 := ⟨_, Tryz.func69, by kernel_rfl, by kernel_rfl, by kernel_rfl, by kernel_rfl, by kernel_rfl, by kernel_rfl⟩
noncomputable def fnsc70 : FnI := ⟨17, Tryz.f70.body.getD .skip, [.tmp 4], []⟩
theorem fnsc70_ok : FnOk Tryz.prog 70 fnsc70 := ⟨_, Tryz.func70, by kernel_rfl, by kernel_rfl, by kernel_rfl, by kernel_rfl, by kernel_rfl, by kernel_rfl⟩
noncomputable def fnsc100 : FnI := ⟨26, Tryz.f100.body.getD .skip, [.tmp 4], [(6, [(0, true), (1, true), (2, true), (3, true), (4, true), (5, false), (6, false), (7, false), (8, false)])]⟩
theorem fnsc100_ok : FnOk Tryz.prog 100 fnsc100 := ⟨_, Tryz.func100, by kernel_rfl, by kernel_rfl, by kernel_rfl, by kernel_rfl, by kernel_rfl, by kernel_rfl⟩
noncomputable def fnsc42 : FnI := ⟨84, Tryz.f42.body.getD .skip, [.cell 6 37], [(22, [(0, true), (1, true), (2, true), (3, true), (4, false), (5, false), (6, false), (7, false), (8, false)])]⟩
theorem fnsc42_ok : FnOk Tryz.prog 42 fnsc42 := ⟨_, Tryz.func42, by kernel_rfl, by kernel_rfl, by kernel_rfl, by kernel_rfl, by kernel_rfl, by kernel_rfl⟩
noncomputable def fnsc73 : FnI := ⟨36, Tryz.f73.body.getD .skip, [.tmp 4], []⟩
theorem fnsc73_ok : FnOk Tryz.prog 73 fnsc73 := ⟨_, Tryz.func73, by kernel_rfl, by kernel_rfl, by kernel_rfl, by kernel_rfl, by kernel_rfl, by kernel_rfl⟩
noncomputable def fnsc72 : FnI := ⟨9, Tryz.f72.body.getD .skip, [.tmp 2], []⟩
theorem fnsc72_ok : FnOk Tryz.prog 72 fnsc72 := ⟨_, Tryz.func72, by kernel_rfl, by kernel_rfl, by kernel_rfl, by kernel_rfl, by kernel_rfl, by kernel_rfl⟩
noncomputable def fnsc71 : FnI := ⟨49, Tryz.f71.body.getD .skip, [.tmp 4, .tmp 5], []⟩
theorem fnsc71_ok : FnOk Tryz.prog 71 fnsc71 := ⟨_, Tryz.func71, by kernel_rfl, by kernel_rfl, by kernel_rfl, by kernel_rfl, by kernel_rfl, by kernel_rfl⟩
noncomputable def fnsc107 : FnI := ⟨12, Tryz.f107.body.getD .skip, [.tmp 6], []⟩
theorem fnsc107_ok : FnOk Tryz.prog 107 fnsc107 := ⟨_, Tryz.func107, by kernel_rfl, by kernel_rfl, by kernel_rfl, by kernel_rfl, by kernel_rfl, by kernel_rfl⟩
noncomputable def fnsc141 : FnI := ⟨9, Tryz.f141.body.getD .skip, [.tmp 4], []⟩
theorem fnsc141_ok : FnOk Tryz.prog 141 fnsc141 := ⟨_, Tryz.func141, by kernel_rfl, by kernel_rfl, by kernel_rfl, by kernel_rfl, by kernel_rfl, by kernel_rfl⟩
noncomputable def fnsc162 : FnI := ⟨19, Tryz.f162.body.getD .skip, [.tmp 4], []⟩
theorem fnsc162_ok : FnOk Tryz.prog 162 fnsc162 := ⟨_, Tryz.func162, by kernel_rfl, by kernel_rfl, by kernel_rfl, by kernel_rfl, by kernel_rfl, by kernel_rfl⟩
noncomputable def fnsc106 : FnI := ⟨20, Tryz.f106.body.getD .skip, [.tmp 2], []⟩
theorem fnsc106_ok : FnOk Tryz.prog 106 fnsc106 := ⟨_, Tryz.func106, by kernel_rfl, by kernel_rfl, by kernel_rfl, by kernel_rfl, by kernel_rfl, by kernel_rfl⟩
noncomputable def fnsc140 : FnI := ⟨31, Tryz.f140.body.getD .skip, [.tmp 6], []⟩
theorem fnsc140_ok : FnOk Tryz.prog 140 fnsc140 := ⟨_, Tryz.func140, by kernel_rfl, by kernel_rfl, by kernel_rfl, by kernel_rfl, by kernel_rfl, by kernel_rfl⟩
noncomputable def fnsc102 : FnI := ⟨26, Tryz.f102.body.getD .skip, [.tmp 4], []⟩
theorem fnsc102_ok : FnOk Tryz.prog 102 fnsc102 := ⟨_, Tryz.func102, by kernel_rfl, by kernel_rfl, by kernel_rfl, by kernel_rfl, by kernel_rfl, by kernel_rfl⟩
noncomputable def fnsc136 : FnI := ⟨8, Tryz.f136.body.getD .skip, [.tmp 4], []⟩
theorem fnsc136_ok : FnOk Tryz.prog 136 fnsc136 := ⟨_, Tryz.func136, by kernel_rfl, by kernel_rfl, by kernel_rfl, by kernel_rfl, by kernel_rfl, by kernel_rfl⟩
noncomputable def fnsc135 : FnI := ⟨10, Tryz.f135.body.getD .skip, [.tmp 2, .tmp 3], []⟩
theorem fnsc135_ok : FnOk Tryz.prog 135 fnsc135 := ⟨_, Tryz.func135, by kernel_rfl, by kernel_rfl, by kernel_rfl, by kernel_rfl, by kernel_rfl, by kernel_rfl⟩
noncomputable def fnsc139 : FnI := ⟨13, Tryz.f139.body.getD .skip, [.tmp 2], []⟩
theorem fnsc139_ok : FnOk Tryz.prog 139 fnsc139 := ⟨_, Tryz.func139, by kernel_rfl, by kernel_rfl, by kernel_rfl, by kernel_rfl, by kernel_rfl, by kernel_rfl⟩
noncomputable def fnsc105 : FnI := ⟨12, Tryz.f105.body.getD .skip, [.tmp 2], []⟩
theorem fnsc105_ok : FnOk Tryz.prog 105 fnsc105 := ⟨_, Tryz.func105, by kernel_rfl, by kernel_rfl, by kernel_rfl, by kernel_rfl, by kernel_rfl, by kernel_rfl⟩
noncomputable def fnsc138 : FnI := ⟨5, Tryz.f138.body.getD .skip, [.tmp 2], []⟩
theorem fnsc138_ok : FnOk Tryz.prog 138 fnsc138 := ⟨_, Tryz.func138, by kernel_rfl, by kernel_rfl, by kernel_rfl, by kernel_rfl, by kernel_rfl, by kernel_rfl⟩
noncomputable def fnsc137 : FnI := ⟨19, Tryz.f137.body.getD .skip, [.tmp 4], []⟩
theorem fnsc137_ok : FnOk Tryz.prog 137 fnsc137 := ⟨_, Tryz.func137, by kernel_rfl, by kernel_rfl, by kernel_rfl, by kernel_rfl, by kernel_rfl, by kernel_rfl⟩
noncomputable def fnsc104 : FnI := ⟨13, Tryz.f104.body.getD .skip, [.tmp 2], []⟩
theorem fnsc104_ok : FnOk Tryz.prog 104 fnsc104 := ⟨_, Tryz.func104, by kernel_rfl, by kernel_rfl, by kernel_rfl, by kernel_rfl, by kernel_rfl, by kernel_rfl⟩
noncomputable def fnsc103 : FnI := ⟨29, Tryz.f103.body.getD .skip, [.tmp 2], []⟩
theorem fnsc103_ok : FnOk Tryz.prog 103 fnsc103 := ⟨_, Tryz.func103, by kernel_rfl, by kernel_rfl, by kernel_rfl, by kernel_rfl, by kernel_rfl, by kernel_rfl⟩
noncomputable def fnsc101 : FnI := ⟨6, Tryz.f101.body.getD .skip, [.tmp 2], []⟩
theorem fnsc101_ok : FnOk Tryz.prog 101 fnsc101 := ⟨_, Tryz.func101, by kernel_rfl, by kernel_rfl, by kernel_rfl, by kernel_rfl, by kernel_rfl, by kernel_rfl⟩
noncomputable def fnsc134 : FnI := ⟨16, Tryz.f134.body.getD .skip, [.tmp 2], []⟩
theorem fnsc134_ok : FnOk Tryz.prog 134 fnsc134 := ⟨_, Tryz.func134, by kernel_rfl, by kernel_rfl, by kernel_rfl, by kernel_rfl, by kernel_rfl, by kernel_rfl⟩
noncomputable def fnsc38 : FnI := ⟨39, Tryz.f38.body.getD .skip, [.cell 4 58, .tmp 5], []⟩
theorem fnsc38_ok : FnOk Tryz.prog 38 fnsc38 := ⟨_, Tryz.func38, by kernel_rfl, by kernel_rfl, by kernel_rfl, by kernel_rfl, by kernel_rfl, by kernel_rfl⟩
noncomputable def fnsc64 : FnI := ⟨18, Tryz.f64.body.getD .skip, [.tmp 4], [(2, [(0, true), (1, true), (2, true), (3, true), (4, true), (5, false), (6, false), (7, false), (8, false), (9, false), (10, false)])]⟩
theorem fnsc64_ok : FnOk Tryz.prog 64 fnsc64 := ⟨_, Tryz.func64, by kernel_rfl, by kernel_rfl, by kernel_rfl, by kernel_rfl, by kernel_rfl, by kernel_rfl⟩
noncomputable def fnsc65 : FnI := ⟨38, Tryz.f65.body.getD .skip, [.cell 6 37], []⟩
theorem fnsc65_ok : FnOk Tryz.prog 65 fnsc65 := ⟨_, Tryz.func65, by kernel_rfl, by kernel_rfl, by kernel_rfl, by kernel_rfl, by kernel_rfl, by kernel_rfl⟩
noncomputable def fnsc61 : FnI := ⟨29, Tryz.f61.body.getD .skip, [.cell 4 58], [(2, [(0, true), (1, true), (2, true), (3, true), (4, true), (5, true), (7, true), (6, false), (8, false), (9, false), (10, false), (11, true), (12, true), (13, false), (14, false)])]⟩
theorem fnsc61_ok : FnOk Tryz.prog 61 fnsc61 := ⟨_, Tryz.func61, by kernel_rfl, by kernel_rfl, by kernel_rfl, by kernel_rfl, by kernel_rfl, by kernel_rfl⟩
noncomputable def fnsc90 : FnI := ⟨8, Tryz.f90.body.getD .skip, [.tmp 4], []⟩
theorem fnsc90_ok : FnOk Tryz.prog 90 fnsc90 := ⟨_, Tryz.func90, by kernel_rfl, by kernel_rfl, by kernel_rfl, by kernel_rfl, by kernel_rfl, by kernel_rfl⟩
noncomputable def fnsc127 : FnI := ⟨19, Tryz.f127.body.getD .skip, [.tmp 4], []⟩
theorem fnsc127_ok : FnOk Tryz.prog 127 fnsc127 := ⟨_, Tryz.func127, by kernel_rfl, by kernel_rfl, by kernel_rfl, by kernel_rfl, by kernel_rfl, by kernel_rfl⟩
noncomputable def fnsc128 : FnI := ⟨16, Tryz.f128.body.getD .skip, [.tmp 3], []⟩
theorem fnsc128_ok : FnOk Tryz.prog 128 fnsc128 := ⟨_, Tryz.func128, by kernel_rfl, by kernel_rfl, by kernel_rfl, by kernel_rfl, by kernel_rfl, by kernel_rfl⟩
noncomputable def fnsc129 : FnI := ⟨26, Tryz.f129.body.getD .skip, [.tmp 4], [(6, [(0, true), (1, true), (2, true), (3, true), (4, true), (5, false), (6, false), (7, false), (8, false)])]⟩
theorem fnsc129_ok : FnOk Tryz.prog 129 fnsc129 := ⟨_, Tryz.func129, by kernel_rfl, by kernel_rfl, by kernel_rfl, by kernel_rfl, by kernel_rfl, by kernel_rfl⟩
noncomputable def fnsc37 : FnI := ⟨77, Tryz.f37.body.getD .skip, [.cell 4 58, .tmp 5], []⟩
theorem fnsc37_ok : FnOk Tryz.prog 37 fnsc37 := ⟨_, Tryz.func37, by kernel_rfl, by kernel_rfl, by kernel_rfl, by kernel_rfl, by kernel_rfl, by kernel_rfl⟩
noncomputable def fnsc63 : FnI := ⟨7, Tryz.f63.body.getD .skip, [.tmp 2], []⟩
theorem fnsc63_ok : FnOk Tryz.prog 63 fnsc63 := ⟨_, Tryz.func63, by kernel_rfl, by kernel_rfl, by kernel_rfl, by kernel_rfl, by kernel_rfl, by kernel_rfl⟩
noncomputable def fnsc95 : FnI := ⟨25, Tryz.f95.body.getD .skip, [.tmp 2], []⟩
theorem fnsc95_ok : FnOk Tryz.prog 95 fnsc95 := ⟨_, Tryz.func95, by kernel_rfl, by kernel_rfl, by kernel_rfl, by kernel_rfl, by kernel_rfl, by kernel_rfl⟩
noncomputable def fnsc62 : FnI := ⟨7, Tryz.f62.body.getD .skip, [.tmp 2], []⟩
theorem fnsc62_ok : FnOk Tryz.prog 62 fnsc62 := ⟨_, Tryz.func62, by kernel_rfl, by kernel_rfl, by kernel_rfl, by kernel_rfl, by kernel_rfl, by kernel_rfl⟩
noncomputable def fnsc94 : FnI := ⟨25, Tryz.f94.body.getD .skip, [.tmp 2], []⟩
theorem fnsc94_ok : FnOk Tryz.prog 94 fnsc94 := ⟨_, Tryz.func94, by kernel_rfl, by kernel_rfl, by kernel_rfl, by kernel_rfl, by kernel_rfl, by kernel_rfl⟩
noncomputable def fnsc13 : FnI := ⟨14, Tryz.f13.body.getD .skip, [.tmp 2, .tmp 3], []⟩
theorem fnsc13_ok : FnOk Tryz.prog 13 fnsc13 := ⟨_, Tryz.func13, by kernel_rfl, by kernel_rfl, by kernel_rfl, by kernel_rfl, by kernel_rfl, by kernel_rfl⟩
noncomputable def fnsc29 : FnI := ⟨46, Tryz.f29.body.getD .skip, [.tmp 4], []⟩
theorem fnsc29_ok : FnOk Tryz.prog 29 fnsc29 := ⟨_, Tryz.func29, by kernel_rfl, by kernel_rfl, by kernel_rfl, by kernel_rfl, by kernel_rfl, by kernel_rfl⟩
noncomputable def fnsc56 : FnI := ⟨18, Tryz.f56.body.getD .skip, [.tmp 4], []⟩
theorem fnsc56_ok : FnOk Tryz.prog 56 fnsc56 := ⟨_, Tryz.func56, by kernel_rfl, by kernel_rfl, by kernel_rfl, by kernel_rfl, by kernel_rfl, by kernel_rfl⟩
noncomputable def fnsc91 : FnI := ⟨8, Tryz.f91.body.getD .skip, [.tmp 2], []⟩
theorem fnsc91_ok : FnOk Tryz.prog 91 fnsc91 := ⟨_, Tryz.func91, by kernel_rfl, by kernel_rfl, by kernel_rfl, by kernel_rfl, by kernel_rfl, by kernel_rfl⟩
noncomputable def fnsc55 : FnI := ⟨37, Tryz.f55.body.getD .skip, [.tmp 4], []⟩
theorem fnsc55_ok : FnOk Tryz.prog 55 fnsc55 := ⟨_, Tryz.func55, by kernel_rfl, by kernel_rfl, by kernel_rfl, by kernel_rfl, by kernel_rfl, by kernel_rfl⟩
noncomputable def fnsc12 : FnI := ⟨10, Tryz.f12.body.getD .skip, [.tmp 2], []⟩
theorem fnsc12_ok : FnOk Tryz.prog 12 fnsc12 := ⟨_, Tryz.func12, by kernel_rfl, by kernel_rfl, by kernel_rfl, by kernel_rfl, by kernel_rfl, by kernel_rfl⟩
noncomputable def fnsc28 : FnI := ⟨52, Tryz.f28.body.getD .skip, [.tmp 6], []⟩
theorem fnsc28_ok : FnOk Tryz.prog 28 fnsc28 := ⟨_, Tryz.func28, by kernel_rfl, by kernel_rfl, by kernel_rfl, by kernel_rfl, by kernel_rfl, by kernel_rfl⟩
noncomputable def fnsc54 : FnI := ⟨39, Tryz.f54.body.getD .skip, [.tmp 4], []⟩
theorem fnsc54_ok : FnOk Tryz.prog 54 fnsc54 := ⟨_, Tryz.func54, by kernel_rfl, by kernel_rfl, by kernel_rfl, by kernel_rfl, by kernel_rfl, by kernel_rfl⟩
noncomputable def fnsc88 : FnI := ⟨39, Tryz.f88.body.getD .skip, [.tmp 2], []⟩
theorem fnsc88_ok : FnOk Tryz.prog 88 fnsc88 := ⟨_, Tryz.func88, by kernel_rfl, by kernel_rfl, by kernel_rfl, by kernel_rfl, by kernel_rfl, by kernel_rfl⟩
noncomputable def fnsc87 : FnI := ⟨21, Tryz.f87.body.getD .skip, [.tmp 2], []⟩
theorem fnsc87_ok : FnOk Tryz.prog 87 fnsc87 := ⟨_, Tryz.func87, by kernel_rfl, by kernel_rfl, by kernel_rfl, by kernel_rfl, by kernel_rfl, by kernel_rfl⟩
noncomputable def fnsc125 : FnI := ⟨25, Tryz.f125.body.getD .skip, [.tmp 2], []⟩
theorem fnsc125_ok : FnOk Tryz.prog 125 fnsc125 := ⟨_, Tryz.func125, by kernel_rfl, by kernel_rfl, by kernel_rfl, by kernel_rfl, by kernel_rfl, by kernel_rfl⟩
noncomputable def fnsc158 : FnI := ⟨22, Tryz.f158.body.getD .skip, [.tmp 2], []⟩
theorem fnsc158_ok : FnOk Tryz.prog 158 fnsc158 := ⟨_, Tryz.func158, by kernel_rfl, by kernel_rfl, by kernel_rfl, by kernel_rfl, by kernel_rfl, by kernel_rfl⟩
noncomputable def fnsc177 : FnI := ⟨21, Tryz.f177.body.getD .skip, [.tmp 2], []⟩
theorem fnsc177_ok : FnOk Tryz.prog 177 fnsc177 := ⟨_, Tryz.func177, by kernel_rfl, by kernel_rfl, by kernel_rfl, by kernel_rfl, by kernel_rfl, by kernel_rfl⟩
noncomputable def fnsc157 : FnI := ⟨9, Tryz.f157.body.getD .skip, [.tmp 2], []⟩
theorem fnsc157_ok : FnOk Tryz.prog 157 fnsc157 := ⟨_, Tryz.func157, by kernel_rfl, by kernel_rfl, by kernel_rfl, by kernel_rfl, by kernel_rfl, by kernel_rfl⟩
noncomputable def fnsc86 : FnI := ⟨28, Tryz.f86.body.getD .skip, [.tmp 4], []⟩
theorem fnsc86_ok : FnOk Tryz.prog 86 fnsc86 := ⟨_, Tryz.func86, by kernel_rfl, by kernel_rfl, by kernel_rfl, by kernel_rfl, by kernel_rfl, by kernel_rfl⟩
noncomputable def fnsc53 : FnI := ⟨68, Tryz.f53.body.getD .skip, [.tmp 4], []⟩
theorem fnsc53_ok : FnOk Tryz.prog 53 fnsc53 := ⟨_, Tryz.func53, by kernel_rfl, by kernel_rfl, by kernel_rfl, by kernel_rfl, by kernel_rfl, by kernel_rfl⟩
noncomputable def fnsc7 : FnI := ⟨13, Tryz.f7.body.getD .skip, [.cell 2 32], []⟩
theorem fnsc7_ok : FnOk Tryz.prog 7 fnsc7 := ⟨_, Tryz.func7, by kernel_rfl, by kernel_rfl, by kernel_rfl, by kernel_rfl, by kernel_rfl, by kernel_rfl⟩
noncomputable def fnsc22 : FnI := ⟨61, Tryz.f22.body.getD .skip, [.cell 2 32, .tmp 3, .tmp 4], [(11, [(0, true), (1, true), (2, true), (3, true), (4, true), (5, true), (6, true), (7, true), (8, true), (9, false), (10, false), (11, false)])]⟩
theorem fnsc22_ok : FnOk Tryz.prog 22 fnsc22 := ⟨_, Tryz.func22, by kernel_rfl, by kernel_rfl, by kernel_rfl, by kernel_rfl, by kernel_rfl, by kernel_rfl⟩
noncomputable def fnsc47 : FnI := ⟨19, Tryz.f47.body.getD .skip, [], []⟩
theorem fnsc47_ok : FnOk Tryz.prog 47 fnsc47 := ⟨_, Tryz.func47, by kernel_rfl, by kernel_rfl, by kernel_rfl, by kernel_rfl, by kernel_rfl, by kernel_rfl⟩
noncomputable def fnsc46 : FnI := ⟨7, Tryz.f46.body.getD .skip, [], []⟩
theorem fnsc46_ok : FnOk Tryz.prog 46 fnsc46 := ⟨_, Tryz.func46, by kernel_rfl, by kernel_rfl, by kernel_rfl, by kernel_rfl, by kernel_rfl, by kernel_rfl⟩
noncomputable def fnsc45 : FnI := ⟨13, Tryz.f45.body.getD .skip, [.cell 2 122], [(1, [(0, true), (1, true), (2, true), (3, true), (4, false), (5, false), (6, false), (7, false), (8, false), (9, false), (10, false)])]⟩
theorem fnsc45_ok : FnOk Tryz.prog 45 fnsc45 := ⟨_, Tryz.func45, by kernel_rfl, by kernel_rfl, by kernel_rfl, by kernel_rfl, by kernel_rfl, by kernel_rfl⟩
noncomputable def fnsc44 : FnI := ⟨39, Tryz.f44.body.getD .skip, [.cell 4 32], []⟩
theorem fnsc44_ok : FnOk Tryz.prog 44 fnsc44 := ⟨_, Tryz.func44, by kernel_rfl, by kernel_rfl, by kernel_rfl, by kernel_rfl, by kernel_rfl, by kernel_rfl⟩
noncomputable def fnsc81 : FnI := ⟨28, Tryz.f81.body.getD .skip, [.tmp 2], []⟩
theorem fnsc81_ok : FnOk Tryz.prog 81 fnsc81 := ⟨_, Tryz.func81, by kernel_rfl, by kernel_rfl, by kernel_rfl, by kernel_rfl, by kernel_rfl, by kernel_rfl⟩
noncomputable def fnsc116 : FnI := ⟨10, Tryz.f116.body.getD .skip, [], []⟩
theorem fnsc116_ok : FnOk Tryz.prog 116 fnsc116 := ⟨_, Tryz.func116, by kernel_rfl, by kernel_rfl, by kernel_rfl, by kernel_rfl, by kernel_rfl, by kernel_rfl⟩
noncomputable def fnsc76 : FnI := ⟨25, Tryz.f76.body.getD .skip, [.tmp 2], []⟩
theorem fnsc76_ok : FnOk Tryz.prog 76 fnsc76 := ⟨_, Tryz.func76, by kernel_rfl, by kernel_rfl, by kernel_rfl, by kernel_rfl, by kernel_rfl, by kernel_rfl⟩
noncomputable def fnsc75 : FnI := ⟨28, Tryz.f75.body.getD .skip, [.tmp 4], []⟩
theorem fnsc75_ok : FnOk Tryz.prog 75 fnsc75 := ⟨_, Tryz.func75, by kernel_rfl, by kernel_rfl, by kernel_rfl, by kernel_rfl, by kernel_rfl, by kernel_rfl⟩
noncomputable def fnsc114 : FnI := ⟨18, Tryz.f114.body.getD .skip, [.tmp 4], []⟩
theorem fnsc114_ok : FnOk Tryz.prog 114 fnsc114 := ⟨_, Tryz.func114, by kernel_rfl, by kernel_rfl, by kernel_rfl, by kernel_rfl, by kernel_rfl, by kernel_rfl⟩
noncomputable def fnsc117 : FnI := ⟨29, Tryz.f117.body.getD .skip, [.tmp 4], []⟩
theorem fnsc117_ok : FnOk Tryz.prog 117 fnsc117 := ⟨_, Tryz.func117, by kernel_rfl, by kernel_rfl, by kernel_rfl, by kernel_rfl, by kernel_rfl, by kernel_rfl⟩
noncomputable def fnsc113 : FnI := ⟨19, Tryz.f113.body.getD .skip, [.tmp 4], []⟩
theorem fnsc113_ok : FnOk Tryz.prog 113 fnsc113 := ⟨_, Tryz.func113, by kernel_rfl, by kernel_rfl, by kernel_rfl, by kernel_rfl, by kernel_rfl, by kernel_rfl⟩
noncomputable def fnsc80 : FnI := ⟨51, Tryz.f80.body.getD .skip, [.tmp 2], []⟩
theorem fnsc80_ok : FnOk Tryz.prog 80 fnsc80 := ⟨_, Tryz.func80, by kernel_rfl, by kernel_rfl, by kernel_rfl, by kernel_rfl, by kernel_rfl, by kernel_rfl⟩
noncomputable def fnsc118 : FnI := ⟨23, Tryz.f118.body.getD .skip, [.cell 4 109], []⟩
theorem fnsc118_ok : FnOk Tryz.prog 118 fnsc118 := ⟨_, Tryz.func118, by kernel_rfl, by kernel_rfl, by kernel_rfl, by kernel_rfl, by kernel_rfl, by kernel_rfl⟩
noncomputable def fnsc78 : FnI := ⟨10, Tryz.f78.body.getD .skip, [], []⟩
theorem fnsc78_ok : FnOk Tryz.prog 78 fnsc78 := ⟨_, Tryz.func78, by kernel_rfl, by kernel_rfl, by kernel_rfl, by kernel_rfl, by kernel_rfl, by kernel_rfl⟩
noncomputable def fnsc149 : FnI := ⟨25, Tryz.f149.body.getD .skip, [.tmp 6], []⟩
theorem fnsc149_ok : FnOk Tryz.prog 149 fnsc149 := ⟨_, Tryz.func149, by kernel_rfl, by kernel_rfl, by kernel_rfl, by kernel_rfl, by kernel_rfl, by kernel_rfl⟩
noncomputable def fnsc168 : FnI := ⟨52, Tryz.f168.body.getD .skip, [.tmp 4, .tmp 5], [(10, [(0, true), (1, true), (2, true), (3, true), (4, false), (5, false)])]⟩
theorem fnsc168_ok : FnOk Tryz.prog 168 fnsc168 := ⟨_, Tryz.func168, by kernel_rfl, by kernel_rfl, by kernel_rfl, by kernel_rfl, by kernel_rfl, by kernel_rfl⟩
noncomputable def fnsc186 : FnI := ⟨56, Tryz.f186.body.getD .skip, [.cell 2 76], []⟩
theorem fnsc186_ok : FnOk Tryz.prog 186 fnsc186 := ⟨_, Tryz.func186, by kernel_rfl, by kernel_rfl, by kernel_rfl, by kernel_rfl, by kernel_rfl, by kernel_rfl⟩
noncomputable def fnsc185 : FnI := ⟨17, Tryz.f185.body.getD .skip, [.cell 2 74], []⟩
theorem fnsc185_ok : FnOk Tryz.prog 185 fnsc185 := ⟨_, Tryz.func185, by kernel_rfl, by kernel_rfl, by kernel_rfl, by kernel_rfl, by kernel_rfl, by kernel_rfl⟩
noncomputable def fnsc187 : FnI := ⟨36, Tryz.f187.body.getD .skip, [.tmp 4, .cell 5 137], [(9, [(0, true), (1, true), (2, false), (3, false)])]⟩
theorem fnsc187_ok : FnOk Tryz.prog 187 fnsc187 := ⟨_, Tryz.func187, by kernel_rfl, by kernel_rfl, by kernel_rfl, by kernel_rfl, by kernel_rfl, by kernel_rfl⟩
noncomputable def fnsc197 : FnI := ⟨15, Tryz.f197.body.getD .skip, [.tmp 2], []⟩
theorem fnsc197_ok : FnOk Tryz.prog 197 fnsc197 := ⟨_, Tryz.func197, by kernel_rfl, by kernel_rfl, by kernel_rfl, by kernel_rfl, by kernel_rfl, by kernel_rfl⟩
noncomputable def fnsc77 : FnI := ⟨23, Tryz.f77.body.getD .skip, [.tmp 2], []⟩
theorem fnsc77_ok : FnOk Tryz.prog 77 fnsc77 := ⟨_, Tryz.func77, by kernel_rfl, by kernel_rfl, by kernel_rfl, by kernel_rfl, by kernel_rfl, by kernel_rfl⟩
noncomputable def fnsc115 : FnI := ⟨24, Tryz.f115.body.getD .skip, [.tmp 2], []⟩
theorem fnsc115_ok : FnOk Tryz.prog 115 fnsc115 := ⟨_, Tryz.func115, by kernel_rfl, by kernel_rfl, by kernel_rfl, by kernel_rfl, by kernel_rfl, by kernel_rfl⟩
noncomputable def fnsc148 : FnI := ⟨20, Tryz.f148.body.getD .skip, [.tmp 2], []⟩
theorem fnsc148_ok : FnOk Tryz.prog 148 fnsc148 := ⟨_, Tryz.func148, by kernel_rfl, by kernel_rfl, by kernel_rfl, by kernel_rfl, by kernel_rfl, by kernel_rfl⟩
noncomputable def fnsc167 : FnI := ⟨32, Tryz.f167.body.getD .skip, [.cell 2 78], []⟩
theorem fnsc167_ok : FnOk Tryz.prog 167 fnsc167 := ⟨_, Tryz.func167, by kernel_rfl, by kernel_rfl, by kernel_rfl, by kernel_rfl, by kernel_rfl, by kernel_rfl⟩
noncomputable def fnsc79 : FnI := ⟨33, Tryz.f79.body.getD .skip, [.tmp 4], []⟩
theorem fnsc79_ok : FnOk Tryz.prog 79 fnsc79 := ⟨_, Tryz.func79, by kernel_rfl, by kernel_rfl, by kernel_rfl, by kernel_rfl, by kernel_rfl, by kernel_rfl⟩
noncomputable def fnsc43 : FnI := ⟨52, Tryz.f43.body.getD .skip, [.tmp 2, .tmp 3, .tmp 4], []⟩
theorem fnsc43_ok : FnOk Tryz.prog 43 fnsc43 := ⟨_, Tryz.func43, by kernel_rfl, by kernel_rfl, by kernel_rfl, by kernel_rfl, by kernel_rfl, by kernel_rfl⟩
noncomputable def fnsc74 : FnI := ⟨106, Tryz.f74.body.getD .skip, [.cell 2 122, .tmp 3], [(30, [(0, true), (1, true), (2, false), (3, false), (4, false), (5, false), (6, false)])]⟩
theorem fnsc74_ok : FnOk Tryz.prog 74 fnsc74 := ⟨_, Tryz.func74, by kernel_rfl, by kernel_rfl, by kernel_rfl, by kernel_rfl, by kernel_rfl, by kernel_rfl⟩
noncomputable def fnsc111 : FnI := ⟨50, Tryz.f111.body.getD .skip, [.tmp 2, .tmp 3], []⟩
theorem fnsc111_ok : FnOk Tryz.prog 111 fnsc111 := ⟨_, Tryz.func111, by kernel_rfl, by kernel_rfl, by kernel_rfl, by kernel_rfl, by kernel_rfl, by kernel_rfl⟩
noncomputable def fnsc146 : FnI := ⟨38, Tryz.f146.body.getD .skip, [.tmp 2, .tmp 3], [(3, [(0, true), (1, true), (4, true), (5, true), (2, false), (3, true), (6, false), (7, false), (8, false), (9, false)])]⟩
theorem fnsc146_ok : FnOk Tryz.prog 146 fnsc146 := ⟨_, Tryz.func146, by kernel_rfl, by kernel_rfl, by kernel_rfl, by kernel_rfl, by kernel_rfl, by kernel_rfl⟩
noncomputable def fnsc145 : FnI := ⟨17, Tryz.f145.body.getD .skip, [.tmp 2], []⟩
theorem fnsc145_ok : FnOk Tryz.prog 145 fnsc145 := ⟨_, Tryz.func145, by kernel_rfl, by kernel_rfl, by kernel_rfl, by kernel_rfl, by kernel_rfl, by kernel_rfl⟩
noncomputable def fnsc165 : FnI := ⟨20, Tryz.f165.body.getD .skip, [.tmp 2], []⟩
theorem fnsc165_ok : FnOk Tryz.prog 165 fnsc165 := ⟨_, Tryz.func165, by kernel_rfl, by kernel_rfl, by kernel_rfl, by kernel_rfl, by kernel_rfl, by kernel_rfl⟩
noncomputable def fnsc109 : FnI := ⟨9, Tryz.f109.body.getD .skip, [.tmp 2], []⟩
theorem fnsc109_ok : FnOk Tryz.prog 109 fnsc109 := ⟨_, Tryz.func109, by kernel_rfl, by kernel_rfl, by kernel_rfl, by kernel_rfl, by kernel_rfl, by kernel_rfl⟩
noncomputable def fnsc110 : FnI := ⟨35, Tryz.f110.body.getD .skip, [.tmp 4, .tmp 5], []⟩
theorem fnsc110_ok : FnOk Tryz.prog 110 fnsc110 := ⟨_, Tryz.func110, by kernel_rfl, by kernel_rfl, by kernel_rfl, by kernel_rfl, by kernel_rfl, by kernel_rfl⟩
noncomputable def fnsc142 : FnI := ⟨20, Tryz.f142.body.getD .skip, [.tmp 4], []⟩
theorem fnsc142_ok : FnOk Tryz.prog 142 fnsc142 := ⟨_, Tryz.func142, by kernel_rfl, by kernel_rfl, by kernel_rfl, by kernel_rfl, by kernel_rfl, by kernel_rfl⟩
noncomputable def fnsc108 : FnI := ⟨12, Tryz.f108.body.getD .skip, [.tmp 2], []⟩
theorem fnsc108_ok : FnOk Tryz.prog 108 fnsc108 := ⟨_, Tryz.func108, by kernel_rfl, by kernel_rfl, by kernel_rfl, by kernel_rfl, by kernel_rfl, by kernel_rfl⟩
noncomputable def fnsc143 : FnI := ⟨17, Tryz.f143.body.getD .skip, [.tmp 2], []⟩
theorem fnsc143_ok : FnOk Tryz.prog 143 fnsc143 := ⟨_, Tryz.func143, by kernel_rfl, by kernel_rfl, by kernel_rfl, by kernel_rfl, by kernel_rfl, by kernel_rfl⟩
noncomputable def FnsCF : List (FuncId × FnI) := [(3, fnsc3),
 (10, fnsc10),
 (26, fnsc26),
 (23, fnsc23),
 (8, fnsc8),
 (25, fnsc25),
 (50, fnsc50),
 (85, fnsc85),
 (123, fnsc123),
 (156, fnsc156),
 (155, fnsc155),
 (124, fnsc124),
 (84, fnsc84),
 (122, fnsc122),
 (121, fnsc121),
 (153, fnsc153),
 (154, fnsc154),
 (49, fnsc49),
 (83, fnsc83),
 (82, fnsc82),
 (120, fnsc120),
 (152, fnsc152),
 (176, fnsc176),
 (175, fnsc175),
 (174, fnsc174),
 (173, fnsc173),
 (172, fnsc172),
 (171, fnsc171),
 (170, fnsc170),
 (151, fnsc151),
 (169, fnsc169),
 (188, fnsc188),
 (150, fnsc150),
 (119, fnsc119),
 (89, fnsc89),
 (126, fnsc126),
 (160, fnsc160),
 (178, fnsc178),
 (159, fnsc159),
 (24, fnsc24),
 (48, fnsc48),
 (9, fnsc9),
 (6, fnsc6),
 (21, fnsc21),
 (39, fnsc39),
 (67, fnsc67),
 (93, fnsc93),
 (131, fnsc131),
 (130, fnsc130),
 (99, fnsc99),
 (133, fnsc133),
 (98, fnsc98),
 (97, fnsc97),
 (96, fnsc96),
 (132, fnsc132),
 (161, fnsc161),
 (179, fnsc179),
 (192, fnsc192),
 (202, fnsc202),
 (207, fnsc207),
 (206, fnsc206),
 (201, fnsc201),
 (191, fnsc191),
 (190, fnsc190),
 (200, fnsc200),
 (198, fnsc198),
 (199, fnsc199),
 (189, fnsc189),
 (66, fnsc66),
 (40, fnsc40),
 (41, fnsc41),
 (68, fnsc68),
 (69, fnsc69),
 (70, fnsc70),
 (100, fnsc100),
 (42, fnsc42),
 (73, fnsc73),
 (72, fnsc72),
 (71, fnsc71),
 (107, fnsc107),
 (141, fnsc141),
 (162, fnsc162),
 (106, fnsc106),
 (140, fnsc140),
 (102, fnsc102),
 (136, fnsc136),
 (135, fnsc135),
 (139, fnsc139),
 (105, fnsc105),
 (138, fnsc138),
 (137, fnsc137),
 (104, fnsc104),
 (103, fnsc103),
 (101, fnsc101),
 (134, fnsc134),
 (38, fnsc38),
 (64, fnsc64),
 (65, fnsc65),
 (61, fnsc61),
 (90, fnsc90),
 (127, fnsc127),
 (128, fnsc128),
 (129, fnsc129),
 (37, fnsc37),
 (63, fnsc63),
 (95, fnsc95),
 (62, fnsc62),
 (94, fnsc94),
 (13, fnsc13),
 (29, fnsc29),
 (56, fnsc56),
 (91, fnsc91),
 (55, fnsc55),
 (12, fnsc12),
 (28, fnsc28),
 (54, fnsc54),
 (88, fnsc88),
 (87, fnsc87),
 (125, fnsc125),
 (158, fnsc158),
 (177, fnsc177),
 (157, fnsc157),
 (86, fnsc86),
 (53, fnsc53),
 (7, fnsc7),
 (22, fnsc22),
 (47, fnsc47),
 (46, fnsc46),
 (45, fnsc45),
 (44, fnsc44),
 (81, fnsc81),
 (116, fnsc116),
 (76, fnsc76),
 (75, fnsc75),
 (114, fnsc114),
 (117, fnsc117),
 (113, fnsc113),
 (80, fnsc80),
 (118, fnsc118),
 (78, fnsc78),
 (149, fnsc149),
 (168, fnsc168),
 (186, fnsc186),
 (185, fnsc185),
 (187, fnsc187),
 (197, fnsc197),
 (77, fnsc77),
 (115, fnsc115),
 (148, fnsc148),
 (167, fnsc167),
 (79, fnsc79),
 (43, fnsc43),
 (74, fnsc74),
 (111, fnsc111),
 (146, fnsc146),
 (145, fnsc145),
 (165, fnsc165),
 (109, fnsc109),
 (110, fnsc110),
 (142, fnsc142),
 (108, fnsc108),
 (143, fnsc143)]
theorem FnsCF_ok (C : FuncId → List PV → Option SV) : FOk Tryz.prog ⟨TTab, FnsCF, C⟩ := qn fnsc3_ok <|
 qn fnsc10_ok <|
 qn fnsc26_ok <|
 qn fnsc23_ok <|
 qn fnsc8_ok <|
 qn fnsc25_ok <|
 qn fnsc50_ok <|
 qn fnsc85_ok <|
 qn fnsc123_ok <|
 qn fnsc156_ok <|
 qn fnsc155_ok <|
 qn fnsc124_ok <|
 qn fnsc84_ok <|
 qn fnsc122_ok <|
 qn fnsc121_ok <|
 qn fnsc153_ok <|
 qn fnsc154_ok <|
 qn fnsc49_ok <|
 qn fnsc83_ok <|
 qn fnsc82_ok <|
 qn fnsc120_ok <|
 qn fnsc152_ok <|
 qn fnsc176_ok <|
 qn fnsc175_ok <|
 qn fnsc174_ok <|
 qn fnsc173_ok <|
 qn fnsc172_ok <|
 qn fnsc171_ok <|
 qn fnsc170_ok <|
 qn fnsc151_ok <|
 qn fnsc169_ok <|
 qn fnsc188_ok <|
 qn fnsc150_ok <|
 qn fnsc119_ok <|
 qn fnsc89_ok <|
 qn fnsc126_ok <|
 qn fnsc160_ok <|
 qn fnsc178_ok <|
 qn fnsc159_ok <|
 qn fnsc24_ok <|
 qn fnsc48_ok <|
 qn fnsc9_ok <|
 qn fnsc6_ok <|
 qn fnsc21_ok <|
 qn fnsc39_ok <|
 qn fnsc67_ok <|
 qn fnsc93_ok <|
 qn fnsc131_ok <|
 qn fnsc130_ok <|
 qn fnsc99_ok <|
 qn fnsc133_ok <|
 qn fnsc98_ok <|
 qn fnsc97_ok <|
 qn fnsc96_ok <|
 qn fnsc132_ok <|
 qn fnsc161_ok <|
 qn fnsc179_ok <|
 qn fnsc192_ok <|
 qn fnsc202_ok <|
 qn fnsc207_ok <|
 qn fnsc206_ok <|
 qn fnsc201_ok <|
 qn fnsc191_ok <|
 qn fnsc190_ok <|
 qn fnsc200_ok <|
 qn fnsc198_ok <|
 qn fnsc199_ok <|
 qn fnsc189_ok <|
 qn fnsc66_ok <|
 qn fnsc40_ok <|
 qn fnsc41_ok <|
 qn fnsc68_ok <|
 qn fnsc69_ok <|
 qn fnsc70_ok <|
 qn fnsc100_ok <|
 qn fnsc42_ok <|
 qn fnsc73_ok <|
 qn fnsc72_ok <|
 qn fnsc71_ok <|
 qn fnsc107_ok <|
 qn fnsc141_ok <|
 qn fnsc162_ok <|
 qn fnsc106_ok <|
 qn fnsc140_ok <|
 qn fnsc102_ok <|
 qn fnsc136_ok <|
 qn fnsc135_ok <|
 qn fnsc139_ok <|
 qn fnsc105_ok <|
 qn fnsc138_ok <|
 qn fnsc137_ok <|
 qn fnsc104_ok <|
 qn fnsc103_ok <|
 qn fnsc101_ok <|
 qn fnsc134_ok <|
 qn fnsc38_ok <|
 qn fnsc64_ok <|
 qn fnsc65_ok <|
 qn fnsc61_ok <|
 qn fnsc90_ok <|
 qn fnsc127_ok <|
 qn fnsc128_ok <|
 qn fnsc129_ok <|
 qn fnsc37_ok <|
 qn fnsc63_ok <|
 qn fnsc95_ok <|
 qn fnsc62_ok <|
 qn fnsc94_ok <|
 qn fnsc13_ok <|
 qn fnsc29_ok <|
 qn fnsc56_ok <|
 qn fnsc91_ok <|
 qn fnsc55_ok <|
 qn fnsc12_ok <|
 qn fnsc28_ok <|
 qn fnsc54_ok <|
 qn fnsc88_ok <|
 qn fnsc87_ok <|
 qn fnsc125_ok <|
 qn fnsc158_ok <|
 qn fnsc177_ok <|
 qn fnsc157_ok <|
 qn fnsc86_ok <|
 qn fnsc53_ok <|
 qn fnsc7_ok <|
 qn fnsc22_ok <|
 qn fnsc47_ok <|
 qn fnsc46_ok <|
 qn fnsc45_ok <|
 qn fnsc44_ok <|
 qn fnsc81_ok <|
 qn fnsc116_ok <|
 qn fnsc76_ok <|
 qn fnsc75_ok <|
 qn fnsc114_ok <|
 qn fnsc117_ok <|
 qn fnsc113_ok <|
 qn fnsc80_ok <|
 qn fnsc118_ok <|
 qn fnsc78_ok <|
 qn fnsc149_ok <|
 qn fnsc168_ok <|
 qn fnsc186_ok <|
 qn fnsc185_ok <|
 qn fnsc187_ok <|
 qn fnsc197_ok <|
 qn fnsc77_ok <|
 qn fnsc115_ok <|
 qn fnsc148_ok <|
 qn fnsc167_ok <|
 qn fnsc79_ok <|
 qn fnsc43_ok <|
 qn fnsc74_ok <|
 qn fnsc111_ok <|
 qn fnsc146_ok <|
 qn fnsc145_ok <|
 qn fnsc165_ok <|
 qn fnsc109_ok <|
 qn fnsc110_ok <|
 qn fnsc142_ok <|
 qn fnsc108_ok <|
 qn fnsc143_ok <| fok_nil
end Go.Proofs.YtkkbdgijfkocnaaGreatDoor
namespace Go.Proofs.YtkkbdgijfkocnaaGreatDoor
set_option linter.unusedVariables false
set_option linter.unusedSimpArgs false
def decF : Nat → Nat → List UInt8
 | 0, _ => []
 | f + 1, u => bif Nat.blt u 10 then [UInt8.ofNat (48 + u)] else decF f (u / 10) ++ [UInt8.ofNat (48 + u % 10)]
def itoaF (n : Int) : List UInt8 := match n with
 | .ofNat u => decF 20 u
 | .negSucc u => 45 :: decF 20 (u + 1)
end Go.Proofs.YtkkbdgijfkocnaaGreatDoor
namespace Go.Proofs.YtkkbdgijfkocnaaGreatDoor
open Go.RowKit Go.Shelf
def laysItoa_ren : Go.Shelf.Ren := ⟨fun | 171 => 196 | 243 => 205 | 246 => 208 | 283 => 189 | 284 => 190 | 285 => 191 | 286 => 192 | 129 => 199 | 317 => 198 | 318 => 200 | 319 => 201 | 320 => 202 | 337 => 206 | 338 => 207 | n => n, fun | 3 => 3 | 9 => 9 | 2 => 2 | 4 => 4 | 171 => 277 | 0 => 0 | 53 => 263 | 37 => 221 | 5 => 5 | 173 => 280 | 212 => 290 | 51 => 291 | 20 => 20 | 213 => 292 | 46 => 284 | 232 => 301 | 233 => 302 | n => n, fun | 17 => 3 | 18 => 4 | 19 => 5 | n => n⟩
theorem laysItoa : Go.Proofs.LaysM.n171 Tryz.prog laysItoa_ren := {
 mixed := by kernel_rfl
 f129 := Tryz.func199.trans (congrArg some (by kernel_rfl))
 f171 := Tryz.func196.trans (congrArg some (by kernel_rfl))
 f243 := Tryz.func205.trans (congrArg some (by kernel_rfl))
 f246 := Tryz.func208.trans (congrArg some (by kernel_rfl))
 f283 := Tryz.func189.trans (congrArg some (by kernel_rfl))
 f284 := Tryz.func190.trans (congrArg some (by kernel_rfl))
 f285 := Tryz.func191.trans (congrArg some (by kernel_rfl))
 f286 := Tryz.func192.trans (congrArg some (by kernel_rfl))
 f317 := Tryz.func198.trans (congrArg some (by kernel_rfl))
 f318 := Tryz.func200.trans (congrArg some (by kernel_rfl))
 f319 := Tryz.func201.trans (congrArg some (by kernel_rfl))
 f320 := Tryz.func202.trans (congrArg some (by kernel_rfl))
 f337 := Tryz.func206.trans (congrArg some (by kernel_rfl))
 f338 := Tryz.func207.trans (congrArg some (by kernel_rfl))
 t0 := Tryz.underlying0
 a0 := Tryz.isAgg0
 z0 := Tryz.sizeOf0
 v0 := Tryz.zeroValue0
 t2 := Tryz.underlying2
 a2 := Tryz.isAgg2
 z2 := Tryz.sizeOf2
 v2 := Tryz.zeroValue2
 t3 := Tryz.underlying3
 a3 := Tryz.isAgg3
 z3 := Tryz.sizeOf3
 v3 := Tryz.zeroValue3
 t4 := Tryz.underlying4
 a4 := Tryz.isAgg4
 z4 := Tryz.sizeOf4
 v4 := Tryz.zeroValue4
 t5 := Tryz.underlying5
 a5 := Tryz.isAgg5
 z5 := Tryz.sizeOf5
 v5 := Tryz.zeroValue5
 t9 := Tryz.underlying9
 a9 := Tryz.isAgg9
 z9 := Tryz.sizeOf9
 v9 := Tryz.zeroValue9
 t20 := Tryz.underlying20
 a20 := Tryz.isAgg20
 z20 := Tryz.sizeOf20
 v20 := Tryz.zeroValue20
 t37 := Tryz.underlying221
 a37 := Tryz.isAgg221
 z37 := Tryz.sizeOf221
 v37 := Tryz.zeroValue221
 t46 := Tryz.underlying284
 a46 := Tryz.isAgg284
 z46 := Tryz.sizeOf284
 v46 := Tryz.zeroValue284
 t51 := Tryz.underlying291
 a51 := Tryz.isAgg291
 z51 := Tryz.sizeOf291
 v51 := Tryz.zeroValue291
 t53 := Tryz.underlying263
 a53 := Tryz.isAgg263
 z53 := Tryz.sizeOf263
 v53 := Tryz.zeroValue263
 t171 := Tryz.underlying277
 a171 := Tryz.isAgg277
 z171 := Tryz.sizeOf277
 v171 := Tryz.zeroValue277
 t173 := Tryz.underlying280
 a173 := Tryz.isAgg280
 z173 := Tryz.sizeOf280
 v173 := Tryz.zeroValue280
 t212 := Tryz.underlying290
 a212 := Tryz.isAgg290
 z212 := Tryz.sizeOf290
 v212 := Tryz.zeroValue290
 t213 := Tryz.underlying292
 a213 := Tryz.isAgg292
 z213 := Tryz.sizeOf292
 t232 := Tryz.underlying301
 a232 := Tryz.isAgg301
 z232 := Tryz.sizeOf301
 v232 := Tryz.zeroValue301
 t233 := Tryz.underlying302
 a233 := Tryz.isAgg302
 z233 := Tryz.sizeOf302
 v233 := Tryz.zeroValue302
 g17 := by kernel_rfl
 g18 := by kernel_rfl
 g19 := by kernel_rfl
 i0 := by kernel_rfl
 i2 := by kernel_rfl
 i3 := by kernel_rfl
 i4 := by kernel_rfl
 i5 := by kernel_rfl
 i9 := by kernel_rfl
 i20 := by kernel_rfl
 i37 := by kernel_rfl
 i46 := by kernel_rfl
 i51 := by kernel_rfl
 i53 := by kernel_rfl
 i171 := by kernel_rfl
 i173 := by kernel_rfl
 i212 := by kernel_rfl
 i232 := by kernel_rfl
 i233 := by kernel_rfl
 m17 := by kernel_rfl
 m18 := by kernel_rfl
 m19 := by kernel_rfl
}
def laysIdx_ren : Go.Shelf.Ren := ⟨fun | 137 => 112 | 217 => 147 | 266 => 166 | n => n, fun | 9 => 9 | 5 => 5 | 3 => 3 | n => n, fun | n => n⟩
theorem laysIdx : Go.Proofs.Lays.n137 Tryz.prog laysIdx_ren := {
 mixed := by kernel_rfl
 f137 := Tryz.func112.trans (congrArg some (by kernel_rfl))
 f217 := Tryz.func147.trans (congrArg some (by kernel_rfl))
 f266 := Tryz.func166.trans (congrArg some (by kernel_rfl))
 t3 := Tryz.underlying3
 a3 := Tryz.isAgg3
 z3 := Tryz.sizeOf3
 v3 := Tryz.zeroValue3
 t5 := Tryz.underlying5
 a5 := Tryz.isAgg5
 z5 := Tryz.sizeOf5
 v5 := Tryz.zeroValue5
 t9 := Tryz.underlying9
 a9 := Tryz.isAgg9
 z9 := Tryz.sizeOf9
 v9 := Tryz.zeroValue9
}
def laysAtoi_ren : Go.Shelf.Ren := ⟨fun | 172 => 144 | 244 => 163 | 245 => 164 | 247 => 180 | 279 => 181 | 280 => 182 | 281 => 183 | 282 => 184 | 287 => 193 | 316 => 194 | 171 => 196 | 205 => 195 | 321 => 203 | 322 => 204 | 243 => 205 | 246 => 208 | 283 => 189 | 284 => 190 | 285 => 191 | 286 => 192 | 129 => 199 | 317 => 198 | 318 => 200 | 319 => 201 | 320 => 202 | 337 => 206 | 338 => 207 | n => n, fun | 9 => 9 | 3 => 3 | 75 => 234 | 76 => 235 | 4 => 4 | 5 => 5 | 167 => 265 | 37 => 221 | 0 => 0 | 85 => 266 | 2 => 2 | 168 => 268 | 53 => 263 | 175 => 282 | 46 => 284 | 210 => 286 | 127 => 295 | 145 => 298 | 143 => 296 | 21 => 21 | 171 => 277 | 173 => 280 | 212 => 290 | 51 => 291 | 20 => 20 | 213 => 292 | 232 => 301 | 233 => 302 | 80 => 167 | n => n, fun | 15 => 1 | 16 => 2 | 17 => 3 | 18 => 4 | 19 => 5 | n => n⟩
theorem laysAtoi : Go.Proofs.LaysC.n172 Tryz.prog laysAtoi_ren := {
 mixed := by kernel_rfl
 f129 := Tryz.func199.trans (congrArg some (by kernel_rfl))
 f171 := Tryz.func196.trans (congrArg some (by kernel_rfl))
 f172 := Tryz.func144.trans (congrArg some (by kernel_rfl))
 f205 := Tryz.func195.trans (congrArg some (by kernel_rfl))
 f243 := Tryz.func205.trans (congrArg some (by kernel_rfl))
 f244 := Tryz.func163.trans (congrArg some (by kernel_rfl))
 f245 := Tryz.func164.trans (congrArg some (by kernel_rfl))
 f246 := Tryz.func208.trans (congrArg some (by kernel_rfl))
 f247 := Tryz.func180.trans (congrArg some (by kernel_rfl))
 f279 := Tryz.func181.trans (congrArg some (by kernel_rfl))
 f280 := Tryz.func182.trans (congrArg some (by kernel_rfl))
 f281 := Tryz.func183.trans (congrArg some (by kernel_rfl))
 f282 := Tryz.func184.trans (congrArg some (by kernel_rfl))
 f283 := Tryz.func189.trans (congrArg some (by kernel_rfl))
 f284 := Tryz.func190.trans (congrArg some (by kernel_rfl))
 f285 := Tryz.func191.trans (congrArg some (by kernel_rfl))
 f286 := Tryz.func192.trans (congrArg some (by kernel_rfl))
 f287 := Tryz.func193.trans (congrArg some (by kernel_rfl))
 f316 := Tryz.func194.trans (congrArg some (by kernel_rfl))
 f317 := Tryz.func198.trans (congrArg some (by kernel_rfl))
 f318 := Tryz.func200.trans (congrArg some (by kernel_rfl))
 f319 := Tryz.func201.trans (congrArg some (by kernel_rfl))
 f320 := Tryz.func202.trans (congrArg some (by kernel_rfl))
 f321 := Tryz.func203.trans (congrArg some (by kernel_rfl))
 f322 := Tryz.func204.trans (congrArg some (by kernel_rfl))
 f337 := Tryz.func206.trans (congrArg some (by kernel_rfl))
 f338 := Tryz.func207.trans (congrArg some (by kernel_rfl))
 t0 := Tryz.underlying0
 a0 := Tryz.isAgg0
 z0 := Tryz.sizeOf0
 v0 := Tryz.zeroValue0
 t2 := Tryz.underlying2
 a2 := Tryz.isAgg2
 z2 := Tryz.sizeOf2
 v2 := Tryz.zeroValue2
 t3 := Tryz.underlying3
 a3 := Tryz.isAgg3
 z3 := Tryz.sizeOf3
 v3 := Tryz.zeroValue3
 t4 := Tryz.underlying4
 a4 := Tryz.isAgg4
 z4 := Tryz.sizeOf4
 v4 := Tryz.zeroValue4
 t5 := Tryz.underlying5
 a5 := Tryz.isAgg5
 z5 := Tryz.sizeOf5
 v5 := Tryz.zeroValue5
 t9 := Tryz.underlying9
 a9 := Tryz.isAgg9
 z9 := Tryz.sizeOf9
 v9 := Tryz.zeroValue9
 t20 := Tryz.underlying20
 a20 := Tryz.isAgg20
 z20 := Tryz.sizeOf20
 v20 := Tryz.zeroValue20
 t21 := Tryz.underlying21
 a21 := Tryz.isAgg21
 z21 := Tryz.sizeOf21
 v21 := Tryz.zeroValue21
 t37 := Tryz.underlying221
 a37 := Tryz.isAgg221
 z37 := Tryz.sizeOf221
 v37 := Tryz.zeroValue221
 t46 := Tryz.underlying284
 a46 := Tryz.isAgg284
 z46 := Tryz.sizeOf284
 v46 := Tryz.zeroValue284
 t51 := Tryz.underlying291
 a51 := Tryz.isAgg291
 z51 := Tryz.sizeOf291
 v51 := Tryz.zeroValue291
 t53 := Tryz.underlying263
 a53 := Tryz.isAgg263
 z53 := Tryz.sizeOf263
 v53 := Tryz.zeroValue263
 t75 := Tryz.underlying234
 a75 := Tryz.isAgg234
 z75 := Tryz.sizeOf234
 v75 := Tryz.zeroValue234
 t76 := Tryz.underlying235
 a76 := Tryz.isAgg235
 z76 := Tryz.sizeOf235
 v76 := Tryz.zeroValue235
 t85 := Tryz.underlying266
 a85 := Tryz.isAgg266
 z85 := Tryz.sizeOf266
 v85 := Tryz.zeroValue266
 t127 := Tryz.underlying295
 a127 := Tryz.isAgg295
 z127 := Tryz.sizeOf295
 v127 := Tryz.zeroValue295
 t143 := Tryz.underlying296
 a143 := Tryz.isAgg296
 z143 := Tryz.sizeOf296
 v143 := Tryz.zeroValue296
 t145 := Tryz.underlying298
 a145 := Tryz.isAgg298
 z145 := Tryz.sizeOf298
 v145 := Tryz.zeroValue298
 t167 := Tryz.underlying265
 a167 := Tryz.isAgg265
 z167 := Tryz.sizeOf265
 v167 := Tryz.zeroValue265
 t168 := Tryz.underlying268
 a168 := Tryz.isAgg268
 z168 := Tryz.sizeOf268
 v168 := Tryz.zeroValue268
 t171 := Tryz.underlying277
 a171 := Tryz.isAgg277
 z171 := Tryz.sizeOf277
 v171 := Tryz.zeroValue277
 t173 := Tryz.underlying280
 a173 := Tryz.isAgg280
 z173 := Tryz.sizeOf280
 v173 := Tryz.zeroValue280
 t175 := Tryz.underlying282
 a175 := Tryz.isAgg282
 z175 := Tryz.sizeOf282
 v175 := Tryz.zeroValue282
 t210 := Tryz.underlying286
 a210 := Tryz.isAgg286
 z210 := Tryz.sizeOf286
 v210 := Tryz.zeroValue286
 t212 := Tryz.underlying290
 a212 := Tryz.isAgg290
 z212 := Tryz.sizeOf290
 v212 := Tryz.zeroValue290
 t213 := Tryz.underlying292
 a213 := Tryz.isAgg292
 z213 := Tryz.sizeOf292
 t232 := Tryz.underlying301
 a232 := Tryz.isAgg301
 z232 := Tryz.sizeOf301
 v232 := Tryz.zeroValue301
 t233 := Tryz.underlying302
 a233 := Tryz.isAgg302
 z233 := Tryz.sizeOf302
 v233 := Tryz.zeroValue302
 g15 := by kernel_rfl
 g16 := by kernel_rfl
 g17 := by kernel_rfl
 g18 := by kernel_rfl
 g19 := by kernel_rfl
 t80 := Tryz.underlying167
 a80 := Tryz.isAgg167
 z80 := Tryz.sizeOf167
 v80 := Tryz.zeroValue167
 i0 := by kernel_rfl
 i2 := by kernel_rfl
 i3 := by kernel_rfl
 i4 := by kernel_rfl
 i5 := by kernel_rfl
 i9 := by kernel_rfl
 i20 := by kernel_rfl
 i21 := by kernel_rfl
 i37 := by kernel_rfl
 i46 := by kernel_rfl
 i51 := by kernel_rfl
 i53 := by kernel_rfl
 i75 := by kernel_rfl
 i76 := by kernel_rfl
 i80 := by kernel_rfl
 i85 := by kernel_rfl
 i127 := by kernel_rfl
 i143 := by kernel_rfl
 i145 := by kernel_rfl
 i167 := by kernel_rfl
 i168 := by kernel_rfl
 i171 := by kernel_rfl
 i173 := by kernel_rfl
 i175 := by kernel_rfl
 i210 := by kernel_rfl
 i212 := by kernel_rfl
 i232 := by kernel_rfl
 i233 := by kernel_rfl
 m15 := by kernel_rfl
 m16 := by kernel_rfl
 m17 := by kernel_rfl
 m18 := by kernel_rfl
 m19 := by kernel_rfl
 c0 := by kernel_rfl
 c2 := by kernel_rfl
 c3 := by kernel_rfl
 c4 := by kernel_rfl
 c5 := by kernel_rfl
 c9 := by kernel_rfl
 c20 := by kernel_rfl
 c21 := by kernel_rfl
 c37 := by kernel_rfl
 c46 := by kernel_rfl
 c51 := by kernel_rfl
 c53 := by kernel_rfl
 c75 := by kernel_rfl
 c76 := by kernel_rfl
 c80 := by kernel_rfl
 c85 := by kernel_rfl
 c127 := by kernel_rfl
 c143 := by kernel_rfl
 c145 := by kernel_rfl
 c167 := by kernel_rfl
 c168 := by kernel_rfl
 c171 := by kernel_rfl
 c173 := by kernel_rfl
 c175 := by kernel_rfl
 c210 := by kernel_rfl
 c212 := by kernel_rfl
 c213 := by kernel_rfl
 c232 := by kernel_rfl
 c233 := by kernel_rfl
}
theorem decF_eq : ∀ (f u : Nat), u < 10 ^ f → 0 < f → decF f u = Lib.decDigits u
 | f + 1, u, h, _ => by
   rw [decF, Lib.decDigits]
   by_cases hu : u < 10
   · rw [show Nat.blt u 10 = true from by simpa [Nat.blt, Nat.lt_iff_add_one_le] using hu, dif_pos hu]; rfl
   · rw [show Nat.blt u 10 = false from by cases hb : Nat.blt u 10 with | false => rfl | true => exact absurd (by simpa [Nat.blt, Nat.lt_iff_add_one_le] using hb) hu, dif_neg hu, cond_false]
     have hf : 0 < f := by
      rcases Nat.eq_zero_or_pos f with h0 | h0
      · subst h0; exact absurd (by simpa using h) hu
      · exact h0
     rw [decF_eq f (u / 10) (by rw [Nat.pow_succ] at h; omega) hf]
theorem itoaF_eq (n : Int) (h : -9223372036854775808 ≤ n ∧ n ≤ 9223372036854775807) : itoaF n = Lib.itoa n := by
 unfold itoaF Lib.itoa
 cases n with
 | ofNat u =>
   have : u < 10 ^ 20 := by have := h.2; simp only [Int.ofNat_eq_natCast] at this; omega
   rw [if_neg (by simp)]
   exact decF_eq 20 u this (by decide)
 | negSucc u =>
   have : u + 1 < 10 ^ 20 := by have := h.1; simp only [Int.negSucc_eq] at this; omega
   rw [if_pos (Int.negSucc_lt_zero u)]
   exact congrArg _ (decF_eq 20 (u + 1) this (by decide))
theorem itoa_h (n : Int) (h : -9223372036854775808 ≤ n ∧ n ≤ 9223372036854775807) : Holds Tryz.prog 196 [.v (.int .i64 n)] (.p (.v (.string ⟨⟨itoaF n⟩⟩))) [] :=
 .of_callsG Tryz.func196 (by kernel_rfl) rfl (fun w vs hg hl hr => by
  have hv : ∃ u, vs = [u] := by
   match vs, hl with
   | [u], _ => exact ⟨u, rfl⟩
  obtain ⟨u, rfl⟩ := hv
  have h1 := jd (hr 0 _ u rfl rfl) rfl
  subst h1
  have htab : Lib.TabIs Tryz.prog w "internal/strconv.uint64pow10" .u64 Lib.pow10Tab := by
   obtain ⟨ty, m, hb⟩ := hg 3 _ rfl
   unfold Lib.TabIs World.var?
   rw [show Tryz.prog.globalNamed "internal/strconv.uint64pow10" = some 3 from by kernel_rfl]
   simp only [Option.bind_some, hb]
   rfl
  refine (Any.strconv_Itoa laysItoa n h.1 h.2 w htab).mono fun e w' ⟨h1, k, os, h2⟩ => ⟨?_, ?_⟩
  · rw [h1, ← itoaF_eq n h]; rfl
  · subst h2
    refine ⟨rfl, rfl, rfl, by simp [Sort.grow], fun b hb => ?_⟩
    show (_ ++ os)[b]? = _
    rw [Array.getElem?_append_left (by exact hb)]; rfl) rfl fun w => .p (.v rfl)
theorem indexByte_h (s : ByteArray) (c : Int) : Holds Tryz.prog 112 [.v (.string s), .v (.int .u8 c)] (.p (.v (.int .i64 (Lib.indexByte s.data.toList c.toNat.toUInt8)))) [] :=
 .of_callsG Tryz.func112 (by kernel_rfl) rfl (fun w vs hg hl hr => by
  have hv : ∃ u v, vs = [u, v] := by
   match vs, hl with
   | [u, v], _ => exact ⟨u, v, rfl⟩
  obtain ⟨u, v, rfl⟩ := hv
  have h1 := jd (hr 0 _ u rfl rfl) rfl
  have h2 := jd (hr 1 _ v rfl rfl) rfl
  subst h1 h2
  exact (Any.strings_IndexByte laysIdx s c w).mono fun e w' ⟨h1, h2⟩ => ⟨h1, h2 ▸ Below.refl _ _⟩) rfl fun w => .p (.v rfl)
theorem atoi_h (s : ByteArray) (hs : s.size ≤ 9223372036854775806) (v : Int) (h : Lib.atoiAll s.data.toList = .ok v) : Holds Tryz.prog 144 [.v (.string s)] (.tup [.p (.v (.int .i64 v)), .p (.v .nilIface)]) [] :=
 .of_callsG Tryz.func144 (by kernel_rfl) rfl (fun w vs hg hl hr => by
  have hv : ∃ u, vs = [u] := by
   match vs, hl with
   | [u], _ => exact ⟨u, rfl⟩
  obtain ⟨u, rfl⟩ := hv
  have h1 := jd (hr 0 _ u rfl rfl) rfl
  subst h1
  refine (Any.strconv_Atoi_ok laysAtoi s hs v h w).mono fun e w' ⟨h1, h2⟩ => ⟨h1, ?_⟩
  rcases h2 with rfl | ⟨t, rfl⟩
  · exact Below.refl _ _
  · exact Lib.bytesWorld_below _ _ _) rfl fun w => .tup (us := [.int .i64 v, .nilIface]) rfl fun i s u hs hu => by
    match i, hs, hu with
    | 0, hs, hu => cases hs; cases hu; exact .p (.v rfl)
    | 1, hs, hu => cases hs; cases hu; exact .p (.v rfl)
def ctab (f : FuncId) (ps : List PV) : Option SV := bif Nat.beq f 196 then (match ps with
 | [.v (.int .i64 n)] => bif ible (-9223372036854775808) n && ible n 9223372036854775807 then some (.p (.v (.string ⟨⟨itoaF n⟩⟩))) else none
 | _ => none)
 else bif Nat.beq f 112 then (match ps with
 | [.v (.string s), .v (.int .u8 c)] => some (.p (.v (.int .i64 (Lib.indexByte s.data.toList c.toNat.toUInt8))))
 | _ => none)
 else bif Nat.beq f 144 then (match ps with
 | [.v (.string s)] => bif Nat.ble s.size 9223372036854775806 then (match Lib.atoiAll s.data.toList with
   | .ok v => some (.tup [.p (.v (.int .i64 v)), .p (.v .nilIface)])
   | _ => none) else none
 | _ => none)
 else none
theorem qaq (F : List (FuncId × FnI)) : TabOk Tryz.prog ⟨TTab, F, ctab⟩ := fun f ps r h0 => by
 have h : ctab f ps = some r := h0
 clear h0
 unfold ctab at h
 cases hf : Nat.beq f 196 with
 | false =>
   rw [hf, cond_false] at h
   cases hf : Nat.beq f 112 with
   | true =>
     rw [hf, cond_true] at h
     have e := Nat.eq_of_beq_eq_true hf
     subst e
     split at h
     · cases h; exact indexByte_h _ _
     · cases h
   | false =>
     rw [hf, cond_false] at h
     cases hf : Nat.beq f 144 with
     | true =>
       rw [hf, cond_true] at h
       have e := Nat.eq_of_beq_eq_true hf
       subst e
       split at h
       · rename_i s
         cases hb : Nat.ble s.size 9223372036854775806 with
         | false => rw [hb] at h; cases h
         | true =>
           rw [hb, cond_true] at h
           split at h
           · rename_i v hv
             cases h
             exact atoi_h s (Nat.le_of_ble_eq_true hb) v hv
           · cases h
       · cases h
     | false =>
       rw [hf, cond_false] at h
       cases h
 | true =>
   rw [hf, cond_true] at h
   have e := Nat.eq_of_beq_eq_true hf
   subst e
   split at h
   · rename_i n
     cases hb : (ible (-9223372036854775808) n && ible n 9223372036854775807) with
     | false => rw [hb] at h; cases h
     | true =>
       rw [hb, cond_true] at h
       cases h
       simp only [Bool.and_eq_true] at hb
       exact itoa_h n ⟨jY hb.1, jY hb.2⟩
   · cases h
end Go.Proofs.YtkkbdgijfkocnaaGreatDoor
namespace Go.Proofs.YtkkbdgijfkocnaaGreatDoor
set_option linter.unusedVariables false
set_option linter.unusedSimpArgs false
open Go.RowKit
def Val.pv (x : Val) : List PV := [.v (.int .i64 x.kind), .v (.int .i64 x.n), .v (.string x.s)]
def Atr.pv (x : Atr) : List PV := [.v (.int .i64 x.cat), .v (.string x.name), .v (.bool x.must)]
def Mat.pv (x : Mat) : List PV := [.v (.int .i64 x.attr.cat), .v (.string x.attr.name), .v (.bool x.attr.must), .v (.int .i64 x.op), .v (.int .i64 x.val.kind), .v (.int .i64 x.val.n), .v (.string x.val.s)]
def valsP (l : List Val) : PV := .sl 3 (l.map Val.pv)
def Giv.pv (x : Giv) : List PV := [.v (.int .i64 x.cat), .v (.string x.name), valsP x.bag]
def zm (l : List Giv) : PV := .sl 3 (l.map Giv.pv)
def wq (l : List Mat) : PV := .sl 7 (l.map Mat.pv)
def anyP (l : List (List Mat)) : PV := .sl 1 (l.map fun x => [wq x])
def tgtP (l : List (List (List Mat))) : PV := .sl 1 (l.map fun x => [anyP x])
abbrev pI (n : Int) : PV := .v (.int .i64 n)
abbrev pB (b : Bool) : PV := .v (.bool b)
abbrev pS (s : ByteArray) : PV := .v (.string s)
structure Br where
 atom : Int
 a : Int
 b : Int
 c : Int
instance decBr : DecidableEq Br := fun x y => decidable_of_iff (x.atom = y.atom ∧ x.a = y.a ∧ x.b = y.b ∧ x.c = y.c) ⟨fun h => by cases x; cases y; simp only at h; simp [h], fun h => by subst h; simp⟩
def Br.to (x : Br) (j : Nat) : Int := if j = 0 then x.a else if j = 1 then x.b else x.c
def Br.pv (x : Br) : List PV := [pI x.atom, pI x.a, pI x.b, pI x.c]
def zeroBr : Br := ⟨0, 0, 0, 0⟩
def brsP (l : List Br) : PV := .sl 4 (l.map Br.pv)
def dagP (m : Int) (l : List Br) : PV := .rp [pI m, brsP l]
def mayD (l : List Br) (a w : Int) : Bool := if w < 0 then decide (-1048576 ≤ w) else decide (w < l.length) && decide (a < (l.getD w.toNat zeroBr).atom)
def brD (l : List Br) (i : Int) : Option Br := if i < 0 then none else l[i.toNat]?
def zU (m : Int) (l : List Br) (x : Br) : Int × Int × List Br :=
 if x.atom < 0 ∨ 64 ≤ x.atom then (0, 1, l)
 else if !(mayD l x.atom x.a && mayD l x.atom x.b && mayD l x.atom x.c) then (0, 1, l)
 else if x.b = x.a ∧ x.c = x.a then (x.a, 0, l)
 else if l.findIdx (fun y => decide (y = x)) < l.length then ((l.findIdx (fun y => decide (y = x)) : Nat), 0, l)
 else if m ≤ l.length then (0, 6, l)
 else ((l.length : Nat), 0, l ++ [x])
def ansD (l : List Int) (a : Int) : Int := if a < l.length then (if l.getD a.toNat 0 < 0 ∨ 2 < l.getD a.toNat 0 then 1 else l.getD a.toNat 0) else 1
def SWB (P : Program) (ops : List Oper) (κ : Kap) (ls : Array Bool) (fuel : Nat) (Q : St → Prop) (st : St) : Prop := ∀ (w0 : Base) (Sx : Nat → Prop) (γ : Nat → Value) (a : Act) (w : World) (QQ : Exit → Act → World → Prop), Sim w0 Sx γ st a w →
 (∀ st' γ' a' w', Sim w0 Sx γ' st' a' w' → Q st' → QQ .normal a' w') → wpAnyP P ops.toArray (NoPanic QQ) fuel (pendOf γ st.own w κ) ls a w
def SWBo (P : Program) (ops : List Oper) (κ : Kap) (ls : Array Bool) (fuel : Nat) (Q : St → Prop) (st : St) (i : Nat) : Prop := ∀ (w0 : Base) (Sx : Nat → Prop) (γ : Nat → Value) (a : Act) (w : World) (QQ : Exit → Act → World → Prop), Sim w0 Sx γ st a w →
 (∀ st' γ' a' w', Sim w0 Sx γ' st' a' w' → Q st' → QQ .normal a' w') → wpOp P ops.toArray (NoPanic QQ) i (fun a' w' => (∀ p ∈ alive ops.toArray i (pendOf γ st.own w κ), p.2 w') ∧ wpAnyP P ops.toArray (NoPanic QQ) fuel (alive ops.toArray i (pendOf γ st.own w κ)) (ls.setIfInBounds i true) a' w') a w
section
variable {P : Program} {ops : List Oper} {κ : Kap} {ls : Array Bool} {fuel : Nat} {st : St} {Q : St → Prop} {i j : Nat} {o : Oper}
theorem wR (hr : Region.ready .any ops.toArray ls = []) (h : Q st) : SWB P ops κ ls fuel Q st := fun _ _ γ a w _ hI hQ => by
 cases fuel with
 | zero => exact ⟨hr, hQ st γ a w hI h⟩
 | succ f => exact ⟨fun _ => hQ st γ a w hI h, fun i hi => by rw [hr] at hi; cases hi⟩
theorem qQ (i : Nat) (hr : Region.ready .any ops.toArray ls = [i]) (h : SWBo P ops κ ls fuel Q st i) : SWB P ops κ ls (fuel + 1) Q st := fun w0 Sx γ a w QQ hI hQ =>
 ⟨fun h0 => (by rw [hr] at h0; cases h0), fun k hk => by
  rw [hr] at hk
  obtain rfl : k = i := by simpa using hk
  exact h w0 Sx γ a w QQ hI hQ⟩
theorem swb_fork2 (i j : Nat) (hr : Region.ready .any ops.toArray ls = [i, j]) (h : SWBo P ops κ ls fuel Q st i) (h2 : SWBo P ops κ ls fuel Q st j) : SWB P ops κ ls (fuel + 1) Q st := fun w0 Sx γ a w QQ hI hQ =>
 ⟨fun h0 => (by rw [hr] at h0; cases h0), fun k hk => by
  rw [hr] at hk
  have hk : k = i ∨ k = j := by simpa using hk
  rcases hk with rfl | rfl
  · exact h w0 Sx γ a w QQ hI hQ
  · exact h2 w0 Sx γ a w QQ hI hQ⟩
theorem qT {K : List Nat} {s : SV} (hB : (Region.free .any ops.toArray ls i && (Region.ready .any ops.toArray ls).contains i) = true) (hs : Region.noSelect ops.toArray = true) (hi : nthO ops i = some o) (hw : ja ops st o = some true) (hr : RdO P K st o s) (hd : zl st o.dst = true)
 (h : SWB P ops ((i, K) :: κ) (ls.setIfInBounds i true) fuel Q (st.put o.dst s)) : SWB P ops κ ls (fuel + 1) Q st := fun w0 Sx γ a w QQ hI hQ => by
 obtain ⟨v, h1, h2⟩ := hr w0 Sx γ a w hI
 have hrest := h w0 Sx γ _ w QQ (hI.put (dst := o.dst) hd h1) hQ
 simp only [wS] at hrest
 rw [Bool.and_eq_true] at hB
 have hio := (zG ops i).trans hi
 exact wpAnyP_first hio (Region.noSelect_spec hs) (fun _ _ _ h => h) fuel _ ls a w (Region.free_spec hio hB.1) (by simpa using hB.2) (Or.inl ⟨zw hI hw, h2⟩) (SameOn.refl _ _) qak hrest
theorem qr {Ws : List Nat} (hi : nthO ops i = some o) (hw : ja ops st o = some true) (hK : (kapB o κ).all (fun p => Ws.all fun j => p.2.contains j) = true) (h : ActOk P Ws o st (SWB P ops (kapB o κ) (ls.setIfInBounds i true) fuel Q)) : SWBo P ops κ ls fuel Q st i := fun w0 Sx γ a w QQ hI hQ => by
 have hsub : ∀ p ∈ kapB o κ, ∀ j ∈ Ws, j ∈ p.2 := fun p hp j hj => by simpa using List.all_eq_true.1 (List.all_eq_true.1 hK p hp) j hj
 have hio := (zG ops i).trans hi
 unfold wpOp
 rw [hio]
 simp only [zw hI hw, if_true]
 refine Or.inl ?_
 have := h w0 Sx γ a w (NoPanic QQ) hI
 have mono : ∀ {a' w'}, (∃ γ' st', SWB P ops (kapB o κ) (ls.setIfInBounds i true) fuel Q st' ∧ Sim w0 Sx γ' st' a' w' ∧ SameOn (vis Ws γ st.own) w w' ∧ ∀ K : List Nat, (∀ i ∈ Ws, i ∈ K) → ∀ b, b < w.heap.size → vis K γ st.own b → vis K γ' st'.own b) →
  (∀ p ∈ alive ops.toArray i (pendOf γ st.own w κ), p.2 w') ∧ wpAnyP P ops.toArray (NoPanic QQ) fuel (alive ops.toArray i (pendOf γ st.own w κ)) (ls.setIfInBounds i true) a' w' := fun {a' w'} ⟨γ', st', h1, h2, h3, h4⟩ => by
  have hc : Covers (alive ops.toArray i (pendOf γ st.own w κ)) (pendOf γ' st'.own w' (kapB o κ)) := fun p hp => by
   obtain ⟨hp1, hp2⟩ := mem_alive.1 hp
   obtain ⟨q, hq, rfl⟩ := List.mem_map.1 hp1
   have hq' : q ∈ kapB o κ := List.mem_filter.2 ⟨hq, by rw [hp2 o hio]; rfl⟩
   have hs := hsub q hq'
   refine .inr ⟨_, List.mem_map.2 ⟨q, hq', rfl⟩, rfl, fun x hx => ⟨Nat.le_trans h3.size hx.size, fun b hb hv => ?_⟩⟩
   have e1 := h3.block b hb (fun j bx hj hjW hjb => hv j bx hj (by simpa using hs j (by simpa using hjW)) hjb)
   have e2 := hx.block b (Nat.lt_of_lt_of_le hb h3.size) (h4 q.2 hs b hb hv)
   exact e2.trans e1
  exact ⟨hc.at qak, wE _ hc _ _ _ (h1 w0 Sx γ' a' w' QQ h2 hQ)⟩
 unfold Oper.wp at this ⊢
 generalize (execOp a.eval o).run P w = res at *
 cases res with
 | ok n w' =>
   cases n <;> simp only [Oper.upon] at this ⊢ <;> first
    | exact mono this
    | exact this
    | exact Calls.mono this (fun e w'' he => by cases e <;> first | exact mono he | exact he)
    | exact Rows.mono this (fun _ _ he => mono he)
 | halt x w' => cases x <;> simp only [Oper.upon] at this ⊢ <;> exact this
theorem zC {id : Nat} {l : List Oper} {QS : SEx → St → Prop} (n : Nat) (hn : l.length = n) (hm : P.follows .mixedOrders = true) (h : SWB P l [] (Array.replicate n false) n (QS .normal) st) : SW P (.region id l.toArray true) QS st := fun w0 Sx γ a w QQ hI hQ => by
 refine wp_region_noPanic (wp_region_any hm (qau _ [] _ _ _ ?_))
 have h1 := h w0 Sx γ a w.drew QQ hI.drew fun s' γ' a' w' hI' hq => hQ .normal s' γ' a' w' hI' hq
 have e : l.toArray.size = n := by simpa using hn
 rw [e]
 exact h1
end
def qB {α : Type} (f : α → Nat) (l : List α) : Nat := (l.map f).sum
theorem zk {α : Type} {f : α → Nat} {l : List α} {k : Nat} (hk : k < l.length) : qB f (l.take (k + 1)) = qB f (l.take k) + f l[k] := by
 unfold qB
 rw [List.take_succ_eq_append_getElem hk, List.map_append, List.sum_append]; simp
theorem wd {α : Type} {f : α → Nat} {l : List α} {x : α} (h : x ∈ l) : f x ≤ qB f l := by
 unfold qB
 induction l with
 | nil => cases h
 | cons y l ih =>
   rcases List.mem_cons.1 h with rfl | h
   · simp
   · have := ih h; simp; omega
def txt (s : ByteArray) : Nat := 1 + s.size / 8
def msz (m : Mat) : Nat := txt m.attr.name + txt m.val.s
def asz (y : List Mat) : Nat := 1 + y.length + qB msz y
def xsz (x : List (List Mat)) : Nat := 1 + x.length + qB asz x
def tsz (t : List (List (List Mat))) : Nat := 1 + t.length + qB xsz t
abbrev rTar' : Rp (List (List Mat)) := rSl (rSl rMat 7) 1
theorem SlAt.sl0 {α : Type} {R : Rp α} {size : Nat} {w0 w : World} {A : Option Addr} {l : List (List α)} (h : SlAt (rSl R size) 1 w0 A l) (hB : Below w0.heap.size w0 w) {k : Nat} (hk : k < l.length) :
 ∃ b o B c, A = some ⟨b, o, none⟩ ∧ b < w0.heap.size ∧ w.cell? ⟨b, o + k, none⟩ = some (.slice B l[k].length c) ∧ l[k].length ≤ c ∧ (l[k].length ≤ reachBytes ∧ c ≤ maxLen) ∧ SlAt R size w0 B l[k] := by
 obtain ⟨b, o, B, c, hA, hb, hc, h1, h2, h3⟩ := h.sl hk
 exact ⟨b, o, B, c, hA, hb, (hB.cell (p := ⟨b, o + k, none⟩) hb).trans hc, h1, h2, h3⟩
structure Nod where
 op : Int
 val : Val
 attr : Atr
structure Obli where
 on : Int
 kind : Int
 arg : ByteArray
abbrev Tar := List (List (List Mat))
structure Rul where
 id : ByteArray
 deny : Bool
 target : Tar
 cond : List Nod
 obls : List Obli
inductive Pol where
 | mk (id : ByteArray) (set : Bool) (alg : Int) (target : Tar) (rules : List Rul) (kids : List Pol) (obls : List Obli)
def Pol.id : Pol → ByteArray | .mk x _ _ _ _ _ _ => x
def Pol.set : Pol → Bool | .mk _ x _ _ _ _ _ => x
def Pol.alg : Pol → Int | .mk _ _ x _ _ _ _ => x
def Pol.target : Pol → Tar | .mk _ _ _ x _ _ _ => x
def Pol.rules : Pol → List Rul | .mk _ _ _ _ x _ _ => x
def Pol.kids : Pol → List Pol | .mk _ _ _ _ _ x _ => x
def Pol.obls : Pol → List Obli | .mk _ _ _ _ _ _ x => x
structure Nod.Fit (x : Nod) : Prop where
 op : R64 x.op
 val : x.val.Fit
 attr : x.attr.Fit
structure Obli.Fit (x : Obli) : Prop where
 on : R64 x.on
 kind : R64 x.kind
 arg : x.arg.size ≤ reachBytes
def rNod : Rp Nod := fun _ cs x => cs = [.int .i64 x.op, .int .i64 x.val.kind, .int .i64 x.val.n, .string x.val.s, .int .i64 x.attr.cat, .string x.attr.name, .bool x.attr.must] ∧ x.Fit
def rObl : Rp Obli := fun _ cs x => cs = [.int .i64 x.on, .int .i64 x.kind, .string x.arg] ∧ x.Fit
theorem keeps_nod : Keeps rNod := fun _ _ _ _ _ h => h
theorem keeps_obl : Keeps rObl := fun _ _ _ _ _ h => h
def SlV {α : Type} (R : Rp α) (size : Nat) (w : World) (v : Value) (l : List α) : Prop := ∃ A c, v = .slice A l.length c ∧ l.length ≤ c ∧ (l.length ≤ reachBytes ∧ c ≤ maxLen) ∧ SlAt R size w A l
theorem SlV.keep {α : Type} {R : Rp α} (hR : Keeps R) {size : Nat} {w w' : World} {v : Value} {l : List α} (hb : Below w.heap.size w w') (h : SlV R size w v l) : SlV R size w' v l := by
 obtain ⟨A, c, h1, h2, h3, h4⟩ := h
 exact ⟨A, c, h1, h2, h3, h4.keep hR hb⟩
theorem SlV.of {α : Type} {R : Rp α} {size : Nat} {w : World} {v : Value} {l : List α} (h : rSl R size w [v] l) : SlV R size w v l := by
 obtain ⟨A, c, h1, h2⟩ := h
 simp only [List.cons.injEq, and_true] at h1
 exact ⟨A, c, h1, h2⟩
theorem SlV.nil {α : Type} (R : Rp α) (size : Nat) (w : World) : SlV R size w (.slice none 0 0) [] := ⟨none, 0, rfl, Nat.le_refl _, ⟨Nat.zero_le _, Nat.zero_le _⟩, SlAt.nil⟩
def rRul : Rp Rul := fun w cs x => ∃ c2 c3 c4, cs = [.string x.id, .bool x.deny, c2, c3, c4] ∧ x.id.size ≤ reachBytes ∧ SlV rTar' 1 w c2 x.target ∧ SlV rNod 7 w c3 x.cond ∧ SlV rObl 3 w c4 x.obls
def rPolN : Nat → Rp Pol
 | 0 => fun _ _ _ => False
 | n + 1 => fun w cs p => ∃ c3 c4 c5 c6, cs = [.string p.id, .bool p.set, .int .i64 p.alg, c3, c4, c5, c6] ∧ p.id.size ≤ reachBytes ∧ R64 p.alg ∧ SlV rTar' 1 w c3 p.target ∧ SlV rRul 5 w c4 p.rules ∧ SlV (rPolN n) 7 w c5 p.kids ∧ SlV rObl 3 w c6 p.obls
section
variable {w0 w : World} {A : Option Addr}
theorem SlAt.nod {l : List Nod} (h : SlAt rNod 7 w A l) {k : Nat} (hk : k < l.length) :
 ∃ b o, A = some ⟨b, o, none⟩ ∧ b < w.heap.size ∧ w.cell? ⟨b, o + k * 7, none⟩ = some (.int .i64 l[k].op) ∧
   (w.cell? ⟨b, o + k * 7 + 1, none⟩ = some (.int .i64 l[k].val.kind) ∧ w.cell? ⟨b, o + k * 7 + 2, none⟩ = some (.int .i64 l[k].val.n) ∧ w.cell? ⟨b, o + k * 7 + 3, none⟩ = some (.string l[k].val.s)) ∧
   (w.cell? ⟨b, o + k * 7 + 4, none⟩ = some (.int .i64 l[k].attr.cat) ∧ w.cell? ⟨b, o + k * 7 + 5, none⟩ = some (.string l[k].attr.name) ∧ w.cell? ⟨b, o + k * 7 + 6, none⟩ = some (.bool l[k].attr.must)) ∧ l[k].Fit := by
 obtain ⟨b, o, cs, hA, hlt, _, hc, rfl, hf⟩ := h.at_ hk
 exact ⟨b, o, hA, hlt, hc 0 _ rfl, ⟨hc 1 _ rfl, hc 2 _ rfl, hc 3 _ rfl⟩, ⟨hc 4 _ rfl, hc 5 _ rfl, hc 6 _ rfl⟩, hf⟩
theorem SlAt.obl {l : List Obli} (h : SlAt rObl 3 w A l) {k : Nat} (hk : k < l.length) :
 ∃ b o, A = some ⟨b, o, none⟩ ∧ b < w.heap.size ∧ w.cell? ⟨b, o + k * 3, none⟩ = some (.int .i64 l[k].on) ∧ w.cell? ⟨b, o + k * 3 + 1, none⟩ = some (.int .i64 l[k].kind) ∧ w.cell? ⟨b, o + k * 3 + 2, none⟩ = some (.string l[k].arg) ∧ l[k].Fit := by
 obtain ⟨b, o, cs, hA, hlt, _, hc, rfl, hf⟩ := h.at_ hk
 exact ⟨b, o, hA, hlt, hc 0 _ rfl, hc 1 _ rfl, hc 2 _ rfl, hf⟩
theorem SlAt.rul0 {l : List Rul} (h : SlAt rRul 5 w0 A l) (hB : Below w0.heap.size w0 w) {k : Nat} (hk : k < l.length) :
 ∃ b o c2 c3 c4, A = some ⟨b, o, none⟩ ∧ b < w0.heap.size ∧ w.cell? ⟨b, o + k * 5, none⟩ = some (.string l[k].id) ∧ w.cell? ⟨b, o + k * 5 + 1, none⟩ = some (.bool l[k].deny) ∧ w.cell? ⟨b, o + k * 5 + 2, none⟩ = some c2 ∧ w.cell? ⟨b, o + k * 5 + 3, none⟩ = some c3 ∧ w.cell? ⟨b, o + k * 5 + 4, none⟩ = some c4 ∧
   l[k].id.size ≤ reachBytes ∧ SlV rTar' 1 w0 c2 l[k].target ∧ SlV rNod 7 w0 c3 l[k].cond ∧ SlV rObl 3 w0 c4 l[k].obls := by
 obtain ⟨b, o, cs, hA, hlt, _, hc, c2, c3, c4, rfl, h1, h2, h3, h4⟩ := h.at_ hk
 have cell : ∀ j, w.cell? ⟨b, j, none⟩ = w0.cell? ⟨b, j, none⟩ := fun j => hB.cell (p := ⟨b, j, none⟩) hlt
 exact ⟨b, o, c2, c3, c4, hA, hlt, (cell _).trans (hc 0 _ rfl), (cell _).trans (hc 1 _ rfl), (cell _).trans (hc 2 _ rfl), (cell _).trans (hc 3 _ rfl), (cell _).trans (hc 4 _ rfl), h1, h2, h3, h4⟩
theorem SlAt.pol0 {n : Nat} {l : List Pol} (h : SlAt (rPolN n) 7 w0 A l) (hB : Below w0.heap.size w0 w) {k : Nat} (hk : k < l.length) :
 ∃ b o c3 c4 c5 c6, A = some ⟨b, o, none⟩ ∧ b < w0.heap.size ∧ w.cell? ⟨b, o + k * 7, none⟩ = some (.string l[k].id) ∧ w.cell? ⟨b, o + k * 7 + 1, none⟩ = some (.bool l[k].set) ∧ w.cell? ⟨b, o + k * 7 + 2, none⟩ = some (.int .i64 l[k].alg) ∧
   w.cell? ⟨b, o + k * 7 + 3, none⟩ = some c3 ∧ w.cell? ⟨b, o + k * 7 + 4, none⟩ = some c4 ∧ w.cell? ⟨b, o + k * 7 + 5, none⟩ = some c5 ∧ w.cell? ⟨b, o + k * 7 + 6, none⟩ = some c6 ∧
   rPolN n w0 [.string l[k].id, .bool l[k].set, .int .i64 l[k].alg, c3, c4, c5, c6] l[k] := by
 obtain ⟨b, o, cs, hA, hlt, _, hc, hr⟩ := h.at_ hk
 match n, hr with
 | n + 1, hr =>
   obtain ⟨c3, c4, c5, c6, rfl, h1, h2⟩ := hr
   have cell : ∀ j, w.cell? ⟨b, j, none⟩ = w0.cell? ⟨b, j, none⟩ := fun j => hB.cell (p := ⟨b, j, none⟩) hlt
   exact ⟨b, o, c3, c4, c5, c6, hA, hlt, (cell _).trans (hc 0 _ rfl), (cell _).trans (hc 1 _ rfl), (cell _).trans (hc 2 _ rfl), (cell _).trans (hc 3 _ rfl), (cell _).trans (hc 4 _ rfl), (cell _).trans (hc 5 _ rfl), (cell _).trans (hc 6 _ rfl), c3, c4, c5, c6, rfl, h1, h2⟩
end
theorem rPolN_form {n : Nat} {w : World} {s x a c3 c4 c5 c6 : Value} {p : Pol} (h : rPolN n w [s, x, a, c3, c4, c5, c6] p) :
 ∃ A3 d3 A4 d4 A5 d5 A6 d6, c3 = .slice A3 p.target.length d3 ∧ c4 = .slice A4 p.rules.length d4 ∧ c5 = .slice A5 p.kids.length d5 ∧ c6 = .slice A6 p.obls.length d6 := by
 match n, h with
 | n + 1, ⟨_, _, _, _, he, _, _, ⟨A3, d3, h3, _⟩, ⟨A4, d4, h4, _⟩, ⟨A5, d5, h5, _⟩, ⟨A6, d6, h6, _⟩⟩ =>
   simp only [List.cons.injEq, and_true] at he
   obtain ⟨_, _, _, rfl, rfl, rfl, rfl⟩ := he
   exact ⟨A3, d3, A4, d4, A5, d5, A6, d6, h3, h4, h5, h6⟩
def osz (l : List Obli) : Nat := l.length + qB (fun o => txt o.arg) l
def nsz (n : Nod) : Nat := txt n.attr.name + txt n.val.s
def rusz (r : Rul) : Nat := txt r.id + tsz r.target + r.cond.length + osz r.obls + qB nsz r.cond
mutual
def Pol.sz : Pol → Nat
 | .mk id _ _ t rs ks os => 1 + rs.length + txt id + tsz t + osz os + qB rusz rs + Pol.szs ks
def Pol.szs : List Pol → Nat
 | [] => 0
 | k :: ks => k.sz + Pol.szs ks
end
theorem Pol.szs_eq : ∀ l : List Pol, Pol.szs l = qB Pol.sz l
 | [] => rfl
 | k :: ks => by simp [Pol.szs, qB, Pol.szs_eq ks]
theorem Pol.sz_eq (p : Pol) : p.sz = 1 + p.rules.length + txt p.id + tsz p.target + osz p.obls + qB rusz p.rules + qB Pol.sz p.kids := by
 cases p with
 | mk id a b t rs ks os => rw [← Pol.szs_eq]; rfl
end Go.Proofs.YtkkbdgijfkocnaaGreatDoor
namespace Go.Proofs.YtkkbdgijfkocnaaGreatDoor
set_option linter.unusedVariables false
set_option linter.unusedSimpArgs false
def attrS (a : Atr) : Bool := decide (1 ≤ a.cat) && decide (a.cat ≤ 4) && nameS a.name
def manyS (n : Nat) : Int := if n = 0 then 1 else if 8 < n then 6 else 0
def matchS (m : Mat) : Bool := attrS m.attr && decide (1 ≤ m.op) && decide (m.op ≤ 3) && m.val.right
def firstE {α : Type} (f : α → Int) : List α → Int
 | [] => 0
 | x :: r => if f x = 0 then firstE f r else f x
def okE (b : Bool) : Int := if b then 0 else 1
def allOfS (l : List Mat) : Int := if manyS l.length = 0 then firstE (fun m => okE (matchS m)) l else manyS l.length
def anyOfS (l : List (List Mat)) : Int := if manyS l.length = 0 then firstE allOfS l else manyS l.length
def zF (t : Tar) : Int := if 8 < t.length then 6 else firstE anyOfS t
def oblS (o : Obli) : Bool := decide (1 ≤ o.on) && decide (o.on ≤ 2) && decide (1 ≤ o.kind) && decide (o.kind ≤ 4) && nameS o.arg
def oblsS (l : List Obli) : Int := if 8 < l.length then 6 else firstE (fun o => okE (oblS o)) l
def jt (op : Int) : Option (List Bool) :=
 if op = 1 ∨ op = 2 then some []
 else if op = 3 ∨ op = 4 then some [true]
 else if op = 5 then some [true, false]
 else if op = 11 then some [false]
 else if 6 ≤ op ∧ op ≤ 13 then some [false, false]
 else none
def isNoVal (v : Val) : Bool := decide (v.kind = 0) && decide (v.n = 0) && decide (v.s.size = 0)
def isNoAtr (a : Atr) : Bool := decide (a.cat = 0) && decide (a.name.size = 0) && !a.must
def fieldsS (n : Nod) : Bool :=
 if n.op = 1 then n.val.right && isNoAtr n.attr
 else if n.op = 2 then attrS n.attr && isNoVal n.val
 else isNoVal n.val && isNoAtr n.attr
def wg (l : List Bool) (n : Nod) : Option (List Bool) := match jt n.op with
 | none => none
 | some w => if fieldsS n = true ∧ w.length ≤ l.length ∧ l.drop (l.length - w.length) = w then some (l.take (l.length - w.length) ++ [decide (n.op = 2)]) else none
def jh : List Bool → List Nod → Option (List Bool)
 | l, [] => some l
 | l, n :: r => match wg l n with
   | some l' => jh l' r
   | none => none
def exprS (l : List Nod) : Int :=
 if 32 < l.length then 6 else match jh [] l with
  | none => 1
  | some made => if l = [] ∨ made = [false] then 0 else 1
structure Wlk where
 met : List ByteArray
 rules : Int
def hasS (m : List ByteArray) (s : ByteArray) : Bool := m.any fun t => decide (s = t)
def jF (m : List ByteArray) (s : ByteArray) : Bool := !hasS m s && nameS s
def nameM (m : List ByteArray) (s : ByteArray) : List ByteArray := if jF m s then m ++ [s] else m
def ruleE (r : Rul) : Int := if zF r.target = 0 then (if exprS r.cond = 0 then oblsS r.obls else exprS r.cond) else zF r.target
def zu (w : Wlk) (r : Rul) : Int × Wlk :=
 if jF w.met r.id then (if 64 < w.rules + 1 then 6 else ruleE r, ⟨w.met ++ [r.id], w.rules + 1⟩) else (1, w)
def headE (p : Pol) : Int :=
 if (p.set && decide (0 < p.rules.length)) || (!p.set && (decide (0 < p.kids.length) || decide (p.alg = 4))) then 1
 else if zF p.target = 0 then (if oblsS p.obls = 0 then (if 16 < p.rules.length ∨ 16 < p.kids.length then 6 else 0) else oblsS p.obls) else zF p.target
def zT (w : Wlk) (p : Pol) : Int × Wlk :=
 (if jF w.met p.id && decide (1 ≤ p.alg) && decide (p.alg ≤ 6) then headE p else 1, ⟨nameM w.met p.id, w.rules⟩)
def seqS {α : Type} (f : Wlk → α → Int × Wlk) : Wlk → List α → Int × Wlk
 | w, [] => (0, w)
 | w, x :: r => if (f w x).1 = 0 then seqS f (f w x).2 r else f w x
def polS : Nat → Wlk → Pol → Int × Wlk
 | 0, w, _ => (6, w)
 | n + 1, w, p =>
   if (zT w p).1 = 0 then
    if (seqS zu (zT w p).2 p.rules).1 = 0 then seqS (polS n) (seqS zu (zT w p).2 p.rules).2 p.kids
    else seqS zu (zT w p).2 p.rules
   else zT w p
def zj (p : Pol) : Int := (polS 4 ⟨[], 0⟩ p).1
theorem seqS_some {α : Type} {f : Wlk → α → Int × Wlk} : ∀ {l : List α} {w : Wlk} {k : Nat} (hk : k < l.length), (seqS f w (l.take k)).1 = 0 → seqS f w (l.take (k + 1)) = f (seqS f w (l.take k)).2 l[k]
 | x :: r, w, 0, _, _ => by
   simp only [Nat.zero_add, List.take_succ_cons, List.take_zero, seqS, List.getElem_cons_zero]
   split
   · rename_i h; rw [← h]
   · rfl
 | x :: r, w, k + 1, hk, h => by
   rw [List.take_succ_cons, seqS] at h
   rw [List.take_succ_cons, List.take_succ_cons, seqS, seqS]
   by_cases h0 : (f w x).1 = 0
   · rw [if_pos h0] at h
     rw [if_pos h0, if_pos h0]
     exact seqS_some (by simpa using hk) h
   · rw [if_neg h0] at h; exact absurd h h0
theorem seqS_stop {α : Type} {f : Wlk → α → Int × Wlk} : ∀ {l : List α} {w : Wlk} (k : Nat), (seqS f w (l.take k)).1 ≠ 0 → seqS f w l = seqS f w (l.take k)
 | [], w, k, _ => by simp
 | x :: r, w, 0, h => by simp [seqS] at h
 | x :: r, w, k + 1, h => by
   rw [List.take_succ_cons, seqS] at h ⊢
   rw [seqS]
   by_cases h0 : (f w x).1 = 0
   · rw [if_pos h0] at h ⊢
     rw [if_pos h0]
     exact seqS_stop k h
   · rw [if_neg h0, if_neg h0]
theorem qag {α : Type} {f : α → Int} : ∀ {l : List α} {k : Nat} (hk : k < l.length), (∀ x ∈ l.take k, f x = 0) → f l[k] ≠ 0 → firstE f l = f l[k]
 | x :: r, 0, _, _, h => by simp only [List.getElem_cons_zero] at h ⊢; rw [firstE, if_neg h]
 | x :: r, k + 1, hk, ha, h => by
   have h0 : f x = 0 := ha x (by simp)
   rw [firstE, if_pos h0]
   simp only [List.getElem_cons_succ] at h ⊢
   exact qag (by simpa using hk) (fun y hy => ha y (by rw [List.take_succ_cons]; exact List.mem_cons_of_mem _ hy)) h
theorem qaa {α : Type} {f : α → Int} : ∀ {l : List α}, (∀ x ∈ l, f x = 0) → firstE f l = 0
 | [], _ => rfl
 | x :: r, h => by rw [firstE, if_pos (h x List.mem_cons_self)]; exact qaa fun y hy => h y (List.mem_cons_of_mem _ hy)
theorem take_ok {α : Type} {p : α → Prop} {l : List α} {k : Nat} (h : k < l.length) (ha : ∀ x ∈ l.take k, p x) (hk : p l[k]) : ∀ x ∈ l.take (k + 1), p x := by
 intro x hx
 rw [List.take_succ_eq_append_getElem h, List.mem_append, List.mem_singleton] at hx
 rcases hx with hx | rfl
 · exact ha x hx
 · exact hk
open Go.RowKit
abbrev nilV : PV := .v (.slice none 0 0)
inductive Cv : PV → PV → Prop
 | refl (p : PV) : Cv p p
 | nil (z : Nat) : Cv (.v (.slice none 0 0)) (.sl z [])
 | agg {cs ds : List PV} (hl : cs.length = ds.length) (h : ∀ (i : Nat) (c d : PV), cs[i]? = some c → ds[i]? = some d → Cv c d) : Cv (.agg cs) (.agg ds)
 | sl {z : Nat} {l m : List (List PV)} (hl : l.length = m.length) (he : ∀ (i : Nat) (e f : List PV), l[i]? = some e → m[i]? = some f → e.length = f.length) (h : ∀ (i j : Nat) (e f : List PV) (c d : PV), l[i]? = some e → m[i]? = some f → e[j]? = some c → f[j]? = some d → Cv c d) : Cv (.sl z l) (.sl z m)
def CvL (cs ds : List PV) : Prop := cs.length = ds.length ∧ ∀ (i : Nat) (c d : PV), cs[i]? = some c → ds[i]? = some d → Cv c d
theorem CvL.nil : CvL [] [] := ⟨rfl, fun i c d h => by simp at h⟩
theorem CvL.cons {c d : PV} {cs ds : List PV} (h : Cv c d) (t : CvL cs ds) : CvL (c :: cs) (d :: ds) := ⟨by simp [t.1], fun i x y hx hy => by
 cases i with
 | zero => simp at hx hy; subst hx; subst hy; exact h
 | succ i => exact t.2 i x y (by simpa using hx) (by simpa using hy)⟩
theorem CvL.refl (l : List PV) : CvL l l := ⟨rfl, fun i c d h1 h2 => by rw [h1] at h2; cases h2; exact .refl _⟩
theorem CvL.agg {cs ds : List PV} (h : CvL cs ds) : Cv (.agg cs) (.agg ds) := .agg h.1 h.2
def CvM (l m : List (List PV)) : Prop := l.length = m.length ∧ ∀ (i : Nat) (e f : List PV), l[i]? = some e → m[i]? = some f → CvL e f
theorem CvM.nil : CvM [] [] := ⟨rfl, fun i c d h => by simp at h⟩
theorem CvM.cons {c d : List PV} {cs ds : List (List PV)} (h : CvL c d) (t : CvM cs ds) : CvM (c :: cs) (d :: ds) := ⟨by simp [t.1], fun i x y hx hy => by
 cases i with
 | zero => simp at hx hy; subst hx; subst hy; exact h
 | succ i => exact t.2 i x y (by simpa using hx) (by simpa using hy)⟩
theorem CvM.sl {z : Nat} {l m : List (List PV)} (h : CvM l m) : Cv (.sl z l) (.sl z m) := .sl h.1 (fun i e f h1 h2 => (h.2 i e f h1 h2).1) fun i j e f c d h1 h2 h3 h4 => (h.2 i e f h1 h2).2 j c d h3 h4
theorem Cv.one {p q : PV} (h : Cv p q) : oneP q = oneP p := by
 cases h <;> rfl
theorem RelP.cv {ok : Nat → Prop} {w : World} {p q : PV} (hc : Cv p q) : ∀ {u : Value}, RelP ok w p u → RelP ok w q u := by
 induction hc with
 | refl => exact fun h => h
 | nil z =>
   intro u h
   cases h
   exact .sl (l := []) (Nat.zero_le _) ⟨Nat.zero_le _, Nat.zero_le _⟩ (by simp) (fun h => absurd h (by simp)) (fun b o i j h => by cases h) (fun b o i j e s u h => by cases h)
 | agg hl h ih =>
   intro u hr
   cases hr with
   | @agg _ us hl2 hr =>
     refine .agg (by omega) fun i s u hs hu => ?_
     have hi : i < us.length := (List.getElem?_eq_some_iff.1 hu).1
     exact ih i _ s (List.getElem?_eq_getElem (by omega)) hs (hr i _ u (List.getElem?_eq_getElem (by omega)) hu)
 | @sl z l m hl he h ih =>
   intro u hr
   cases hr with
   | @sl _ _ A c hc hm hle hA hx hr =>
     rw [hl] at hc hm ⊢
     refine .sl hc hm (fun e hem => ?_) (fun h => hA (by omega)) (fun b o i j hAb hi hj => hx b o i j hAb (by omega) hj) (fun b o i j e s u hAb hi hj hu => ?_)
     · obtain ⟨i, hi, rfl⟩ := List.mem_iff_getElem.1 hem
       have hl0 : l[i]? = some (l[i]'(by omega)) := List.getElem?_eq_getElem (by omega)
       have hm0 : m[i]? = some m[i] := List.getElem?_eq_getElem hi
       obtain ⟨q1, q2⟩ := hle _ (List.getElem_mem (show i < l.length by omega))
       have q3 := he i _ _ hl0 hm0
       refine ⟨by omega, fun s hs => ?_⟩
       obtain ⟨j, hj, rfl⟩ := List.mem_iff_getElem.1 hs
       have := (h i j _ _ _ _ hl0 hm0 (List.getElem?_eq_getElem (by omega)) (List.getElem?_eq_getElem hj)).one
       rw [this]
       exact q2 _ (List.getElem_mem _)
     · have hi' : i < m.length := (List.getElem?_eq_some_iff.1 hi).1
       have hl0 : l[i]? = some (l[i]'(by omega)) := List.getElem?_eq_getElem (by omega)
       have q3 := he i _ _ hl0 hi
       have hj' : j < e.length := (List.getElem?_eq_some_iff.1 hj).1
       exact ih i j _ _ _ _ hl0 hi (List.getElem?_eq_getElem (by omega)) hj (hr b o i j _ _ u hAb hl0 (List.getElem?_eq_getElem (by omega)) hu)
theorem Holds.cv {P : Program} {f : FuncId} {args args' : List PV} {r : SV} {own : List (Nat × Box)} (h : Holds P f args r own) (hc : CvL args' args) : Holds P f args' r own :=
 ⟨h.1, fun w Sx vs hSx hl hr => h.2 w Sx vs hSx (by rw [hl, hc.1]) fun i s u hs hu => by
  have hi : i < args.length := (List.getElem?_eq_some_iff.1 hs).1
  have h0 : args'[i]? = some (args'[i]'(by rw [hc.1]; exact hi)) := List.getElem?_eq_getElem _
  exact (hr i _ u h0 hu).cv (hc.2 i _ s h0 hs)⟩
theorem Holds.res {P : Program} {f : FuncId} {args : List PV} {r r' : SV} {own : List (Nat × Box)} (h : Holds P f args r own) (e : r = r') : Holds P f args r' own := e ▸ h
inductive CvS : SV → SV → Prop
 | refl (s : SV) : CvS s s
 | p {a b : PV} (h : Cv a b) : CvS (.p a) (.p b)
 | two {a b c d : PV} (h : Cv a b) (h2 : Cv c d) : CvS (.tup [.p a, .p c]) (.tup [.p b, .p d])
theorem RelS.cvs {ok : Nat → Prop} {H : Nat → Option Value} {w : World} {s s' : SV} {u : Value} (hc : CvS s s') (h : RelS ok H w s u) : RelS ok H w s' u := by
 cases hc with
 | refl => exact h
 | p hc => exact .p (h.p_inv.cv hc)
 | two h1 h2 =>
   cases h with
   | @tup _ us hl hr =>
     refine .tup hl fun i s u hs hu => ?_
     match i, hs with
     | 0, hs => cases hs; exact .p ((hr 0 _ u rfl hu).p_inv.cv h1)
     | 1, hs => cases hs; exact .p ((hr 1 _ u rfl hu).p_inv.cv h2)
def FinC (T : TT) (rs : List ResultVar) (r : SV) (own' : List (Nat × Box)) (e : SEx) (st : St) : Prop := (e = .normal ∨ e = .ret) ∧ ∃ st' s ρ r0, Wk st st' ∧ resC T st' rs = some s ∧ s.mapR ρ = some r0 ∧ CvS r0 r ∧ ownR ρ st'.own ρ = some own' ∧ renOk ρ = true
theorem qz {P : Program} {T : TT} (hT : qX P T) {f : FuncId} {fn : Func} {c : Code} {args : List SV} {own : List (Nat × Box)} {r : SV} {own' : List (Nat × Box)} {rs : List ResultVar} (hf : P.funcs[f]? = some fn) (hname : (fn.name == "runtime.NumGoroutine") = false) (hb : fn.body = some c)
 (hres : fn.results = rs.toArray) (hn0 : (Nat.ble args.length fn.ntmps && Nat.ble fn.ntmps 900) = true) (h : SW P c (FinC T rs r own') ⟨fn.ntmps, jT 0 args, own⟩) : qJ P f args own r own' := by
 have hn : args.length ≤ fn.ntmps ∧ fn.ntmps ≤ 900 := by
  rw [Bool.and_eq_true] at hn0
  exact ⟨Nat.le_of_ble_eq_true hn0.1, Nat.le_of_ble_eq_true hn0.2⟩
 refine ⟨⟨fn, hf, hname, by rw [hb]; rfl⟩, fun w Sx γ vs hh hl hr => ?_⟩
 refine calls_of_wp hf hb ?_
 have hget : ∀ t, t < args.length → (vs.toArray ++ Array.replicate (fn.ntmps - vs.toArray.size) undef).getD t undef = vs[t]?.getD undef := fun t ht => by
  have : t < vs.length := by omega
  have h2 : (vs.toArray ++ Array.replicate (fn.ntmps - vs.toArray.size) undef)[t]? = vs[t]? := by
   rw [Array.getElem?_append_left (by simpa using this)]; simp
  rw [Array.getD_eq_getD_getElem?, h2]
 have hI : Sim (wa w γ own) Sx γ ⟨fn.ntmps, jT 0 args, own⟩ ⟨vs.toArray ++ Array.replicate (fn.ntmps - vs.toArray.size) undef, []⟩ w := by
  refine ⟨⟨Below.refl _ w, fun _ _ => rfl⟩, ⟨by simp; omega, hn.2⟩, rfl, fun t s ht => ?_, hh⟩
  obtain ⟨_, hx⟩ := argFrS_get ht
  simp only [Nat.sub_zero] at hx
  have hlt : t < args.length := (List.getElem?_eq_some_iff.1 hx).1
  have hv : vs[t]? = some (vs[t]'(by omega)) := List.getElem?_eq_getElem (by omega)
  show RelS _ _ _ _ ((vs.toArray ++ Array.replicate (fn.ntmps - vs.toArray.size) undef).getD t undef)
  rw [hget t hlt, hv]
  exact hr t s _ hx hv
 refine h _ Sx _ _ w _ hI fun e st2 γ' a' w' hI' hq => ?_
 obtain ⟨he, st', s, ρ, r0, hwk, hs, hm, hcv, ho, hρ⟩ := hq
 obtain ⟨γ'', hI''⟩ := hwk _ Sx γ' a' w' hI'
 obtain ⟨γ3, k1, k2⟩ := heap_mapR hI''.heap ho hρ
 obtain ⟨v, k3, k4⟩ := resC_ok hT hI'' hs hres
 have fin : a'.defers = [] ∧ ∃ v, (results fn a'.tmps).run P w' = .ok v w' ∧ ∃ v' γ2 r1 own1, (r1 = r ∧ own1 = own') ∧ Ending.returned v = .returned v' ∧ BelowB (wa w γ own) w' ∧ HeapOk (wa w γ own) Sx γ2 own1 w' ∧ RelS (okO Sx γ2 own1) (hp γ2 own1) w' r1 v' :=
  ⟨hI''.defers, v, k3, v, γ3, r, own', ⟨rfl, rfl⟩, rfl, hI''.below, k1, (k2 s v r0 k4 hm).cvs hcv⟩
 rcases he with rfl | rfl
 · exact fin
 · exact fin
set_option maxHeartbeats 4000000
def dgO (r : Nat) (m : Int) (l : List Br) : List (Nat × Box) := [(1000000, .cells [.p (pI m), .row r]), (r, .row 68 4 (l.map Br.pv))]
theorem brS_at {l : List Br} {k : Nat} (hk : k < l.length) : l.getD (k : Int).toNat zeroBr = l[k] := by
 rw [Int.toNat_natCast, List.getD_eq_getElem?_getD, List.getElem?_eq_getElem hk]; rfl
theorem dmay_h (m : Int) (l : List Br) (hl : l.length ≤ 1000000) (a w : Int) : qJ Tryz.prog 130 [.ptr 1000000 0, .p (pI a), .p (pI w)] (dgO 1000001 m l) (.p (pB (mayD l a w))) (dgO 1000001 m l) := by
 have lb : (l.map Br.pv).length = l.length := by simp
 refine qD (ts := [6]) Tryz.func130 (by kernel_rfl) rfl rfl rfl ?_
 refine uA ?_
 refine uA ?_
 by_cases h0 : w < 0
 · have e : mayD l a w = decide (w ≥ -1048576) := by unfold mayD; rw [if_pos h0]
   rw [decide_eq_true h0, e]
   refine uC (fun hc => ?_) (fun hc => ?_)
   · refine uA ?_
     refine uQ ?_
     exact uF [(1000000, 1000000), (1000001, 1000001)]
   · cases hc
 · have e : mayD l a w = (decide (w < l.length) && decide (a < (l.getD w.toNat zeroBr).atom)) := by unfold mayD; rw [if_neg h0]
   rw [decide_eq_false h0, e]
   refine uC (fun hc => ?_) (fun hc => ?_)
   · cases hc
   refine qd ?_
   refine uR ?_
   rw [lb]
   by_cases h1 : w < l.length
   · obtain ⟨k, rfl⟩ : ∃ k : Nat, w = k := ⟨w.toNat, by omega⟩
     have hk : k < l.length := by omega
     rw [decide_eq_true h1, brS_at hk]
     refine uS ?_
     refine qe qa rfl rfl (by rw [lb]; omega) rfl ?_
     refine uS ?_
     refine qe qa rfl (qU rfl rfl rfl rfl rfl (qm hk) rfl) (by rw [lb, Int.toNat_natCast]; exact hk) rfl ?_
     refine uS ?_
     refine qb ?_
     refine uQ ?_
     exact uF [(1000000, 1000000), (1000001, 1000001)]
   · rw [decide_eq_false h1]
     refine uS ?_
     refine qb ?_
     refine uQ ?_
     exact uF [(1000000, 1000000), (1000001, 1000001)]
theorem dbranch_no (m : Int) (l : List Br) (hl : l.length ≤ 1000000) (i : Int) (h : i < 0 ∨ (l.length : Int) ≤ i) : Holds Tryz.prog 23 [dagP m l, pI i] (.tup [.p (.agg zeroBr.pv), .p (pB false)]) [] := by
 have lb : (l.map Br.pv).length = l.length := by simp
 refine .ofW ?_
 refine qz (T := TTab) qa Tryz.func23 (by kernel_rfl) rfl rfl rfl ?_
 refine uA ?_
 refine uR ?_
 by_cases h0 : i < 0
 · rw [decide_eq_true h0]
   refine uS ?_
   refine qb ?_
   refine uC (fun hc => ?_) (fun hc => ?_)
   · refine uA ?_
     refine uQ ?_
     exact ⟨Or.inr rfl, _, _, [], _, Wk.refl _, rfl, rfl, .refl _, rfl, rfl⟩
   · cases hc
 · rw [decide_eq_false h0]
   refine uS ?_
   rw [lb, show decide (i ≥ (l.length : Int)) = true from decide_eq_true (by omega)]
   refine uS ?_
   refine qb ?_
   refine uC (fun hc => ?_) (fun hc => ?_)
   · refine uA ?_
     refine uQ ?_
     exact ⟨Or.inr rfl, _, _, [], _, Wk.refl _, rfl, rfl, .refl _, rfl, rfl⟩
   · cases hc
theorem dbranch_h (m : Int) (l : List Br) (hl : l.length ≤ 1000000) (k : Nat) (hk : k < l.length) : Holds Tryz.prog 23 [dagP m l, pI (k : Int)] (.tup [.p (.agg l[k].pv), .p (pB true)]) [] := by
 have lb : (l.map Br.pv).length = l.length := by simp
 refine .ofW ?_
 refine qz (T := TTab) qa Tryz.func23 (by kernel_rfl) rfl rfl rfl ?_
 refine uA ?_
 refine uR ?_
 rw [show decide ((k : Int) < 0) = false from decide_eq_false (by omega)]
 refine uS ?_
 rw [lb, show decide ((k : Int) ≥ (l.length : Int)) = false from decide_eq_false (by omega)]
 refine uS ?_
 refine qb ?_
 refine uC (fun hc => ?_) (fun hc => ?_)
 · cases hc
 refine qd ?_
 refine uR ?_
 refine qe qa rfl rfl (by rw [lb]; omega) rfl ?_
 rw [qm hk]
 refine uS ?_
 refine qb ?_
 refine uQ ?_
 exact ⟨Or.inr rfl, _, _, [], _, Wk.refl _, rfl, rfl, .refl _, rfl, rfl⟩
theorem eqL_br (x y : Br) : eqL x.pv y.pv = some (decide (x = y)) := by
 have h : eqL x.pv y.pv = some ((x.atom == y.atom) && ((x.a == y.a) && ((x.b == y.b) && ((x.c == y.c) && true)))) := rfl
 rw [h]
 congr 1
 rw [Bool.eq_iff_iff]
 obtain ⟨a, b, c, d⟩ := x
 obtain ⟨e, f, g, h⟩ := y
 simp
theorem opR_eqB {T : TT} {K : List Nat} {st : St} {o : Op} {t t' : TypeId} {a b : Operand} (x y : Br) (ho : o = .binOp .eql t a b t') {n m : Nat} {d : Ty} {z : List Value} (ht : lk t T = some ⟨n, m, d, z, true⟩) (ha : evS st a = some (.p (.agg x.pv))) (hb : evS st b = some (.p (.agg y.pv))) : opR T K st o = some (zd x.pv z = true, .p (pB (decide (x = y)))) := by
 subst ho
 show rBin T .eql t (evS st a) (evS st b) = _
 rw [ha, hb]
 unfold rBin
 simp only [ht, eqL_br]
theorem fi_at {l : List Br} {x : Br} {k : Nat} (hk : k < l.length) (h : l[k] = x) (h0 : ∀ y ∈ l.take k, y ≠ x) : l.findIdx (fun y => decide (y = x)) = k := by
 rw [List.findIdx_eq hk]
 refine ⟨by simp [h], fun j hj => ?_⟩
 have : l[j] ∈ l.take k := by
  rw [List.mem_take_iff_getElem]
  exact ⟨j, by omega, rfl⟩
 simpa using h0 _ this
theorem fi_no {l : List Br} {x : Br} (h0 : ∀ y ∈ l, y ≠ x) : l.findIdx (fun y => decide (y = x)) = l.length := List.findIdx_eq_length.2 fun y hy => by simpa using h0 y hy
theorem dindex_h (l : List Br) (hl : l.length ≤ 1000000) (x : Br) : Holds Tryz.prog 131 [brsP l, .agg x.pv] (.p (pI (if l.findIdx (fun y => decide (y = x)) < l.length then ((l.findIdx (fun y => decide (y = x)) : Nat) : Int) else -1))) [] := by
 have lb : (l.map Br.pv).length = l.length := by simp
 refine qo (ts := [4]) Tryz.func131 (by kernel_rfl) rfl rfl rfl ?_
 refine uA ?_
 refine uA ?_
 refine uB ?_
 refine uZ [0, 3, 7, 8] [(3, 3)] ?_
 refine qw (fun m s => ∃ (k : Nat) (kk : Int), k ≤ l.length ∧ m = l.length - k ∧ kk = k ∧ (∀ y ∈ l.take k, y ≠ x) ∧ s = ⟨19, [(0, .p (brsP l)), (3, .ptr 3 0), (7, .p (pI (l.map Br.pv).length)), (8, .p (pI kk))], [(3, .cells (x.pv.map .p))]⟩) l.length ⟨0, 0, Nat.zero_le _, rfl, rfl, by simp, rfl⟩ ?_
 rintro m s ⟨k, _, hk, rfl, rfl, ha, rfl⟩
 refine uA ?_
 refine uC (fun hlt => ?_) (fun hlt => ?_)
 · refine qd ?_
   rw [lb] at hlt
   simp only [decide_eq_true_eq] at hlt
   have hlt' : k < l.length := by omega
   obtain ⟨y, hy⟩ : ∃ y, y = l[k] := ⟨_, rfl⟩
   refine uB ?_
   refine uA ?_
   refine uD [] [1, 3, 5, 7, 9, 11] ?_
   refine qx qa rfl rfl rfl (by rw [lb]; omega) rfl ?_
   rw [qm hlt', ← hy]
   refine uT ?_
   refine qx qa rfl rfl (opR_eqB x y rfl rfl rfl rfl) rfl rfl ?_
   refine uT ?_
   refine qY ?_
   refine uC (fun ht => ?_) (fun ht => ?_)
   · have e : l[k] = x := by rw [← hy]; exact (of_decide_eq_true ht).symm
     rw [fi_at hlt' e ha, if_pos hlt']
     refine uA ?_
     refine uQ ?_
     exact uF []
   · have h2 : l[k] ≠ x := fun e => of_decide_eq_false ht (by rw [hy]; exact e.symm)
     refine qd ?_
     refine uA ?_
     refine ⟨_, _, ?_, qh [0, 3, 7, 8] [(3, 3)] rfl rfl, k + 1, _, hlt', rfl, qf hlt' (by omega), take_ok hlt' ha h2, rfl⟩
     omega
 · refine qt ?_
   rw [lb] at hlt
   simp only [decide_eq_false_iff_not] at hlt
   have hkk : k = l.length := by omega
   subst hkk
   rw [List.take_length] at ha
   rw [fi_no ha, if_neg (by omega)]
   refine uA ?_
   refine uQ ?_
   exact uF []
set_option maxHeartbeats 4000000
def smB (x : Br) : Nat → Bool
 | 0 => true
 | 1 => true
 | 2 => decide (x.b = x.a)
 | _ => decide (x.b = x.a) && decide (x.c = x.a)
def zI (l : List Br) (x : Br) : Bool := mayD l x.atom x.a && mayD l x.atom x.b && mayD l x.atom x.c
theorem mk_atom {m : Int} {l : List Br} {x : Br} (h : x.atom < 0 ∨ 64 ≤ x.atom) : zU m l x = (0, 1, l) := by unfold zU; rw [if_pos h]
theorem mk_ways {m : Int} {l : List Br} {x : Br} (h : ¬ (x.atom < 0 ∨ 64 ≤ x.atom)) (h2 : zI l x = false) : zU m l x = (0, 1, l) := by
 unfold zU
 rw [if_neg h]
 unfold zI at h2
 rw [h2]; rfl
theorem mk_same {m : Int} {l : List Br} {x : Br} (h : ¬ (x.atom < 0 ∨ 64 ≤ x.atom)) (h2 : zI l x = true) (h3 : x.b = x.a ∧ x.c = x.a) : zU m l x = (x.a, 0, l) := by
 unfold zU
 rw [if_neg h]
 unfold zI at h2
 rw [h2, if_neg (by simp), if_pos h3]
theorem mk_found {m : Int} {l : List Br} {x : Br} (h : ¬ (x.atom < 0 ∨ 64 ≤ x.atom)) (h2 : zI l x = true) (h3 : ¬ (x.b = x.a ∧ x.c = x.a)) (h4 : l.findIdx (fun y => decide (y = x)) < l.length) : zU m l x = (((l.findIdx (fun y => decide (y = x)) : Nat) : Int), 0, l) := by
 unfold zU
 rw [if_neg h]
 unfold zI at h2
 rw [h2, if_neg (by simp), if_neg h3, if_pos h4]
theorem mk_full {m : Int} {l : List Br} {x : Br} (h : ¬ (x.atom < 0 ∨ 64 ≤ x.atom)) (h2 : zI l x = true) (h3 : ¬ (x.b = x.a ∧ x.c = x.a)) (h4 : ¬ l.findIdx (fun y => decide (y = x)) < l.length) (h5 : m ≤ l.length) : zU m l x = (0, 6, l) := by
 unfold zU
 rw [if_neg h]
 unfold zI at h2
 rw [h2, if_neg (by simp), if_neg h3, if_neg h4, if_pos h5]
theorem mk_new {m : Int} {l : List Br} {x : Br} (h : ¬ (x.atom < 0 ∨ 64 ≤ x.atom)) (h2 : zI l x = true) (h3 : ¬ (x.b = x.a ∧ x.c = x.a)) (h4 : ¬ l.findIdx (fun y => decide (y = x)) < l.length) (h5 : ¬ m ≤ l.length) : zU m l x = (((l.length : Nat) : Int), 0, l ++ [x]) := by
 unfold zU
 rw [if_neg h]
 unfold zI at h2
 rw [h2, if_neg (by simp), if_neg h3, if_neg h4, if_neg h5]
theorem dmake_h (m : Int) (l : List Br) (hl : l.length ≤ 100000) (x : Br) : qJ Tryz.prog 93 [.ptr 1000000 0, .p (.agg x.pv)] (dgO 1000001 m l) (.tup [.p (pI (zU m l x).1), .p (pI (zU m l x).2.1)]) (dgO 0 m (zU m l x).2.2) := by
 have lb : (l.map Br.pv).length = l.length := by simp
 replace hl : l.length ≤ 1000000 := by omega
 refine qD (ts := [4,5]) Tryz.func93 (by kernel_rfl) rfl rfl rfl ?_
 refine uA ?_
 refine uR ?_
 by_cases a0 : x.atom < 0
 · rw [decide_eq_true a0, mk_atom (.inl a0)]
   refine uS ?_
   refine qb ?_
   refine uC (fun hc => ?_) (fun hc => ?_)
   · refine uA ?_
     refine uQ ?_
     exact uF [(1000000, 1000000), (1000001, 0)]
   · cases hc
 rw [decide_eq_false a0]
 refine uS ?_
 by_cases a1 : 64 ≤ x.atom
 · rw [show decide (x.atom ≥ 64) = true from decide_eq_true a1, mk_atom (.inr a1)]
   refine uS ?_
   refine qb ?_
   refine uC (fun hc => ?_) (fun hc => ?_)
   · refine uA ?_
     refine uQ ?_
     exact uF [(1000000, 1000000), (1000001, 0)]
   · cases hc
 have ha : ¬ (x.atom < 0 ∨ 64 ≤ x.atom) := by omega
 rw [show decide (x.atom ≥ 64) = false from decide_eq_false a1]
 refine uS ?_
 refine qb ?_
 refine uC (fun hc => ?_) (fun hc => ?_)
 · cases hc
 refine qd ?_
 refine uA ?_
 refine uA ?_
 refine uB ?_
 refine uZ [0, 3, 6, 19, 20] [(3, 3), (1000000, 1000000), (1000001, 1000001)] ?_
 refine qw (fun q s => ∃ (k : Nat) (kk : Int), k ≤ 3 ∧ q = 3 - k ∧ kk = k ∧ (∀ j < k, mayD l x.atom (x.to j) = true) ∧ s = ⟨77, [(0, .ptr 1000000 0), (3, .ptr 3 0), (6, .p (pB (smB x k))), (19, .p (.agg [pI x.a, pI x.b, pI x.c])), (20, .p (pI kk))], (3, .cells (x.pv.map .p)) :: dgO 1000001 m l⟩) 3 ⟨0, 0, by omega, rfl, rfl, by omega, rfl⟩ ?_
 rintro q s ⟨k, _, hk, rfl, rfl, hw, rfl⟩
 match k, hk, hw with
 | 0, _, hw =>
   refine uA ?_
   refine uC (fun hlt => ?_) (fun hlt => ?_)
   rotate_left
   · cases hlt
   refine qd ?_
   refine uB ?_
   refine uR ?_
   refine qe qa rfl rfl (by decide) rfl ?_
   refine uS ?_
   refine qb ?_
   refine uR ?_
   refine uW [(1000000, 1000000), (1000001, 1000001)] (dmay_h m l hl x.atom x.a) ?_
   obtain ⟨b, hb⟩ : ∃ b, b = mayD l x.atom x.a := ⟨_, rfl⟩
   rw [← hb]
   cases b with
   | false =>
     refine qb ?_
     refine uC (fun h5 => ?_) (fun h5 => ?_)
     · have e : zI l x = false := by unfold zI; rw [← hb]; simp
       rw [mk_ways ha e]
       refine uA ?_
       refine uQ ?_
       exact uF [(1000000, 1000000), (1000001, 0)]
     · cases h5
   | true =>
     refine qb ?_
     refine uC (fun h5 => ?_) (fun h5 => ?_)
     · cases h5
     refine qd ?_
     refine uR ?_
     refine qe qa rfl rfl (by decide) rfl ?_
     refine uS ?_
     rw [show (x.a == x.a) = true by simp]
     refine uS ?_
     refine qb ?_
     refine uA ?_
     refine ⟨_, _, ?_, qh [0, 3, 6, 19, 20] [(3, 3), (1000000, 1000000), (1000001, 1000001)] rfl rfl, 0 + 1, _, by omega, rfl, rfl, ?_, rfl⟩
     · omega
     · intro j hj
       by_cases e : j = 0
       · subst e; exact hb.symm
       · exact hw j (by omega)
 | 1, _, hw =>
   refine uA ?_
   refine uC (fun hlt => ?_) (fun hlt => ?_)
   rotate_left
   · cases hlt
   refine qd ?_
   refine uB ?_
   refine uR ?_
   refine qe qa rfl rfl (by decide) rfl ?_
   refine uS ?_
   refine qb ?_
   refine uR ?_
   refine uW [(1000000, 1000000), (1000001, 1000001)] (dmay_h m l hl x.atom x.b) ?_
   obtain ⟨b, hb⟩ : ∃ b, b = mayD l x.atom x.b := ⟨_, rfl⟩
   rw [← hb]
   cases b with
   | false =>
     refine qb ?_
     refine uC (fun h5 => ?_) (fun h5 => ?_)
     · have e : zI l x = false := by unfold zI; rw [← hb]; simp
       rw [mk_ways ha e]
       refine uA ?_
       refine uQ ?_
       exact uF [(1000000, 1000000), (1000001, 0)]
     · cases h5
   | true =>
     refine qb ?_
     refine uC (fun h5 => ?_) (fun h5 => ?_)
     · cases h5
     refine qd ?_
     refine uR ?_
     refine qe qa rfl rfl (by decide) rfl ?_
     refine uS ?_
     refine qb ?_
     refine uA ?_
     refine ⟨_, _, ?_, qh [0, 3, 6, 19, 20] [(3, 3), (1000000, 1000000), (1000001, 1000001)] rfl rfl, 1 + 1, _, by omega, rfl, rfl, ?_, rfl⟩
     · omega
     · intro j hj
       by_cases e : j = 1
       · subst e; exact hb.symm
       · exact hw j (by omega)
 | 2, _, hw =>
   refine uA ?_
   refine uC (fun hlt => ?_) (fun hlt => ?_)
   rotate_left
   · cases hlt
   refine qd ?_
   refine uB ?_
   refine uR ?_
   refine qe qa rfl rfl (by decide) rfl ?_
   refine uS ?_
   refine qb ?_
   refine uR ?_
   refine uW [(1000000, 1000000), (1000001, 1000001)] (dmay_h m l hl x.atom x.c) ?_
   obtain ⟨b, hb⟩ : ∃ b, b = mayD l x.atom x.c := ⟨_, rfl⟩
   rw [← hb]
   cases b with
   | false =>
     refine qb ?_
     refine uC (fun h5 => ?_) (fun h5 => ?_)
     · have e : zI l x = false := by unfold zI; rw [← hb]; simp
       rw [mk_ways ha e]
       refine uA ?_
       refine uQ ?_
       exact uF [(1000000, 1000000), (1000001, 0)]
     · cases h5
   | true =>
     refine qb ?_
     refine uC (fun h5 => ?_) (fun h5 => ?_)
     · cases h5
     refine qd ?_
     by_cases e2 : x.b = x.a
     · rw [show smB x 2 = true from decide_eq_true e2]
       refine uR ?_
       refine qe qa rfl rfl (by decide) rfl ?_
       refine uS ?_
       rw [show (x.c == x.a) = smB x 3 by show decide (x.c = x.a) = (decide (x.b = x.a) && decide (x.c = x.a)); rw [decide_eq_true e2]; rfl]
       refine uS ?_
       refine qb ?_
       refine uA ?_
       refine ⟨_, _, ?_, qh [0, 3, 6, 19, 20] [(3, 3), (1000000, 1000000), (1000001, 1000001)] rfl rfl, 2 + 1, _, by omega, rfl, rfl, ?_, rfl⟩
       · omega
       · intro j hj
         by_cases e : j = 2
         · subst e; exact hb.symm
         · exact hw j (by omega)
     · have e3 : smB x 3 = false := by show (decide (x.b = x.a) && decide (x.c = x.a)) = false; rw [decide_eq_false e2]; rfl
       rw [show smB x 2 = false from decide_eq_false e2]
       refine uR ?_
       refine uS ?_
       refine qb ?_
       refine uA ?_
       refine ⟨_, _, ?_, qh [0, 3, 6, 19, 20] [(3, 3), (1000000, 1000000), (1000001, 1000001)] rfl rfl, 2 + 1, _, by omega, rfl, rfl, ?_, (by rw [e3]; rfl)⟩
       · omega
       · intro j hj
         by_cases e : j = 2
         · subst e; exact hb.symm
         · exact hw j (by omega)
 | 3, _, hw =>
   refine uA ?_
   refine uC (fun hlt => ?_) (fun hlt => ?_)
   · cases hlt
   · refine qt ?_
     have hok : zI l x = true := by
      unfold zI
      have h0 := hw 0 (by omega)
      have h1 := hw 1 (by omega)
      have h2 := hw 2 (by omega)
      change mayD l x.atom x.a = true at h0
      change mayD l x.atom x.b = true at h1
      change mayD l x.atom x.c = true at h2
      rw [h0, h1, h2]; rfl
     clear hw
     refine uA ?_
     by_cases hs : x.b = x.a ∧ x.c = x.a
     · rw [show smB x 3 = true by show (decide (x.b = x.a) && decide (x.c = x.a)) = true; rw [decide_eq_true hs.1, decide_eq_true hs.2]; rfl, mk_same ha hok hs]
       refine uC (fun h6 => ?_) (fun h6 => ?_)
       · refine uR ?_
         refine qe qa rfl rfl (by decide) rfl ?_
         refine uS ?_
         refine qb ?_
         refine uQ ?_
         exact uF [(1000000, 1000000), (1000001, 0)]
       · cases h6
     rw [show smB x 3 = false by show (decide (x.b = x.a) && decide (x.c = x.a)) = false; rw [Bool.and_eq_false_iff, decide_eq_false_iff_not, decide_eq_false_iff_not]; exact Decidable.not_and_iff_or_not.1 hs]
     refine uC (fun h6 => ?_) (fun h6 => ?_)
     · cases h6
     refine qd ?_
     refine uD [] [1, 3, 5, 7, 9, 10, 13] ?_
     refine uk (dindex_h l hl x) ?_
     refine uT ?_
     refine qY ?_
     refine uA ?_
     by_cases hf : l.findIdx (fun y => decide (y = x)) < l.length
     · rw [mk_found ha hok hs hf, if_pos hf]
       generalize l.findIdx (fun y => decide (y = x)) = fi at *
       rw [show decide ((fi : Int) ≥ 0) = true from decide_eq_true (by omega)]
       refine uC (fun h7 => ?_) (fun h7 => ?_)
       · refine uA ?_
         refine uQ ?_
         exact uF [(1000000, 1000000), (1000001, 0)]
       · cases h7
     rw [if_neg hf]
     refine uC (fun h7 => ?_) (fun h7 => ?_)
     · cases h7
     refine qd ?_
     refine uZ [0, 3] [(3, 3), (1000000, 1000000), (1000001, 1000001)] ?_
     refine uD [] [1, 3, 5, 7, 9, 11, 13, 15, 17, 19] ?_
     refine qY ?_
     rw [lb]
     by_cases h8 : m ≤ l.length
     · rw [mk_full ha hok hs hf h8, show decide ((l.length : Int) ≥ m) = true from decide_eq_true h8]
       refine uC (fun h9 => ?_) (fun h9 => ?_)
       · refine uA ?_
         refine uQ ?_
         exact uF [(1000000, 1000000), (1000001, 0)]
       · cases h9
     rw [mk_new ha hok hs hf h8, show decide ((l.length : Int) ≥ m) = false from decide_eq_false h8]
     refine uC (fun h9 => ?_) (fun h9 => ?_)
     · cases h9
     refine qd ?_
     refine uZ [0, 3] [(3, 3), (1000000, 1000000), (1000001, 1000001)] ?_
     (repeat refine qH ?_); refine zC 11 rfl (by kernel_rfl) ?_
     refine qT (i := 0) (K := [1000001, 1000000]) (by kernel_rfl) (by kernel_rfl) rfl rfl (qs qa rfl (by exact True.intro)) rfl ?_
     refine qT (i := 1) (K := [1000001, 1000000]) (by kernel_rfl) (by kernel_rfl) rfl rfl (qs qa rfl (by exact True.intro)) rfl ?_
     refine qT (i := 2) (K := [1000001, 1000000]) (by kernel_rfl) (by kernel_rfl) rfl rfl (qs qa rfl (by exact True.intro)) rfl ?_
     refine qT (i := 3) (K := [1000001, 1000000]) (by kernel_rfl) (by kernel_rfl) rfl rfl (qs qa rfl (by exact True.intro)) rfl ?_
     refine qT (i := 4) (K := [1000001]) (by kernel_rfl) (by kernel_rfl) rfl rfl (qs qa rfl (by exact True.intro)) rfl ?_
     refine qT (i := 5) (K := [1000001, 1000000]) (by kernel_rfl) (by kernel_rfl) rfl rfl (qs qa rfl (by exact True.intro)) rfl ?_
     refine qQ 6 (by kernel_rfl) ?_
     first | refine qr rfl rfl rfl (aM (h := ?_)) | refine qr rfl rfl rfl (aB (h := ?_)) | refine qr rfl rfl rfl (aA (h := ?_)) | refine qr rfl rfl rfl (aS (h := ?_)) | refine qr rfl rfl rfl (aL (h := ?_)) | refine qr rfl rfl rfl (jl (K := []) (qs qa rfl (by exact True.intro)) rfl ?_)
     refine qQ 7 (by kernel_rfl) ?_
     refine qr rfl rfl rfl (qg qa rfl rfl rfl rfl rfl rfl rfl rfl rfl rfl rfl rfl rfl rfl rfl rfl (by simp only [List.length_append, List.length_map, List.length_take, List.length_cons, List.length_nil]; unfold reachBytes; omega) (by simp only [List.length_append, List.length_map, List.length_take, List.length_cons, List.length_nil]; omega) ?_)
     refine qT (i := 8) (K := [1000001, 1000000]) (by kernel_rfl) (by kernel_rfl) rfl rfl (qs qa rfl (by exact True.intro)) rfl ?_
     refine qT (i := 9) (K := [1000001, 1000000]) (by kernel_rfl) (by kernel_rfl) rfl rfl (qs qa rfl (by exact True.intro)) rfl ?_
     refine qQ 10 (by kernel_rfl) ?_
     first | refine qr rfl rfl rfl (aM (h := ?_)) | refine qr rfl rfl rfl (aB (h := ?_)) | refine qr rfl rfl rfl (aA (h := ?_)) | refine qr rfl rfl rfl (aS (h := ?_)) | refine qr rfl rfl rfl (aL (h := ?_)) | refine qr rfl rfl rfl (jl (K := []) (qs qa rfl (by exact True.intro)) rfl ?_)
     refine wR (by kernel_rfl) ?_
     refine SW.wk (qh [0] [(1000000, 1000000), (68, 68)] rfl rfl) ?_
     refine ?fk18_290
     rotate_left
     refine uR ?_
     rw [show IntKind.i64.wrap (((l.map Br.pv ++ [[pI x.atom, pI x.a, pI x.b, pI x.c]]).length : Int) - 1) = ((l.length : Nat) : Int) by simp only [List.length_append, List.length_map, List.length_cons, List.length_nil]; rw [IntWalk.i64_in _ (by omega)]; omega]
     refine uS ?_
     refine qb ?_
     refine uQ ?_
     have e9 : (l ++ [x]).map Br.pv = l.map Br.pv ++ [x.pv] := by simp
     show Fin _ _ [(1000000, .cells [.p (pI m), .row 0]), (0, .row _ 4 ((l ++ [x]).map Br.pv))] _ _
     rw [e9]
     exact uF [(1000000, 1000000), (68, 0)]
end Go.Proofs.YtkkbdgijfkocnaaGreatDoor
namespace Go.Proofs.YtkkbdgijfkocnaaGreatDoor
open Go.RowKit Go.Shelf
def laysAI_ren : Go.Shelf.Ren := ⟨fun | 176 => 132 | 249 => 161 | 288 => 179 | 283 => 189 | 284 => 190 | 285 => 191 | 286 => 192 | 129 => 199 | 317 => 198 | 318 => 200 | 319 => 201 | 320 => 202 | 337 => 206 | 338 => 207 | n => n, fun | 37 => 221 | 2 => 2 | 3 => 3 | 53 => 263 | 4 => 4 | 9 => 9 | 171 => 277 | 0 => 0 | 173 => 280 | 212 => 290 | 51 => 291 | 5 => 5 | 20 => 20 | 213 => 292 | 46 => 284 | 232 => 301 | 233 => 302 | n => n, fun | 17 => 3 | 18 => 4 | 19 => 5 | n => n⟩
theorem laysAI : Go.Proofs.LaysM.n176 Tryz.prog laysAI_ren := {
 mixed := by kernel_rfl
 f129 := Tryz.func199.trans (congrArg some (by kernel_rfl))
 f176 := Tryz.func132.trans (congrArg some (by kernel_rfl))
 f249 := Tryz.func161.trans (congrArg some (by kernel_rfl))
 f283 := Tryz.func189.trans (congrArg some (by kernel_rfl))
 f284 := Tryz.func190.trans (congrArg some (by kernel_rfl))
 f285 := Tryz.func191.trans (congrArg some (by kernel_rfl))
 f286 := Tryz.func192.trans (congrArg some (by kernel_rfl))
 f288 := Tryz.func179.trans (congrArg some (by kernel_rfl))
 f317 := Tryz.func198.trans (congrArg some (by kernel_rfl))
 f318 := Tryz.func200.trans (congrArg some (by kernel_rfl))
 f319 := Tryz.func201.trans (congrArg some (by kernel_rfl))
 f320 := Tryz.func202.trans (congrArg some (by kernel_rfl))
 f337 := Tryz.func206.trans (congrArg some (by kernel_rfl))
 f338 := Tryz.func207.trans (congrArg some (by kernel_rfl))
 t0 := Tryz.underlying0
 a0 := Tryz.isAgg0
 z0 := Tryz.sizeOf0
 v0 := Tryz.zeroValue0
 t2 := Tryz.underlying2
 a2 := Tryz.isAgg2
 z2 := Tryz.sizeOf2
 v2 := Tryz.zeroValue2
 t3 := Tryz.underlying3
 a3 := Tryz.isAgg3
 z3 := Tryz.sizeOf3
 v3 := Tryz.zeroValue3
 t4 := Tryz.underlying4
 a4 := Tryz.isAgg4
 z4 := Tryz.sizeOf4
 v4 := Tryz.zeroValue4
 t5 := Tryz.underlying5
 a5 := Tryz.isAgg5
 z5 := Tryz.sizeOf5
 v5 := Tryz.zeroValue5
 t9 := Tryz.underlying9
 a9 := Tryz.isAgg9
 z9 := Tryz.sizeOf9
 v9 := Tryz.zeroValue9
 t20 := Tryz.underlying20
 a20 := Tryz.isAgg20
 z20 := Tryz.sizeOf20
 v20 := Tryz.zeroValue20
 t37 := Tryz.underlying221
 a37 := Tryz.isAgg221
 z37 := Tryz.sizeOf221
 v37 := Tryz.zeroValue221
 t46 := Tryz.underlying284
 a46 := Tryz.isAgg284
 z46 := Tryz.sizeOf284
 v46 := Tryz.zeroValue284
 t51 := Tryz.underlying291
 a51 := Tryz.isAgg291
 z51 := Tryz.sizeOf291
 v51 := Tryz.zeroValue291
 t53 := Tryz.underlying263
 a53 := Tryz.isAgg263
 z53 := Tryz.sizeOf263
 v53 := Tryz.zeroValue263
 t171 := Tryz.underlying277
 a171 := Tryz.isAgg277
 z171 := Tryz.sizeOf277
 v171 := Tryz.zeroValue277
 t173 := Tryz.underlying280
 a173 := Tryz.isAgg280
 z173 := Tryz.sizeOf280
 v173 := Tryz.zeroValue280
 t212 := Tryz.underlying290
 a212 := Tryz.isAgg290
 z212 := Tryz.sizeOf290
 v212 := Tryz.zeroValue290
 t213 := Tryz.underlying292
 a213 := Tryz.isAgg292
 z213 := Tryz.sizeOf292
 t232 := Tryz.underlying301
 a232 := Tryz.isAgg301
 z232 := Tryz.sizeOf301
 v232 := Tryz.zeroValue301
 t233 := Tryz.underlying302
 a233 := Tryz.isAgg302
 z233 := Tryz.sizeOf302
 v233 := Tryz.zeroValue302
 g17 := by kernel_rfl
 g18 := by kernel_rfl
 g19 := by kernel_rfl
 i0 := by kernel_rfl
 i2 := by kernel_rfl
 i3 := by kernel_rfl
 i4 := by kernel_rfl
 i5 := by kernel_rfl
 i9 := by kernel_rfl
 i20 := by kernel_rfl
 i37 := by kernel_rfl
 i46 := by kernel_rfl
 i51 := by kernel_rfl
 i53 := by kernel_rfl
 i171 := by kernel_rfl
 i173 := by kernel_rfl
 i212 := by kernel_rfl
 i232 := by kernel_rfl
 i233 := by kernel_rfl
 m17 := by kernel_rfl
 m18 := by kernel_rfl
 m19 := by kernel_rfl
}
theorem appInt_any (B n : Nat) (i : Int) (h0 : -9223372036854775808 ≤ i) (h1 : i ≤ 9223372036854775807) (sv : Value) (xs : List Value) (w : World) (hown : w.ownsRow B 5 1 sv n xs) (hBw : B ≤ w.heap.size) (hlim : n + 21 ≤ 140737488355328)
 (htab : Lib.TabBelow Tryz.prog B w "internal/strconv.uint64pow10" .u64 Lib.pow10Tab) :
 Calls Tryz.prog 132 #[sv, .int .i64 i, .int .i64 10] w fun e w' => ∃ v', e = .returned v' ∧ w'.ownsRow B 5 1 v' (n + (Lib.itoa i).length) (xs ++ Lib.byteCells (Lib.itoa i)) ∧ Below B w w' := (Any.strconv_AppendInt_10 laysAI B n i h0 h1 sv xs w hown hBw hlim htab).mono fun e w' ⟨v', h1, h2, h3, _⟩ => ⟨v', h1, h2, h3⟩
end Go.Proofs.YtkkbdgijfkocnaaGreatDoor
