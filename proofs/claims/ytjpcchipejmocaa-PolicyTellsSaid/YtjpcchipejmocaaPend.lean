/-
  Drawn regions where reads are taken ahead: what such a read leans on need hold only until something comes up that waits for it.
-/
import Derived.Test.YtjpcchipejmocaaShade5
namespace Go.Proofs.Ytjpcchipejmocaa
set_option linter.unusedVariables false
set_option linter.unusedSimpArgs false
open Go.RowKit
/-- operation o waits for number p -/
def waitsO (o : Oper) (p : Nat) : Bool := o.after.toList.any fun e => Region.binds .any e && Nat.beq e.on p
section
variable {P : Program} {ops : Array Oper} {Q : Exit → Act → World → Prop}
/-- reads taken ahead, with what each leans on -/
abbrev Pend := List (Nat × (World → Prop))
def alive (ops : Array Oper) (i : Nat) (pd : Pend) : Pend := match ops[i]? with
  | some o => pd.filter fun p => !waitsO o p.1
  | none => pd
def wpAnyP (P : Program) (ops : Array Oper) (Q : Exit → Act → World → Prop) : Nat → Pend → Array Bool → Act → World → Prop
  | 0, _, listed, a, w => Region.ready .any ops listed = [] ∧ Q .normal a w
  | fuel + 1, pd, listed, a, w => (Region.ready .any ops listed = [] → Q .normal a w) ∧
      ∀ i ∈ Region.ready .any ops listed, wpOp P ops Q i (fun a' w' => (∀ p ∈ alive ops i pd, p.2 w') ∧ wpAnyP P ops Q fuel (alive ops i pd) (listed.setIfInBounds i true) a' w') a w
theorem wpAny_of_pend : ∀ (fuel : Nat) (pd : Pend) (listed : Array Bool) (a : Act) (w : World), wpAnyP P ops Q fuel pd listed a w → wpAny P .any ops Q fuel listed a w
  | 0, _, _, _, _, h => h
  | fuel + 1, _, _, _, _, h => ⟨h.1, fun i hi => wpOp_mono (fun a' w' h' => wpAny_of_pend fuel _ _ a' w' h'.2) (h.2 i hi)⟩
def Covers (pd pd' : Pend) : Prop := ∀ p ∈ pd, (∀ x, p.2 x) ∨ ∃ p' ∈ pd', p'.1 = p.1 ∧ ∀ x, p'.2 x → p.2 x
theorem Covers.refl (pd : Pend) : Covers pd pd := fun p hp => .inr ⟨p, hp, rfl, fun _ h => h⟩
theorem mem_alive {i : Nat} {pd : Pend} {p : Nat × (World → Prop)} : p ∈ alive ops i pd ↔ p ∈ pd ∧ (∀ o, ops[i]? = some o → waitsO o p.1 = false) := by
  unfold alive
  cases h : ops[i]? with
  | none => simp
  | some o => simp [List.mem_filter]
theorem Covers.alive {pd pd' : Pend} (h : Covers pd pd') (i : Nat) : Covers (alive ops i pd) (Go.Proofs.Ytjpcchipejmocaa.alive ops i pd') := fun p hp => by
  obtain ⟨h1, h2⟩ := mem_alive.1 hp
  rcases h p h1 with h | ⟨p', h3, h4, h5⟩
  · exact .inl h
  · exact .inr ⟨p', mem_alive.2 ⟨h3, fun o ho => by rw [h4]; exact h2 o ho⟩, h4, h5⟩
theorem Covers.at {pd pd' : Pend} (h : Covers pd pd') {w : World} (hw : ∀ p ∈ pd', p.2 w) : ∀ p ∈ pd, p.2 w := fun p hp => by
  rcases h p hp with h | ⟨p', h3, h4, h5⟩
  · exact h w
  · exact h5 w (hw p' h3)
theorem wpAnyP_weak : ∀ (f : Nat) {pd pd' : Pend} (_ : Covers pd pd') (ls : Array Bool) (a : Act) (w : World), wpAnyP P ops Q f pd' ls a w → wpAnyP P ops Q f pd ls a w
  | 0, _, _, _, _, _, _, h => h
  | f + 1, _, _, hc, ls, a, w, h => ⟨h.1, fun i hi => wpOp_mono (fun a' w' h' => ⟨(hc.alive i).at h'.1, wpAnyP_weak f (hc.alive i) _ a' w' h'.2⟩) (h.2 i hi)⟩
theorem wpAnyP_first {i : Nat} {oi : Oper} {v : Value} (hi : ops[i]? = some oi) (hsel : ∀ (j : Nat) (o : Oper) cs b, ops[j]? = some o → o.op ≠ .select cs b)
    (hQ : ∀ c a w, Q (.panic c) (a.put oi.dst v) w → Q (.panic c) a w) {S : World → Prop} :
    ∀ (fuel : Nat) (pd : Pend) (listed : Array Bool) (a : Act) (w : World),
      (∀ j oj, ops[j]? = some oj → j ≠ i → listed.getD j true = false → (∀ e ∈ oj.after, Region.binds .any e = true → e.on ≠ i) → oi.apart ops oj = true) →
      i ∈ Region.ready .any ops listed → YieldsIf P ops S oi v a → S w → (∀ p ∈ pd, p.2 w) →
      wpAnyP P ops Q fuel ((i, S) :: pd) (listed.setIfInBounds i true) (a.put oi.dst v) w → wpAnyP P ops Q (fuel + 1) pd listed a w := by
  have drop : ∀ (pd : Pend), Covers (Go.Proofs.Ytjpcchipejmocaa.alive ops i pd) ((i, S) :: pd) := fun pd p hp => .inr ⟨p, List.mem_cons_of_mem _ (mem_alive.1 hp).1, rfl, fun _ h => h⟩
  intro fuel
  induction fuel with
  | zero =>
    intro pd listed a w _ hr hy hS hpd H
    refine ⟨fun h => (by rw [h] at hr; cases hr), fun j hj => ?_⟩
    by_cases hji : j = i
    · subst hji; exact hy.wpOp hi hS ⟨fun p hp => hpd p (mem_alive.1 hp).1, H⟩
    · have := ready_mono hj hji
      rw [H.1] at this
      cases this
  | succ fuel ih =>
    intro pd listed a w hfree hr hy hS hpd H
    refine ⟨fun h => (by rw [h] at hr; cases hr), fun j hj => ?_⟩
    by_cases hji : j = i
    · subst hji; exact hy.wpOp hi hS ⟨fun p hp => hpd p (mem_alive.1 hp).1, wpAnyP_weak _ (drop pd) _ _ _ H⟩
    · have h1 := H.2 j (ready_mono hj hji)
      obtain ⟨hjun, oj, hoj, hall⟩ := mem_ready.1 hj
      have hnot : ∀ e ∈ oj.after, Region.binds .any e = true → e.on ≠ i := fun e he hb heq => by
        have h1 := hall e he hb
        have h0 := (mem_ready.1 hr).1
        rw [heq] at h1
        rcases Nat.lt_or_ge i listed.size with h' | h'
        · simp [h'] at h0 h1; rw [h0] at h1; cases h1
        · simp [Array.getElem?_eq_none h'] at h1
      have hwait : waitsO oj i = false := by
        unfold waitsO
        rw [List.any_eq_false]
        intro e he h
        rw [Bool.and_eq_true] at h
        exact hnot e (by simpa using he) h.1 (Nat.eq_of_beq_eq_true h.2)
      have hal : Go.Proofs.Ytjpcchipejmocaa.alive ops j ((i, S) :: pd) = (i, S) :: Go.Proofs.Ytjpcchipejmocaa.alive ops j pd := by
        unfold Go.Proofs.Ytjpcchipejmocaa.alive
        rw [hoj]
        simp [List.filter_cons, hwait]
      have h2 := wpOp_putIf hoj (hfree j oj hoj hji hjun hnot) (fun cs b => hsel i oi cs b hi) (fun cs b => hsel j oj cs b hoj) hQ hy h1
      have hfree' : ∀ k ok, ops[k]? = some ok → k ≠ i → (listed.setIfInBounds j true).getD k true = false →
          (∀ e ∈ ok.after, Region.binds .any e = true → e.on ≠ i) → oi.apart ops ok = true := fun k ok hk hki hun hno => by
        refine hfree k ok hk hki ?_ hno
        by_cases hjk : j = k
        · subst hjk; exact hjun
        · rw [getD_set_ne true hjk] at hun; exact hun
      refine wpOp_mono (fun a' w' h3 => ?_) h2
      obtain ⟨h31, h32, h33⟩ := h3
      rw [hal] at h32 h33
      have hpd' : ∀ p ∈ Go.Proofs.Ytjpcchipejmocaa.alive ops j pd, p.2 w' := fun p hp => h32 p (List.mem_cons_of_mem _ hp)
      refine ⟨hpd', ih _ (listed.setIfInBounds j true) a' w' hfree' (ready_mono hr (Ne.symm hji)) h31 (h32 _ (List.mem_cons_self ..)) hpd' ?_⟩
      rw [Array.setIfInBounds_comm _ _ hji]
      exact h33
end
section
variable {P : Program} {ops : Array Oper} {Q : Exit → Act → World → Prop}
def wpMoveP (P : Program) (ops : Array Oper) (Q : Exit → Act → World → Prop) : Pend → List (Nat × Bool) → Act → World → Prop
  | _, [], a, w => Q .normal a w
  | pd, (i, true) :: r, a, w => (∀ p ∈ pd, p.2 w) ∧ ∃ S o v pd', S w ∧ ops[i]? = some o ∧ YieldsIf P ops S o v a ∧ Covers ((i, S) :: pd) pd' ∧ wpMoveP P ops Q pd' r (a.put o.dst v) w
  | pd, (i, false) :: r, a, w => wpOp P ops Q i (fun a' w' => ∃ pd', Covers (alive ops i pd) pd' ∧ (∀ p ∈ pd', p.2 w') ∧ wpMoveP P ops Q pd' r a' w') a w
theorem anyP_of_move (hs : Region.noSelect ops = true) (hQ : ∀ c a d v w, Q (.panic c) (a.put d v) w → Q (.panic c) a w) : ∀ (r : List (Nat × Bool)) (pd : Pend) (ls : Array Bool) (a : Act) (w : World),
    orderB .any ops r ls = true → wpMoveP P ops Q pd r a w → wpAnyP P ops Q r.length pd ls a w
  | [], pd, ls, a, w, hB, h => ⟨by simpa [orderB] using hB, h⟩
  | (i, true) :: r, pd, ls, a, w, hB, h => by
    obtain ⟨hpd, S, o, v, pd', hS, ho, hy, hc, hr⟩ := h
    simp only [orderB, if_true, Bool.and_eq_true] at hB
    exact wpAnyP_first ho (Region.noSelect_spec hs) (fun c a w h => hQ c a _ _ w h) r.length pd ls a w (Region.free_spec ho hB.1.1) (by simpa using hB.1.2) hy hS hpd (wpAnyP_weak _ hc _ _ _ (anyP_of_move hs hQ r pd' _ _ w hB.2 hr))
  | (i, false) :: r, pd, ls, a, w, hB, h => by
    simp only [orderB, Bool.false_eq_true, if_false, Bool.and_eq_true, beq_iff_eq] at hB
    refine ⟨fun h0 => (by rw [hB.1] at h0; cases h0), fun j hj => ?_⟩
    rw [hB.1] at hj
    obtain rfl : j = i := by simpa using hj
    exact wpOp_mono (fun a' w' h' => by
      obtain ⟨pd', h1, h2, h3⟩ := h'
      exact ⟨h1.at h2, wpAnyP_weak _ h1 _ _ _ (anyP_of_move hs hQ r pd' _ _ _ hB.2 h3)⟩) h
end
abbrev Kap := List (Nat × List Nat)
def pendOf (γ : Nat → Value) (own : List (Nat × Box)) (w : World) (κ : Kap) : Pend := κ.map fun p => (p.1, fun x => SameOn (vis p.2 γ own) w x)
theorem pendOf_at {γ : Nat → Value} {own : List (Nat × Box)} {w : World} {κ : Kap} : ∀ p ∈ pendOf γ own w κ, p.2 w := fun p hp => by
  obtain ⟨q, _, rfl⟩ := List.mem_map.1 hp
  exact SameOn.refl _ _
/-- what an operation leaves of the reads ahead -/
def kapB (o : Oper) (κ : Kap) : Kap := κ.filter fun p => !waitsO o p.1
def SWP (P : Program) (ops : List Oper) (κ : Kap) (order : List (Nat × Bool)) (Q : St → Prop) (st : St) : Prop := ∀ (w0 : Base) (Sx : Nat → Prop) (γ : Nat → Value) (a : Act) (w : World) (QQ : Exit → Act → World → Prop), Sim w0 Sx γ st a w →
  (∀ st' γ' a' w', Sim w0 Sx γ' st' a' w' → Q st' → QQ .normal a' w') → wpMoveP P ops.toArray (NoPanic QQ) (pendOf γ st.own w κ) order a w
section
variable {P : Program} {ops : List Oper} {κ : Kap} {st : St} {Q : St → Prop} {i : Nat} {r : List (Nat × Bool)} {o : Oper}
theorem swp_nil (h : Q st) : SWP P ops κ [] Q st := fun _ _ γ a w _ hI hQ => hQ st γ a w hI h
theorem swp_skip {b : Bool} (hi : nthO ops i = some o) (hw : wantS ops st o = some false) (hd : dstOk st o.dst = true) (h : SWP P ops κ r Q (st.put o.dst (.tup []))) : SWP P ops κ ((i, b) :: r) Q st := fun w0 Sx γ a w QQ hI hQ => by
  have hrest := h w0 Sx γ _ w QQ (hI.skip hd) hQ
  simp only [put_own] at hrest
  cases b with
  | true => exact ⟨pendOf_at, fun _ => True, o, undef, _, trivial, (nthO_get ops i).trans hi, Or.inr ⟨wantS_ok hI hw, rfl⟩, fun p hp => by
      rcases List.mem_cons.1 hp with rfl | hp
      · exact .inl fun _ => trivial
      · exact .inr ⟨p, hp, rfl, fun _ h => h⟩, hrest⟩
  | false =>
    unfold wpMoveP wpOp
    rw [(nthO_get ops i).trans hi]
    simp only [wantS_ok hI hw, Bool.false_eq_true, if_false]
    exact ⟨_, fun p hp => .inr ⟨p, (mem_alive.1 hp).1, rfl, fun _ h => h⟩, pendOf_at, hrest⟩
theorem swp_act {Ws : List Nat} (hi : nthO ops i = some o) (hw : wantS ops st o = some true) (hK : (kapB o κ).all (fun p => Ws.all fun j => p.2.contains j) = true) (h : ActOk P Ws o st (SWP P ops (kapB o κ) r Q)) : SWP P ops κ ((i, false) :: r) Q st := fun w0 Sx γ a w QQ hI hQ => by
  have hsub : ∀ p ∈ kapB o κ, ∀ j ∈ Ws, j ∈ p.2 := fun p hp j hj => by simpa using List.all_eq_true.1 (List.all_eq_true.1 hK p hp) j hj
  have hio := (nthO_get ops i).trans hi
  unfold wpMoveP wpOp
  rw [hio]
  simp only [wantS_ok hI hw, if_true]
  refine Or.inl ?_
  have := h w0 Sx γ a w (NoPanic QQ) hI
  have mono : ∀ {a' w'}, (∃ γ' st', SWP P ops (kapB o κ) r Q st' ∧ Sim w0 Sx γ' st' a' w' ∧ SameOn (vis Ws γ st.own) w w' ∧ ∀ K : List Nat, (∀ i ∈ Ws, i ∈ K) → ∀ b, b < w.heap.size → vis K γ st.own b → vis K γ' st'.own b) →
      ∃ pd' : Pend, Covers (alive ops.toArray i (pendOf γ st.own w κ)) pd' ∧ (∀ p ∈ pd', p.2 w') ∧ wpMoveP P ops.toArray (NoPanic QQ) pd' r a' w' := fun {a' w'} ⟨γ', st', h1, h2, h3, h4⟩ => by
    refine ⟨pendOf γ' st'.own w' (kapB o κ), fun p hp => ?_, pendOf_at, h1 w0 Sx γ' a' w' QQ h2 hQ⟩
    obtain ⟨hp1, hp2⟩ := mem_alive.1 hp
    obtain ⟨q, hq, rfl⟩ := List.mem_map.1 hp1
    have hq' : q ∈ kapB o κ := List.mem_filter.2 ⟨hq, by rw [hp2 o hio]; rfl⟩
    have hs := hsub q hq'
    refine .inr ⟨_, List.mem_map.2 ⟨q, hq', rfl⟩, rfl, fun x hx => ⟨Nat.le_trans h3.size hx.size, fun b hb hv => ?_⟩⟩
    have e1 := h3.block b hb (fun j bx hj hjW hjb => hv j bx hj (by simpa using hs j (by simpa using hjW)) hjb)
    have e2 := hx.block b (Nat.lt_of_lt_of_le hb h3.size) (h4 q.2 hs b hb hv)
    exact e2.trans e1
  unfold Oper.wp at this ⊢
  generalize (execOp a.eval o).run P w = res at *
  cases res with
  | ok n w' =>
    cases n <;> simp only [Oper.upon] at this ⊢ <;> first
      | exact mono this
      | exact this
      | exact Calls.mono this (fun e w'' he => by cases e <;> first | exact mono he | exact he)
      | exact Rows.mono this (fun _ _ he => mono he)
  | halt x w' => cases x <;> simp only [Oper.upon] at this ⊢ <;> exact this
theorem sw_region_pend {id : Nat} {l : List Oper} {QS : SEx → St → Prop} (order : List (Nat × Bool)) (hm : P.follows .mixedOrders = true) (hs : Region.noSelect l.toArray = true)
    (hB : (orderB .any l.toArray order (Array.replicate l.toArray.size false) && order.length == l.toArray.size) = true) (h : SWP P l [] order (QS .normal) st) : SW P (.region id l.toArray true) QS st := fun w0 Sx γ a w QQ hI hQ => by
  simp only [Bool.and_eq_true, beq_iff_eq] at hB
  refine wp_region_noPanic (wp_region_any hm (wpAny_of_pend _ [] _ _ _ ?_))
  have h1 := h w0 Sx γ a w.drew QQ hI.drew fun s' γ' a' w' hI' hq => hQ .normal s' γ' a' w' hI' hq
  have := anyP_of_move hs (fun _ _ _ _ _ h => h) order _ (Array.replicate l.toArray.size false) a w.drew hB.1 h1
  rw [hB.2] at this
  exact this
end
end Go.Proofs.Ytjpcchipejmocaa
