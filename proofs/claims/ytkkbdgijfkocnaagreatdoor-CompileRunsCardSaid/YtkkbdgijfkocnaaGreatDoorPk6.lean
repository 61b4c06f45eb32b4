/-
  What the statement leans on, part 6: CompR, RulH, PolK, VarO, VarOf, PolO, OfH, EvM, AtB, DecH, ConH, Canon, Succ, SuccP, WalkH, ConP, ShMake, Const, RunsE, CompRuns, LawKit0, LawL, Laid.
-/
import Derived.Laws.MakeOwn
import Derived.Laws.CopyRow
import Derived.Test.YtkkbdgijfkocnaaGreatDoorRows
import Derived.Lib.LaidTab
import Derived.Lib.LaidU8
import Derived.LaidLaws
import Derived.LaidHandle
import Derived.Stop.Joined
import Derived.ChangeSame
import Derived.ChangeVars
import Derived.JoinedOf
import Derived.RowKitTokens
import Derived.Test.YtkkbdgijfkocnaaGreatDoorPk1
import Derived.Test.YtkkbdgijfkocnaaGreatDoorPk2
import Derived.Test.YtkkbdgijfkocnaaGreatDoorPk3
import Derived.Test.YtkkbdgijfkocnaaGreatDoorPk4
import Derived.Test.YtkkbdgijfkocnaaGreatDoorPk5
namespace Go.Proofs.YtkkbdgijfkocnaaGreatDoor
set_option linter.unusedVariables false
set_option linter.unusedSimpArgs false
open Go.RowKit
def Ext (E E' : List Rs) : Prop := ∃ y, E' = E ++ y
theorem Ext.refl (E : List Rs) : Ext E E := ⟨[], by simp⟩
theorem Ext.trans {a b c : List Rs} (h : Ext a b) (k : Ext b c) : Ext a c := by
 obtain ⟨y, rfl⟩ := h
 obtain ⟨z, rfl⟩ := k
 exact ⟨y ++ z, by rw [List.append_assoc]⟩
theorem Ext.get {E E' : List Rs} (h : Ext E E') {i : Nat} {x : Rs} (hx : E[i]? = some x) : E'[i]? = some x := by
 obtain ⟨y, rfl⟩ := h
 obtain ⟨hi, _⟩ := List.getElem?_eq_some_iff.1 hx
 rw [List.getElem?_append_left hi]; exact hx
def GE (n : Nat) (E : List Rs) (i : Int) : Prop := 0 ≤ i ∧ ∃ x, E[i.toNat]? = some x ∧ x.obls.length ≤ n
theorem GE.up {n : Nat} {E E' : List Rs} {i : Int} (h : GE n E i) (hx : Ext E E') : GE n E' i := by
 obtain ⟨h0, x, h1, h2⟩ := h
 exact ⟨h0, x, hx.get h1, h2⟩
theorem GE.lt {n : Nat} {E : List Rs} {i : Int} (h : GE n E i) : i < E.length := by
 obtain ⟨h0, x, h1, _⟩ := h
 obtain ⟨hi, _⟩ := List.getElem?_eq_some_iff.1 h1
 omega
structure PtS (E : List Rs) (n : Nat) (p : Pt) (R : (Int → Nat) → Rs) : Prop where
 v : PtV (GE n E) p
 w : WyV (GE n E) p p.r
 few : p.l.length ≤ 2000
 ev : ∀ α : Int → Nat, (∀ a, α a < 3) → ∃ i : Int, Ev p.l α p.r (-1 - i) ∧ 0 ≤ i ∧ E[i.toNat]? = some (R α)
theorem PtS.up {E E' : List Rs} {n : Nat} {p : Pt} {R : (Int → Nat) → Rs} (h : PtS E n p R) (hx : Ext E E') : PtS E' n p R :=
 ⟨h.v.mono fun i hi => hi.up hx, h.w.mono fun i hi => hi.up hx, h.few, fun α hα => by obtain ⟨i, h1, h2, h3⟩ := h.ev α hα; exact ⟨i, h1, h2, hx.get h3⟩⟩
theorem PtS.g {E : List Rs} {n : Nat} {p : Pt} {R : (Int → Nat) → Rs} (h : PtS E n p R) (hE : E.length ≤ 90000000) : PtG p := by
 refine ⟨h.v.1, h.few, ?_⟩
 have h1 := h.w.1
 have h2 := h.few
 by_cases h0 : p.r < 0
 · have h3 := (h.w.2 h0).lt
   exact ⟨by omega, by omega⟩
 · exact ⟨by omega, by omega⟩
theorem endR_GE {n : Nat} (E : List Rs) {x : Rs} (hx : x.obls.length ≤ n) : GE n (endR E x).2 (endR E x).1 := ⟨endR_ge E x, x, endR_at E x, hx⟩
theorem fsem_rul (r : Rul) (hr : r.obls.length ≤ 1000000) (Gs : List (Int → Prop)) : FSem Gs (rulF r) EK Ext (GE r.obls.length) (fun E l i => 0 ≤ i ∧ E[i.toNat]? = some (zE r ((l ++ [2]).getD 0 0) ((l ++ [2]).getD 1 0))) where
 now := fun E l hE _ => ⟨endR_ek hE (effectK r hr _ _), endR_ext E _, endR_ge E _, endR_GE E (effectS_len r _ _), endR_ge E _, endR_at E _⟩
 upM := fun _ _ _ _ h hx => ⟨h.1, hx.get h.2⟩
 upL := fun _ _ _ h hx => h.up hx
 refl := Ext.refl
 trans := fun _ _ _ h k => h.trans k
def rulPs (at_ : List Atm) (r : Rul) : List Pt := (zP at_ r.target).1 :: (if r.cond = [] then [] else [qaf at_ ⟨zeroM, r.cond⟩])
def wvE (r : Int × Int × Wv (List Rs)) : (Pt × Int) × List Rs := ((wovenQ r, r.2.1), r.2.2.st)
def qaH (at_ : List Atm) (E : List Rs) (r : Rul) : (Pt × Int) × List Rs := if (zP at_ r.target).2 ≠ 0 then (zP at_ r.target, E) else wvE (jq (rulPs at_ r) (rulF r) E)
def cndV (at_ : List Atm) (α : Int → Nat) (c : List Nod) : Int := if c = [] then 2 else α (jU at_ ⟨zeroM, c⟩)
def rulV (at_ : List Atm) (α : Int → Nat) (r : Rul) : Rs := zE r (tarV at_ α r.target) (cndV at_ α r.cond)
theorem wovenB_len {Gs : List (Int → Prop)} {I : List Rs → Prop} {f : List Rs → List Int → Int × List Rs} (hf : ∀ E l, I E → LV Gs l → I (f E l).2 ∧ (f E l).2.length ≤ E.length + 1) {ps : List Pt} {E : List Rs} (hp : PsOk ps (ps.map Pt.r)) (hV : RowV Gs ps (ps.map Pt.r)) (hI : I E) : (jq ps f E).2.2.st.length ≤ E.length + 6001 ∧ (jq ps f E).2.2.d.length ≤ 2000 := by
 have h1 := way_I hf 66 ⟨[], [], 0, E⟩ _ hV hI
 have h2 := wV hV.wf (f := f) 66 ⟨[], [], 0, E⟩ _ hp (row0 hV.wf) (Nat.zero_le _) (by show (0 : Int) ≤ 6000; omega)
 have h3 := h1.len
 have h4 := h2.hi
 have h5 := h2.d
 unfold jq
 simp only at h3 h4 h5 ⊢
 exact ⟨by omega, h5⟩
theorem rulT_ok {at_ : List Atm} (hn : at_.length ≤ 64) {r : Rul} (ht : TarK r.target) (hm : ∀ a ∈ rulA r, a ∈ at_) (h0 : (zP at_ r.target).2 = 0) : PtT (zP at_ r.target).1 (fun α => tarV at_ α r.target) ∧ (r.cond ≠ [] → PtT (qaf at_ ⟨zeroM, r.cond⟩) fun α => cndV at_ α r.cond) := by
 refine ⟨tarT_ok hn ht (fun a ha => hm a (List.mem_append_left _ ha)) h0, fun hc => ?_⟩
 refine (askedT (hm _ (List.mem_append_right _ (by unfold condA; rw [if_neg hc]; simp))) hn).cong fun α => ?_
 unfold cndV; rw [if_neg hc]
structure RulOk (at_ : List Atm) (r : Rul) : Prop where
 t : TarK r.target
 o : r.obls.length ≤ 1000000
 a : ∀ a ∈ rulA r, a ∈ at_
 c : r.cond.length ≤ 1000000
theorem rulPs_ok {at_ : List Atm} (hn : at_.length ≤ 64) {r : Rul} (hr : RulOk at_ r) (h0 : (zP at_ r.target).2 = 0) : ∃ Gs : List (Int → Prop), (Gs.length = 1 ∨ Gs.length = 2) ∧ RowV Gs (rulPs at_ r) ((rulPs at_ r).map Pt.r) ∧ PsOk (rulPs at_ r) ((rulPs at_ r).map Pt.r) := by
 obtain ⟨h1, h2⟩ := rulT_ok hn hr.t hr.a h0
 unfold rulPs
 by_cases hc : r.cond = []
 · rw [if_pos hc]
   exact ⟨[G0], .inl rfl, .cons h1.v h1.w .nil, psOk_of (by simp) fun p hp => by rw [List.mem_singleton.1 hp]; exact h1.g⟩
 · rw [if_neg hc]
   refine ⟨[G0, G0], .inr rfl, .cons h1.v h1.w (.cons (h2 hc).v (h2 hc).w .nil), psOk_of (by simp) fun p hp => ?_⟩
   rcases List.mem_cons.1 hp with rfl | hp
   · exact h1.g
   · rw [List.mem_singleton.1 hp]; exact (h2 hc).g
structure ItS (E : List Rs) (w n : Nat) (p : Pt) (E' : List Rs) (R : (Int → Nat) → Rs) : Prop where
 ek : EK E'
 ext : Ext E E'
 len : E'.length ≤ E.length + 6001 * w
 pt : PtS E' n p R
theorem rul_sem {at_ : List Atm} (hn : at_.length ≤ 64) {r : Rul} (hr : RulOk at_ r) {E : List Rs} (hE : EK E) (h0 : (qaH at_ E r).1.2 = 0) : ItS E 1 r.obls.length (qaH at_ E r).1.1 (qaH at_ E r).2 fun α => rulV at_ α r := by
 unfold qaH at h0 ⊢
 by_cases ht : (zP at_ r.target).2 ≠ 0
 · rw [if_pos ht] at h0; exact absurd h0 ht
 rw [if_neg ht] at h0 ⊢
 replace ht : (zP at_ r.target).2 = 0 := by omega
 obtain ⟨Gs, g1, g2, g3⟩ := rulPs_ok hn hr ht
 have hl := wovenB_len (I := EK) (f := rulF r) (fun E l hI _ => ⟨endR_ek hI (effectK r hr.o _ _), endR_len E _⟩) g3 g2 hE
 have S := woven_sem (fsem_rul r hr.o Gs) g2 hE h0
 refine ⟨S.st, S.le, by have := hl.1; show (jq (rulPs at_ r) (rulF r) E).2.2.st.length ≤ _; omega, S.v, S.w, hl.2, fun α hα => ?_⟩
 obtain ⟨h1, h2⟩ := rulT_ok hn hr.t hr.a ht
 have hev : ∃ es, EvR α (rulPs at_ r) ((rulPs at_ r).map Pt.r) es ∧ zE r ((es.map (fun x => -1 - x) ++ [2]).getD 0 0) ((es.map (fun x => -1 - x) ++ [2]).getD 1 0) = rulV at_ α r := by
  unfold rulPs
  by_cases hc : r.cond = []
  · rw [if_pos hc]
    refine ⟨[-1 - tarV at_ α r.target], .cons (h1.ev α hα) .nil, ?_⟩
    show zE r (-1 - (-1 - tarV at_ α r.target)) 2 = _
    unfold rulV cndV
    rw [if_pos hc, show -1 - (-1 - tarV at_ α r.target) = tarV at_ α r.target by omega]
  · rw [if_neg hc]
    refine ⟨[-1 - tarV at_ α r.target, -1 - cndV at_ α r.cond], .cons (h1.ev α hα) (.cons ((h2 hc).ev α hα) .nil), ?_⟩
    show zE r (-1 - (-1 - tarV at_ α r.target)) (-1 - (-1 - cndV at_ α r.cond)) = _
    unfold rulV
    rw [show -1 - (-1 - tarV at_ α r.target) = tarV at_ α r.target by omega, show -1 - (-1 - cndV at_ α r.cond) = cndV at_ α r.cond by omega]
 obtain ⟨es, e1, e2⟩ := hev
 obtain ⟨e, k1, k2, k3⟩ := S.ev α hα es e1
 rw [e2] at k3
 refine ⟨-1 - e, ?_, k2, k3⟩
 rw [show -1 - (-1 - e) = e by omega]; exact k1
structure PR where
 z : Bool
 p : Pt
 e : Int
 E : List Rs
def seqE {β : Type} (g : List Rs → β → PR) : List Rs → List β → List Pt × Int × List Rs
 | E, [] => ([], 0, E)
 | E, x :: l => if (g E x).e ≠ 0 then ([], (g E x).e, (g E x).E) else ((g E x).p :: (seqE g (g E x).E l).1, (seqE g (g E x).E l).2.1, (seqE g (g E x).E l).2.2)
theorem seqE_app {β : Type} {g : List Rs → β → PR} : ∀ {a b : List β} {E : List Rs}, (seqE g E a).2.1 = 0 → seqE g E (a ++ b) = ((seqE g E a).1 ++ (seqE g (seqE g E a).2.2 b).1, (seqE g (seqE g E a).2.2 b).2)
 | [], b, E, _ => rfl
 | x :: a, b, E, h => by
   rw [seqE] at h
   rw [List.cons_append, seqE, seqE]
   by_cases hx : (g E x).e ≠ 0
   · rw [if_pos hx] at h; exact absurd h hx
   · rw [if_neg hx] at h ⊢
     rw [if_neg hx, seqE_app h]; rfl
def zeroPt : Pt := ⟨0, [], 0⟩
def jD (at_ : List Atm) (pk : List Rs → Pol → PR) (E : List Rs) : Rul ⊕ Pol → PR
 | .inl r => ⟨false, (qaH at_ E r).1.1, (qaH at_ E r).1.2, (qaH at_ E r).2⟩
 | .inr k => pk E k
def ze (p : Pol) : List (Rul ⊕ Pol) := p.rules.map .inl ++ p.kids.map .inr
def polW (p : Pol) (t : Pt) (q : List Pt × Int × List Rs) : Int × Int × Wv (List Rs) := jq (t :: q.1) (polF p) q.2.2
def polPt (at_ : List Atm) : Nat → List Rs → Pol → PR
 | 0, E, _ => ⟨true, zeroPt, 99, E⟩
 | n + 1, E, p => if (zP at_ p.target).2 ≠ 0 then ⟨true, zeroPt, (zP at_ p.target).2, E⟩
   else if (seqE (jD at_ (polPt at_ n)) E (ze p)).2.1 ≠ 0 then ⟨true, zeroPt, (seqE (jD at_ (polPt at_ n)) E (ze p)).2.1, (seqE (jD at_ (polPt at_ n)) E (ze p)).2.2⟩
   else ⟨false, wovenQ (polW p (zP at_ p.target).1 (seqE (jD at_ (polPt at_ n)) E (ze p))), (polW p (zP at_ p.target).1 (seqE (jD at_ (polPt at_ n)) E (ze p))).2.1, (polW p (zP at_ p.target).1 (seqE (jD at_ (polPt at_ n)) E (ze p))).2.2.st⟩
def polV (at_ : List Atm) (α : Int → Nat) : Nat → Pol → Rs
 | 0, _ => noRs
 | n + 1, p => zO p (tarV at_ α p.target) (p.rules.map (rulV at_ α) ++ p.kids.map (polV at_ α n))
inductive PtL {β : Type} (E : List Rs) (sz : β → Nat) (R : β → (Int → Nat) → Rs) : List β → List Pt → Prop
 | nil : PtL E sz R [] []
 | cons {x : β} {l : List β} {p : Pt} {ps : List Pt} : PtS E (sz x) p (R x) → PtL E sz R l ps → PtL E sz R (x :: l) (p :: ps)
theorem PtL.up {β : Type} {E E' : List Rs} {sz : β → Nat} {R : β → (Int → Nat) → Rs} {l : List β} {ps : List Pt} (h : PtL E sz R l ps) (hx : Ext E E') : PtL E' sz R l ps := by
 induction h with
 | nil => exact .nil
 | cons h _ ih => exact .cons (h.up hx) ih
theorem seqE_sem {β : Type} {g : List Rs → β → PR} {sz wn : β → Nat} {R : β → (Int → Nat) → Rs} : ∀ {l : List β} {E : List Rs}, EK E → E.length + 6001 * qB wn l ≤ 70000000 → (∀ x ∈ l, ∀ E, EK E → E.length + 6001 * wn x ≤ 70000000 → (g E x).e = 0 → ItS E (wn x) (sz x) (g E x).p (g E x).E (R x)) → (seqE g E l).2.1 = 0 →
 EK (seqE g E l).2.2 ∧ Ext E (seqE g E l).2.2 ∧ (seqE g E l).2.2.length ≤ E.length + 6001 * qB wn l ∧ PtL (seqE g E l).2.2 sz R l (seqE g E l).1
 | [], E, hE, _, _, _ => ⟨hE, .refl E, Nat.le_refl _, .nil⟩
 | x :: l, E, hE, hl, hg, h0 => by
   have hs : qB wn (x :: l) = wn x + qB wn l := by simp [qB]
   rw [seqE] at h0 ⊢
   by_cases hx : (g E x).e ≠ 0
   · rw [if_pos hx] at h0; exact absurd h0 hx
   · rw [if_neg hx] at h0 ⊢
     have I := hg x (by simp) E hE (by rw [hs] at hl; omega) (by omega)
     have h1 := I.len
     obtain ⟨k1, k2, k3, k4⟩ := seqE_sem (l := l) (E := (g E x).E) I.ek (by rw [hs] at hl; omega) (fun y hy => hg y (by simp [hy])) h0
     exact ⟨k1, I.ext.trans k2, by show (seqE g (g E x).E l).2.2.length ≤ _; rw [hs]; omega, .cons (I.pt.up k2) k4⟩
def isz : Rul ⊕ Pol → Nat
 | .inl r => r.obls.length
 | .inr k => k.sz
def Pol.wn : Nat → Pol → Nat
 | 0, _ => 0
 | n + 1, p => p.rules.length + qB (Pol.wn n) p.kids + 1
def iwn (n : Nat) : Rul ⊕ Pol → Nat
 | .inl _ => 1
 | .inr k => k.wn n
def itemV (at_ : List Atm) (n : Nat) (s : Rul ⊕ Pol) (α : Int → Nat) : Rs := match s with
 | .inl r => rulV at_ α r
 | .inr k => polV at_ α n k
theorem sum_items (p : Pol) (f : Rul ⊕ Pol → Nat) : qB f (ze p) = qB (fun r => f (.inl r)) p.rules + qB (fun k => f (.inr k)) p.kids := by
 unfold ze qB
 rw [List.map_append, List.sum_append, List.map_map, List.map_map]; rfl
theorem isz_sum (p : Pol) : qB isz (ze p) + p.obls.length ≤ p.sz := by
 rw [sum_items, Pol.sz_eq]
 have h1 : qB (fun r => isz (.inl r)) p.rules ≤ qB rusz p.rules := sumBy_map_le (fun r => by show r.obls.length ≤ rusz r; unfold rusz osz; omega) p.rules
 have h2 : p.obls.length ≤ osz p.obls := by unfold osz; omega
 have h3 : qB (fun k => isz (.inr k)) p.kids = qB Pol.sz p.kids := rfl
 omega
theorem wn_sum (n : Nat) (p : Pol) : p.wn (n + 1) = qB (iwn n) (ze p) + 1 := by
 rw [sum_items]
 have h : qB (fun r : Rul => iwn n (.inl r)) p.rules = p.rules.length := sumBy_one p.rules
 show p.rules.length + qB (Pol.wn n) p.kids + 1 = _
 rw [h]; rfl
theorem wn_sz : ∀ (n : Nat) (p : Pol), p.wn n ≤ p.sz
 | 0, p => Nat.zero_le _
 | n + 1, p => by
   have h := sumBy_map_le (wn_sz n) p.kids
   have h2 := Pol.sz_eq p
   show p.rules.length + qB (Pol.wn n) p.kids + 1 ≤ _
   omega
theorem resE_ext {E E' : List Rs} (h : Ext E E') {l : List Int} (hl : ∀ x ∈ l, 0 ≤ x ∧ x < E.length) : resE E' l = resE E l := by
 unfold resE
 refine List.map_congr_left fun x hx => ?_
 have := hl x hx
 have hk : x.toNat < E.length := by omega
 rw [List.getD_eq_getElem?_getD, List.getD_eq_getElem?_getD, h.get (List.getElem?_eq_getElem hk), List.getElem?_eq_getElem hk]
theorem LV.ends {β : Type} {E : List Rs} {sz : β → Nat} : ∀ {l : List β} {is : List Int}, LV (l.map fun s => GE (sz s) E) is → (∀ x ∈ is, 0 ≤ x ∧ x < E.length) ∧ oblN (resE E is) ≤ qB sz l
 | [], is, h => by cases h; exact ⟨(fun x hx => nomatch hx), Nat.zero_le _⟩
 | y :: l, is, h => by
   cases h with
   | @cons _ _ x is hx h =>
     obtain ⟨h1, h2⟩ := LV.ends h
     have hlt := hx.lt
     obtain ⟨h0, r, h3, h4⟩ := hx
     refine ⟨fun z hz => ?_, ?_⟩
     · rcases List.mem_cons.1 hz with rfl | hz
       · exact ⟨h0, hlt⟩
       · exact h1 z hz
     · have e : resE E (x :: is) = r :: resE E is := by
        unfold resE
        rw [List.map_cons, List.getD_eq_getElem?_getD, h3]; rfl
       rw [e]
       have e1 : oblN (r :: resE E is) = r.obls.length + oblN (resE E is) := by simp [oblN, qB]
       have e2 : qB sz (y :: l) = sz y + qB sz l := by simp [qB]
       omega
def polM (p : Pol) (E0 E : List Rs) (l : List Int) (i : Int) : Prop := 0 ≤ i ∧ E[i.toNat]? = some (zO p (l.getD 0 0) (resE E0 l.tail))
def polI (E0 E : List Rs) : Prop := EK E ∧ Ext E0 E
def polG (p : Pol) (E0 : List Rs) : List (Int → Prop) := G0 :: (ze p).map fun s => GE (isz s) E0
theorem polG_l {p : Pol} (hp : p.sz ≤ 100000) {E0 E : List Rs} (hE : EK E0) (hx : Ext E0 E) {l : List Int} (h : LV (polG p E0) l) : ∃ a is, l = a :: is ∧ 0 ≤ a ∧ (∀ x ∈ is, 0 ≤ x ∧ x < E.length) ∧ resE E is = resE E0 is ∧ oblN (resE E is) ≤ 500000 ∧ RsK (zO p a (resE E is)) ∧ (zO p a (resE E is)).obls.length ≤ p.sz := by
 cases h with
 | @cons _ _ a is ha h =>
   obtain ⟨h1, h2⟩ := LV.ends h
   have h3 := isz_sum p
   have hr := resE_ext hx h1
   have hm : ∀ x ∈ resE E0 is, x.m ∈ mks := fun x hx => by
    obtain ⟨i, hi, rfl⟩ := List.mem_map.1 hx
    have := h1 i hi
    have hk : i.toNat < E0.length := by omega
    rw [List.getD_eq_getElem?_getD, List.getElem?_eq_getElem hk]
    exact (hE _ (List.getElem_mem hk)).1
   have hj := joinR_len p a (resE E0 is)
   refine ⟨a, is, rfl, ha.1, fun x hx' => ?_, hr, by rw [hr]; omega, by rw [hr]; exact ⟨joinR_mem hm, by omega⟩, by rw [hr]; omega⟩
   obtain ⟨y, rfl⟩ := hx
   have := h1 x hx'
   rw [List.length_append]; omega
theorem fsem_pol {p : Pol} (hp : p.sz ≤ 100000) {E0 : List Rs} (hE : EK E0) : FSem (polG p E0) (polF p) (polI E0) Ext (GE p.sz) (polM p E0) where
 now := fun E l hI hl => by
  obtain ⟨a, is, rfl, h1, h2, h3, h4, h5, h6⟩ := polG_l hp hE hI.2 hl
  show polI E0 (endR E (zO p a (resE E is))).2 ∧ Ext E (endR E (zO p a (resE E is))).2 ∧ 0 ≤ (endR E (zO p a (resE E is))).1 ∧ GE p.sz (endR E (zO p a (resE E is))).2 (endR E (zO p a (resE E is))).1 ∧ 0 ≤ (endR E (zO p a (resE E is))).1 ∧ (endR E (zO p a (resE E is))).2[(endR E (zO p a (resE E is))).1.toNat]? = some (zO p a (resE E0 is))
  rw [← h3]
  exact ⟨⟨endR_ek hI.1 h5, hI.2.trans (endR_ext _ _)⟩, endR_ext _ _, endR_ge _ _, endR_GE _ h6, endR_ge _ _, endR_at _ _⟩
 upM := fun _ _ _ _ h hx => ⟨h.1, hx.get h.2⟩
 upL := fun _ _ _ h hx => h.up hx
 refl := Ext.refl
 trans := fun _ _ _ h k => h.trans k
theorem PtL.row {β : Type} {E : List Rs} {sz : β → Nat} {R : β → (Int → Nat) → Rs} {l : List β} {ps : List Pt} (h : PtL E sz R l ps) : RowV (l.map fun s => GE (sz s) E) ps (ps.map Pt.r) := by
 induction h with
 | nil => exact .nil
 | cons h _ ih => exact .cons h.v h.w ih
theorem PtL.ev {β : Type} {E : List Rs} {sz : β → Nat} {R : β → (Int → Nat) → Rs} {l : List β} {ps : List Pt} (h : PtL E sz R l ps) {α : Int → Nat} (hα : ∀ a, α a < 3) : ∃ is : List Int, EvR α ps (ps.map Pt.r) (is.map fun i => -1 - i) ∧ resE E is = l.map fun x => R x α := by
 induction h with
 | nil => exact ⟨[], .nil, rfl⟩
 | cons h _ ih =>
   obtain ⟨is, h1, h2⟩ := ih
   obtain ⟨i, k1, k2, k3⟩ := h.ev α hα
   refine ⟨i :: is, .cons k1 h1, ?_⟩
   rw [List.map_cons, ← h2]
   unfold resE
   rw [List.map_cons, List.getD_eq_getElem?_getD, k3]; rfl
theorem PtL.len {β : Type} {E : List Rs} {sz : β → Nat} {R : β → (Int → Nat) → Rs} {l : List β} {ps : List Pt} (h : PtL E sz R l ps) : ps.length = l.length := by
 induction h with
 | nil => rfl
 | cons _ _ ih => rw [List.length_cons, List.length_cons, ih]
theorem PtL.g {β : Type} {E : List Rs} {sz : β → Nat} {R : β → (Int → Nat) → Rs} {l : List β} {ps : List Pt} (h : PtL E sz R l ps) (hE : E.length ≤ 90000000) : ∀ p ∈ ps, PtG p := by
 induction h with
 | nil => intro p hp; cases hp
 | cons h _ ih =>
   intro q hq
   rcases List.mem_cons.1 hq with rfl | hq
   · exact h.g hE
   · exact ih q hq
def PolK (at_ : List Atm) : Nat → Pol → Prop
 | 0, _ => False
 | n + 1, p => p.sz ≤ 10000 ∧ TarK p.target ∧ (∀ a ∈ tarA p.target, a ∈ at_) ∧ (ze p).length ≤ 900 ∧ (∀ r ∈ p.rules, RulOk at_ r) ∧ ∀ k ∈ p.kids, PolK at_ n k
theorem polPs_ok {at_ : List Atm} {p : Pol} {t : Pt} {T : (Int → Nat) → Int} (ht : PtT t T) {E : List Rs} {ps : List Pt} {R : Rul ⊕ Pol → (Int → Nat) → Rs} (hl : PtL E isz R (ze p) ps) (hE : E.length ≤ 70000000) (hn : (ze p).length ≤ 900) : RowV (polG p E) (t :: ps) ((t :: ps).map Pt.r) ∧ PsOk (t :: ps) ((t :: ps).map Pt.r) := by
 refine ⟨.cons ht.v ht.w hl.row, psOk_of (by rw [List.length_cons, hl.len]; omega) fun q hq => ?_⟩
 rcases List.mem_cons.1 hq with rfl | hq
 · exact ht.g
 · exact hl.g (by omega) q hq
theorem pol_sem {at_ : List Atm} (hn : at_.length ≤ 64) : ∀ (n : Nat) {p : Pol}, PolK at_ n p → ∀ {E : List Rs}, EK E → E.length + 6001 * p.wn n ≤ 70000000 → (polPt at_ n E p).e = 0 → ItS E (p.wn n) p.sz (polPt at_ n E p).p (polPt at_ n E p).E fun α => polV at_ α n p
 | 0, p, h, E, _, _, _ => h.elim
 | n + 1, p, h, E, hE, hl, h0 => by
   obtain ⟨hsz, h1, h2, h3, h4, h5⟩ := h
   rw [polPt] at h0 ⊢
   by_cases ht : (zP at_ p.target).2 ≠ 0
   · rw [if_pos ht] at h0; exact absurd h0 ht
   rw [if_neg ht] at h0 ⊢
   replace ht : (zP at_ p.target).2 = 0 := by omega
   have hT := tarT_ok hn h1 h2 ht
   by_cases hq : (seqE (jD at_ (polPt at_ n)) E (ze p)).2.1 ≠ 0
   · rw [if_pos hq] at h0; exact absurd h0 hq
   rw [if_neg hq] at h0 ⊢
   replace hq : (seqE (jD at_ (polPt at_ n)) E (ze p)).2.1 = 0 := by omega
   rw [wn_sum] at hl ⊢
   obtain ⟨k1, k2, k3, k4⟩ := seqE_sem (sz := isz) (wn := iwn n) (R := itemV at_ n) hE (by omega) (fun s hs E' hE' hl' he => by
    unfold ze at hs
    rcases List.mem_append.1 hs with hs | hs
    · obtain ⟨r, hr, rfl⟩ := List.mem_map.1 hs
      exact rul_sem hn (h4 r hr) hE' he
    · obtain ⟨k, hk, rfl⟩ := List.mem_map.1 hs
      exact pol_sem hn n (h5 k hk) hE' hl' he) hq
   generalize seqE (jD at_ (polPt at_ n)) E (ze p) = q at *
   obtain ⟨g1, g2⟩ := polPs_ok (at_ := at_) hT k4 (by omega) h3
   have hF := fsem_pol (p := p) (by omega) k1
   have hlen := wovenB_len (I := polI q.2.2) (f := polF p) (fun E' l hI hl => ⟨(hF.now E' l hI hl).1, endR_len _ _⟩) g2 g1 ⟨k1, .refl _⟩
   have S := woven_sem hF g1 ⟨k1, .refl _⟩ h0
   have hL : (jq ((zP at_ p.target).1 :: q.1) (polF p) q.2.2).2.2.st.length ≤ E.length + 6001 * (qB (iwn n) (ze p) + 1) := by
    refine Nat.le_trans hlen.1 ?_
    have e : 6001 * (qB (iwn n) (ze p) + 1) = 6001 * qB (iwn n) (ze p) + 6001 := Nat.mul_succ _ _
    rw [e, ← Nat.add_assoc]
    exact Nat.add_le_add_right k3 _
   refine ⟨S.st.1, k2.trans S.le, hL, S.v, S.w, hlen.2, fun α hα => ?_⟩
   obtain ⟨is, e1, e2⟩ := k4.ev hα
   obtain ⟨e, m1, m2, m3⟩ := S.ev α hα ((-1 - tarV at_ α p.target) :: is.map fun i => -1 - i) (.cons (hT.ev α hα) e1)
   refine ⟨-1 - e, by rw [show -1 - (-1 - e) = e by omega]; exact m1, m2, m3.trans ?_⟩
   have e3 : ((((-1 - tarV at_ α p.target) :: is.map fun i => -1 - i).map fun x => -1 - x)) = tarV at_ α p.target :: is := by
    rw [List.map_cons, List.map_map, show -1 - (-1 - tarV at_ α p.target) = tarV at_ α p.target by omega]
    congr 1
    refine (List.map_congr_left fun x _ => ?_).trans (List.map_id _)
    show -1 - (-1 - x) = x
    omega
   rw [e3]
   show some (zO p (tarV at_ α p.target) (resE q.2.2 is)) = some (zO p (tarV at_ α p.target) _)
   rw [e2]
   unfold ze
   rw [List.map_append, List.map_map, List.map_map]; rfl
set_option maxHeartbeats 4000000
theorem rul_fl (r : Rul) (hr : r.obls.length ≤ 1000000) (at_ : List Atm) {Gs : List (Int → Prop)} (hG : Gs.length = 1 ∨ Gs.length = 2) : FlB 64 (zy r) at_ Gs (rulF r) EK where
 call := fun E l hI hL hE _ => rule1_h r hr at_ E hI hE l (by rw [hL.len]; exact hG)
 keep := fun E l hI _ => ⟨endR_ek hI (effectK r hr _ _), endR_len E _, endR_ge E _, endR_le E _⟩
theorem rule_h (at_ : List Atm) (hat : AtOk at_) (r : Rul) (hr : RulOk at_ r) (E : List Rs) (hE : EK E) (hEl : E.length ≤ 80000000) : qJ Tryz.prog 38 [.ptr 1000000 0, .p (.agg (zy r))] (dgmO at_ 1000001 E) (.tup [.p (.agg (qaH at_ E r).1.1.pv), .p (pI (qaH at_ E r).1.2)]) (dgmO at_ 0 (qaH at_ E r).2) := by
 have HT := ctarget_h at_ hat E r.target hr.t
 have lc : (r.cond.map Nod.pv).length = r.cond.length := by simp
 have hps := rulPs_ok hat.few hr
 unfold qaH
 have e0 : rulPs at_ r = (zP at_ r.target).1 :: (if r.cond = [] then [] else [qaf at_ ⟨zeroM, r.cond⟩]) := rfl
 obtain ⟨ps, hps9⟩ : ∃ ps, ps = rulPs at_ r := ⟨_, rfl⟩
 rw [← hps9] at hps e0 ⊢
 generalize zP at_ r.target = T at *
 obtain ⟨tp, te⟩ := T
 simp only at HT hps e0 ⊢
 refine qz (T := TTab) qa Tryz.func38 (by kernel_rfl) rfl rfl rfl ?_
 refine uA ?_
 refine SW.wk (wk_frzB (k := 3) rfl rfl) ?_
 refine uR ?_
 refine uW [(1000000, 1000000), (1000001, 1000001)] HT ?_
 refine qb ?_
 refine uA ?_
 by_cases he : te = 0
 rotate_left
 · rw [if_pos he, show (te != 0) = true by simpa using he]
   refine uC (fun h6 => ?_) (fun h6 => ?_)
   · refine uA ?_
     refine uQ ?_
     exact ⟨Or.inr rfl, _, _, [(1000000, 1000000), (1000001, 0)], _, Wk.refl _, rfl, rfl, .refl _, rfl, rfl⟩
   · cases h6
 subst he
 rw [if_neg (by simp)]
 refine uC (fun h6 => ?_) (fun h6 => ?_)
 · cases h6
 refine qd ?_
 refine uA ?_
 refine uA ?_
 rw [lc]
 obtain ⟨Gs, g1, g2, g3⟩ := hps rfl
 have HW := wovenB_h (rul_fl r hr.o at_ g1) ps E g3 g2 hE hEl
 generalize jq ps (rulF r) E = q at *
 by_cases hc : r.cond = []
 · rw [if_pos hc] at e0
   subst e0
   rw [show decide ((r.cond.length : Int) > 0) = false by rw [hc]; rfl]
   refine uC (fun h7 => ?_) (fun h7 => ?_)
   · cases h7
   refine qd ?_
   refine SW.wk (zg (k := 21) rfl) ?_
   refine uR ?_
   refine uW [(2, 1000000), (1000000, 1000001), (1000001, 1000002)] HW ?_
   refine qb ?_
   refine uQ ?_
   exact ⟨Or.inr rfl, _, _, [(1000000, 1000000), (37000, 0)], _, Wk.refl _, rfl, rfl, .refl _, rfl, rfl⟩
 · rw [if_neg hc] at e0
   subst e0
   rw [show decide ((r.cond.length : Int) > 0) = true by have := List.length_pos_iff.2 hc; simp; omega]
   refine uC (fun h7 => ?_) (fun h7 => ?_)
   · refine uR ?_
     refine uW [(1000000, 1000000), (1000001, 1000001)] (asked_h at_ hat E ⟨zeroM, r.cond⟩ hr.c) ?_
     refine qy rfl (qg qa rfl rfl rfl rfl rfl rfl rfl rfl rfl rfl rfl rfl rfl rfl rfl rfl (by simp only [List.length_append, List.length_map, List.length_take, List.length_cons, List.length_nil]; unfold reachBytes; omega) (by simp only [List.length_append, List.length_map, List.length_take, List.length_cons, List.length_nil]; omega) ?_)
     refine uS ?_
     refine qb ?_
     refine SW.wk (zg (k := 33) rfl) ?_
     refine uR ?_
     refine uW [(2, 1000000), (1000000, 1000001), (1000001, 1000002)] HW ?_
     refine qb ?_
     refine uQ ?_
     exact ⟨Or.inr rfl, _, _, [(1000000, 1000000), (37000, 0)], _, Wk.refl _, rfl, rfl, .refl _, rfl, rfl⟩
   · cases h7
set_option maxHeartbeats 4000000
theorem seqE_step {β : Type} {g : List Rs → β → PR} {E : List Rs} {l : List β} {k : Nat} {x : β} (hx : l[k]? = some x) (h0 : (seqE g E (l.take k)).2.1 = 0) (he : (g (seqE g E (l.take k)).2.2 x).e = 0) : seqE g E (l.take (k + 1)) = ((seqE g E (l.take k)).1 ++ [(g (seqE g E (l.take k)).2.2 x).p], 0, (g (seqE g E (l.take k)).2.2 x).E) := by
 obtain ⟨hk, rfl⟩ := List.getElem?_eq_some_iff.1 hx
 rw [List.take_succ_eq_append_getElem hk, seqE_app h0]
 have e1 : seqE g (seqE g E (l.take k)).2.2 [l[k]] = ([(g (seqE g E (l.take k)).2.2 l[k]).p], 0, (g (seqE g E (l.take k)).2.2 l[k]).E) := by
  rw [seqE, if_neg (by rw [he]; simp)]; rfl
 rw [e1]
theorem seqE_err {β : Type} {g : List Rs → β → PR} {E : List Rs} {l : List β} {k : Nat} {x : β} (hx : l[k]? = some x) (h0 : (seqE g E (l.take k)).2.1 = 0) (he : (g (seqE g E (l.take k)).2.2 x).e ≠ 0) : (seqE g E l).2 = ((g (seqE g E (l.take k)).2.2 x).e, (g (seqE g E (l.take k)).2.2 x).E) := by
 obtain ⟨hk, rfl⟩ := List.getElem?_eq_some_iff.1 hx
 have e : l = l.take k ++ (l[k] :: l.drop (k + 1)) := by rw [← List.drop_eq_getElem_cons hk, List.take_append_drop]
 have e1 : seqE g E l = seqE g E (l.take k ++ (l[k] :: l.drop (k + 1))) := by rw [← e]
 rw [e1, seqE_app h0]
 show (seqE g (seqE g E (l.take k)).2.2 (l[k] :: l.drop (k + 1))).2 = _
 rw [seqE, if_pos he]
def prV (r : PR) : List PV := [bif r.z then .v (.pointer none) else dagP r.p.m r.p.l, bif r.z then pI 0 else pI r.p.r]
def PolHk (at_ : List Atm) (n : Nat) : Prop := ∀ (p : Pol), PolK at_ n p → ∀ E : List Rs, EK E → E.length + 6001 * p.wn n ≤ 70000000 → qJ Tryz.prog 21 [.ptr 1000000 0, .p (.agg (polP p))] (dgmO at_ 1000001 E) (.tup [.p (.agg (prV (polPt at_ n E p))), .p (pI (polPt at_ n E p).e)]) (dgmO at_ 0 (polPt at_ n E p).E)
theorem pol_fl (p : Pol) (hp : p.sz ≤ 10000) (hn : (ze p).length ≤ 900) (at_ : List Atm) {E0 : List Rs} (hE : EK E0) : FlB 40 (polP p) at_ (polG p E0) (polF p) (polI E0) where
 call := fun E l hI hL hEl hll => by
  obtain ⟨a, is, rfl, h1, h2, h3, h4, h5, h6⟩ := polG_l (by omega) hE hI.2 hL
  exact policy1_h p (by have := isz_sum p; omega) at_ E hI.1 hEl a is (by simp only [List.length_cons] at hll; omega) h2 h4
 keep := fun E l hI hL => ⟨((fsem_pol (by omega) hE).now E l hI hL).1, endR_len E _, endR_ge E _, endR_le E _⟩
structure AtK (at_ : List Atm) (n : Nat) (p : Pol) (E : List Rs) (s : Rul ⊕ Pol) (q : List Pt × Int × List Rs) : Prop where
 ek : EK q.2.2
 len : q.2.2.length + 6001 * iwn n s ≤ 70000000
theorem at_k {at_ : List Atm} (hn : at_.length ≤ 64) {n : Nat} {p : Pol} (h : PolK at_ (n + 1) p) {E : List Rs} (hE : EK E) (hl : E.length + 6001 * p.wn (n + 1) ≤ 70000000) {k : Nat} {s : Rul ⊕ Pol} (hs : (ze p)[k]? = some s) (h0 : (seqE (jD at_ (polPt at_ n)) E ((ze p).take k)).2.1 = 0) : AtK at_ n p E s (seqE (jD at_ (polPt at_ n)) E ((ze p).take k)) := by
 obtain ⟨hsz, h1, h2, h3, h4, h5⟩ := h
 rw [wn_sum] at hl
 obtain ⟨hk, rfl⟩ := List.getElem?_eq_some_iff.1 hs
 have hst := zk (f := iwn n) hk
 have htk := sumBy_take (iwn n) (ze p) (k + 1)
 obtain ⟨k1, k2, k3, k4⟩ := seqE_sem (sz := isz) (wn := iwn n) (R := itemV at_ n) (l := (ze p).take k) hE (by omega) (fun s hs E' hE' hl' he => by
  have hs := List.mem_of_mem_take hs
  unfold ze at hs
  rcases List.mem_append.1 hs with hs | hs
  · obtain ⟨r, hr, rfl⟩ := List.mem_map.1 hs
    exact rul_sem hn (h4 r hr) hE' he
  · obtain ⟨k, hk, rfl⟩ := List.mem_map.1 hs
    exact pol_sem hn n (h5 k hk) hE' hl' he) h0
 exact ⟨k1, by omega⟩
theorem seq_all {at_ : List Atm} (hn : at_.length ≤ 64) {n : Nat} {p : Pol} (h : PolK at_ (n + 1) p) {E : List Rs} (hE : EK E) (hl : E.length + 6001 * p.wn (n + 1) ≤ 70000000) (h0 : (seqE (jD at_ (polPt at_ n)) E (ze p)).2.1 = 0) : EK (seqE (jD at_ (polPt at_ n)) E (ze p)).2.2 ∧ (seqE (jD at_ (polPt at_ n)) E (ze p)).2.2.length ≤ 70000000 ∧ PtL (seqE (jD at_ (polPt at_ n)) E (ze p)).2.2 isz (itemV at_ n) (ze p) (seqE (jD at_ (polPt at_ n)) E (ze p)).1 := by
 obtain ⟨hsz, h1, h2, h3, h4, h5⟩ := h
 rw [wn_sum] at hl
 obtain ⟨k1, k2, k3, k4⟩ := seqE_sem (sz := isz) (wn := iwn n) (R := itemV at_ n) (l := ze p) hE (by omega) (fun s hs E' hE' hl' he => by
  unfold ze at hs
  rcases List.mem_append.1 hs with hs | hs
  · obtain ⟨r, hr, rfl⟩ := List.mem_map.1 hs
    exact rul_sem hn (h4 r hr) hE' he
  · obtain ⟨k, hk, rfl⟩ := List.mem_map.1 hs
    exact pol_sem hn n (h5 k hk) hE' hl' he) h0
 exact ⟨k1, by omega, k4⟩
theorem polPt_z {at_ : List Atm} {n : Nat} {E : List Rs} {p : Pol} (h : (polPt at_ n E p).e = 0) : prV (polPt at_ n E p) = (polPt at_ n E p).p.pv := by
 cases n with
 | zero => rw [polPt] at h; exact absurd h (show ¬ ((99 : Int) = 0) by decide)
 | succ n =>
   rw [polPt] at h ⊢
   by_cases ht : (zP at_ p.target).2 ≠ 0
   · rw [if_pos ht] at h; exact absurd h ht
   rw [if_neg ht] at h ⊢
   by_cases hq : (seqE (jD at_ (polPt at_ n)) E (ze p)).2.1 ≠ 0
   · rw [if_pos hq] at h; exact absurd h hq
   rw [if_neg hq]; rfl
theorem policy_step (at_ : List Atm) (hat : AtOk at_) (n : Nat) (IH : PolHk at_ n) : PolHk at_ (n + 1) := by
 intro p hp E hE hEl
 have HT := ctarget_h at_ hat E p.target hp.2.1
 have hTK := tarT_ok hat.few hp.2.1 hp.2.2.1
 have hpt : polPt at_ (n + 1) E p = _ := polPt.eq_2 at_ E p n
 have hK := fun k s => at_k hat.few (n := n) hp hE hEl (k := k) (s := s)
 have hall := seq_all hat.few hp hE hEl
 have hrul : ∀ r ∈ p.rules, RulOk at_ r := hp.2.2.2.2.1
 have hkid : ∀ k ∈ p.kids, PolK at_ n k := hp.2.2.2.2.2
 have hsz : p.sz ≤ 10000 := hp.1
 have hin : (ze p).length ≤ 900 := hp.2.2.2.1
 have hlen : (ze p).length = p.rules.length + p.kids.length := by unfold ze; simp
 have hiA : ∀ (k : Nat) (hk : k < p.rules.length), (ze p)[k]? = some (.inl p.rules[k]) := fun k hk => by
  unfold ze
  rw [List.getElem?_append_left (by simpa using hk), List.getElem?_map, List.getElem?_eq_getElem hk]; rfl
 have hiB : ∀ (k : Nat) (hk : k < p.kids.length), (ze p)[p.rules.length + k]? = some (.inr p.kids[k]) := fun k hk => by
  unfold ze
  rw [List.getElem?_append_right (by simp), List.length_map, Nat.add_sub_cancel_left, List.getElem?_map, List.getElem?_eq_getElem hk]; rfl
 have hfl := fun (E0 : List Rs) (h : EK E0) => pol_fl p hsz hin at_ h
 obtain ⟨its, hits⟩ : ∃ its, its = ze p := ⟨_, rfl⟩
 rw [← hits] at hpt hK hall hin hlen hiA hiB
 have hrow := fun (E0 : List Rs) (ps : List Pt) (t : Pt) (T : (Int → Nat) → Int) (h1 : PtT t T) (h2 : PtL E0 isz (itemV at_ n) its ps) (h3 : E0.length ≤ 70000000) => polPs_ok (at_ := at_) (p := p) h1 (hits ▸ h2) h3 (hits ▸ hin)
 generalize hg : jD at_ (polPt at_ n) = g at *
 obtain ⟨PT, hPT⟩ : ∃ PT, PT = polPt at_ (n + 1) E p := ⟨_, rfl⟩
 rw [← hPT] at hpt ⊢
 clear hPT
 generalize zP at_ p.target = T at *
 obtain ⟨tp, te⟩ := T
 obtain ⟨id, set, alg, tg, rules, kids, obls⟩ := p
 have lr : (rules.map fun r => zy r).length = rules.length := by simp
 have lk' : (kids.map polP).length = kids.length := by simp
 replace hrul : ∀ r ∈ rules, RulOk at_ r := hrul
 replace hkid : ∀ k ∈ kids, PolK at_ n k := hkid
 replace hlen : its.length = rules.length + kids.length := hlen
 replace hiA : ∀ (k : Nat) (hk : k < rules.length), its[k]? = some (.inl rules[k]) := hiA
 replace hiB : ∀ (k : Nat) (hk : k < kids.length), its[rules.length + k]? = some (.inr kids[k]) := hiB
 simp only at HT hpt hTK
 refine qz (T := TTab) qa Tryz.func21 (by kernel_rfl) rfl rfl rfl ?_
 refine uA ?_
 refine SW.wk (wk_frzB (k := 3) rfl rfl) ?_
 refine uR ?_
 refine uW [(1000000, 1000000), (1000001, 1000001)] HT ?_
 refine qb ?_
 refine uA ?_
 refine uA ?_
 refine uB ?_
 refine uZ [2, 3, 4, 7, 8, 9] [(2, 2), (4, 4), (19, 0), (1000000, 1000000), (1000001, 1)] ?_
 refine qw (fun m s => ∃ (k : Nat) (kk e : Int) (L : List (List PV)) (E' : List Rs), k ≤ its.length ∧ m = its.length - k ∧ kk = k ∧ L.length ≤ k + 1 ∧ ((e = 0 ∧ te = 0 ∧ (seqE g E (its.take k)).2.1 = 0 ∧ L = (tp :: (seqE g E (its.take k)).1).map Pt.pv ∧ E' = (seqE g E (its.take k)).2.2) ∨ (e ≠ 0 ∧ PT = ⟨true, zeroPt, e, E'⟩)) ∧
  s = ⟨77, [(2, .ptr 2 0), (3, .p (.rp (polP (.mk id set alg tg rules kids obls)))), (4, .ptr 4 0), (7, .p (pI e)), (8, .row 0), (9, .p (pI kk))], (2, .cells [.ptr 1000000 0]) :: (4, .cells [.p (.v (.pointer none)), .p (pI 0)]) :: (0, .row 58 2 L) :: dgmO at_ 1 E'⟩) its.length
  ⟨0, 0, te, _, E, Nat.zero_le _, rfl, rfl, Nat.le_refl _, by
   by_cases he : te = 0
   · exact .inl ⟨he, he, rfl, rfl, rfl⟩
   · exact .inr ⟨he, by rw [hpt, if_pos he]⟩, rfl⟩ ?_
 rintro m s ⟨k, _, e, L, E', hk, rfl, rfl, hL, hq, rfl⟩
 refine uR ?_
 rw [polPs_eq, lr, lk', show IntKind.i64.wrap ((rules.length : Int) + kids.length) = its.length by rw [IntWalk.i64_in _ (by omega), hlen]; omega]
 by_cases hkN : k < its.length
 rotate_left
 · rw [show decide ((k : Int) < its.length) = false by simp; omega]
   refine uS ?_
   refine qb ?_
   refine uC (fun hlt => ?_) (fun hlt => ?_)
   · cases hlt
   refine qt ?_
   by_cases he : e = 0
   · subst he
     rcases hq with ⟨_, rfl, q0, qL, qE⟩ | ⟨h, _⟩
     rotate_left
     · exact absurd rfl h
     replace hkN : k = its.length := by omega
     rw [hkN, List.take_length] at q0 qL qE
     obtain ⟨a1, a2, a3⟩ := hall q0
     refine uA ?_
     refine uC (fun h9 => ?_) (fun h9 => ?_)
     · cases h9
     refine qd ?_
     rw [if_neg (by simp), if_neg (by rw [q0]; simp)] at hpt
     obtain ⟨b1, b2⟩ := hrow _ _ _ _ (hTK rfl) a3 a2
     have HW := wovenB_h (at_ := at_) (hfl _ a1) (tp :: (seqE g E its).1) (seqE g E its).2.2 b2 b1 ⟨a1, .refl _⟩ (by omega)
     unfold polW at hpt
     rw [← qE] at hpt HW
     rw [hpt]
     generalize (jq (tp :: (seqE g E its).1) (polF (.mk id set alg tg rules kids obls)) E') = W at *
     unfold ptsP at HW
     rw [← qL] at HW
     refine SW.wk (zg (k := 0) rfl) ?_
     refine uR ?_
     refine uW [(2, 1000000), (1000000, 1000001), (1, 1000002)] HW ?_
     refine qb ?_
     refine uQ ?_
     exact ⟨Or.inr rfl, _, _, [(1000000, 1000000), (75000, 0)], _, Wk.refl _, rfl, rfl, .refl _, rfl, rfl⟩
   · rcases hq with ⟨h, _⟩ | ⟨_, hP⟩
     · exact absurd h he
     refine uA ?_
     rw [show (e != 0) = true by simpa using he, hP]
     refine uC (fun h9 => ?_) (fun h9 => ?_)
     · refine uA ?_
       refine uQ ?_
       exact ⟨Or.inr rfl, _, _, [(1000000, 1000000), (1, 0)], _, Wk.refl _, rfl, rfl, .refl _, rfl, rfl⟩
     · cases h9
 rw [show decide ((k : Int) < its.length) = true by simp; omega]
 refine uS ?_
 refine qb ?_
 refine uC (fun hlt => ?_) (fun hlt => ?_)
 rotate_left
 · refine qt ?_
   by_cases he : e = 0
   · subst he; cases hlt
   · rcases hq with ⟨h, _⟩ | ⟨_, hP⟩
     · exact absurd h he
     refine uA ?_
     rw [show (e != 0) = true by simpa using he, hP]
     refine uC (fun h9 => ?_) (fun h9 => ?_)
     · refine uA ?_
       refine uQ ?_
       exact ⟨Or.inr rfl, _, _, [(1000000, 1000000), (1, 0)], _, Wk.refl _, rfl, rfl, .refl _, rfl, rfl⟩
     · cases h9
 · refine qd ?_
   have he : e = 0 := by simpa using hlt
   subst he
   rcases hq with ⟨_, rfl, q0, qL, qE⟩ | ⟨h, _⟩
   rotate_left
   · exact absurd rfl h
   refine uB ?_
   refine uA ?_
   refine uA ?_
   rw [lr]
   by_cases hkr : k < rules.length
   · rw [show decide ((k : Int) < rules.length) = true by simp; omega]
     refine uC (fun h7 => ?_) (fun h7 => ?_)
     · have hi := hiA k hkr
       have K1 := hK k _ hi q0
       have HR := rule_h at_ hat rules[k] (hrul _ (List.getElem_mem hkr)) E' (qE ▸ K1.ek) (by rw [qE]; have := K1.len; omega)
       have hgx : g (seqE g E (its.take k)).2.2 (.inl rules[k]) = ⟨false, (qaH at_ E' rules[k]).1.1, (qaH at_ E' rules[k]).1.2, (qaH at_ E' rules[k]).2⟩ := by rw [← hg, hg, ← qE, ← hg]; rfl
       obtain ⟨x, hx⟩ : ∃ x, x = rules[k] := ⟨_, rfl⟩
       rw [← hx] at HR hgx hi
       refine uD [1000000, 1, 10] [1, 3, 5, 7, 9, 11, 12, 15, 17, 19, 20, 23] ?_
       refine qx qa rfl rfl rfl (by rw [lr]; omega) rfl ?_
       rw [qm hkr, ← hx]
       refine uT ?_
       generalize qaH at_ E' x = RR at *
       obtain ⟨⟨rp, re⟩, rE⟩ := RR
       simp only at HR hgx
       refine uw [(1000000, 1000000), (1, 1000001)] HR ?_
       refine uT ?_
       refine qY ?_
       refine uR ?_
       refine qy rfl (qg qa rfl rfl rfl rfl rfl rfl rfl rfl rfl rfl rfl rfl rfl rfl rfl rfl (by simp only [List.length_append, List.length_map, List.length_take, List.length_cons, List.length_nil]; unfold reachBytes; omega) (by simp only [List.length_append, List.length_map, List.length_take, List.length_cons, List.length_nil]; omega) ?_)
       refine uS ?_
       refine qb ?_
       refine uA ?_
       refine ⟨_, _, ?_, qh [2, 3, 4, 7, 8, 9] [(2, 2), (4, 4), (67, 0), (1000000, 1000000), (48000, 1)] rfl rfl, k + 1, _, _, _, _, by omega, rfl, qf (show k < its.length by omega) (by omega), by simp only [List.length_append, List.length_cons, List.length_nil]; omega, ?_, rfl⟩
       · omega
       · by_cases he : re = 0
         · refine .inl ⟨he, rfl, ?_⟩
           have hs := seqE_step hi q0 (by rw [hgx]; exact he)
           rw [hgx] at hs
           rw [hs]
           refine ⟨rfl, ?_, rfl⟩
           rw [qL]
           show _ ++ [rp.pv] = _
           simp
         · refine .inr ⟨he, ?_⟩
           have hs := seqE_err hi q0 (by rw [hgx]; exact he)
           rw [hgx] at hs
           rw [hpt, if_neg (by simp), hs, if_pos he]
     · cases h7
   · rw [show decide ((k : Int) < rules.length) = false by simp; omega]
     refine uC (fun h7 => ?_) (fun h7 => ?_)
     · cases h7
     obtain ⟨j, rfl⟩ : ∃ j, k = rules.length + j := ⟨k - rules.length, by omega⟩
     have hj : j < kids.length := by omega
     have hi := hiB j hj
     have K1 := hK _ _ hi q0
     have HR := IH kids[j] (hkid _ (List.getElem_mem hj)) E' (qE ▸ K1.ek) (by rw [qE]; exact K1.len)
     have hgx : g (seqE g E (its.take (rules.length + j))).2.2 (.inr kids[j]) = polPt at_ n E' kids[j] := by rw [← hg, hg, ← qE, ← hg]; rfl
     have hz : (polPt at_ n E' kids[j]).e = 0 → prV (polPt at_ n E' kids[j]) = (polPt at_ n E' kids[j]).p.pv := polPt_z
     obtain ⟨x, hx⟩ : ∃ x, x = kids[j] := ⟨_, rfl⟩
     rw [← hx] at HR hgx hi hz
     refine uD [1000000, 1, 10] [1, 3, 5, 7, 9, 11, 13, 15, 17, 19, 20, 23, 25, 27, 28, 31] ?_
     rw [polPs_eq, lr, show IntKind.i64.wrap ((rules.length + j : Nat) - (rules.length : Int)) = j by rw [IntWalk.i64_in _ (by omega)]; omega]
     refine uT ?_
     refine qx qa rfl rfl rfl (by rw [lk']; omega) rfl ?_
     rw [qm hj, ← hx, qG x]
     rw [qG x] at HR
     refine uT ?_
     generalize polPt at_ n E' x = RR at *
     obtain ⟨z, pp, pe, pE⟩ := RR
     cases z with
     | true =>
       refine uw [(1000000, 1000000), (1, 1000001)] HR ?_
       refine uT ?_
       refine qY ?_
       refine uR ?_
       refine qy rfl (qg qa rfl rfl rfl rfl rfl rfl rfl rfl rfl rfl rfl rfl rfl rfl rfl rfl (by simp only [List.length_append, List.length_map, List.length_take, List.length_cons, List.length_nil]; unfold reachBytes; omega) (by simp only [List.length_append, List.length_map, List.length_take, List.length_cons, List.length_nil]; omega) ?_)
       refine uS ?_
       refine qb ?_
       refine uA ?_
       refine ⟨_, _, ?_, qh [2, 3, 4, 7, 8, 9] [(2, 2), (4, 4), (67, 0), (1000000, 1000000), (62000, 1)] rfl rfl, rules.length + j + 1, _, _, _, _, by omega, rfl, qf (show rules.length + j < its.length by omega) (by omega), by simp only [List.length_append, List.length_cons, List.length_nil]; omega, ?_, rfl⟩
       · omega
       · by_cases he : pe = 0
         · refine .inl ⟨he, rfl, ?_⟩
           have hs := seqE_step hi q0 (by rw [hgx]; exact he)
           rw [hgx] at hs
           rw [hs]
           refine ⟨rfl, ?_, rfl⟩
           rw [qL]
           show _ ++ [prV ⟨true, pp, pe, pE⟩] = _; rw [hz he]
           simp
         · refine .inr ⟨he, ?_⟩
           have hs := seqE_err hi q0 (by rw [hgx]; exact he)
           rw [hgx] at hs
           rw [hpt, if_neg (by simp), hs, if_pos he]
     | false =>
       refine uw [(1000000, 1000000), (1, 1000001)] HR ?_
       refine uT ?_
       refine qY ?_
       refine uR ?_
       refine qy rfl (qg qa rfl rfl rfl rfl rfl rfl rfl rfl rfl rfl rfl rfl rfl rfl rfl rfl (by simp only [List.length_append, List.length_map, List.length_take, List.length_cons, List.length_nil]; unfold reachBytes; omega) (by simp only [List.length_append, List.length_map, List.length_take, List.length_cons, List.length_nil]; omega) ?_)
       refine uS ?_
       refine qb ?_
       refine uA ?_
       refine ⟨_, _, ?_, qh [2, 3, 4, 7, 8, 9] [(2, 2), (4, 4), (67, 0), (1000000, 1000000), (62000, 1)] rfl rfl, rules.length + j + 1, _, _, _, _, by omega, rfl, qf (show rules.length + j < its.length by omega) (by omega), by simp only [List.length_append, List.length_cons, List.length_nil]; omega, ?_, rfl⟩
       · omega
       · by_cases he : pe = 0
         · refine .inl ⟨he, rfl, ?_⟩
           have hs := seqE_step hi q0 (by rw [hgx]; exact he)
           rw [hgx] at hs
           rw [hs]
           refine ⟨rfl, ?_, rfl⟩
           rw [qL]
           show _ ++ [prV ⟨false, pp, pe, pE⟩] = _; rw [hz he]
           simp
         · refine .inr ⟨he, ?_⟩
           have hs := seqE_err hi q0 (by rw [hgx]; exact he)
           rw [hgx] at hs
           rw [hpt, if_neg (by simp), hs, if_pos he]
set_option maxHeartbeats 4000000
theorem HoldsR.cv2 {P : Program} {f : FuncId} {s : SV} {x x' : PV} {own : List (Nat × Box)} {R : SV → List (Nat × Box) → Prop} (h : HoldsR P f [s, .p x] own R) (hc : Cv x' x) : HoldsR P f [s, .p x'] own R :=
 ⟨h.1, fun w Sx γ vs hh hl hr => h.2 w Sx γ vs hh hl fun i t u ht hu => by
  match i, ht with
  | 0, ht => exact hr 0 t u ht hu
  | 1, ht =>
    simp only [List.getElem?_cons_succ, List.getElem?_cons_zero, Option.some.injEq] at ht
    subst ht
    exact .p ((hr 1 (.p x') u rfl hu).p_inv.cv hc)⟩
theorem moreA_bd {l : List Atm} {a : Atm} {n : Nat} (h : ∀ x ∈ l, x.c.length ≤ n) (ha : a.c.length ≤ n) : ∀ x ∈ moreA l a, x.c.length ≤ n := fun x hx => by
 rcases moreA_mem.1 hx with hx | rfl
 · exact h x hx
 · exact ha
theorem flat_split {α : Type} (f : α → List Atm) {l : List α} {k : Nat} (hk : k < l.length) : l.flatMap f = (l.take k).flatMap f ++ (f l[k] ++ (l.drop (k + 1)).flatMap f) := by
 rw [← List.flatMap_cons, ← List.flatMap_append, ← List.drop_eq_getElem_cons hk, List.take_append_drop]
theorem qah {α : Type} (f : α → List Atm) {l : List α} {k : Nat} (hk : k < l.length) : (l.take (k + 1)).flatMap f = (l.take k).flatMap f ++ f l[k] := by
 rw [List.take_succ_eq_append_getElem hk, List.flatMap_append]; simp
theorem flat_at {α : Type} (f : α → List Atm) {l : List α} {k : Nat} (hk : k < l.length) : ((l.take k).flatMap f).length + (f l[k]).length ≤ (l.flatMap f).length := by
 have := congrArg List.length (flat_split f hk)
 simp only [List.length_append] at this
 omega
theorem tarA_c {t : Tar} {x : Atm} (h : x ∈ tarA t) : x.c = [] := by
 obtain ⟨y, _, h⟩ := List.mem_flatMap.1 h
 obtain ⟨z, _, h⟩ := List.mem_flatMap.1 h
 obtain ⟨m, _, rfl⟩ := List.mem_map.1 h
 rfl
theorem addA_bd {l bs : List Atm} {n : Nat} (h : ∀ x ∈ l, x.c.length ≤ n) (hb : ∀ x ∈ bs, x.c.length ≤ n) : ∀ x ∈ addA l bs, x.c.length ≤ n := fun x hx => (addA_mem.1 hx).elim (h x) (hb x)
theorem rulA_c {r : Rul} {x : Atm} (h : x ∈ rulA r) : x.c.length ≤ r.cond.length := by
 rcases List.mem_append.1 h with h | h
 · rw [tarA_c h]; exact Nat.zero_le _
 · unfold condA at h
   split at h
   · cases h
   · rw [List.mem_singleton.1 h]; exact Nat.le_refl _
theorem polA_c : ∀ {n : Nat} {p : Pol} {x : Atm}, x ∈ polA n p → x.c.length ≤ p.sz
 | n + 1, p, x, h => by
   have e := Pol.sz_eq p
   rcases List.mem_append.1 h with h | h
   · rw [tarA_c h]; exact Nat.zero_le _
   · rcases List.mem_append.1 h with h | h
     · obtain ⟨r, hr, h⟩ := List.mem_flatMap.1 h
       have h1 := rulA_c h
       have h2 := wd (f := rusz) hr
       have h6 : rusz r = txt r.id + tsz r.target + r.cond.length + osz r.obls + qB nsz r.cond := rfl
       omega
     · obtain ⟨k, hk, h⟩ := List.mem_flatMap.1 h
       have h1 := polA_c h
       have h2 := wd (f := Pol.sz) hk
       omega
theorem ofTarget_h (t : Tar) (ht : TarSm t) (l : List Atm) (hl : ∀ x ∈ l, x.c.length ≤ 1000000) (hn : l.length + (tarA t).length ≤ 1000000) : qJ Tryz.prog 55 [.row 1000000, .p (tgtP t)] (rowA 1000000 l) (.row 0) (rowA 0 (addA l (tarA t))) := by
 have lt : (t.map fun x => [anyP x]).length = t.length := by simp
 have ht1 := ht.1
 refine qD (ts := [4]) Tryz.func55 (by kernel_rfl) rfl rfl rfl ?_
 refine uA ?_
 refine uA ?_
 refine uB ?_
 refine SW.wk (qh [0, 11, 12, 13] [(1000000, 0)] rfl rfl) ?_
 refine qw (fun m s => ∃ (k : Nat) (kk : Int) (L : List Atm), k ≤ t.length ∧ m = t.length - k ∧ kk = k ∧ L = addA l ((t.take k).flatMap anyA) ∧ s = ⟨37, [(0, .row 0), (11, .p (tgtP t)), (12, .p (pI (t.map fun x => [anyP x]).length)), (13, .p (pI kk))], rowA 0 L⟩) t.length ⟨0, 0, _, Nat.zero_le _, rfl, rfl, rfl, rfl⟩ ?_
 rintro m s ⟨k, _, L, hk, rfl, rfl, hL, rfl⟩
 refine uA ?_
 refine uC (fun hlt => ?_) (fun hlt => ?_)
 · refine qd ?_
   rw [lt] at hlt
   simp only [decide_eq_true_eq] at hlt
   have hlt' : k < t.length := by omega
   have hxl := ht.2 _ (List.getElem_mem hlt')
   have hA := flat_at anyA hlt'
   have hS := qah anyA hlt'
   obtain ⟨x, hx⟩ : ∃ x, x = t[k] := ⟨_, rfl⟩
   rw [← hx] at hxl hA hS
   have hx1 := hxl.1
   have hL1 := zH ((t.take k).flatMap anyA) l
   have hLb : ∀ x ∈ L, x.c.length ≤ 1000000 := by
    rw [hL]
    refine addA_bd hl fun y hy => ?_
    have : y ∈ tarA t := by
     obtain ⟨z, hz, hy⟩ := List.mem_flatMap.1 hy
     exact List.mem_flatMap.2 ⟨z, List.mem_of_mem_take hz, hy⟩
    rw [tarA_c this]; exact Nat.zero_le _
   rw [← hL] at hL1
   have lx : (x.map fun y => [wq y]).length = x.length := by simp
   refine uB ?_
   refine uR ?_
   refine qe qa rfl rfl (by rw [lt]; omega) rfl ?_
   rw [qm hlt', ← hx]
   refine uS ?_
   refine qb ?_
   refine uA ?_
   refine uB ?_
   refine uZ [0, 11, 12, 13, 17, 18, 19] [(0, 0)] ?_
   refine qw (fun m s => ∃ (j : Nat) (jj : Int) (M : List Atm), j ≤ x.length ∧ m = x.length - j ∧ jj = j ∧ M = addA L ((x.take j).flatMap allA) ∧ (∀ x ∈ M, x.c.length ≤ 1000000) ∧ s = ⟨37, [(0, .row 0), (11, .p (tgtP t)), (12, .p (pI (t.map fun x => [anyP x]).length)), (13, .p (pI k)), (17, .p (anyP x)), (18, .p (pI (x.map fun y => [wq y]).length)), (19, .p (pI jj))], rowA 0 M⟩) x.length ⟨0, 0, _, Nat.zero_le _, rfl, rfl, rfl, hLb, rfl⟩ ?_
   rintro m s ⟨j, _, M, hj, rfl, rfl, hM, hMb, rfl⟩
   refine uA ?_
   refine uC (fun hlj => ?_) (fun hlj => ?_)
   · refine qd ?_
     rw [lx] at hlj
     simp only [decide_eq_true_eq] at hlj
     have hlj' : j < x.length := by omega
     have hyl := hxl.2 _ (List.getElem_mem hlj')
     have hA2 := flat_at allA hlj'
     have hS2 := qah allA hlj'
     obtain ⟨y, hy⟩ : ∃ y, y = x[j] := ⟨_, rfl⟩
     rw [← hy] at hyl hA2 hS2
     have hM1 := zH ((x.take j).flatMap allA) L
     rw [← hM] at hM1
     have ly : (y.map Mat.pv).length = y.length := by simp
     have ly2 : (allA y).length = y.length := by unfold allA; simp
     refine uB ?_
     refine uR ?_
     refine qe qa rfl rfl (by rw [lx]; omega) rfl ?_
     rw [qm hlj', ← hy]
     refine uS ?_
     refine qb ?_
     refine uA ?_
     refine uB ?_
     refine uZ [0, 11, 12, 13, 17, 18, 19, 23, 24, 25] [(0, 0)] ?_
     refine qw (fun m s => ∃ (i : Nat) (ii : Int) (N : List Atm), i ≤ y.length ∧ m = y.length - i ∧ ii = i ∧ N = addA M (allA (y.take i)) ∧ (∀ x ∈ N, x.c.length ≤ 1000000) ∧ s = ⟨37, [(0, .row 0), (11, .p (tgtP t)), (12, .p (pI (t.map fun x => [anyP x]).length)), (13, .p (pI k)), (17, .p (anyP x)), (18, .p (pI (x.map fun y => [wq y]).length)), (19, .p (pI j)), (23, .p (wq y)), (24, .p (pI (y.map Mat.pv).length)), (25, .p (pI ii))], rowA 0 N⟩) y.length ⟨0, 0, _, Nat.zero_le _, rfl, rfl, rfl, hMb, rfl⟩ ?_
     rintro m s ⟨i, _, N, hi, rfl, rfl, hN, hNb, rfl⟩
     refine uA ?_
     refine uC (fun hli => ?_) (fun hli => ?_)
     · refine qd ?_
       rw [ly] at hli
       simp only [decide_eq_true_eq] at hli
       have hli' : i < y.length := by omega
       obtain ⟨z, hz⟩ : ∃ z, z = y[i] := ⟨_, rfl⟩
       have hN1 := zH (allA (y.take i)) M
       have ly3 : (allA (y.take i)).length = i := by unfold allA; simp; omega
       rw [← hN, ly3] at hN1
       have hta : (tarA t).length = (t.flatMap anyA).length := rfl
       have hxa : (anyA x).length = (x.flatMap allA).length := rfl
       have H := more_h N ⟨z, []⟩ (by omega) hNb (Nat.zero_le _)
       have H' : qJ Tryz.prog 56 [.row 1000000, .p (.agg (atmP z nilV))] (rowA 1000000 N) (.row 0) (rowA 0 (moreA N ⟨z, []⟩)) := HoldsR.cv2 H (CvL.agg (.cons (.refl _) (.cons (.refl _) (.cons (.refl _) (.cons (.refl _) (.cons (.refl _) (.cons (.refl _) (.cons (.refl _) (.cons (.nil 7) .nil)))))))))
       have hNb' := moreA_bd (a := ⟨z, []⟩) hNb (Nat.zero_le _)
       have hNs : moreA N ⟨z, []⟩ = addA M (allA (y.take (i + 1))) := by
        unfold allA
        rw [List.take_succ_eq_append_getElem hli', List.map_append, za, hN, ← hz]
        rfl
       refine uB ?_
       refine uR ?_
       refine qe qa rfl rfl (by rw [ly]; omega) rfl ?_
       rw [qm hli', ← hz]
       refine uS ?_
       refine qb ?_
       refine uR ?_
       refine uW [(0, 1000000)] H' ?_
       refine qb ?_
       refine uA ?_
       refine ⟨_, _, ?_, qh [0, 11, 12, 13, 17, 18, 19, 23, 24, 25] [(33000, 0)] rfl rfl, i + 1, _, _, hli', rfl, qf hli' (by omega), hNs, hNb', rfl⟩
       omega
     · refine qt ?_
       rw [ly] at hli
       simp only [decide_eq_false_iff_not] at hli
       have hii : i = y.length := by omega
       subst hii
       rw [List.take_length] at hN
       refine uA ?_
       refine ⟨_, _, ?_, qh [0, 11, 12, 13, 17, 18, 19] [(0, 0)] rfl rfl, j + 1, _, _, hlj', rfl, qf hlj' (by omega), ?_, hNb, rfl⟩
       · omega
       · rw [hN, hM, hS2, za]
   · refine qt ?_
     rw [lx] at hlj
     simp only [decide_eq_false_iff_not] at hlj
     have hjj : j = x.length := by omega
     subst hjj
     rw [List.take_length] at hM
     refine uA ?_
     refine ⟨_, _, ?_, qh [0, 11, 12, 13] [(0, 0)] rfl rfl, k + 1, _, _, hlt', rfl, qf hlt' (by omega), ?_, rfl⟩
     · omega
     · rw [hM, hL, hS, za]; rfl
 · refine qt ?_
   rw [lt] at hlt
   simp only [decide_eq_false_iff_not] at hlt
   have hkk : k = t.length := by omega
   subst hkk
   rw [List.take_length] at hL
   rw [hL]
   refine uA ?_
   refine uQ ?_
   exact uF [(0, 0)]
theorem sumBy_at {α : Type} (f : α → Nat) {l : List α} {k : Nat} (hk : k < l.length) : qB f (l.take k) + f l[k] ≤ qB f l := by
 have e : l = l.take k ++ (l[k] :: l.drop (k + 1)) := by rw [← List.drop_eq_getElem_cons hk, List.take_append_drop]
 have h : ∀ (a b : List α) (x : α), qB f (a ++ x :: b) = qB f a + (f x + qB f b) := fun a b x => by simp [qB]
 have h2 := h (l.take k) (l.drop (k + 1)) l[k]
 rw [← e] at h2
 omega
theorem rul_eq (L : List Atm) (r : Rul) : addA L (rulA r) = if r.cond = [] then addA L (tarA r.target) else moreA (addA L (tarA r.target)) ⟨zeroM, r.cond⟩ := by
 unfold rulA condA
 rw [za]
 split <;> rfl
def VarOk (n : Nat) : Prop := ∀ (p : Pol), PolF n p → p.sz ≤ 100000 → ∀ l : List Atm, (∀ x ∈ l, x.c.length ≤ 1000000) → l.length + p.sz ≤ 500000 → qJ Tryz.prog 29 [.row 1000000, .p (.agg (polP p))] (rowA 1000000 l) (.row 0) (rowA 0 (addA l (polA n p)))
theorem ofPolicy_step (n : Nat) (IH : VarOk n) : VarOk (n + 1) := by
 intro p hf hsz l hl hn
 have eS := Pol.sz_eq p
 obtain ⟨hT, hrn, hkn, _, hrs, hks⟩ := sz_big hsz (Nat.le_refl _)
 have eP : polA (n + 1) p = tarA p.target ++ (p.rules.flatMap rulA ++ p.kids.flatMap (polA n)) := rfl
 have hTl := tarA_len p.target
 have hRl := jx rulA rusz rulA_len p.rules
 have hkf := hf.2.2
 rw [eP, za, za, qG]
 clear eP
 obtain ⟨id, set, al, tg, rules, ks, obls⟩ := p
 simp only [Pol.id, Pol.set, Pol.alg, Pol.target, Pol.rules, Pol.kids, Pol.obls] at *
 have lr : ((rules.map zy).length) = rules.length := by simp
 have lk : ((ks.map polP).length) = ks.length := by simp
 refine qD (ts := [4]) Tryz.func29 (by kernel_rfl) rfl rfl rfl ?_
 refine uA ?_
 refine uR ?_
 refine uW [(1000000, 1000000)] (ofTarget_h tg hT l hl (by omega)) ?_
 refine qb ?_
 have hMb : ∀ x ∈ addA l (tarA tg), x.c.length ≤ 1000000 := addA_bd hl fun x hx => by rw [tarA_c hx]; exact Nat.zero_le _
 have hMl := zH (tarA tg) l
 obtain ⟨M, hM⟩ : ∃ M, M = addA l (tarA tg) := ⟨_, rfl⟩
 rw [← hM] at hMb hMl
 rw [← hM]
 refine uA ?_
 refine uB ?_
 refine uZ [0, 3, 14, 15, 16] [(3, 3), (13000, 0)] ?_
 refine qw (fun m s => ∃ (k : Nat) (kk : Int) (L : List Atm), k ≤ rules.length ∧ m = rules.length - k ∧ kk = k ∧ L = addA M ((rules.take k).flatMap rulA) ∧ (∀ x ∈ L, x.c.length ≤ 1000000) ∧ s = ⟨46, [(0, .row 0), (3, .ptr 3 0), (14, .p (.sl 5 (rules.map zy))), (15, .p (pI (rules.map zy).length)), (16, .p (pI kk))], (3, .cells [.p (pS id), .p (pB set), .p (pI al), .p (tgtP tg), .p (.sl 5 (rules.map zy)), .p (.sl 7 (ks.map polP)), .p (jc obls)]) :: rowA 0 L⟩) rules.length ⟨0, 0, _, Nat.zero_le _, rfl, rfl, rfl, hMb, rfl⟩ ?_
 rintro m s ⟨k, _, L, hk, rfl, rfl, hL, hLb, rfl⟩
 refine uA ?_
 refine uC (fun hlt => ?_) (fun hlt => ?_)
 · refine qd ?_
   rw [lr] at hlt
   simp only [decide_eq_true_eq] at hlt
   have hlt' : k < rules.length := by omega
   have hr := hrs _ (List.getElem_mem hlt')
   have hA := flat_at rulA hlt'
   have hS := qah rulA hlt'
   have hL1 := zH ((rules.take k).flatMap rulA) M
   rw [← hL] at hL1
   obtain ⟨r, hx⟩ : ∃ r, r = rules[k] := ⟨_, rfl⟩
   rw [← hx] at hr hA hS
   have hrl : (rulA r).length = (tarA r.target).length + (condA r.cond).length := by unfold rulA; rw [List.length_append]
   have hrc := hr.2.1
   have hE := rul_eq L r
   have hHT := ofTarget_h r.target hr.1 L hLb (by omega)
   have hTb : ∀ x ∈ addA L (tarA r.target), x.c.length ≤ 1000000 := addA_bd hLb fun x hx => by rw [tarA_c hx]; exact Nat.zero_le _
   have hTl2 := zH (tarA r.target) L
   have hLs : addA M ((rules.take (k + 1)).flatMap rulA) = addA L (rulA r) := by rw [hS, za, hL]
   obtain ⟨rid, rdeny, rtg, rc, ro⟩ := r
   simp only at hE hHT hTb hTl2 hrc hrl
   have lc : ((rc.map Nod.pv).length) = rc.length := by simp
   refine uB ?_
   refine uR ?_
   refine qe qa rfl rfl (by rw [lr]; omega) rfl ?_
   rw [qm hlt', ← hx]
   refine uS ?_
   refine qb ?_
   refine uR ?_
   refine uW [(0, 1000000)] hHT ?_
   refine qb ?_
   refine uA ?_
   rw [lc]
   refine uC (fun hq => ?_) (fun hq => ?_)
   · have hne : rc ≠ [] := by intro e; subst e; simp at hq
     rw [if_neg hne] at hE
     have hMo := more_h (addA L (tarA rtg)) ⟨zeroM, rc⟩ (by omega) hTb (by show rc.length ≤ 1000000; omega)
     have hMob := moreA_bd (a := ⟨zeroM, rc⟩) hTb (by show rc.length ≤ 1000000; omega)
     refine uR ?_
     refine uW [(24000, 1000000)] hMo ?_
     refine qb ?_
     refine uA ?_
     refine ⟨_, _, ?_, qh [0, 3, 14, 15, 16] [(3, 3), (33000, 0)] rfl rfl, k + 1, _, _, hlt', rfl, qf hlt' (by omega), ?_, hMob, rfl⟩
     · omega
     · rw [hLs, hE]
   · have he : rc = [] := by
      refine List.length_eq_zero_iff.1 ?_
      have : ¬ ((rc.length : Int) > 0) := by simpa using hq
      omega
     rw [if_pos he] at hE
     refine qd ?_
     refine uA ?_
     refine ⟨_, _, ?_, qh [0, 3, 14, 15, 16] [(3, 3), (24000, 0)] rfl rfl, k + 1, _, _, hlt', rfl, qf hlt' (by omega), ?_, hTb, rfl⟩
     · omega
     · rw [hLs, hE]
 · refine qt ?_
   rw [lr] at hlt
   simp only [decide_eq_false_iff_not] at hlt
   have hkk : k = rules.length := by omega
   subst hkk
   rw [List.take_length] at hL
   have hL1 := zH (rules.flatMap rulA) M
   rw [← hL] at hL1
   rw [← hL]
   refine uA ?_
   refine uB ?_
   refine uZ [0, 3, 35, 36, 37] [(3, 3), (0, 0)] ?_
   refine qw (fun m s => ∃ (k : Nat) (kk : Int) (N : List Atm), k ≤ ks.length ∧ m = ks.length - k ∧ kk = k ∧ N = addA L ((ks.take k).flatMap (polA n)) ∧ (∀ x ∈ N, x.c.length ≤ 1000000) ∧ s = ⟨46, [(0, .row 0), (3, .ptr 3 0), (35, .p (.sl 7 (ks.map polP))), (36, .p (pI (ks.map polP).length)), (37, .p (pI kk))], (3, .cells [.p (pS id), .p (pB set), .p (pI al), .p (tgtP tg), .p (.sl 5 (rules.map zy)), .p (.sl 7 (ks.map polP)), .p (jc obls)]) :: rowA 0 N⟩) ks.length ⟨0, 0, _, Nat.zero_le _, rfl, rfl, rfl, hLb, rfl⟩ ?_
   rintro m s ⟨k, _, N, hk, rfl, rfl, hN, hNb, rfl⟩
   refine uA ?_
   refine uC (fun hlt => ?_) (fun hlt => ?_)
   · refine qd ?_
     rw [lk] at hlt
     simp only [decide_eq_true_eq] at hlt
     have hlt' : k < ks.length := by omega
     have hN1 := zH ((ks.take k).flatMap (polA n)) L
     rw [← hN] at hN1
     have hfl := jx (polA n) Pol.sz (polA_len n) (ks.take k)
     have hsa := sumBy_at Pol.sz hlt'
     have hS := qah (polA n) hlt'
     have hksz := hks _ (List.getElem_mem hlt')
     have hkp := hkf _ (List.getElem_mem hlt')
     obtain ⟨q, hq⟩ : ∃ q, q = ks[k] := ⟨_, rfl⟩
     rw [← hq] at hsa hS hksz hkp
     have H := IH q hkp (by omega) N hNb (by omega)
     have hNs : addA N (polA n q) = addA L ((ks.take (k + 1)).flatMap (polA n)) := by rw [hS, za, hN]
     have hNb2 : ∀ x ∈ addA N (polA n q), x.c.length ≤ 1000000 := addA_bd hNb fun x hx => by have := polA_c hx; omega
     rw [qG] at H
     refine uB ?_
     refine uR ?_
     refine qe qa rfl rfl (by rw [lk]; omega) rfl ?_
     rw [qm hlt', ← hq, qG]
     refine uS ?_
     refine qb ?_
     refine uR ?_
     refine uW [(0, 1000000)] H ?_
     refine qb ?_
     refine uA ?_
     refine ⟨_, _, ?_, qh [0, 3, 35, 36, 37] [(3, 3), (44000, 0)] rfl rfl, k + 1, _, _, hlt', rfl, qf hlt' (by omega), hNs, hNb2, rfl⟩
     omega
   · refine qt ?_
     rw [lk] at hlt
     simp only [decide_eq_false_iff_not] at hlt
     have hkk : k = ks.length := by omega
     subst hkk
     rw [List.take_length] at hN
     rw [← hN]
     refine uA ?_
     refine uQ ?_
     exact uF [(0, 0)]
theorem ofPolicy_all : ∀ n, VarOk n
 | 0 => fun _ h => h.elim
 | n + 1 => ofPolicy_step n (ofPolicy_all n)
theorem nil_bd : ∀ x ∈ ([] : List Atm), x.c.length ≤ 1000000 := fun x hx => (nomatch hx)
theorem ofNil_h (n : Nat) (p : Pol) (hf : PolF (n + 1) p) (hsz : p.sz ≤ 100000) : Holds Tryz.prog 29 [nilV, .agg (polP p)] (.row 0) (rowA 0 (addA [] (polA (n + 1) p))) := by
 have IH := ofPolicy_all n
 have hn : ([] : List Atm).length + p.sz ≤ 500000 := by simp only [List.length_nil]; omega
 have eS := Pol.sz_eq p
 obtain ⟨hT, hrn, hkn, _, hrs, hks⟩ := sz_big hsz (Nat.le_refl _)
 have eP : polA (n + 1) p = tarA p.target ++ (p.rules.flatMap rulA ++ p.kids.flatMap (polA n)) := rfl
 have hTl := tarA_len p.target
 have hRl := jx rulA rusz rulA_len p.rules
 have hkf := hf.2.2
 rw [eP, za, za, qG]
 clear eP
 obtain ⟨id, set, al, tg, rules, ks, obls⟩ := p
 simp only [Pol.id, Pol.set, Pol.alg, Pol.target, Pol.rules, Pol.kids, Pol.obls] at *
 have lr : ((rules.map zy).length) = rules.length := by simp
 have lk : ((ks.map polP).length) = ks.length := by simp
 refine qo (ts := [4]) Tryz.func29 (by kernel_rfl) rfl rfl rfl ?_
 refine SW.wk (zp 0 0 81 8 rfl rfl) ?_
 refine uA ?_
 refine uR ?_
 refine uW [(0, 1000000)] (ofTarget_h tg hT ([] : List Atm) nil_bd (by omega)) ?_
 refine qb ?_
 have hMb : ∀ x ∈ addA ([] : List Atm) (tarA tg), x.c.length ≤ 1000000 := addA_bd nil_bd fun x hx => by rw [tarA_c hx]; exact Nat.zero_le _
 have hMl := zH (tarA tg) ([] : List Atm)
 obtain ⟨M, hM⟩ : ∃ M, M = addA ([] : List Atm) (tarA tg) := ⟨_, rfl⟩
 rw [← hM] at hMb hMl
 rw [← hM]
 refine uA ?_
 refine uB ?_
 refine uZ [0, 3, 14, 15, 16] [(3, 3), (13000, 0)] ?_
 refine qw (fun m s => ∃ (k : Nat) (kk : Int) (L : List Atm), k ≤ rules.length ∧ m = rules.length - k ∧ kk = k ∧ L = addA M ((rules.take k).flatMap rulA) ∧ (∀ x ∈ L, x.c.length ≤ 1000000) ∧ s = ⟨46, [(0, .row 0), (3, .ptr 3 0), (14, .p (.sl 5 (rules.map zy))), (15, .p (pI (rules.map zy).length)), (16, .p (pI kk))], (3, .cells [.p (pS id), .p (pB set), .p (pI al), .p (tgtP tg), .p (.sl 5 (rules.map zy)), .p (.sl 7 (ks.map polP)), .p (jc obls)]) :: rowA 0 L⟩) rules.length ⟨0, 0, _, Nat.zero_le _, rfl, rfl, rfl, hMb, rfl⟩ ?_
 rintro m s ⟨k, _, L, hk, rfl, rfl, hL, hLb, rfl⟩
 refine uA ?_
 refine uC (fun hlt => ?_) (fun hlt => ?_)
 · refine qd ?_
   rw [lr] at hlt
   simp only [decide_eq_true_eq] at hlt
   have hlt' : k < rules.length := by omega
   have hr := hrs _ (List.getElem_mem hlt')
   have hA := flat_at rulA hlt'
   have hS := qah rulA hlt'
   have hL1 := zH ((rules.take k).flatMap rulA) M
   rw [← hL] at hL1
   obtain ⟨r, hx⟩ : ∃ r, r = rules[k] := ⟨_, rfl⟩
   rw [← hx] at hr hA hS
   have hrl : (rulA r).length = (tarA r.target).length + (condA r.cond).length := by unfold rulA; rw [List.length_append]
   have hrc := hr.2.1
   have hE := rul_eq L r
   have hHT := ofTarget_h r.target hr.1 L hLb (by omega)
   have hTb : ∀ x ∈ addA L (tarA r.target), x.c.length ≤ 1000000 := addA_bd hLb fun x hx => by rw [tarA_c hx]; exact Nat.zero_le _
   have hTl2 := zH (tarA r.target) L
   have hLs : addA M ((rules.take (k + 1)).flatMap rulA) = addA L (rulA r) := by rw [hS, za, hL]
   obtain ⟨rid, rdeny, rtg, rc, ro⟩ := r
   simp only at hE hHT hTb hTl2 hrc hrl
   have lc : ((rc.map Nod.pv).length) = rc.length := by simp
   refine uB ?_
   refine uR ?_
   refine qe qa rfl rfl (by rw [lr]; omega) rfl ?_
   rw [qm hlt', ← hx]
   refine uS ?_
   refine qb ?_
   refine uR ?_
   refine uW [(0, 1000000)] hHT ?_
   refine qb ?_
   refine uA ?_
   rw [lc]
   refine uC (fun hq => ?_) (fun hq => ?_)
   · have hne : rc ≠ [] := by intro e; subst e; simp at hq
     rw [if_neg hne] at hE
     have hMo := more_h (addA L (tarA rtg)) ⟨zeroM, rc⟩ (by omega) hTb (by show rc.length ≤ 1000000; omega)
     have hMob := moreA_bd (a := ⟨zeroM, rc⟩) hTb (by show rc.length ≤ 1000000; omega)
     refine uR ?_
     refine uW [(24000, 1000000)] hMo ?_
     refine qb ?_
     refine uA ?_
     refine ⟨_, _, ?_, qh [0, 3, 14, 15, 16] [(3, 3), (33000, 0)] rfl rfl, k + 1, _, _, hlt', rfl, qf hlt' (by omega), ?_, hMob, rfl⟩
     · omega
     · rw [hLs, hE]
   · have he : rc = [] := by
      refine List.length_eq_zero_iff.1 ?_
      have : ¬ ((rc.length : Int) > 0) := by simpa using hq
      omega
     rw [if_pos he] at hE
     refine qd ?_
     refine uA ?_
     refine ⟨_, _, ?_, qh [0, 3, 14, 15, 16] [(3, 3), (24000, 0)] rfl rfl, k + 1, _, _, hlt', rfl, qf hlt' (by omega), ?_, hTb, rfl⟩
     · omega
     · rw [hLs, hE]
 · refine qt ?_
   rw [lr] at hlt
   simp only [decide_eq_false_iff_not] at hlt
   have hkk : k = rules.length := by omega
   subst hkk
   rw [List.take_length] at hL
   have hL1 := zH (rules.flatMap rulA) M
   rw [← hL] at hL1
   rw [← hL]
   refine uA ?_
   refine uB ?_
   refine uZ [0, 3, 35, 36, 37] [(3, 3), (0, 0)] ?_
   refine qw (fun m s => ∃ (k : Nat) (kk : Int) (N : List Atm), k ≤ ks.length ∧ m = ks.length - k ∧ kk = k ∧ N = addA L ((ks.take k).flatMap (polA n)) ∧ (∀ x ∈ N, x.c.length ≤ 1000000) ∧ s = ⟨46, [(0, .row 0), (3, .ptr 3 0), (35, .p (.sl 7 (ks.map polP))), (36, .p (pI (ks.map polP).length)), (37, .p (pI kk))], (3, .cells [.p (pS id), .p (pB set), .p (pI al), .p (tgtP tg), .p (.sl 5 (rules.map zy)), .p (.sl 7 (ks.map polP)), .p (jc obls)]) :: rowA 0 N⟩) ks.length ⟨0, 0, _, Nat.zero_le _, rfl, rfl, rfl, hLb, rfl⟩ ?_
   rintro m s ⟨k, _, N, hk, rfl, rfl, hN, hNb, rfl⟩
   refine uA ?_
   refine uC (fun hlt => ?_) (fun hlt => ?_)
   · refine qd ?_
     rw [lk] at hlt
     simp only [decide_eq_true_eq] at hlt
     have hlt' : k < ks.length := by omega
     have hN1 := zH ((ks.take k).flatMap (polA n)) L
     rw [← hN] at hN1
     have hfl := jx (polA n) Pol.sz (polA_len n) (ks.take k)
     have hsa := sumBy_at Pol.sz hlt'
     have hS := qah (polA n) hlt'
     have hksz := hks _ (List.getElem_mem hlt')
     have hkp := hkf _ (List.getElem_mem hlt')
     obtain ⟨q, hq⟩ : ∃ q, q = ks[k] := ⟨_, rfl⟩
     rw [← hq] at hsa hS hksz hkp
     have H := IH q hkp (by omega) N hNb (by omega)
     have hNs : addA N (polA n q) = addA L ((ks.take (k + 1)).flatMap (polA n)) := by rw [hS, za, hN]
     have hNb2 : ∀ x ∈ addA N (polA n q), x.c.length ≤ 1000000 := addA_bd hNb fun x hx => by have := polA_c hx; omega
     rw [qG] at H
     refine uB ?_
     refine uR ?_
     refine qe qa rfl rfl (by rw [lk]; omega) rfl ?_
     rw [qm hlt', ← hq, qG]
     refine uS ?_
     refine qb ?_
     refine uR ?_
     refine uW [(0, 1000000)] H ?_
     refine qb ?_
     refine uA ?_
     refine ⟨_, _, ?_, qh [0, 3, 35, 36, 37] [(3, 3), (44000, 0)] rfl rfl, k + 1, _, _, hlt', rfl, qf hlt' (by omega), hNs, hNb2, rfl⟩
     omega
   · refine qt ?_
     rw [lk] at hlt
     simp only [decide_eq_false_iff_not] at hlt
     have hkk : k = ks.length := by omega
     subst hkk
     rw [List.take_length] at hN
     rw [← hN]
     refine uA ?_
     refine uQ ?_
     exact uF [(0, 0)]
set_option maxHeartbeats 4000000
theorem polFV_up : ∀ {n : Nat} {p : Pol}, PolF n p → PolF (n + 1) p
 | n + 1, p, h => ⟨h.1, h.2.1, fun k hk => polFV_up (h.2.2 k hk)⟩
theorem polFV_add {n : Nat} {p : Pol} (h : PolF n p) : ∀ m, PolF (n + m) p
 | 0 => h
 | m + 1 => polFV_up (polFV_add h m)
theorem right_polA {p : Pol} (h : zj p = 0) (n : Nat) : polA (n + 4) p = polA 4 p := polA_dp (right_dp h) (by omega)
def qM (p : Pol) : List Atm := addA [] (polA 4 p)
theorem of_ok {n : Nat} (p : Pol) (hf : PolF n p) (hsz : p.sz ≤ 100000) (h : zj p = 0) (hl : (qM p).length ≤ 64) : Holds Tryz.prog 13 [.agg (polP p)] (.tup [.row 0, .p (pI 0)]) (rowA 0 (qM p)) := by
 have HR := right_h p (qaE 4 hf)
 have HO := ofNil_h (n + 3) p (polFV_add hf 4) hsz
 rw [right_polA h] at HO
 change Holds _ _ _ _ (rowA 0 (qM p)) at HO
 rw [h] at HR
 have la : ((qM p).map Atm.pv).length = (qM p).length := by simp
 generalize qM p = L at *
 rw [qG] at HR HO ⊢
 refine qo (ts := [2,3]) Tryz.func13 (by kernel_rfl) rfl rfl rfl ?_
 refine uA ?_
 refine uR ?_
 refine uK HR ?_
 refine qb ?_
 refine uC (fun hc => ?_) (fun hc => ?_)
 · cases hc
 refine qd ?_
 refine uR ?_
 refine uO HO ?_
 refine qb ?_
 refine uA ?_
 rw [la]
 rw [show decide ((L.length : Int) > 64) = false by simp; omega]
 refine uC (fun hd => ?_) (fun hd => ?_)
 · cases hd
 · refine qd ?_
   refine uA ?_
   refine uQ ?_
   exact uF [(10000, 0)]
theorem atoms_c {p : Pol} : ∀ x ∈ qM p, x.c.length ≤ p.sz := fun x hx => polA_c ((addA_mem.1 hx).elim (fun h => (nomatch h)) id)
theorem firstE_ev {β : Type} {f : β → Int} : ∀ {l : List β}, firstE f l = 0 → ∀ x ∈ l, f x = 0
 | [], _, x, hx => nomatch hx
 | y :: l, h, x, hx => by
   rw [firstE] at h
   by_cases hy : f y = 0
   · rw [if_pos hy] at h
     rcases List.mem_cons.1 hx with rfl | hx
     · exact hy
     · exact firstE_ev h x hx
   · rw [if_neg hy] at h; exact absurd h hy
theorem manyS_ok {n : Nat} (h : manyS n = 0) : n ≤ 8 := by
 unfold manyS at h
 split at h
 · omega
 · split at h
   · omega
   · omega
theorem tarK_of {t : Tar} (h : zF t = 0) : TarK t := by
 unfold zF at h
 split at h
 · omega
 refine ⟨by omega, fun x hx => ?_⟩
 have h1 := firstE_ev h x hx
 unfold anyOfS at h1
 by_cases hm : manyS x.length = 0
 · rw [if_pos hm] at h1
   have h2 := manyS_ok hm
   refine ⟨by omega, fun y hy => ?_⟩
   have h3 := firstE_ev h1 y hy
   unfold allOfS at h3
   by_cases hm2 : manyS y.length = 0
   · have h2 := manyS_ok hm2; omega
   · rw [if_neg hm2] at h3; exact absurd h3 hm2
 · rw [if_neg hm] at h1; exact absurd h1 hm
theorem headE_ok {p : Pol} (h : headE p = 0) : zF p.target = 0 ∧ p.rules.length ≤ 16 ∧ p.kids.length ≤ 16 := by
 unfold headE at h
 split at h
 · omega
 by_cases ht : zF p.target = 0
 · rw [if_pos ht] at h
   by_cases ho : oblsS p.obls = 0
   · rw [if_pos ho] at h
     split at h
     · omega
     · rename_i hl; exact ⟨ht, by omega, by omega⟩
   · rw [if_neg ho] at h; exact absurd h ho
 · rw [if_neg ht] at h; exact absurd h ht
theorem right_rule {p : Pol} (h : zj p = 0) : ∀ r ∈ p.rules, ruleE r = 0 := by
 obtain ⟨h1, h2, h3⟩ := wX h
 refine seqS_each (Q := fun r => ruleE r = 0) (fun w r hr => ?_) h2
 unfold zu at hr
 split at hr
 · simp only at hr
   split at hr
   · omega
   · exact hr
 · simp only at hr; omega
theorem ruleE_t {r : Rul} (h : ruleE r = 0) : zF r.target = 0 := by
 unfold ruleE at h
 by_cases ht : zF r.target = 0
 · exact ht
 · rw [if_neg ht] at h; exact absurd h ht
theorem polK_of {at_ : List Atm} : ∀ (n : Nat) {p : Pol}, Dp n p → zj p = 0 → p.sz ≤ 10000 → (∀ a ∈ polA n p, a ∈ at_) → PolK at_ n p
 | 0, p, h, _, _, _ => h.elim
 | n + 1, p, hd, h, hs, ha => by
   obtain ⟨_, _, hh, _⟩ := right_name h
   obtain ⟨h1, h2, h3⟩ := headE_ok hh
   have hsz := Pol.sz_eq p
   refine ⟨hs, tarK_of h1, fun a h => ha a (by rw [polA]; exact List.mem_append_left _ h), by unfold ze; rw [List.length_append, List.length_map, List.length_map]; omega, fun r hr => ?_, fun k hk => ?_⟩
   · have h4 := wd (f := rusz) hr
     have h5 : rusz r = txt r.id + tsz r.target + r.cond.length + osz r.obls + qB nsz r.cond := rfl
     have h6 : r.obls.length ≤ osz r.obls := by unfold osz; omega
     exact ⟨tarK_of (ruleE_t (right_rule h r hr)), by omega, fun a h => ha a (by rw [polA]; exact List.mem_append_right _ (List.mem_append_left _ (List.mem_flatMap.2 ⟨r, hr, h⟩))), by omega⟩
   · have h4 := wd (f := Pol.sz) hk
     exact polK_of n (hd k hk) (right_kids h k hk) (by omega) fun a h => ha a (by rw [polA]; exact List.mem_append_right _ (List.mem_append_right _ (List.mem_flatMap.2 ⟨k, hk, h⟩)))
theorem polK_right {p : Pol} (h : zj p = 0) (hs : p.sz ≤ 10000) : PolK (qM p) 4 p := polK_of 4 (right_dp h) h hs fun a ha => addA_mem.2 (.inr ha)
theorem atOk_right {p : Pol} (hs : p.sz ≤ 10000) (hl : (qM p).length ≤ 64) : AtOk (qM p) := ⟨hl, fun x hx => by have := atoms_c x hx; omega⟩
theorem policy_all (at_ : List Atm) (hat : AtOk at_) : ∀ n, PolHk at_ n
 | 0 => fun p hp => hp.elim
 | n + 1 => policy_step at_ hat n (policy_all at_ hat n)
set_option maxHeartbeats 4000000
def dgmP (at_ : List Atm) (p : Pt) (E : List Rs) : PV := .rp [dagP p.m p.l, pI p.r, atmsP at_, rssP E]
theorem cof_ok {n : Nat} (p : Pol) (hf : PolF n p) (hsz : p.sz ≤ 10000) (h : zj p = 0) (hl : (qM p).length ≤ 64) (he : (polPt (qM p) 4 [] p).e = 0) : Holds Tryz.prog 6 [.agg (polP p)] (.tup [.p (dgmP (qM p) (polPt (qM p) 4 [] p).p (polPt (qM p) 4 [] p).E), .p (pI 0)]) [] := by
 have HO := of_ok p hf (by omega) h hl
 have HP := policy_all (qM p) (atOk_right hsz hl) 4 p (polK_right h hsz) [] (fun x hx => nomatch hx) (by have := wn_sz 4 p; show 0 + 6001 * p.wn 4 ≤ 70000000; omega)
 have hz := fun h => polPt_z (at_ := qM p) (n := 4) (E := []) (p := p) h
 generalize qM p = at_ at *
 generalize polPt at_ 4 [] p = R at *
 obtain ⟨z, q, e, E⟩ := R
 rw [qG] at HO HP ⊢
 refine qo (ts := [2,3]) Tryz.func6 (by kernel_rfl) rfl rfl rfl ?_
 refine uA ?_
 refine uR ?_
 refine uO HO ?_
 refine qb ?_
 refine SW.wk (zg (k := 10000) rfl) ?_
 refine uA ?_
 refine uC (fun h6 => ?_) (fun h6 => ?_)
 · cases h6
 refine qd ?_
 refine uA ?_
 refine SW.wk (wk_nilc 17 3 900 37 2 rfl rfl rfl) ?_
 simp only at he
 subst he
 rw [hz rfl] at HP
 simp only at HP ⊢
 refine uR ?_
 refine uW [(17, 1000000), (900, 1000001)] HP ?_
 refine qb ?_
 refine uA ?_
 refine uC (fun h7 => ?_) (fun h7 => ?_)
 · cases h7
 refine qd ?_
 refine uZ [6] [(17, 1), (23000, 2)] ?_
 refine SW.wk (zg (k := 2) rfl) ?_
 refine SW.wk (wk_frzB (k := 1) rfl rfl) ?_
 refine uA ?_
 refine uQ ?_
 exact uF []
set_option maxHeartbeats 4000000
def AtB (N : Int) (l : List Br) : Prop := ∀ b ∈ l, b.atom < N
theorem atB_nil (N : Int) : AtB N [] := fun b hb => nomatch hb
inductive EvN (l : List Br) (α : Int → Nat) : Int → Nat → Int → Prop
 | leaf {w : Int} : w < 0 → EvN l α w 0 w
 | step {w e : Int} {n : Nat} {b : Br} : brD l w = some b → EvN l α (b.to (α b.atom)) n e → EvN l α w (n + 1) e
theorem EvN.neg {l : List Br} {α : Int → Nat} {w e : Int} {n : Nat} (h : EvN l α w n e) : e < 0 := by
 induction h with
 | leaf h => exact h
 | step _ _ ih => exact ih
theorem EvN.few {l : List Br} (hw : WfB l) {α : Int → Nat} (hα : ∀ a, α a < 3) {w e : Int} {n : Nat} (h : EvN l α w n e) : (w < 0 → n = 0) ∧ (0 ≤ w → (n : Int) ≤ w + 1) := by
 induction h with
 | leaf h => exact ⟨fun _ => rfl, fun h2 => absurd h (by omega)⟩
 | @step w e n b hb _ ih =>
   obtain ⟨k, hk, rfl, rfl⟩ := zY hb
   refine ⟨fun h => absurd h (by omega), fun _ => ?_⟩
   obtain ⟨_, _, hj⟩ := hw k hk
   obtain ⟨_, h2⟩ := hj _ (hα l[k].atom)
   by_cases h0 : l[k].to (α l[k].atom) < 0
   · have := ih.1 h0; omega
   · obtain ⟨k', hk', e', _⟩ := h2 (by omega)
     have := ih.2 (by omega)
     omega
def askα (at_ : List Atm) (g : List Giv) (a : Int) : Nat := match at_[a.toNat]? with
 | some x => (askS x.m x.c g).toNat
 | none => 0
theorem askS_range (m : Mat) (c : List Nod) (g : List Giv) : 0 ≤ askS m c g ∧ askS m c g ≤ 2 := by
 unfold askS
 split
 · exact matchT_range m g
 · exact condS_range c g
section
variable {at_ : List Atm} {g : List Giv}
end
set_option maxHeartbeats 4000000
theorem cloneO_h (l : List Obli) (hn : l.length ≤ 1000000) : Holds Tryz.prog 48 [jc l] (.p (jc l)) [] := by
 refine .ofW ?_
 refine qz (T := TTab) qa Tryz.func48 (by kernel_rfl) rfl rfl rfl ?_
 refine uA ?_
 refine uR ?_
 refine qy rfl (act_nilcmp qa rfl rfl rfl rfl rfl rfl (fun b hb => ?_))
 refine qb ?_
 refine uC (fun hc => ?_) (fun hc => ?_)
 · have hl := hb hc
   have hl' : l = [] := by simpa using hl
   subst hl'
   refine uA ?_
   refine uQ ?_
   exact ⟨Or.inr rfl, _, _, [], _, Wk.refl _, rfl, rfl, (.p (.nil 3)), rfl, rfl⟩
 · refine qd ?_
   refine uR ?_
   refine qy rfl (qg qa rfl rfl rfl rfl rfl rfl rfl rfl rfl rfl rfl rfl rfl rfl rfl rfl (by simp [reachBytes]; omega) (by simp; omega) ?_)
   refine uS ?_
   refine qb ?_
   refine uQ ?_
   exact ⟨Or.inr rfl, _, _, [], _, zg (k := 7) rfl, rfl, rfl, .refl _, rfl, rfl⟩
theorem dresult_h (at_ : List Atm) (p : Pt) (E : List Rs) (hE : EK E) (i : Int) (x : Rs) (h0 : 0 ≤ i) (hx : E[i.toNat]? = some x) : Holds Tryz.prog 24 [dgmP at_ p E, pI i] (.p (.agg (rsP x))) [] := by
 obtain ⟨hi, hxe⟩ := List.getElem?_eq_some_iff.1 hx
 have HC := cloneO_h x.obls (hE x (hxe ▸ List.getElem_mem hi)).2
 have lE : (E.map rsP).length = E.length := by simp
 have e9 : (E.map rsP).getD (Int.toNat i) [] = rsP x := by rw [List.getD_eq_getElem?_getD, List.getElem?_map, hx]; rfl
 refine .ofW ?_
 refine qz (T := TTab) qa Tryz.func24 (by kernel_rfl) rfl rfl rfl ?_
 refine uA ?_
 refine uR ?_
 refine qe qa rfl rfl (by rw [lE]; omega) rfl ?_
 rw [e9]
 refine uS ?_
 refine qb ?_
 refine uR ?_
 refine uO HC ?_
 refine qb ?_
 refine uA ?_
 refine uQ ?_
 exact ⟨Or.inr rfl, _, _, [], _, Wk.refl _, rfl, rfl, .refl _, rfl, rfl⟩
def stD (at_ : List Atm) (p : Pt) (E : List Rs) (g : List Giv) (w n : Int) (b : Br) : St := ⟨47, [(0, .p (dgmP at_ p E)), (1, .p (zm g)), (4, .ptr 4 0), (6, .ptr 6 0), (8, .p (pI w)), (9, .p (pI n))], [(4, .cells [.p (mkP (0, 0)), .p nilV]), (6, .cells [.p (pI b.atom), .p (pI b.a), .p (pI b.b), .p (pI b.c)])]⟩
theorem ddec_h (at_ : List Atm) (p : Pt) (E : List Rs) (hE : EK E) (g : List Giv) (hg : GivOk g) (hfit : ∀ x ∈ at_, x.m.Fit ∧ ∀ y ∈ x.c, y.Fit) (hW : WfB p.l) (hfew : p.l.length ≤ 2000) (hA : AtB at_.length p.l) (N : Nat) (hN9 : N ≤ 2001) (i : Int) (h0 : 0 ≤ i) (hi9 : i ≤ 1000000000) (x : Rs) (hx : E[i.toNat]? = some x) (hN : EvN p.l (askα at_ g) p.r N (-1 - i)) :
 Holds Tryz.prog 8 [dgmP at_ p E, zm g] (.tup [.p (.agg (rsP x)), .p (pI (N : Int))]) [] := by
 have la : (at_.map Atm.pv).length = at_.length := by simp
 refine .ofW ?_
 refine qz (T := TTab) qa Tryz.func8 (by kernel_rfl) rfl rfl rfl ?_
 refine uA ?_
 (repeat refine qH ?_); refine sw_scope 0 (fun m s => ∃ (w : Int) (k : Nat) (b : Br), EvN p.l (askα at_ g) w m (-1 - i) ∧ k + m = N ∧ s = stD at_ p E g w (k : Int) b) rfl ?_ ?_
 · refine uA ?_
   refine uA ?_
   refine uA ?_
   refine uZ [0, 1, 4, 6, 8, 9] [(4, 4), (6, 6)] ?_
   (repeat refine qH ?_); refine sw_label ?_
   change SW _ _ _ (stD at_ p E g p.r ((0 : Nat) : Int) zeroBr)
   obtain ⟨w, m, k, b, hv, hk, hS⟩ : ∃ (w : Int) (m k : Nat) (b : Br), EvN p.l (askα at_ g) w m (-1 - i) ∧ k + m = N ∧ stD at_ p E g p.r ((0 : Nat) : Int) zeroBr = stD at_ p E g w (k : Int) b := ⟨_, N, 0, _, hN, by omega, rfl⟩
   rw [hS]
   clear hS
   unfold stD
   have hB := jI p.m p.l (by omega) w
   refine uR ?_
   refine uK hB ?_
   refine qb ?_
   refine uA ?_
   cases hv with
   | leaf hneg =>
     obtain rfl : k = N := by omega
     have hb0 : brD p.l (-1 - i) = none := brD_neg hneg
     unfold brGet
     rw [hb0]
     refine uC (fun hc => ?_) (fun hc => ?_)
     rotate_left
     · cases hc
     refine uR ?_
     rw [show IntKind.i64.wrap (-1 - (-1 - i)) = i by rw [IntWalk.i64_in _ (by omega)]; omega]
     refine uO (dresult_h at_ p E hE i x h0 hx) ?_
     refine qb ?_
     refine uQ ?_
     exact ⟨Or.inr rfl, _, _, [], _, Wk.refl _, rfl, rfl, .refl _, rfl, rfl⟩
   | @step _ _ m' bb hbb hv' =>
     obtain ⟨q, hq, hwq, hbq⟩ := zY hbb
     have hwf := hW q hq
     rw [← hbq] at hwf
     have hat := hA bb (hbq ▸ List.getElem_mem hq)
     have hk9 : bb.atom.toNat < at_.length := by omega
     have e9 : (at_.map Atm.pv).getD (Int.toNat bb.atom) [] = at_[bb.atom.toNat].pv := by rw [List.getD_eq_getElem?_getD, List.getElem?_map, List.getElem?_eq_getElem hk9]; rfl
     have hf := hfit _ (List.getElem_mem hk9)
     have HA := ask_h at_[bb.atom.toNat].m at_[bb.atom.toNat].c hf.1 hf.2 g hg
     have hr := askS_range at_[bb.atom.toNat].m at_[bb.atom.toNat].c g
     have eα : askα at_ g bb.atom = (askS at_[bb.atom.toNat].m at_[bb.atom.toNat].c g).toNat := by unfold askα; rw [List.getElem?_eq_getElem hk9]
     rw [eα] at hv'
     generalize at_[bb.atom.toNat] = a at *
     generalize askS a.m a.c g = v at *
     unfold brGet
     rw [hbb, show ((some bb).getD zeroBr) = bb from rfl]
     refine uC (fun hc => ?_) (fun hc => ?_)
     · cases hc
     refine qd ?_
     have hvs : v = 0 ∨ v = 1 ∨ v = 2 := by omega
     rcases hvs with rfl | rfl | rfl
     · refine uD [] [1, 3, 5, 7, 9, 11, 13, 15, 17, 21, 18, 23, 25, 27] ?_
       refine qx qa rfl rfl rfl (by rw [la]; omega) rfl ?_
       rw [e9]
       refine uT ?_
       refine uk HA ?_
       refine uT ?_
       refine qx qa rfl rfl rfl (by decide) rfl ?_
       refine uT ?_
       refine qY ?_
       refine uA ?_
       (repeat refine qH ?_); refine qaF ?_
       first
        | exact ⟨rfl, _, _, qh [0, 1, 4, 6, 8, 9] [(4, 4), (6, 6)] rfl rfl, _, k + 1, bb, hv', by omega, by rw [show IntKind.i64.wrap ((k : Int) + 1) = ((k + 1 : Nat) : Int) from IntWalk.i64_in _ (by omega)]; rfl⟩
        | exact ⟨rfl, _, _, (by omega), qh [0, 1, 4, 6, 8, 9] [(4, 4), (6, 6)] rfl rfl, _, k + 1, bb, hv', by omega, by rw [show IntKind.i64.wrap ((k : Int) + 1) = ((k + 1 : Nat) : Int) from IntWalk.i64_in _ (by omega)]; rfl⟩
     · refine uD [] [1, 3, 5, 7, 9, 11, 13, 15, 17, 21, 18, 23, 25, 27] ?_
       refine qx qa rfl rfl rfl (by rw [la]; omega) rfl ?_
       rw [e9]
       refine uT ?_
       refine uk HA ?_
       refine uT ?_
       refine qx qa rfl rfl rfl (by decide) rfl ?_
       refine uT ?_
       refine qY ?_
       refine uA ?_
       (repeat refine qH ?_); refine qaF ?_
       first
        | exact ⟨rfl, _, _, qh [0, 1, 4, 6, 8, 9] [(4, 4), (6, 6)] rfl rfl, _, k + 1, bb, hv', by omega, by rw [show IntKind.i64.wrap ((k : Int) + 1) = ((k + 1 : Nat) : Int) from IntWalk.i64_in _ (by omega)]; rfl⟩
        | exact ⟨rfl, _, _, (by omega), qh [0, 1, 4, 6, 8, 9] [(4, 4), (6, 6)] rfl rfl, _, k + 1, bb, hv', by omega, by rw [show IntKind.i64.wrap ((k : Int) + 1) = ((k + 1 : Nat) : Int) from IntWalk.i64_in _ (by omega)]; rfl⟩
     · refine uD [] [1, 3, 5, 7, 9, 11, 13, 15, 17, 21, 18, 23, 25, 27] ?_
       refine qx qa rfl rfl rfl (by rw [la]; omega) rfl ?_
       rw [e9]
       refine uT ?_
       refine uk HA ?_
       refine uT ?_
       refine qx qa rfl rfl rfl (by decide) rfl ?_
       refine uT ?_
       refine qY ?_
       refine uA ?_
       (repeat refine qH ?_); refine qaF ?_
       first
        | exact ⟨rfl, _, _, qh [0, 1, 4, 6, 8, 9] [(4, 4), (6, 6)] rfl rfl, _, k + 1, bb, hv', by omega, by rw [show IntKind.i64.wrap ((k : Int) + 1) = ((k + 1 : Nat) : Int) from IntWalk.i64_in _ (by omega)]; rfl⟩
        | exact ⟨rfl, _, _, (by omega), qh [0, 1, 4, 6, 8, 9] [(4, 4), (6, 6)] rfl rfl, _, k + 1, bb, hv', by omega, by rw [show IntKind.i64.wrap ((k : Int) + 1) = ((k + 1 : Nat) : Int) from IntWalk.i64_in _ (by omega)]; rfl⟩
 · rintro m s ⟨w, k, b, hv, hk, rfl⟩
   unfold stD
   refine qH ?_
   refine qd ?_
   have hB := jI p.m p.l (by omega) w
   refine uR ?_
   refine uK hB ?_
   refine qb ?_
   refine uA ?_
   cases hv with
   | leaf hneg =>
     obtain rfl : k = N := by omega
     have hb0 : brD p.l (-1 - i) = none := brD_neg hneg
     unfold brGet
     rw [hb0]
     refine uC (fun hc => ?_) (fun hc => ?_)
     rotate_left
     · cases hc
     refine uR ?_
     rw [show IntKind.i64.wrap (-1 - (-1 - i)) = i by rw [IntWalk.i64_in _ (by omega)]; omega]
     refine uO (dresult_h at_ p E hE i x h0 hx) ?_
     refine qb ?_
     refine uQ ?_
     exact ⟨Or.inr rfl, _, _, [], _, Wk.refl _, rfl, rfl, .refl _, rfl, rfl⟩
   | @step _ _ m' bb hbb hv' =>
     obtain ⟨q, hq, hwq, hbq⟩ := zY hbb
     have hwf := hW q hq
     rw [← hbq] at hwf
     have hat := hA bb (hbq ▸ List.getElem_mem hq)
     have hk9 : bb.atom.toNat < at_.length := by omega
     have e9 : (at_.map Atm.pv).getD (Int.toNat bb.atom) [] = at_[bb.atom.toNat].pv := by rw [List.getD_eq_getElem?_getD, List.getElem?_map, List.getElem?_eq_getElem hk9]; rfl
     have hf := hfit _ (List.getElem_mem hk9)
     have HA := ask_h at_[bb.atom.toNat].m at_[bb.atom.toNat].c hf.1 hf.2 g hg
     have hr := askS_range at_[bb.atom.toNat].m at_[bb.atom.toNat].c g
     have eα : askα at_ g bb.atom = (askS at_[bb.atom.toNat].m at_[bb.atom.toNat].c g).toNat := by unfold askα; rw [List.getElem?_eq_getElem hk9]
     rw [eα] at hv'
     generalize at_[bb.atom.toNat] = a at *
     generalize askS a.m a.c g = v at *
     unfold brGet
     rw [hbb, show ((some bb).getD zeroBr) = bb from rfl]
     refine uC (fun hc => ?_) (fun hc => ?_)
     · cases hc
     refine qd ?_
     have hvs : v = 0 ∨ v = 1 ∨ v = 2 := by omega
     rcases hvs with rfl | rfl | rfl
     · refine uD [] [1, 3, 5, 7, 9, 11, 13, 15, 17, 21, 18, 23, 25, 27] ?_
       refine qx qa rfl rfl rfl (by rw [la]; omega) rfl ?_
       rw [e9]
       refine uT ?_
       refine uk HA ?_
       refine uT ?_
       refine qx qa rfl rfl rfl (by decide) rfl ?_
       refine uT ?_
       refine qY ?_
       refine uA ?_
       (repeat refine qH ?_); refine qaF ?_
       first
        | exact ⟨rfl, _, _, qh [0, 1, 4, 6, 8, 9] [(4, 4), (6, 6)] rfl rfl, _, k + 1, bb, hv', by omega, by rw [show IntKind.i64.wrap ((k : Int) + 1) = ((k + 1 : Nat) : Int) from IntWalk.i64_in _ (by omega)]; rfl⟩
        | exact ⟨rfl, _, _, (by omega), qh [0, 1, 4, 6, 8, 9] [(4, 4), (6, 6)] rfl rfl, _, k + 1, bb, hv', by omega, by rw [show IntKind.i64.wrap ((k : Int) + 1) = ((k + 1 : Nat) : Int) from IntWalk.i64_in _ (by omega)]; rfl⟩
     · refine uD [] [1, 3, 5, 7, 9, 11, 13, 15, 17, 21, 18, 23, 25, 27] ?_
       refine qx qa rfl rfl rfl (by rw [la]; omega) rfl ?_
       rw [e9]
       refine uT ?_
       refine uk HA ?_
       refine uT ?_
       refine qx qa rfl rfl rfl (by decide) rfl ?_
       refine uT ?_
       refine qY ?_
       refine uA ?_
       (repeat refine qH ?_); refine qaF ?_
       first
        | exact ⟨rfl, _, _, qh [0, 1, 4, 6, 8, 9] [(4, 4), (6, 6)] rfl rfl, _, k + 1, bb, hv', by omega, by rw [show IntKind.i64.wrap ((k : Int) + 1) = ((k + 1 : Nat) : Int) from IntWalk.i64_in _ (by omega)]; rfl⟩
        | exact ⟨rfl, _, _, (by omega), qh [0, 1, 4, 6, 8, 9] [(4, 4), (6, 6)] rfl rfl, _, k + 1, bb, hv', by omega, by rw [show IntKind.i64.wrap ((k : Int) + 1) = ((k + 1 : Nat) : Int) from IntWalk.i64_in _ (by omega)]; rfl⟩
     · refine uD [] [1, 3, 5, 7, 9, 11, 13, 15, 17, 21, 18, 23, 25, 27] ?_
       refine qx qa rfl rfl rfl (by rw [la]; omega) rfl ?_
       rw [e9]
       refine uT ?_
       refine uk HA ?_
       refine uT ?_
       refine qx qa rfl rfl rfl (by decide) rfl ?_
       refine uT ?_
       refine qY ?_
       refine uA ?_
       (repeat refine qH ?_); refine qaF ?_
       first
        | exact ⟨rfl, _, _, qh [0, 1, 4, 6, 8, 9] [(4, 4), (6, 6)] rfl rfl, _, k + 1, bb, hv', by omega, by rw [show IntKind.i64.wrap ((k : Int) + 1) = ((k + 1 : Nat) : Int) from IntWalk.i64_in _ (by omega)]; rfl⟩
        | exact ⟨rfl, _, _, (by omega), qh [0, 1, 4, 6, 8, 9] [(4, 4), (6, 6)] rfl rfl, _, k + 1, bb, hv', by omega, by rw [show IntKind.i64.wrap ((k : Int) + 1) = ((k + 1 : Nat) : Int) from IntWalk.i64_in _ (by omega)]; rfl⟩
set_option maxHeartbeats 4000000
theorem gsize_h (at_ : List Atm) (p : Pt) (E : List Rs) (hl : p.l.length ≤ 100000) : HoldsE Tryz.prog 10 [dgmP at_ p E] (fun r => ∃ n : Nat, r = .p (pI (n : Int)) ∧ n ≤ p.l.length ∧ (n = 0 ↔ ¬ (0 ≤ p.r ∧ p.r < p.l.length))) := by
 have HS := dsize_h p.m p.l hl p.r
 refine holdsE_sh (ts := [2]) Tryz.func10 (by kernel_rfl) rfl rfl rfl ?_
 refine uA ?_
 refine uD [] [1, 3, 5, 7, 9, 11, 13, 15, 17, 19, 20, 23] ?_
 refine swm_act rfl rfl rfl (qaG rfl rfl rfl rfl (HS) rfl ?_)
 rintro _ ⟨n, rfl, h1, h2⟩
 refine uT ?_
 refine qY ?_
 refine uQ ?_
 exact ⟨Or.inr rfl, _, _, [], _, _, Wk.refl _, rfl, rfl, rfl, rfl, ⟨n, rfl, h1, h2⟩, rfl⟩
section
variable {σ : Type} {ps : List Pt} {f : σ → List Int → Int × σ} {P : Wv σ → Prop}
end
def Apart (l : List Br) (u v : Int) : Prop := ∃ α : Int → Nat, (∀ a, α a < 3) ∧ ∃ e e' : Int, Ev l α u e ∧ Ev l α v e' ∧ e ≠ e'
theorem Apart.symm {l : List Br} {u v : Int} (h : Apart l u v) : Apart l v u := by
 obtain ⟨α, h1, e, e', h2, h3, h4⟩ := h
 exact ⟨α, h1, e', e, h3, h2, h4.symm⟩
theorem EvB.agree {l : List Br} {N : Int} (hw : WfB l) (hA : AtB N l) {α α' : Int → Nat} (h : ∀ a : Int, 0 ≤ a → a < N → α a = α' a) {w e : Int} (he : Ev l α w e) : Ev l α' w e := by
 induction he with
 | leaf h => exact .leaf h
 | @step w e b hb _ ih =>
   obtain ⟨k, hk, _, e2⟩ := zY hb
   have h1 := hA b (e2 ▸ List.getElem_mem hk)
   have h2 := (hw k hk).1
   rw [← e2] at h2
   refine .step hb ?_
   rw [← h b.atom h2 h1]
   exact ih
def TT3 : Nat → Nat
 | 0 => 1
 | k + 1 => 1 + 3 * TT3 k
def DD3 : Nat → Nat
 | 0 => 0
 | k + 1 => 1 + 3 * DD3 k
theorem LowB.le {l : List Br} {a b v : Int} (h : LowB l a v) (hab : b ≤ a) : LowB l b v := fun x hx => Int.le_trans hab (h x hx)
section
variable {σ : Type} {Gs : List (Int → Prop)} {f : σ → List Int → Int × σ} {I : σ → Prop} {Le : σ → σ → Prop} {L : σ → Int → Prop} {M : σ → List Int → Int → Prop} {ps : List Pt} {len : σ → Nat} {C : Nat}
structure WSmall (len : σ → Nat) (w w' : Wv σ) (k : Nat) : Prop where
 rows : w'.rows ≤ w.rows + TT3 k
 nn : 0 ≤ w'.rows
 d : w'.d.length ≤ w.d.length + DD3 k
 len : len w'.st ≤ len w.st + TT3 k
end
set_option maxRecDepth 100000
section
variable {at_ : List Atm} (hn : at_.length ≤ 5)
include hn
end
set_option maxHeartbeats 4000000
set_option maxRecDepth 100000
section
variable {p : Pol} (h : zj p = 0) (hs : p.sz ≤ 3000) (hl : (qM p).length ≤ 5)
include h hs hl
end
section
variable {P : Program} {T : TT} (hT : qX P T) {st : St}
include hT
end
section
variable {P : Program} {T : TT} (hT : qX P T) {st : St}
include hT
end
set_option maxHeartbeats 8000000
set_option maxRecDepth 100000
theorem rdO_E {P : Program} {T : TT} (hT : qX P T) {K : List Nat} {st : St} {o : Oper} {s : SV} (h : opE T K st o.op some = some s) : RdO P K st o s := by
 obtain ⟨s', h1, h2⟩ := opE_ok (P := P) hT h
 cases h2
 exact h1
set_option maxHeartbeats 8000000
set_option maxRecDepth 100000
def xM : Mat := ⟨⟨3, ⟨#[120]⟩, false⟩, 1, ⟨2, 1, ⟨#[]⟩⟩⟩
def rP1 : Pol := .mk ⟨#[112]⟩ false 3 [] [⟨⟨#[114]⟩, false, [[[xM]]], [], []⟩, ⟨⟨#[100]⟩, true, [], [], []⟩] [] []
def rP2 : Pol := .mk ⟨#[112]⟩ false 5 [] [⟨⟨#[100]⟩, true, [[[xM]]], [], []⟩] [] []
def xG : List Giv := [⟨3, ⟨#[120]⟩, [⟨2, 1, ⟨#[]⟩⟩]⟩]
def tgX : PV := .sl 1 [[.sl 1 [[.sl 7 [[pI 3, pS ⟨#[120]⟩, pB false, pI 1, pI 2, pI 1, pS ⟨#[]⟩]]]]]]
theorem read1_h : Holds Tryz.prog 7 [.v (.string ⟨#[112, 111, 108, 105, 99, 121, 32, 112, 32, 102, 105, 114, 115, 116, 32, 123, 32, 112, 101, 114, 109, 105, 116, 32, 114, 32, 119, 104, 101, 110, 32, 40, 99, 97, 115, 101, 46, 120, 32, 61, 32, 49, 41, 59, 32, 100, 101, 110, 121, 32, 100, 59, 32, 125]⟩)] (.agg [.p (pS ⟨#[112]⟩), .p (pB false), .p (pI 3), .p nilV, .row 0, .p nilV, .p nilV]) [(0, .row 109 5 [[pS ⟨#[114]⟩, pB false, tgX, nilV, nilV], [pS ⟨#[100]⟩, pB true, nilV, nilV, nilV]])] :=
 .ofW (qan (n := 5000) qa (qaq _) (FnsCF_ok ctab) (by kernel_rfl) (by kernel_rfl))
theorem read2_h : Holds Tryz.prog 7 [.v (.string ⟨#[112, 111, 108, 105, 99, 121, 32, 112, 32, 100, 101, 110, 121, 117, 110, 108, 101, 115, 115, 32, 123, 32, 100, 101, 110, 121, 32, 100, 32, 119, 104, 101, 110, 32, 40, 99, 97, 115, 101, 46, 120, 32, 61, 32, 49, 41, 59, 32, 125]⟩)] (.agg [.p (pS ⟨#[112]⟩), .p (pB false), .p (pI 5), .p nilV, .row 0, .p nilV, .p nilV]) [(0, .row 109 5 [[pS ⟨#[100]⟩, pB true, tgX, nilV, nilV]])] :=
 .ofW (qan (n := 5000) qa (qaq _) (FnsCF_ok ctab) (by kernel_rfl) (by kernel_rfl))
theorem x_h : Holds Tryz.prog 9 [pI 1] (.row 0) [(0, .row 84 3 (xG.map Giv.pv))] :=
 .ofW (qan (n := 5000) qa (qaq _) (FnsCF_ok ctab) (by kernel_rfl) (by kernel_rfl))
set_option maxHeartbeats 8000000
set_option maxRecDepth 100000
theorem xM_fit : xM.Fit := ⟨⟨by unfold R64; decide, by decide⟩, by unfold R64; decide, ⟨by unfold R64; decide, by unfold R64; decide, by decide⟩⟩
theorem xT_fit : TarFit [[[xM]]] := fun x hx y hy m hm => by
 have e1 : x = [[xM]] := List.mem_singleton.1 hx
 subst e1
 have e2 : y = [xM] := List.mem_singleton.1 hy
 subst e2
 have e3 : m = xM := List.mem_singleton.1 hm
 subst e3
 exact xM_fit
theorem rul_fit1 (s : ByteArray) (hs : s.size ≤ reachBytes) (d : Bool) (t : Tar) (ht : TarFit t) : RulFit ⟨s, d, t, [], []⟩ := ⟨hs, ht, (fun n hn => nomatch hn), fun o ho => nomatch ho⟩
theorem tar_nil_fit : TarFit [] := fun x hx => nomatch hx
theorem rP1_f : PolF 1 rP1 := ⟨⟨by decide, tar_nil_fit, fun r hr => by
 rcases List.mem_cons.1 hr with rfl | hr
 · exact rul_fit1 _ (by decide) _ _ xT_fit
 · rw [List.mem_singleton.1 hr]; exact rul_fit1 _ (by decide) _ _ tar_nil_fit, fun o ho => (nomatch ho), by decide, by decide⟩, by unfold R64; decide, fun k hk => (nomatch hk)⟩
theorem rP2_f : PolF 1 rP2 := ⟨⟨by decide, tar_nil_fit, fun r hr => by
 rw [List.mem_singleton.1 hr]; exact rul_fit1 _ (by decide) _ _ xT_fit, fun o ho => (nomatch ho), by decide, by decide⟩, by unfold R64; decide, fun k hk => (nomatch hk)⟩
def xA : List Atm := [⟨xM, []⟩]
theorem rP1_a : qM rP1 = xA := by decide +kernel
theorem rP2_a : qM rP2 = xA := by decide +kernel
def xE1 : List Rs := [⟨(0, 0), []⟩, ⟨(1, 0), []⟩, ⟨(2, 0), []⟩, ⟨(0, 2), []⟩]
def xE2 : List Rs := [⟨(0, 0), []⟩, ⟨(0, 1), []⟩, ⟨(0, 2), []⟩]
theorem rP1_q : polPt (qM rP1) 4 [] rP1 = ⟨false, ⟨2000, [⟨0, -4, -2, -3⟩], 0⟩, 0, xE1⟩ := by kernel_rfl
theorem rP2_q : polPt (qM rP2) 4 [] rP2 = ⟨false, ⟨2000, [], -3⟩, 0, xE2⟩ := by kernel_rfl
theorem rP1_r : zj rP1 = 0 := by decide +kernel
theorem rP2_r : zj rP2 = 0 := by decide +kernel
theorem rP1_s : rP1.sz ≤ 3000 := by decide +kernel
theorem rP2_s : rP2.sz ≤ 3000 := by decide +kernel
theorem xA_fit : ∀ x ∈ xA, x.m.Fit ∧ ∀ y ∈ x.c, y.Fit := fun x hx => by
 have e : x = ⟨xM, []⟩ := List.mem_singleton.1 hx
 subst e
 exact ⟨xM_fit, fun y hy => nomatch hy⟩
theorem xG_ok : GivOk xG := ⟨fun x hx => by
 have e : x = ⟨3, ⟨#[120]⟩, [⟨2, 1, ⟨#[]⟩⟩]⟩ := List.mem_singleton.1 hx
 subst e
 refine ⟨by unfold R64; decide, by decide, fun v hv => ?_⟩
 have e : v = ⟨2, 1, ⟨#[]⟩⟩ := List.mem_singleton.1 hv
 subst e
 exact ⟨by unfold R64; decide, by unfold R64; decide, by decide⟩, by decide, fun x hx => by
 have e : x = ⟨3, ⟨#[120]⟩, [⟨2, 1, ⟨#[]⟩⟩]⟩ := List.mem_singleton.1 hx
 subst e
 decide⟩
theorem nilG_ok : GivOk [] := ⟨(fun x hx => nomatch hx), by decide, fun x hx => nomatch hx⟩
theorem r1_cv : CvL [pS ⟨#[114]⟩, pB false, tgX, nilV, nilV] (zy ⟨⟨#[114]⟩, false, [[[xM]]], [], []⟩) := .cons (.refl _) (.cons (.refl _) (.cons (.refl _) (.cons (.nil 7) (.cons (.nil 3) .nil))))
theorem r2_cv : CvL [pS ⟨#[100]⟩, pB true, nilV, nilV, nilV] (zy ⟨⟨#[100]⟩, true, [], [], []⟩) := .cons (.refl _) (.cons (.refl _) (.cons (.nil 1) (.cons (.nil 7) (.cons (.nil 3) .nil))))
theorem r3_cv : CvL [pS ⟨#[100]⟩, pB true, tgX, nilV, nilV] (zy ⟨⟨#[100]⟩, true, [[[xM]]], [], []⟩) := .cons (.refl _) (.cons (.refl _) (.cons (.refl _) (.cons (.nil 7) (.cons (.nil 3) .nil))))
theorem p1_cv : CvL [pS ⟨#[112]⟩, pB false, pI 3, nilV, .sl 5 [[pS ⟨#[114]⟩, pB false, tgX, nilV, nilV], [pS ⟨#[100]⟩, pB true, nilV, nilV, nilV]], nilV, nilV] (polP rP1) :=
 .cons (.refl _) (.cons (.refl _) (.cons (.refl _) (.cons (.nil 1) (.cons (CvM.sl (.cons r1_cv (.cons r2_cv .nil))) (.cons (.nil 7) (.cons (.nil 3) .nil))))))
theorem p2_cv : CvL [pS ⟨#[112]⟩, pB false, pI 5, nilV, .sl 5 [[pS ⟨#[100]⟩, pB true, tgX, nilV, nilV]], nilV, nilV] (polP rP2) :=
 .cons (.refl _) (.cons (.refl _) (.cons (.refl _) (.cons (.nil 1) (.cons (CvM.sl (.cons r3_cv .nil)) (.cons (.nil 7) (.cons (.nil 3) .nil))))))
theorem o1_h : Holds Tryz.prog 6 [.agg [pS ⟨#[112]⟩, pB false, pI 3, nilV, .sl 5 [[pS ⟨#[114]⟩, pB false, tgX, nilV, nilV], [pS ⟨#[100]⟩, pB true, nilV, nilV, nilV]], nilV, nilV]] (.tup [.p (dgmP xA ⟨2000, [⟨0, -4, -2, -3⟩], 0⟩ xE1), .p (pI 0)]) [] := by
 have H := cof_ok rP1 rP1_f (Nat.le_trans rP1_s (by decide)) rP1_r (by rw [rP1_a]; decide) (by rw [rP1_q])
 rw [rP1_q, rP1_a] at H
 exact H.cv (.cons (CvL.agg p1_cv) .nil)
theorem o2_h : Holds Tryz.prog 6 [.agg [pS ⟨#[112]⟩, pB false, pI 5, nilV, .sl 5 [[pS ⟨#[100]⟩, pB true, tgX, nilV, nilV]], nilV, nilV]] (.tup [.p (dgmP xA ⟨2000, [], -3⟩ xE2), .p (pI 0)]) [] := by
 have H := cof_ok rP2 rP2_f (Nat.le_trans rP2_s (by decide)) rP2_r (by rw [rP2_a]; decide) (by rw [rP2_q])
 rw [rP2_q, rP2_a] at H
 exact H.cv (.cons (CvL.agg p2_cv) .nil)
theorem xE1_ek : EK xE1 := fun x hx => by
 simp only [xE1, List.mem_cons, List.not_mem_nil, or_false] at hx
 rcases hx with rfl | rfl | rfl | rfl <;> exact ⟨by decide, Nat.zero_le _⟩
theorem xE2_ek : EK xE2 := fun x hx => by
 simp only [xE2, List.mem_cons, List.not_mem_nil, or_false] at hx
 rcases hx with rfl | rfl | rfl <;> exact ⟨by decide, Nat.zero_le _⟩
theorem w1 : WfB [⟨0, -4, -2, -3⟩] := fun i hi => by
 have : i = 0 := by simpa using hi
 subst this
 refine ⟨(by show (0 : Int) ≤ 0; decide), (by show (0 : Int) < 64; decide), fun j hj => ?_⟩
 match j, hj with
 | 0, _ => exact ⟨(by show (-1048576 : Int) ≤ -4; decide), fun h => absurd h (by show ¬ (0 : Int) ≤ -4; decide)⟩
 | 1, _ => exact ⟨(by show (-1048576 : Int) ≤ -2; decide), fun h => absurd h (by show ¬ (0 : Int) ≤ -2; decide)⟩
 | 2, _ => exact ⟨(by show (-1048576 : Int) ≤ -3; decide), fun h => absurd h (by show ¬ (0 : Int) ≤ -3; decide)⟩
theorem a1 : AtB (xA.length : Int) [⟨0, -4, -2, -3⟩] := fun b hb => by rw [List.mem_singleton.1 hb]; decide
theorem d1_h : Holds Tryz.prog 8 [dgmP xA ⟨2000, [⟨0, -4, -2, -3⟩], 0⟩ xE1, zm xG] (.tup [.p (.agg (rsP ⟨(2, 0), []⟩)), .p (pI ((1 : Nat) : Int))]) [] :=
 ddec_h xA ⟨2000, [⟨0, -4, -2, -3⟩], 0⟩ xE1 xE1_ek xG xG_ok xA_fit w1 (by decide) a1 1 (by decide) 2 (by decide) (by decide) _ rfl (.step (b := ⟨0, -4, -2, -3⟩) rfl (by
  rw [show askα xA xG (Br.atom ⟨0, -4, -2, -3⟩) = 2 by decide +kernel]
  exact .leaf (by decide)))
theorem d2_h : Holds Tryz.prog 8 [dgmP xA ⟨2000, [⟨0, -4, -2, -3⟩], 0⟩ xE1, nilV] (.tup [.p (.agg (rsP ⟨(0, 2), []⟩)), .p (pI ((1 : Nat) : Int))]) [] :=
 (ddec_h xA ⟨2000, [⟨0, -4, -2, -3⟩], 0⟩ xE1 xE1_ek [] nilG_ok xA_fit w1 (by decide) a1 1 (by decide) 3 (by decide) (by decide) _ rfl (.step (b := ⟨0, -4, -2, -3⟩) rfl (by
  rw [show askα xA [] (Br.atom ⟨0, -4, -2, -3⟩) = 0 by decide +kernel]
  exact .leaf (by decide)))).cv (.cons (.refl _) (.cons (.nil 3) .nil))
theorem d3_h : Holds Tryz.prog 8 [dgmP xA ⟨2000, [], -3⟩ xE2, zm xG] (.tup [.p (.agg (rsP ⟨(0, 2), []⟩)), .p (pI ((0 : Nat) : Int))]) [] :=
 ddec_h xA ⟨2000, [], -3⟩ xE2 xE2_ek xG xG_ok xA_fit (fun i hi => absurd hi (Nat.not_lt_zero _)) (by decide) (atB_nil _) 0 (by decide) 2 (by decide) (by decide) _ rfl (.leaf (by decide))
theorem rdO_mk {K : List Nat} {st : St} {o : Oper} {m c : Mk} (A B : Nat) (hmc : m = c) (hm : m ∈ mks) (hA : hb c.1 = A) (hB : hb c.2 = B) (h : opR TTab K st o.op = some (True, .p (pB (FloatKind.f64.format.order (hb m.1) A == some .eq && FloatKind.f64.format.order (hb m.2) B == some .eq)))) : RdO Tryz.prog K st o (.p (pB true)) := by
 subst hA hB
 have e : mkE m c = true := by rw [mkE_eq hm (hmc ▸ hm)]; exact decide_eq_true hmc
 rw [← e]
 exact qs qa h True.intro
theorem HoldsE.imp {P : Program} {f : FuncId} {args : List PV} {R R' : SV → Prop} (h : HoldsE P f args R) (hr : ∀ r, R r → R' r) : HoldsE P f args R' := ⟨h.1, fun w Sx vs a b c => (h.2 w Sx vs a b c).mono fun e w' ⟨r, v, hR, h2⟩ => ⟨r, v, hr r hR, h2⟩⟩
theorem z1_h : HoldsE Tryz.prog 10 [dgmP xA ⟨2000, [⟨0, -4, -2, -3⟩], 0⟩ xE1] (fun r => r = .p (pI ((1 : Nat) : Int))) :=
 (gsize_h xA ⟨2000, [⟨0, -4, -2, -3⟩], 0⟩ xE1 (by show 1 ≤ 100000; omega)).imp fun r ⟨n, h1, h2, h3⟩ => by
  have e1 : n ≤ 1 := h2
  have e2 : n ≠ 0 := fun h => (h3.1 h) ⟨(by show (0 : Int) ≤ 0; omega), (by show (0 : Int) < ((1 : Nat) : Int); omega)⟩
  clear h2 h3
  have e3 : n = 1 := by omega
  rw [h1, e3]
theorem z2_h : HoldsE Tryz.prog 10 [dgmP xA ⟨2000, [], -3⟩ xE2] (fun r => r = .p (pI ((0 : Nat) : Int))) :=
 (gsize_h xA ⟨2000, [], -3⟩ xE2 (by show 0 ≤ 100000; omega)).imp fun r ⟨n, h1, h2, h3⟩ => by
  have e1 : n ≤ 0 := h2
  clear h2 h3
  have e3 : n = 0 := by omega
  rw [h1, e3]
theorem compileRuns_h : Holds Tryz.prog 3 [] (.p (pB true)) [] := by
 have HZ1 := z1_h
 have HZ2 := z2_h
 have H1 := o1_h
 have H2 := o2_h
 have HD1 := d1_h
 have HD2 := d2_h
 have HD3 := d3_h
 obtain ⟨m1, hm1⟩ : ∃ m : Mk, m = (2, 0) := ⟨_, rfl⟩
 obtain ⟨m2, hm2⟩ : ∃ m : Mk, m = (0, 2) := ⟨_, rfl⟩
 rw [← hm1] at HD1
 rw [← hm2] at HD2 HD3
 generalize hD1 : dgmP xA ⟨2000, [⟨0, -4, -2, -3⟩], 0⟩ xE1 = D1 at *
 generalize hD2 : dgmP xA ⟨2000, [], -3⟩ xE2 = D2 at *
 refine qo (ts := [0]) Tryz.func3 (by kernel_rfl) rfl rfl rfl ?_
 refine uA ?_
 refine uR ?_
 refine uO read1_h ?_
 refine SWT.wk (zg (k := 13000) rfl) ?_
 refine uS ?_
 refine uO H1 ?_
 refine qb ?_
 refine uR ?_
 refine uO read2_h ?_
 refine SWT.wk (zg (k := 18000) rfl) ?_
 refine uS ?_
 refine uO H2 ?_
 refine qb ?_
 obtain ⟨cs1, rfl⟩ : ∃ cs, D1 = .rp cs := ⟨_, hD1.symm⟩
 obtain ⟨cs2, rfl⟩ : ∃ cs, D2 = .rp cs := ⟨_, hD2.symm⟩
 clear hD1 hD2
 refine uR ?_
 refine qy rfl (jl (K := []) (rdO_E qa (s := .p (pB false)) (by rfl)) rfl ?_)
 refine uS ?_
 refine qy rfl (jl (K := []) (rdO_E qa (s := .p (pB false)) (by rfl)) rfl ?_)
 refine uS ?_
 refine qb ?_
 refine uC (fun hc => ?_) (fun hc => ?_)
 · cases hc
 refine qd ?_
 refine uR ?_
 refine uO x_h ?_
 refine SWT.wk (zg (k := 38000) rfl) ?_
 refine uS ?_
 refine uO HD1 ?_
 refine uS ?_
 refine qb ?_
 refine uR ?_
 refine uO HD2 ?_
 refine uS ?_
 refine qb ?_
 refine uR ?_
 refine uO x_h ?_
 refine SWT.wk (zg (k := 49000) rfl) ?_
 refine uS ?_
 refine uO HD3 ?_
 refine uS ?_
 refine qb ?_
 have k1 : m1 ∈ mks := by rw [hm1]; simp [mks]
 have k2 : m2 ∈ mks := by rw [hm2]; simp [mks]
 refine uR ?_
 refine qy rfl (qaG rfl rfl rfl rfl (HZ1) rfl ?_)
 rintro _ rfl
 refine zR ?_
 refine zR ?_
 refine zR ?_
 refine zR ?_
 refine qy rfl (jl (K := []) (rdO_mk (m := m1) (c := (2, 0)) 4607182418800017408 0 hm1 k1 rfl rfl (by kernel_rfl)) rfl ?_)
 refine zR ?_
 refine zR ?_
 refine zR ?_
 refine zR ?_
 refine zR ?_
 refine zR ?_
 refine zR ?_
 refine zR ?_
 refine qy rfl (jl (K := []) (rdO_mk (m := m2) (c := (0, 2)) 0 4607182418800017408 hm2 k2 rfl rfl (by kernel_rfl)) rfl ?_)
 refine zR ?_
 refine zR ?_
 refine zR ?_
 refine zR ?_
 refine zR ?_
 refine zR ?_
 refine zR ?_
 refine qy rfl (qaG rfl rfl rfl rfl (HZ2) rfl ?_)
 rintro _ rfl
 refine zR ?_
 refine zR ?_
 refine zR ?_
 refine zR ?_
 refine zR ?_
 refine qy rfl (jl (K := []) (rdO_mk (m := m2) (c := (0, 2)) 0 4607182418800017408 hm2 k2 rfl rfl (by kernel_rfl)) rfl ?_)
 refine uS ?_
 refine qb ?_
 refine uQ ?_
 exact jJ rfl rfl
inductive RelsP (w : World) : List PV → List Value → Prop
 | nil : RelsP w [] []
 | cons {x : PV} {u : Value} {xs : List PV} {us : List Value} (h : RelP (fun _ => True) w x u) (r : RelsP w xs us) : RelsP w (x :: xs) (u :: us)
theorem RelsP.get {w : World} {xs : List PV} {us : List Value} (h : RelsP w xs us) : us.length = xs.length ∧ ∀ (i : Nat) (s : PV) (u : Value), xs[i]? = some s → us[i]? = some u → RelP (fun _ => True) w s u := by
 induction h with
 | nil => exact ⟨rfl, fun i s u h => by simp at h⟩
 | cons h r ih =>
   refine ⟨by simp [ih.1], fun i s u hs hu => ?_⟩
   cases i with
   | zero => simp at hs hu; subst hs; subst hu; exact h
   | succ i => exact ih.2 i s u (by simpa using hs) (by simpa using hu)
theorem law_callsG {P : Program} {f : FuncId} {args : List PV} {us : List Value} {W : World} (hg : GlOk (entry W) fun _ => False) (H : Holds P f args (.p (.v (.bool true))) []) (hr : RelsP W args us) : Calls P f us.toArray W fun e w' => e = .returned (.bool true) ∧ Below W.heap.size W w' := by
 obtain ⟨h1, h2⟩ := hr.get
 refine (H.2 W (fun _ => False) us ⟨fun _ h => h.elim, hg⟩ h1 fun i s u hs hu => (h2 i s u hs hu).weak fun _ _ _ => fun h => h).mono fun e w' ⟨v, γ, he, hb, _, hv⟩ => ?_
 have := hv.v_inv
 subst this
 exact ⟨he, hb⟩
end Go.Proofs.YtkkbdgijfkocnaaGreatDoor
namespace Go.Proofs.YtkkbdgijfkocnaaGreatDoor
set_option linter.unusedSimpArgs false
open Go.ChangeShapes Go.WideShapes Go.ChangeAt Go.RowKit
set_option linter.unusedVariables false
theorem law_liftL {H : Type} {enc : TypeId × Value → H} {C : Checked} {os : Os} {f : FuncId} {fn : Func} {s : ChangeSpec} {bt : TypeId} {laid : List (String × DataW Unit)}
 (own : ownKnob C.prog.godebug = none) (started : os.Started) (noInit : C.prog.inits.idxOf? f = none) (hfn : C.prog.funcs[f]? = some fn)
 (witness : ∃ (w : World) (tape : Tape) (i : Input), w.os = os ∧ (w.forCall tape i).Shaped C.prog ∧ i.vars = [] ∧ Input.okWide C.prog (w.forCall tape i) .any w.heap.size f i ∧
  ((s.pre enc C.prog fn [] false (w.forCall tape i).memory i.args ∧ laidMetH C.prog laid (w.forCall tape i).memory) ∧ sizedMet enc C.prog fn (OpenSpec.ofChange s) false (w.forCall tape i).memory i.args) ∧ ({} : Assume).holds C.prog (lone (Frame.enter C.prog f i.args .normal) [] (w.forCall tape i)))
 (hl : laidOutB C.prog = true) (hts : ∀ t ∈ fn.params.toList, C.prog.readableRec t = true ∧ t < C.prog.types.size) (hvars : s.vars = []) (hvt : s.plain.varTypes C.prog = [])
 (hspec : ∀ (W : World) (args : Array Value) (ds : List (DataW H)) (ps : List MemPlace), DataW.TrodAll enc C.prog W 0 (fun _ => true) true fn.params.toList args.toList ds ps → s.fn H ds = { results := [.lit (.bool true)], args := ds })
 (hres : fn.resultTypes = #[bt]) (hbt : C.prog.underlying bt = some .bool)
 (walk : ∀ (W : World) (base : Nat) (args : Array Value) (ds : List (DataW H)) (ps : List MemPlace), laidMetH C.prog laid W →
  (∀ (j : Nat) t v, fn.params[j]? = some t → args[j]? = some v → Value.okWide C.prog W .any base t v) →
  DataW.TrodAll enc C.prog W 0 (fun _ => true) true fn.params.toList args.toList ds ps →
  (∀ n ∈ DataW.weightsEach C.prog fn.params.toList ds, n ≤ reachBytes) →
  Calls C.prog f args W fun e W' => e = .returned (.bool true) ∧ Below W.heap.size W W') :
 ReturnsInHanded {} C os f .any (fun w args => (s.pre enc C.prog fn [] false w args ∧ laidMetH C.prog laid w) ∧ sizedMet enc C.prog fn (OpenSpec.ofChange s) false w args) (s.post enc C.prog fn false true false false) := by
 refine returnsInHanded_of_change_and (X := fun w _ => laidMetH C.prog laid w) (fun _ _ _ hh h => h.of_heap hh) own started noInit hfn witness ?_
 intro W base args ds gs before hval hW _ hsz hL _
 have hlt : ∀ p ∈ before, p.block < W.heap.size := fun p hp => hW.lt p hp
 have hW0 := hW
 obtain ⟨p, q, hA, hV, rfl, hz, hn⟩ := hW0
 rw [hvars] at hV
 obtain ⟨rfl, rfl⟩ := trodVars_none hV
 have hsp := hspec W args ds p hA
 refine (walk W base args ds p hL hval hA ?_).mono fun e W' ⟨he, hb⟩ => ?_
 · intro n hn
   rw [hvt, List.append_nil, List.append_nil] at hsz
   exact of_decide_eq_true (List.all_eq_true.1 hsz n hn)
 · subst he
   refine ⟨_, rfl, ds, [], p ++ [], [], p, [], hW, ?_, ?_, ?_, World.keptBut_mono (fun x hx => ⟨hx, Or.inr (Or.inl (by simpa using hx))⟩) (hb.frame (· ∈ p ++ [])), fun h => by cases h⟩
   · rw [List.append_nil, hsp, hres]
     exact trodAll_mk1 (shut_bool hbt _)
   · rw [List.append_nil, hsp]
     exact trodAll_below hl hb hts (fun x hx => hlt x (by simpa using hx)) (fun x hx => by simpa using hlt x (by simpa using hx)) hA
   · rw [List.append_nil, hsp, hvars]
     rfl
theorem jr {P : Program} {x : String × DataW Unit} {l : List (String × DataW Unit)} {W : World} (h : laidMet P (x :: l) W) : laidMet P l W := by
 obtain ⟨ps, ⟨g, t, cs, fuel, p, q, h1, h2, h3, h4, h5, h6⟩, hn, hb⟩ := h
 subst h6
 exact ⟨q, h5, (List.nodup_append.1 hn).2.1, fun b off hm => hb b off (List.mem_append_right _ hm)⟩
theorem block_of_tab {P : Program} {W : World} {name : String} {k : IntKind} {zs : List Int} {g : Nat} (h : Lib.TabIs P W name k zs) (hg : P.globalNamed name = some g) {us : List Value} (hu : us = zs.map fun z => Value.int k z) : g < W.heap.size ∧ ∃ ty m, W.heap[g]? = some (.cells us.toArray ty m) := by
 unfold Lib.TabIs World.var? at h
 rw [hg] at h
 simp only [Option.bind_some] at h
 split at h
 · rename_i cs ty m hb
   cases h
   exact ⟨(Array.getElem?_eq_some_iff.1 hb).1, ty, m, by rw [hb, hu]⟩
 · cases h
theorem err_of_reads {P : Program} {W : World} {name nm : String} {g t : Nat} {ms : Array (String × TypeId)} {d : DataW Unit} (hg : P.globalNamed name = some g) (ht : (P.globals[g]?).map (·.type) = some t) (hu : P.underlying t = some (.interface ms)) (h : Lib.VarReads P W name (.iface nm d)) :
 g < W.heap.size ∧ ∃ ev ty m, W.heap[g]? = some (.cells #[ev] ty m) ∧ errV ev = true := by
 obtain ⟨g', t', cs, fuel, p, h1, h2, h3, h4⟩ := h
 rw [hg] at h1
 cases h1
 rw [ht] at h2
 cases h2
 have hc : ∃ u v, cs.toList = [.iface u v] := by
  cases fuel with
  | zero => cases h4
  | succ fuel =>
    unfold DataW.trod at h4
    rw [hu] at h4
    generalize cs.toList = l at h4
    match l, h4 with
    | [.iface u v], _ => exact ⟨u, v, rfl⟩
    | [.nilIface], h4 => simp at h4
    | [], h4 => simp at h4
    | _ :: _ :: _, h4 => simp at h4
 obtain ⟨u, v, hc⟩ := hc
 have hc' : cs = #[.iface u v] := Array.toList_inj.1 hc
 subst hc'
 unfold World.var? at h3
 rw [hg] at h3
 simp only [Option.bind_some] at h3
 split at h3
 · rename_i cs ty m hb
   cases h3
   exact ⟨(Array.getElem?_eq_some_iff.1 hb).1, _, ty, m, hb, rfl⟩
 · cases h3
end Go.Proofs.YtkkbdgijfkocnaaGreatDoor
namespace Go.Proofs.YtkkbdgijfkocnaaGreatDoor
open Go.RowKit
theorem own_none : ownKnob Tryz.prog.godebug = none := by kernel_rfl
theorem gl_of_laid {rest : List (String × DataW Unit)} {W : World} (h : laidMet Tryz.prog (("math/bits.deBruijn32tab", Rows.laid_math_bits_deBruijn32tab) :: ("math/bits.deBruijn64tab", Rows.laid_math_bits_deBruijn64tab) :: ("internal/strconv.uint64pow10", Rows.laid_internal_strconv_uint64pow10) :: ("strconv.ErrRange", Rows.laid_strconv_ErrRange) :: rest) W) : GlOk (entry W) fun _ => False := by
 have b0 := block_of_tab (g := 4) (us := [.int .u8 0, .int .u8 1, .int .u8 28, .int .u8 2, .int .u8 29, .int .u8 14, .int .u8 24, .int .u8 3, .int .u8 30, .int .u8 22, .int .u8 20, .int .u8 15, .int .u8 25, .int .u8 17, .int .u8 4, .int .u8 8, .int .u8 31, .int .u8 27, .int .u8 13, .int .u8 23, .int .u8 21, .int .u8 19, .int .u8 16, .int .u8 7, .int .u8 26, .int .u8 12, .int .u8 18, .int .u8 6, .int .u8 11, .int .u8 5, .int .u8 10, .int .u8 9]) (Lib.tabIs_of_head (k := .u8) (zs := [0, 1, 28, 2, 29, 14, 24, 3, 30, 22, 20, 15, 25, 17, 4, 8, 31, 27, 13, 23, 21, 19, 16, 7, 26, 12, 18, 6, 11, 5, 10, 9]) (g := 4) (t := 301) (e := 5) (n := 32) (by kernel_rfl) (by kernel_rfl) Tryz.underlying301 Tryz.underlying5 (by kernel_rfl) (by kernel_rfl) h) (by kernel_rfl) rfl
 have b1 := block_of_tab (g := 5) (us := [.int .u8 0, .int .u8 1, .int .u8 56, .int .u8 2, .int .u8 57, .int .u8 49, .int .u8 28, .int .u8 3, .int .u8 61, .int .u8 58, .int .u8 42, .int .u8 50, .int .u8 38, .int .u8 29, .int .u8 17, .int .u8 4, .int .u8 62, .int .u8 47, .int .u8 59, .int .u8 36, .int .u8 45, .int .u8 43, .int .u8 51, .int .u8 22, .int .u8 53, .int .u8 39, .int .u8 33, .int .u8 30, .int .u8 24, .int .u8 18, .int .u8 12, .int .u8 5, .int .u8 63, .int .u8 55, .int .u8 48, .int .u8 27, .int .u8 60, .int .u8 41, .int .u8 37, .int .u8 16, .int .u8 46, .int .u8 35, .int .u8 44, .int .u8 21, .int .u8 52, .int .u8 32, .int .u8 23, .int .u8 11, .int .u8 54, .int .u8 26, .int .u8 40, .int .u8 15, .int .u8 34, .int .u8 20, .int .u8 31, .int .u8 10, .int .u8 25, .int .u8 14, .int .u8 19, .int .u8 9, .int .u8 13, .int .u8 8, .int .u8 7, .int .u8 6]) (Lib.tabIs_of_head (k := .u8) (zs := [0, 1, 56, 2, 57, 49, 28, 3, 61, 58, 42, 50, 38, 29, 17, 4, 62, 47, 59, 36, 45, 43, 51, 22, 53, 39, 33, 30, 24, 18, 12, 5, 63, 55, 48, 27, 60, 41, 37, 16, 46, 35, 44, 21, 52, 32, 23, 11, 54, 26, 40, 15, 34, 20, 31, 10, 25, 14, 19, 9, 13, 8, 7, 6]) (g := 5) (t := 302) (e := 5) (n := 64) (by kernel_rfl) (by kernel_rfl) Tryz.underlying302 Tryz.underlying5 (by kernel_rfl) (by kernel_rfl) (jr h)) (by kernel_rfl) rfl
 have b2 := block_of_tab (g := 3) (us := [.int .u64 1, .int .u64 10, .int .u64 100, .int .u64 1000, .int .u64 10000, .int .u64 100000, .int .u64 1000000, .int .u64 10000000, .int .u64 100000000, .int .u64 1000000000, .int .u64 10000000000, .int .u64 100000000000, .int .u64 1000000000000, .int .u64 10000000000000, .int .u64 100000000000000, .int .u64 1000000000000000, .int .u64 10000000000000000, .int .u64 100000000000000000, .int .u64 1000000000000000000, .int .u64 10000000000000000000]) (Lib.tabIs_of_head (k := .u64) (zs := [1, 10, 100, 1000, 10000, 100000, 1000000, 10000000, 100000000, 1000000000, 10000000000, 100000000000, 1000000000000, 10000000000000, 100000000000000, 1000000000000000, 10000000000000000, 100000000000000000, 1000000000000000000, 10000000000000000000]) (g := 3) (t := 290) (e := 263) (n := 20) (by kernel_rfl) (by kernel_rfl) Tryz.underlying290 Tryz.underlying263 (by kernel_rfl) (by kernel_rfl) (jr (jr h))) (by kernel_rfl) rfl
 have bE := err_of_reads (g := 2) (t := 234) (by kernel_rfl) (by kernel_rfl) Tryz.underlying234 (Lib.laidMet.reads (jr (jr (jr h))) (List.mem_cons_self ..))
 refine ⟨?_, fun g hg => ?_⟩
 rotate_left
 · have e : g = 2 := by simpa [ETab] using hg
   subst e
   exact ⟨bE.1, fun h => h, bE.2⟩
 intro g us hg
 simp only [GTab, qA] at hg
 repeat' split at hg
 all_goals first | cases hg; done | skip
 all_goals (subst_vars; cases hg)
 all_goals first | exact ⟨b0.1, fun h => h, b0.2⟩ | exact ⟨b1.1, fun h => h, b1.2⟩ | exact ⟨b2.1, fun h => h, b2.2⟩
noncomputable def lowB : Nat := (World.holding Tryz.prog default ⟨#[], #[], []⟩).heap.size
noncomputable def worldB (os : Os) : World :=
 let w0 := World.holding Tryz.prog os ⟨#[.cells #[.string ⟨#[118, 97, 108, 117, 101, 32, 111, 117, 116, 32, 111, 102, 32, 114, 97, 110, 103, 101]⟩] 298, .cells #[.string ⟨#[105, 110, 118, 97, 108, 105, 100, 32, 115, 121, 110, 116, 97, 120]⟩] 298], #[], []⟩
 { w0 with heap := ((((((((((w0.heap).modify 4 fun | .cells _ t frozen => .cells #[.int .u8 0, .int .u8 1, .int .u8 28, .int .u8 2, .int .u8 29, .int .u8 14, .int .u8 24, .int .u8 3, .int .u8 30, .int .u8 22, .int .u8 20, .int .u8 15, .int .u8 25, .int .u8 17, .int .u8 4, .int .u8 8, .int .u8 31, .int .u8 27, .int .u8 13, .int .u8 23, .int .u8 21, .int .u8 19, .int .u8 16, .int .u8 7, .int .u8 26, .int .u8 12, .int .u8 18, .int .u8 6, .int .u8 11, .int .u8 5, .int .u8 10, .int .u8 9] t frozen | o => o)).modify 5 fun | .cells _ t frozen => .cells #[.int .u8 0, .int .u8 1, .int .u8 56, .int .u8 2, .int .u8 57, .int .u8 49, .int .u8 28, .int .u8 3, .int .u8 61, .int .u8 58, .int .u8 42, .int .u8 50, .int .u8 38, .int .u8 29, .int .u8 17, .int .u8 4, .int .u8 62, .int .u8 47, .int .u8 59, .int .u8 36, .int .u8 45, .int .u8 43, .int .u8 51, .int .u8 22, .int .u8 53, .int .u8 39, .int .u8 33, .int .u8 30, .int .u8 24, .int .u8 18, .int .u8 12, .int .u8 5, .int .u8 63, .int .u8 55, .int .u8 48, .int .u8 27, .int .u8 60, .int .u8 41, .int .u8 37, .int .u8 16, .int .u8 46, .int .u8 35, .int .u8 44, .int .u8 21, .int .u8 52, .int .u8 32, .int .u8 23, .int .u8 11, .int .u8 54, .int .u8 26, .int .u8 40, .int .u8 15, .int .u8 34, .int .u8 20, .int .u8 31, .int .u8 10, .int .u8 25, .int .u8 14, .int .u8 19, .int .u8 9, .int .u8 13, .int .u8 8, .int .u8 7, .int .u8 6] t frozen | o => o)).modify 3 fun | .cells _ t frozen => .cells #[.int .u64 1, .int .u64 10, .int .u64 100, .int .u64 1000, .int .u64 10000, .int .u64 100000, .int .u64 1000000, .int .u64 10000000, .int .u64 100000000, .int .u64 1000000000, .int .u64 10000000000, .int .u64 100000000000, .int .u64 1000000000000, .int .u64 10000000000000, .int .u64 100000000000000, .int .u64 1000000000000000, .int .u64 10000000000000000, .int .u64 100000000000000000, .int .u64 1000000000000000000, .int .u64 10000000000000000000] t frozen | o => o)).modify 2 fun | .cells _ t frozen => .cells #[.iface 296 (.pointer (some ⟨lowB + 0, 0, none⟩))] t frozen | o => o)).modify 1 fun | .cells _ t frozen => .cells #[.iface 296 (.pointer (some ⟨lowB + 1, 0, none⟩))] t frozen | o => o) }
theorem worldB_met (os : Os) (args : Array Value) : laidMet Tryz.prog [("math/bits.deBruijn32tab", Rows.laid_math_bits_deBruijn32tab), ("math/bits.deBruijn64tab", Rows.laid_math_bits_deBruijn64tab), ("internal/strconv.uint64pow10", Rows.laid_internal_strconv_uint64pow10), ("strconv.ErrRange", Rows.laid_strconv_ErrRange), ("strconv.ErrSyntax", Rows.laid_strconv_ErrSyntax)] ((worldB os).forCall (fun _ _ => 0) ⟨#[], args, []⟩).memory :=
 laidMet_of_run' 100 (by kernel_rfl) (by kernel_rfl)
end Go.Proofs.YtkkbdgijfkocnaaGreatDoor
