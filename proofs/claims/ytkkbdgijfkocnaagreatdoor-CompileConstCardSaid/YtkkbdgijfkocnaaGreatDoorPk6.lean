/-
  What the statement leans on, part 6: OfH, EvM, AtB, DecH, ConH, Canon, Succ, SuccP, WalkH, ConP, ShMake, Const, RunsE, CompRuns, LawKit0, LawL, Laid.
-/
import Derived.Laws.MakeOwn
import Derived.Laws.CopyRow
import Derived.Test.YtkkbdgijfkocnaaGreatDoorRows
import Derived.Lib.LaidTab
import Derived.Lib.LaidU8
import Derived.LaidLaws
import Derived.LaidHandle
import Derived.Stop.Joined
import Derived.ChangeSame
import Derived.ChangeVars
import Derived.JoinedOf
import Derived.RowKitTokens
import Derived.Test.YtkkbdgijfkocnaaGreatDoorPk1
import Derived.Test.YtkkbdgijfkocnaaGreatDoorPk2
import Derived.Test.YtkkbdgijfkocnaaGreatDoorPk3
import Derived.Test.YtkkbdgijfkocnaaGreatDoorPk4
import Derived.Test.YtkkbdgijfkocnaaGreatDoorPk5
namespace Go.Proofs.YtkkbdgijfkocnaaGreatDoor
set_option linter.unusedVariables false
set_option linter.unusedSimpArgs false
open Go.RowKit
set_option maxHeartbeats 4000000
def dgmP (at_ : List Atm) (p : Pt) (E : List Rs) : PV := .rp [dagP p.m p.l, pI p.r, atmsP at_, rssP E]
theorem cof_ok {n : Nat} (p : Pol) (hf : PolF n p) (hsz : p.sz ≤ 10000) (h : zj p = 0) (hl : (qM p).length ≤ 64) (he : (polPt (qM p) 4 [] p).e = 0) : Holds Tryz.prog 6 [.agg (polP p)] (.tup [.p (dgmP (qM p) (polPt (qM p) 4 [] p).p (polPt (qM p) 4 [] p).E), .p (pI 0)]) [] := by
 have HO := of_ok p hf (by omega) h hl
 have HP := policy_all (qM p) (atOk_right hsz hl) 4 p (polK_right h hsz) [] (fun x hx => nomatch hx) (by have := wn_sz 4 p; show 0 + 6001 * p.wn 4 ≤ 70000000; omega)
 have hz := fun h => polPt_z (at_ := qM p) (n := 4) (E := []) (p := p) h
 generalize qM p = at_ at *
 generalize polPt at_ 4 [] p = R at *
 obtain ⟨z, q, e, E⟩ := R
 rw [qG] at HO HP ⊢
 refine qo (ts := [2,3]) Tryz.func6 (by kernel_rfl) rfl rfl rfl ?_
 refine uA ?_
 refine uR ?_
 refine uO HO ?_
 refine qb ?_
 refine SW.wk (zg (k := 10000) rfl) ?_
 refine uA ?_
 refine uC (fun h6 => ?_) (fun h6 => ?_)
 · cases h6
 refine qd ?_
 refine uA ?_
 refine SW.wk (wk_nilc 17 3 900 37 2 rfl rfl rfl) ?_
 simp only at he
 subst he
 rw [hz rfl] at HP
 simp only at HP ⊢
 refine uR ?_
 refine uW [(17, 1000000), (900, 1000001)] HP ?_
 refine qb ?_
 refine uA ?_
 refine uC (fun h7 => ?_) (fun h7 => ?_)
 · cases h7
 refine qd ?_
 refine uZ [6] [(17, 1), (23000, 2)] ?_
 refine SW.wk (zg (k := 2) rfl) ?_
 refine SW.wk (wk_frzB (k := 1) rfl rfl) ?_
 refine uA ?_
 refine uQ ?_
 exact uF []
set_option maxHeartbeats 4000000
def AtB (N : Int) (l : List Br) : Prop := ∀ b ∈ l, b.atom < N
theorem atB_nil (N : Int) : AtB N [] := fun b hb => nomatch hb
theorem atB_make {m : Int} {l : List Br} {x : Br} {N : Int} (h : AtB N l) (hx : x.atom < N) : AtB N (zU m l x).2.2 := by
 unfold zU
 repeat' split
 all_goals first | exact h | skip
 intro b hb
 rcases List.mem_append.1 hb with hb | hb
 · exact h b hb
 · rw [List.mem_singleton.1 hb]; exact hx
theorem atB_way {σ : Type} {ps : List Pt} {f : σ → List Int → Int × σ} {N : Int} (hp : ∀ p ∈ ps, AtB N p.l) : ∀ (n : Nat) (w : Wv σ) (row : List Int), AtB N w.d → AtB N (wayW ps f n w row).2.2.d
 | 0, w, row, h => h
 | n + 1, w, row, h => by
   cases hm : metF w.met row with
   | some v => rw [wG hm]; exact h
   | none =>
     by_cases h1 : 6000 < w.rows + 1
     · rw [wy hm h1]; exact h
     by_cases h2 : qq (ps.zip row) = 64
     · rw [qaJ hm h1 h2]; exact h
     have ha : qq (ps.zip row) < N := by
      rcases atomW_some (ps.zip row) 64 with e | ⟨p, hpp, b, hb, e⟩
      · exact absurd e h2
      · obtain ⟨k, hk, _, e2⟩ := zY hb
        have := hp p.1 (List.of_mem_zip (a := p.1) (b := p.2) hpp).1 b (e2 ▸ List.getElem_mem hk)
        show (ps.zip row).foldl minF 64 < N
        rw [e]; exact this
     obtain ⟨⟨v0, e0, w0⟩, q0⟩ : ∃ r, wayW ps f n w.inc (onW (ps.zip row) (qq (ps.zip row)) 0) = r := ⟨_, rfl⟩
     have i0 := atB_way (f := f) hp n w.inc (onW (ps.zip row) (qq (ps.zip row)) 0) h
     rw [q0] at i0
     by_cases z0 : e0 = 0
     rotate_left
     · rw [way_e0 hm h1 h2 q0 z0]; exact i0
     subst z0
     obtain ⟨⟨v1, e1, w1⟩, q1⟩ : ∃ r, wayW ps f n w0 (onW (ps.zip row) (qq (ps.zip row)) 1) = r := ⟨_, rfl⟩
     have i1 := atB_way (f := f) hp n w0 (onW (ps.zip row) (qq (ps.zip row)) 1) i0
     rw [q1] at i1
     by_cases z1 : e1 = 0
     rotate_left
     · rw [way_e1 hm h1 h2 q0 q1 z1]; exact i1
     subst z1
     obtain ⟨⟨v2, e2, w2⟩, q2⟩ : ∃ r, wayW ps f n w1 (onW (ps.zip row) (qq (ps.zip row)) 2) = r := ⟨_, rfl⟩
     have i2 := atB_way (f := f) hp n w1 (onW (ps.zip row) (qq (ps.zip row)) 2) i1
     rw [q2] at i2
     by_cases z2 : e2 = 0
     rotate_left
     · rw [way_e2 hm h1 h2 q0 q1 q2 z2]; exact i2
     subst z2
     rw [way_ok hm h1 h2 q0 q1 q2]
     exact atB_make i2 ha
theorem atB_asked (at_ : List Atm) (a : Atm) : AtB at_.length (qaf at_ a).l := by
 refine atB_make (atB_nil _) ?_
 show jU at_ a < at_.length
 by_cases h : a ∈ at_
 · exact findA_lt h
 · rw [findA_no h]; omega
theorem atB_woven {ps : List Pt} {fl : List Int → Int} {N : Int} (hp : ∀ p ∈ ps, AtB N p.l) : AtB N (wovenP (jg ps fl)).l := atB_way hp 66 _ _ (atB_nil N)
theorem atB_seq {β : Type} {g : β → Pt × Int} {fl : List Int → Int} {N : Int} (hg : ∀ x, AtB N (g x).1.l) (l : List β) : AtB N (wvSeq fl (jM g l)).1.l := by
 have key : ∀ l : List β, (∀ p ∈ (jM g l).1, AtB N p.l) ∧ ∀ pe, (jM g l).2 = some pe → AtB N pe.1.l := by
  intro l
  induction l with
  | nil => exact ⟨(fun p hp => nomatch hp), (fun pe h => nomatch h)⟩
  | cons x r ih =>
    rw [jM]
    split
    · exact ⟨(fun p hp => nomatch hp), (fun pe e => by cases e; exact hg x)⟩
    · refine ⟨fun p hp => ?_, ih.2⟩
      rcases List.mem_cons.1 hp with rfl | hp
      · exact hg x
      · exact ih.1 p hp
 obtain ⟨k1, k2⟩ := key l
 unfold wvSeq
 cases e : (jM g l).2 with
 | some pe => exact k2 pe e
 | none => exact atB_woven k1
theorem atB_all (at_ : List Atm) (y : List Mat) : AtB at_.length (wF at_ y).1.l := atB_woven fun p hp => by obtain ⟨m, _, rfl⟩ := List.mem_map.1 hp; exact atB_asked at_ _
theorem atB_any (at_ : List Atm) (x : List (List Mat)) : AtB at_.length (ju at_ x).1.l := atB_seq (atB_all at_) x
theorem atB_tar (at_ : List Atm) (t : Tar) : AtB at_.length (zP at_ t).1.l := atB_seq (atB_any at_) t
theorem atB_wovenB {ps : List Pt} {f : List Rs → List Int → Int × List Rs} {E : List Rs} {N : Int} (hp : ∀ p ∈ ps, AtB N p.l) : AtB N (wovenQ (jq ps f E)).l := atB_way hp 66 _ _ (atB_nil N)
theorem atB_rul (at_ : List Atm) (E : List Rs) (r : Rul) : AtB at_.length (qaH at_ E r).1.1.l := by
 unfold qaH
 split
 · exact atB_tar at_ _
 · refine atB_wovenB fun p hp => ?_
   unfold rulPs at hp
   rcases List.mem_cons.1 hp with rfl | hp
   · exact atB_tar at_ _
   · split at hp
     · cases hp
     · rw [List.mem_singleton.1 hp]; exact atB_asked at_ _
theorem atB_seqE {β : Type} {g : List Rs → β → PR} {N : Int} (hg : ∀ E x, AtB N (g E x).p.l) : ∀ (l : List β) (E : List Rs), ∀ p ∈ (seqE g E l).1, AtB N p.l
 | [], E, p, hp => nomatch hp
 | x :: l, E, p, hp => by
   rw [seqE] at hp
   split at hp
   · cases hp
   · rcases List.mem_cons.1 hp with rfl | hp
     · exact hg E x
     · exact atB_seqE hg l _ p hp
theorem atB_pol (at_ : List Atm) : ∀ (n : Nat) (E : List Rs) (p : Pol), AtB at_.length (polPt at_ n E p).p.l
 | 0, E, p => by rw [polPt]; exact atB_nil _
 | n + 1, E, p => by
   rw [polPt]
   split
   · exact atB_nil _
   · split
     · exact atB_nil _
     · refine atB_wovenB fun q hq => ?_
       rcases List.mem_cons.1 hq with rfl | hq
       · exact atB_tar at_ _
       · refine atB_seqE (fun E s => ?_) (ze p) E q hq
         cases s with
         | inl r => exact atB_rul at_ E r
         | inr k => exact atB_pol at_ n E k
inductive EvN (l : List Br) (α : Int → Nat) : Int → Nat → Int → Prop
 | leaf {w : Int} : w < 0 → EvN l α w 0 w
 | step {w e : Int} {n : Nat} {b : Br} : brD l w = some b → EvN l α (b.to (α b.atom)) n e → EvN l α w (n + 1) e
theorem Ev.steps {l : List Br} {α : Int → Nat} {w e : Int} (h : Ev l α w e) : ∃ n, EvN l α w n e := by
 induction h with
 | leaf h => exact ⟨0, .leaf h⟩
 | step hb _ ih => obtain ⟨n, hn⟩ := ih; exact ⟨n + 1, .step hb hn⟩
theorem EvN.neg {l : List Br} {α : Int → Nat} {w e : Int} {n : Nat} (h : EvN l α w n e) : e < 0 := by
 induction h with
 | leaf h => exact h
 | step _ _ ih => exact ih
theorem EvN.few {l : List Br} (hw : WfB l) {α : Int → Nat} (hα : ∀ a, α a < 3) {w e : Int} {n : Nat} (h : EvN l α w n e) : (w < 0 → n = 0) ∧ (0 ≤ w → (n : Int) ≤ w + 1) := by
 induction h with
 | leaf h => exact ⟨fun _ => rfl, fun h2 => absurd h (by omega)⟩
 | @step w e n b hb _ ih =>
   obtain ⟨k, hk, rfl, rfl⟩ := zY hb
   refine ⟨fun h => absurd h (by omega), fun _ => ?_⟩
   obtain ⟨_, _, hj⟩ := hw k hk
   obtain ⟨_, h2⟩ := hj _ (hα l[k].atom)
   by_cases h0 : l[k].to (α l[k].atom) < 0
   · have := ih.1 h0; omega
   · obtain ⟨k', hk', e', _⟩ := h2 (by omega)
     have := ih.2 (by omega)
     omega
def askα (at_ : List Atm) (g : List Giv) (a : Int) : Nat := match at_[a.toNat]? with
 | some x => (askS x.m x.c g).toNat
 | none => 0
theorem askS_range (m : Mat) (c : List Nod) (g : List Giv) : 0 ≤ askS m c g ∧ askS m c g ≤ 2 := by
 unfold askS
 split
 · exact matchT_range m g
 · exact condS_range c g
section
variable {at_ : List Atm} {g : List Giv}
end
set_option maxHeartbeats 4000000
theorem cloneO_h (l : List Obli) (hn : l.length ≤ 1000000) : Holds Tryz.prog 48 [jc l] (.p (jc l)) [] := by
 refine .ofW ?_
 refine qz (T := TTab) qa Tryz.func48 (by kernel_rfl) rfl rfl rfl ?_
 refine uA ?_
 refine uR ?_
 refine qy rfl (act_nilcmp qa rfl rfl rfl rfl rfl rfl (fun b hb => ?_))
 refine qb ?_
 refine uC (fun hc => ?_) (fun hc => ?_)
 · have hl := hb hc
   have hl' : l = [] := by simpa using hl
   subst hl'
   refine uA ?_
   refine uQ ?_
   exact ⟨Or.inr rfl, _, _, [], _, Wk.refl _, rfl, rfl, (.p (.nil 3)), rfl, rfl⟩
 · refine qd ?_
   refine uR ?_
   refine qy rfl (qg qa rfl rfl rfl rfl rfl rfl rfl rfl rfl rfl rfl rfl rfl rfl rfl rfl (by simp [reachBytes]; omega) (by simp; omega) ?_)
   refine uS ?_
   refine qb ?_
   refine uQ ?_
   exact ⟨Or.inr rfl, _, _, [], _, zg (k := 7) rfl, rfl, rfl, .refl _, rfl, rfl⟩
theorem dresult_h (at_ : List Atm) (p : Pt) (E : List Rs) (hE : EK E) (i : Int) (x : Rs) (h0 : 0 ≤ i) (hx : E[i.toNat]? = some x) : Holds Tryz.prog 24 [dgmP at_ p E, pI i] (.p (.agg (rsP x))) [] := by
 obtain ⟨hi, hxe⟩ := List.getElem?_eq_some_iff.1 hx
 have HC := cloneO_h x.obls (hE x (hxe ▸ List.getElem_mem hi)).2
 have lE : (E.map rsP).length = E.length := by simp
 have e9 : (E.map rsP).getD (Int.toNat i) [] = rsP x := by rw [List.getD_eq_getElem?_getD, List.getElem?_map, hx]; rfl
 refine .ofW ?_
 refine qz (T := TTab) qa Tryz.func24 (by kernel_rfl) rfl rfl rfl ?_
 refine uA ?_
 refine uR ?_
 refine qe qa rfl rfl (by rw [lE]; omega) rfl ?_
 rw [e9]
 refine uS ?_
 refine qb ?_
 refine uR ?_
 refine uO HC ?_
 refine qb ?_
 refine uA ?_
 refine uQ ?_
 exact ⟨Or.inr rfl, _, _, [], _, Wk.refl _, rfl, rfl, .refl _, rfl, rfl⟩
def stD (at_ : List Atm) (p : Pt) (E : List Rs) (g : List Giv) (w n : Int) (b : Br) : St := ⟨47, [(0, .p (dgmP at_ p E)), (1, .p (zm g)), (4, .ptr 4 0), (6, .ptr 6 0), (8, .p (pI w)), (9, .p (pI n))], [(4, .cells [.p (mkP (0, 0)), .p nilV]), (6, .cells [.p (pI b.atom), .p (pI b.a), .p (pI b.b), .p (pI b.c)])]⟩
theorem ddec_h (at_ : List Atm) (p : Pt) (E : List Rs) (hE : EK E) (g : List Giv) (hAsk : ∀ x ∈ at_, Holds Tryz.prog 25 [.agg x.pv, zm g] (.p (pI (askS x.m x.c g))) []) (hW : WfB p.l) (hfew : p.l.length ≤ 2000) (hA : AtB at_.length p.l) (N : Nat) (hN9 : N ≤ 2001) (i : Int) (h0 : 0 ≤ i) (hi9 : i ≤ 1000000000) (x : Rs) (hx : E[i.toNat]? = some x) (hN : EvN p.l (askα at_ g) p.r N (-1 - i)) :
 Holds Tryz.prog 8 [dgmP at_ p E, zm g] (.tup [.p (.agg (rsP x)), .p (pI (N : Int))]) [] := by
 have la : (at_.map Atm.pv).length = at_.length := by simp
 refine .ofW ?_
 refine qz (T := TTab) qa Tryz.func8 (by kernel_rfl) rfl rfl rfl ?_
 refine uA ?_
 (repeat refine qH ?_); refine sw_scope 0 (fun m s => ∃ (w : Int) (k : Nat) (b : Br), EvN p.l (askα at_ g) w m (-1 - i) ∧ k + m = N ∧ s = stD at_ p E g w (k : Int) b) rfl ?_ ?_
 · refine uA ?_
   refine uA ?_
   refine uA ?_
   refine uZ [0, 1, 4, 6, 8, 9] [(4, 4), (6, 6)] ?_
   (repeat refine qH ?_); refine sw_label ?_
   change SW _ _ _ (stD at_ p E g p.r ((0 : Nat) : Int) zeroBr)
   obtain ⟨w, m, k, b, hv, hk, hS⟩ : ∃ (w : Int) (m k : Nat) (b : Br), EvN p.l (askα at_ g) w m (-1 - i) ∧ k + m = N ∧ stD at_ p E g p.r ((0 : Nat) : Int) zeroBr = stD at_ p E g w (k : Int) b := ⟨_, N, 0, _, hN, by omega, rfl⟩
   rw [hS]
   clear hS
   unfold stD
   have hB := jI p.m p.l (by omega) w
   refine uR ?_
   refine uK hB ?_
   refine qb ?_
   refine uA ?_
   cases hv with
   | leaf hneg =>
     obtain rfl : k = N := by omega
     have hb0 : brD p.l (-1 - i) = none := brD_neg hneg
     unfold brGet
     rw [hb0]
     refine uC (fun hc => ?_) (fun hc => ?_)
     rotate_left
     · cases hc
     refine uR ?_
     rw [show IntKind.i64.wrap (-1 - (-1 - i)) = i by rw [IntWalk.i64_in _ (by omega)]; omega]
     refine uO (dresult_h at_ p E hE i x h0 hx) ?_
     refine qb ?_
     refine uQ ?_
     exact ⟨Or.inr rfl, _, _, [], _, Wk.refl _, rfl, rfl, .refl _, rfl, rfl⟩
   | @step _ _ m' bb hbb hv' =>
     obtain ⟨q, hq, hwq, hbq⟩ := zY hbb
     have hwf := hW q hq
     rw [← hbq] at hwf
     have hat := hA bb (hbq ▸ List.getElem_mem hq)
     have hk9 : bb.atom.toNat < at_.length := by omega
     have e9 : (at_.map Atm.pv).getD (Int.toNat bb.atom) [] = at_[bb.atom.toNat].pv := by rw [List.getD_eq_getElem?_getD, List.getElem?_map, List.getElem?_eq_getElem hk9]; rfl
     have HA := hAsk _ (List.getElem_mem hk9)
     have hr := askS_range at_[bb.atom.toNat].m at_[bb.atom.toNat].c g
     have eα : askα at_ g bb.atom = (askS at_[bb.atom.toNat].m at_[bb.atom.toNat].c g).toNat := by unfold askα; rw [List.getElem?_eq_getElem hk9]
     rw [eα] at hv'
     generalize at_[bb.atom.toNat] = a at *
     generalize askS a.m a.c g = v at *
     unfold brGet
     rw [hbb, show ((some bb).getD zeroBr) = bb from rfl]
     refine uC (fun hc => ?_) (fun hc => ?_)
     · cases hc
     refine qd ?_
     have hvs : v = 0 ∨ v = 1 ∨ v = 2 := by omega
     rcases hvs with rfl | rfl | rfl
     · refine uD [] [1, 3, 5, 7, 9, 11, 13, 15, 17, 21, 18, 23, 25, 27] ?_
       refine qx qa rfl rfl rfl (by rw [la]; omega) rfl ?_
       rw [e9]
       refine uT ?_
       refine uk HA ?_
       refine uT ?_
       refine qx qa rfl rfl rfl (by decide) rfl ?_
       refine uT ?_
       refine qY ?_
       refine uA ?_
       (repeat refine qH ?_); refine qaF ?_
       first
        | exact ⟨rfl, _, _, qh [0, 1, 4, 6, 8, 9] [(4, 4), (6, 6)] rfl rfl, _, k + 1, bb, hv', by omega, by rw [show IntKind.i64.wrap ((k : Int) + 1) = ((k + 1 : Nat) : Int) from IntWalk.i64_in _ (by omega)]; rfl⟩
        | exact ⟨rfl, _, _, (by omega), qh [0, 1, 4, 6, 8, 9] [(4, 4), (6, 6)] rfl rfl, _, k + 1, bb, hv', by omega, by rw [show IntKind.i64.wrap ((k : Int) + 1) = ((k + 1 : Nat) : Int) from IntWalk.i64_in _ (by omega)]; rfl⟩
     · refine uD [] [1, 3, 5, 7, 9, 11, 13, 15, 17, 21, 18, 23, 25, 27] ?_
       refine qx qa rfl rfl rfl (by rw [la]; omega) rfl ?_
       rw [e9]
       refine uT ?_
       refine uk HA ?_
       refine uT ?_
       refine qx qa rfl rfl rfl (by decide) rfl ?_
       refine uT ?_
       refine qY ?_
       refine uA ?_
       (repeat refine qH ?_); refine qaF ?_
       first
        | exact ⟨rfl, _, _, qh [0, 1, 4, 6, 8, 9] [(4, 4), (6, 6)] rfl rfl, _, k + 1, bb, hv', by omega, by rw [show IntKind.i64.wrap ((k : Int) + 1) = ((k + 1 : Nat) : Int) from IntWalk.i64_in _ (by omega)]; rfl⟩
        | exact ⟨rfl, _, _, (by omega), qh [0, 1, 4, 6, 8, 9] [(4, 4), (6, 6)] rfl rfl, _, k + 1, bb, hv', by omega, by rw [show IntKind.i64.wrap ((k : Int) + 1) = ((k + 1 : Nat) : Int) from IntWalk.i64_in _ (by omega)]; rfl⟩
     · refine uD [] [1, 3, 5, 7, 9, 11, 13, 15, 17, 21, 18, 23, 25, 27] ?_
       refine qx qa rfl rfl rfl (by rw [la]; omega) rfl ?_
       rw [e9]
       refine uT ?_
       refine uk HA ?_
       refine uT ?_
       refine qx qa rfl rfl rfl (by decide) rfl ?_
       refine uT ?_
       refine qY ?_
       refine uA ?_
       (repeat refine qH ?_); refine qaF ?_
       first
        | exact ⟨rfl, _, _, qh [0, 1, 4, 6, 8, 9] [(4, 4), (6, 6)] rfl rfl, _, k + 1, bb, hv', by omega, by rw [show IntKind.i64.wrap ((k : Int) + 1) = ((k + 1 : Nat) : Int) from IntWalk.i64_in _ (by omega)]; rfl⟩
        | exact ⟨rfl, _, _, (by omega), qh [0, 1, 4, 6, 8, 9] [(4, 4), (6, 6)] rfl rfl, _, k + 1, bb, hv', by omega, by rw [show IntKind.i64.wrap ((k : Int) + 1) = ((k + 1 : Nat) : Int) from IntWalk.i64_in _ (by omega)]; rfl⟩
 · rintro m s ⟨w, k, b, hv, hk, rfl⟩
   unfold stD
   refine qH ?_
   refine qd ?_
   have hB := jI p.m p.l (by omega) w
   refine uR ?_
   refine uK hB ?_
   refine qb ?_
   refine uA ?_
   cases hv with
   | leaf hneg =>
     obtain rfl : k = N := by omega
     have hb0 : brD p.l (-1 - i) = none := brD_neg hneg
     unfold brGet
     rw [hb0]
     refine uC (fun hc => ?_) (fun hc => ?_)
     rotate_left
     · cases hc
     refine uR ?_
     rw [show IntKind.i64.wrap (-1 - (-1 - i)) = i by rw [IntWalk.i64_in _ (by omega)]; omega]
     refine uO (dresult_h at_ p E hE i x h0 hx) ?_
     refine qb ?_
     refine uQ ?_
     exact ⟨Or.inr rfl, _, _, [], _, Wk.refl _, rfl, rfl, .refl _, rfl, rfl⟩
   | @step _ _ m' bb hbb hv' =>
     obtain ⟨q, hq, hwq, hbq⟩ := zY hbb
     have hwf := hW q hq
     rw [← hbq] at hwf
     have hat := hA bb (hbq ▸ List.getElem_mem hq)
     have hk9 : bb.atom.toNat < at_.length := by omega
     have e9 : (at_.map Atm.pv).getD (Int.toNat bb.atom) [] = at_[bb.atom.toNat].pv := by rw [List.getD_eq_getElem?_getD, List.getElem?_map, List.getElem?_eq_getElem hk9]; rfl
     have HA := hAsk _ (List.getElem_mem hk9)
     have hr := askS_range at_[bb.atom.toNat].m at_[bb.atom.toNat].c g
     have eα : askα at_ g bb.atom = (askS at_[bb.atom.toNat].m at_[bb.atom.toNat].c g).toNat := by unfold askα; rw [List.getElem?_eq_getElem hk9]
     rw [eα] at hv'
     generalize at_[bb.atom.toNat] = a at *
     generalize askS a.m a.c g = v at *
     unfold brGet
     rw [hbb, show ((some bb).getD zeroBr) = bb from rfl]
     refine uC (fun hc => ?_) (fun hc => ?_)
     · cases hc
     refine qd ?_
     have hvs : v = 0 ∨ v = 1 ∨ v = 2 := by omega
     rcases hvs with rfl | rfl | rfl
     · refine uD [] [1, 3, 5, 7, 9, 11, 13, 15, 17, 21, 18, 23, 25, 27] ?_
       refine qx qa rfl rfl rfl (by rw [la]; omega) rfl ?_
       rw [e9]
       refine uT ?_
       refine uk HA ?_
       refine uT ?_
       refine qx qa rfl rfl rfl (by decide) rfl ?_
       refine uT ?_
       refine qY ?_
       refine uA ?_
       (repeat refine qH ?_); refine qaF ?_
       first
        | exact ⟨rfl, _, _, qh [0, 1, 4, 6, 8, 9] [(4, 4), (6, 6)] rfl rfl, _, k + 1, bb, hv', by omega, by rw [show IntKind.i64.wrap ((k : Int) + 1) = ((k + 1 : Nat) : Int) from IntWalk.i64_in _ (by omega)]; rfl⟩
        | exact ⟨rfl, _, _, (by omega), qh [0, 1, 4, 6, 8, 9] [(4, 4), (6, 6)] rfl rfl, _, k + 1, bb, hv', by omega, by rw [show IntKind.i64.wrap ((k : Int) + 1) = ((k + 1 : Nat) : Int) from IntWalk.i64_in _ (by omega)]; rfl⟩
     · refine uD [] [1, 3, 5, 7, 9, 11, 13, 15, 17, 21, 18, 23, 25, 27] ?_
       refine qx qa rfl rfl rfl (by rw [la]; omega) rfl ?_
       rw [e9]
       refine uT ?_
       refine uk HA ?_
       refine uT ?_
       refine qx qa rfl rfl rfl (by decide) rfl ?_
       refine uT ?_
       refine qY ?_
       refine uA ?_
       (repeat refine qH ?_); refine qaF ?_
       first
        | exact ⟨rfl, _, _, qh [0, 1, 4, 6, 8, 9] [(4, 4), (6, 6)] rfl rfl, _, k + 1, bb, hv', by omega, by rw [show IntKind.i64.wrap ((k : Int) + 1) = ((k + 1 : Nat) : Int) from IntWalk.i64_in _ (by omega)]; rfl⟩
        | exact ⟨rfl, _, _, (by omega), qh [0, 1, 4, 6, 8, 9] [(4, 4), (6, 6)] rfl rfl, _, k + 1, bb, hv', by omega, by rw [show IntKind.i64.wrap ((k : Int) + 1) = ((k + 1 : Nat) : Int) from IntWalk.i64_in _ (by omega)]; rfl⟩
     · refine uD [] [1, 3, 5, 7, 9, 11, 13, 15, 17, 21, 18, 23, 25, 27] ?_
       refine qx qa rfl rfl rfl (by rw [la]; omega) rfl ?_
       rw [e9]
       refine uT ?_
       refine uk HA ?_
       refine uT ?_
       refine qx qa rfl rfl rfl (by decide) rfl ?_
       refine uT ?_
       refine qY ?_
       refine uA ?_
       (repeat refine qH ?_); refine qaF ?_
       first
        | exact ⟨rfl, _, _, qh [0, 1, 4, 6, 8, 9] [(4, 4), (6, 6)] rfl rfl, _, k + 1, bb, hv', by omega, by rw [show IntKind.i64.wrap ((k : Int) + 1) = ((k + 1 : Nat) : Int) from IntWalk.i64_in _ (by omega)]; rfl⟩
        | exact ⟨rfl, _, _, (by omega), qh [0, 1, 4, 6, 8, 9] [(4, 4), (6, 6)] rfl rfl, _, k + 1, bb, hv', by omega, by rw [show IntKind.i64.wrap ((k : Int) + 1) = ((k + 1 : Nat) : Int) from IntWalk.i64_in _ (by omega)]; rfl⟩
set_option maxHeartbeats 4000000
theorem gsize_h (at_ : List Atm) (p : Pt) (E : List Rs) (hl : p.l.length ≤ 100000) : HoldsE Tryz.prog 10 [dgmP at_ p E] (fun r => ∃ n : Nat, r = .p (pI (n : Int)) ∧ n ≤ p.l.length ∧ (n = 0 ↔ ¬ (0 ≤ p.r ∧ p.r < p.l.length))) := by
 have HS := dsize_h p.m p.l hl p.r
 refine holdsE_sh (ts := [2]) Tryz.func10 (by kernel_rfl) rfl rfl rfl ?_
 refine uA ?_
 refine uD [] [1, 3, 5, 7, 9, 11, 13, 15, 17, 19, 20, 23] ?_
 refine swm_act rfl rfl rfl (qaG rfl rfl rfl rfl (HS) rfl ?_)
 rintro _ ⟨n, rfl, h1, h2⟩
 refine uT ?_
 refine qY ?_
 refine uQ ?_
 exact ⟨Or.inr rfl, _, _, [], _, _, Wk.refl _, rfl, rfl, rfl, rfl, ⟨n, rfl, h1, h2⟩, rfl⟩
theorem sameO_h (a b : List Obli) (ha : a.length ≤ 1000000) (hb : b.length ≤ 1000000) : Holds Tryz.prog 31 [jc a, jc b] (.p (pB (decide (a = b)))) [] := by
 have la : (a.map Obli.pv).length = a.length := by simp
 have lb : (b.map Obli.pv).length = b.length := by simp
 refine qo (ts := [4]) Tryz.func31 (by kernel_rfl) rfl rfl rfl ?_
 refine uA ?_
 refine uA ?_
 rw [la, lb]
 refine uC (fun h0 => ?_) (fun h0 => ?_)
 · have e : a ≠ b := by intro e; subst e; simp at h0
   refine uA ?_
   refine uQ ?_
   exact jJ rfl (by simp [e])
 · have hl : a.length = b.length := by simp at h0; omega
   refine qd ?_
   refine uA ?_
   refine uB ?_
   refine uZ [0, 1, 4, 5] [] ?_
   refine qw (fun m s => ∃ (k : Nat) (kk : Int), k ≤ a.length ∧ m = a.length - k ∧ kk = k ∧ a.take k = b.take k ∧ s = ⟨26, [(0, .p (jc a)), (1, .p (jc b)), (4, .p (pB false)), (5, .p (pI kk))], []⟩) a.length ⟨0, 0, Nat.zero_le _, rfl, rfl, rfl, rfl⟩ ?_
   rintro m s ⟨k, _, hk, rfl, rfl, he, rfl⟩
   refine uA ?_
   refine uC (fun hlt => ?_) (fun hlt => ?_)
   · refine qd ?_
     rw [la] at hlt
     simp only [decide_eq_true_eq] at hlt
     have hlt' : k < a.length := by omega
     have hlb : k < b.length := by omega
     obtain ⟨x, hx⟩ : ∃ x, x = a[k] := ⟨_, rfl⟩
     obtain ⟨y, hy⟩ : ∃ y, y = b[k] := ⟨_, rfl⟩
     refine uB ?_
     refine uD [] [1, 3, 5, 7, 9, 11, 13, 15, 17] ?_
     refine qx qa rfl rfl rfl (by rw [la]; omega) rfl ?_
     rw [qm hlt', ← hx]
     refine uT ?_
     refine qx qa rfl rfl rfl (by rw [lb]; omega) rfl ?_
     rw [qm hlb, ← hy]
     refine uT ?_
     refine qx qa rfl rfl (opR_neO x y rfl rfl rfl rfl) rfl rfl ?_
     refine uT ?_
     refine qY ?_
     refine uC (fun hp => ?_) (fun hp => ?_)
     · have e : x ≠ y := by simpa using hp
       have e2 : a ≠ b := by intro e2; subst e2; exact e (by rw [hx, hy])
       refine uA ?_
       refine uQ ?_
       exact jJ rfl (by simp [e2])
     · refine qd ?_
       refine uA ?_
       refine ⟨_, _, ?_, qh [0, 1, 4, 5] [] rfl rfl, k + 1, _, hlt', rfl, qf hlt' (by omega), ?_, rfl⟩
       · omega
       · rw [List.take_succ_eq_append_getElem hlt', List.take_succ_eq_append_getElem hlb, he, ← hx, ← hy, show x = y by simpa using hp]
   · refine qt ?_
     rw [la] at hlt
     simp only [decide_eq_false_iff_not] at hlt
     have hkk : k = a.length := by omega
     subst hkk
     rw [List.take_length, List.take_of_length_le (by omega)] at he
     refine uA ?_
     refine uQ ?_
     exact jJ rfl (by simp [he])
theorem resultsD_h (a b : Rs) (ha : RsK a) (hb : RsK b) : Holds Tryz.prog 15 [.agg (rsP a), .agg (rsP b)] (.p (pB (decide (a = b)))) [] := by
 obtain ⟨am, ao⟩ := a
 obtain ⟨bm, bo⟩ := b
 have HE := sameO_h ao bo ha.2 hb.2
 have e0 := mkE_eq ha.1 hb.1
 have e9 : decide ((⟨am, ao⟩ : Rs) = ⟨bm, bo⟩) = (decide (am = bm) && decide (ao = bo)) := by
  rw [Bool.eq_iff_iff]; simp
 rw [e9]
 have e1 : ∀ x : Bool, mkE am bm = x → decide (am = bm) = x := fun x h => by rw [← h]; exact e0.symm
 simp only at e0
 refine qo (ts := [4]) Tryz.func15 (by kernel_rfl) rfl rfl rfl ?_
 refine uA ?_
 refine uR ?_
 change SWT _ _ _ _ (St.put _ _ (.p (pB (mkE am bm))))
 cases hm : mkE am bm with
 | false =>
   rw [e1 _ hm]
   refine uS ?_
   refine qb ?_
   refine uQ ?_
   exact jJ rfl rfl
 | true =>
   rw [e1 _ hm]
   refine uS ?_
   refine uK HE ?_
   refine uS ?_
   refine qb ?_
   refine uQ ?_
   exact jJ rfl rfl
def Red (l : List Br) : Prop := l.Nodup ∧ ∀ b ∈ l, ¬ (b.b = b.a ∧ b.c = b.a)
theorem red_make {m : Int} {l : List Br} {x : Br} (h : Red l) : Red (zU m l x).2.2 := by
 unfold zU
 split
 · exact h
 split
 · exact h
 split
 · exact h
 rename_i hs
 split
 · exact h
 rename_i hf
 split
 · exact h
 refine ⟨?_, fun b hb => ?_⟩
 · show (l ++ [x]).Nodup
   rw [List.nodup_append]
   refine ⟨h.1, by simp, fun y hy z hz e => ?_⟩
   rw [List.mem_singleton] at hz
   subst hz
   subst e
   exact hf (List.findIdx_lt_length.2 ⟨y, hy, by simp⟩)
 · rcases List.mem_append.1 hb with hb | hb
   · exact h.2 b hb
   · rw [List.mem_singleton.1 hb]; exact hs
section
variable {σ : Type} {ps : List Pt} {f : σ → List Int → Int × σ} {P : Wv σ → Prop}
theorem way_keep (h0 : ∀ w : Wv σ, P w → P w.inc) (h1 : ∀ (w : Wv σ) m r l, P w → P ⟨w.d, m, r, (f w.st l).2⟩) (h2 : ∀ (w : Wv σ) m x, P w → P { w with d := (zU 2000 w.d x).2.2, met := m }) : ∀ (n : Nat) (w : Wv σ) (row : List Int), P w → P (wayW ps f n w row).2.2
 | 0, w, row, h => h
 | n + 1, w, row, h => by
   cases hm : metF w.met row with
   | some v => rw [wG hm]; exact h
   | none =>
     by_cases h3 : 6000 < w.rows + 1
     · rw [wy hm h3]; exact h0 w h
     by_cases h4 : qq (ps.zip row) = 64
     · rw [qaJ hm h3 h4]; exact h1 w _ _ _ h
     obtain ⟨⟨v0, e0, w0⟩, q0⟩ : ∃ r, wayW ps f n w.inc (onW (ps.zip row) (qq (ps.zip row)) 0) = r := ⟨_, rfl⟩
     have i0 := way_keep h0 h1 h2 n w.inc (onW (ps.zip row) (qq (ps.zip row)) 0) (h0 w h)
     rw [q0] at i0
     by_cases z0 : e0 = 0
     rotate_left
     · rw [way_e0 hm h3 h4 q0 z0]; exact i0
     subst z0
     obtain ⟨⟨v1, e1, w1⟩, q1⟩ : ∃ r, wayW ps f n w0 (onW (ps.zip row) (qq (ps.zip row)) 1) = r := ⟨_, rfl⟩
     have i1 := way_keep h0 h1 h2 n w0 (onW (ps.zip row) (qq (ps.zip row)) 1) i0
     rw [q1] at i1
     by_cases z1 : e1 = 0
     rotate_left
     · rw [way_e1 hm h3 h4 q0 q1 z1]; exact i1
     subst z1
     obtain ⟨⟨v2, e2, w2⟩, q2⟩ : ∃ r, wayW ps f n w1 (onW (ps.zip row) (qq (ps.zip row)) 2) = r := ⟨_, rfl⟩
     have i2 := way_keep h0 h1 h2 n w1 (onW (ps.zip row) (qq (ps.zip row)) 2) i1
     rw [q2] at i2
     by_cases z2 : e2 = 0
     rotate_left
     · rw [way_e2 hm h3 h4 q0 q1 q2 z2]; exact i2
     subst z2
     rw [way_ok hm h3 h4 q0 q1 q2]
     exact h2 w2 _ _ i2
end
theorem endR_nodup {E : List Rs} (h : E.Nodup) (r : Rs) : (endR E r).2.Nodup := by
 unfold endR
 split
 · exact h
 · rename_i hf
   show (E ++ [r]).Nodup
   rw [List.nodup_append]
   refine ⟨h, by simp, fun y hy z hz e => ?_⟩
   rw [List.mem_singleton] at hz
   subst hz
   subst e
   exact hf (List.findIdx_lt_length.2 ⟨y, hy, by simp⟩)
theorem wovenB_keep {ps : List Pt} {f : List Rs → List Int → Int × List Rs} (hf : ∀ E l, E.Nodup → (f E l).2.Nodup) {E : List Rs} (h : E.Nodup) : Red (jq ps f E).2.2.d ∧ (jq ps f E).2.2.st.Nodup :=
 way_keep (σ := List Rs) (P := fun (w : Wv (List Rs)) => Red w.d ∧ w.st.Nodup) (fun _ h => h) (fun w _ _ l h => ⟨h.1, hf _ l h.2⟩) (fun w _ x h => ⟨red_make h.1, h.2⟩) 66 _ _ ⟨⟨List.nodup_nil, (fun b hb => nomatch hb)⟩, h⟩
theorem rul_nodup (at_ : List Atm) {E : List Rs} (h : E.Nodup) (r : Rul) : (qaH at_ E r).2.Nodup := by
 unfold qaH
 split
 · exact h
 · exact (wovenB_keep (fun E l h => endR_nodup h _) h).2
theorem seqE_nodup {β : Type} {g : List Rs → β → PR} (hg : ∀ E x, E.Nodup → (g E x).E.Nodup) : ∀ (l : List β) {E : List Rs}, E.Nodup → (seqE g E l).2.2.Nodup
 | [], E, h => h
 | x :: l, E, h => by
   rw [seqE]
   split
   · exact hg E x h
   · exact seqE_nodup hg l (hg E x h)
theorem pol_keep (at_ : List Atm) : ∀ (n : Nat) {E : List Rs} (p : Pol), E.Nodup → (polPt at_ n E p).E.Nodup ∧ Red (polPt at_ n E p).p.l
 | 0, E, p, h => by rw [polPt]; exact ⟨h, List.nodup_nil, fun b hb => nomatch hb⟩
 | n + 1, E, p, h => by
   have hs := seqE_nodup (g := jD at_ (polPt at_ n)) (fun E s h => by
    cases s with
    | inl r => exact rul_nodup at_ h r
    | inr k => exact (pol_keep at_ n k h).1) (ze p) h
   rw [polPt]
   split
   · exact ⟨h, List.nodup_nil, fun b hb => nomatch hb⟩
   split
   · exact ⟨hs, List.nodup_nil, fun b hb => nomatch hb⟩
   · have := wovenB_keep (ps := (zP at_ p.target).1 :: (seqE (jD at_ (polPt at_ n)) E (ze p)).1) (f := polF p) (fun E l h => endR_nodup h _) hs
     exact ⟨this.2, this.1⟩
def setα (α : Int → Nat) (a : Int) (j : Nat) (x : Int) : Nat := if x = a then j else α x
theorem setα_lt {α : Int → Nat} (hα : ∀ a, α a < 3) {a : Int} {j : Nat} (hj : j < 3) (x : Int) : setα α a j x < 3 := by
 unfold setα; split
 · exact hj
 · exact hα x
theorem low_next {l : List Br} (hw : WfB l) {w : Int} {b : Br} (hb : brD l w = some b) {j : Nat} (hj : j < 3) : LowB l (b.atom + 1) (b.to j) := fun b' hb' => by
 obtain ⟨k, hk, rfl, rfl⟩ := zY hb
 obtain ⟨k2, hk2, e1, rfl⟩ := zY hb'
 obtain ⟨k', hk', e2, h3⟩ := ((hw k hk).2.2 j hj).2 (by omega)
 have : k' = k2 := by omega
 subst this
 omega
theorem LowB.down {l : List Br} {a b v : Int} (h : LowB l a v) (hab : b ≤ a) : LowB l b v := fun x hx => Int.le_trans hab (h x hx)
theorem ev_set {l : List Br} (hw : WfB l) {α : Int → Nat} (hα : ∀ a, α a < 3) {a : Int} {j : Nat} {w e : Int} (h : Ev l α w e) : LowB l (a + 1) w → Ev l (setα α a j) w e := by
 induction h with
 | leaf h => intro _; exact .leaf h
 | @step w e b hb _ ih =>
   intro hl
   have h1 := hl b hb
   refine .step hb ?_
   have e1 : setα α a j b.atom = α b.atom := by unfold setα; rw [if_neg (by omega)]
   rw [e1]
   exact ih ((low_next hw hb (hα b.atom)).down (by omega))
theorem br_ext {x y : Br} (h : x.atom = y.atom) (hj : ∀ j, j < 3 → x.to j = y.to j) : x = y := by
 obtain ⟨xa, x0, x1, x2⟩ := x
 obtain ⟨ya, y0, y1, y2⟩ := y
 have h0 : x0 = y0 := hj 0 (by omega)
 have h1 : x1 = y1 := hj 1 (by omega)
 have h2 : x2 = y2 := hj 2 (by omega)
 have h3 : xa = ya := h
 subst h0 h1 h2 h3; rfl
def Apart (l : List Br) (u v : Int) : Prop := ∃ α : Int → Nat, (∀ a, α a < 3) ∧ ∃ e e' : Int, Ev l α u e ∧ Ev l α v e' ∧ e ≠ e'
theorem Apart.symm {l : List Br} {u v : Int} (h : Apart l u v) : Apart l v u := by
 obtain ⟨α, h1, e, e', h2, h3, h4⟩ := h
 exact ⟨α, h1, e', e, h3, h2, h4.symm⟩
theorem next_lt {l : List Br} (hw : WfB l) {w : Int} {b : Br} (hb : brD l w = some b) {j : Nat} (hj : j < 3) : (b.to j + 1).toNat < (w + 1).toNat ∧ b.to j < l.length := by
 obtain ⟨k, hk, rfl, rfl⟩ := zY hb
 have h := (hw k hk).2.2 j hj
 by_cases h0 : l[k].to j < 0
 · exact ⟨by omega, by omega⟩
 · obtain ⟨k', hk', e, _⟩ := h.2 (by omega)
   exact ⟨by omega, by omega⟩
theorem red_some {b : Br} (h : ¬ (b.b = b.a ∧ b.c = b.a)) (v : Int) : ∃ j, j < 3 ∧ b.to j ≠ v := by
 by_cases h0 : b.to 0 = v
 · by_cases h1 : b.to 1 = v
   · refine ⟨2, by omega, fun h2 => h ⟨?_, ?_⟩⟩
     · show b.to 1 = b.to 0; rw [h1, h0]
     · show b.to 2 = b.to 0; rw [h2, h0]
   · exact ⟨1, by omega, h1⟩
 · exact ⟨0, by omega, h0⟩
theorem canon {l : List Br} (hw : WfB l) (hr : Red l) : ∀ (n : Nat) (u v : Int), (u + 1).toNat + (v + 1).toNat < n → u < l.length → v < l.length → u ≠ v → Apart l u v
 | 0, _, _, h, _, _, _ => absurd h (Nat.not_lt_zero _)
 | n + 1, u, v, hn, hu, hv, huv => by
   have one : ∀ (u v : Int) (b : Br), (u + 1).toNat + (v + 1).toNat < n + 1 → v < l.length → brD l u = some b → LowB l (b.atom + 1) v → Apart l u v := fun u v b hn hv hb hl => by
    obtain ⟨k, hk, _, hbe⟩ := zY hb
    obtain ⟨j, hj, hne⟩ := red_some (hr.2 b (hbe ▸ List.getElem_mem hk)) v
    obtain ⟨h1, h2⟩ := next_lt hw hb hj
    obtain ⟨α, hα, e, e', he, he', hee⟩ := canon hw hr n (b.to j) v (by omega) h2 hv hne
    refine ⟨setα α b.atom j, setα_lt hα hj, e, e', .step hb ?_, ev_set hw hα he' hl, hee⟩
    have e1 : setα α b.atom j b.atom = j := by unfold setα; rw [if_pos rfl]
    rw [e1]
    exact ev_set hw hα he (low_next hw hb hj)
   cases hbu : brD l u with
   | none =>
     cases hbv : brD l v with
     | none =>
       have neg : ∀ w : Int, w < l.length → brD l w = none → w < 0 := fun w hl h => by
        by_cases h0 : w < 0
        · exact h0
        · exfalso
          have hk : w.toNat < l.length := by omega
          have := brD_at hk
          rw [show ((w.toNat : Nat) : Int) = w by omega] at this
          rw [this] at h; cases h
       exact ⟨fun _ => 0, fun _ => (show 0 < 3 by omega), u, v, .leaf (neg u hu hbu), .leaf (neg v hv hbv), huv⟩
     | some bv => exact (one v u bv (by omega) hu hbv fun b hb => by rw [hbu] at hb; cases hb).symm
   | some bu =>
     cases hbv : brD l v with
     | none => exact one u v bu hn hv hbu fun b hb => by rw [hbv] at hb; cases hb
     | some bv =>
       by_cases h1 : bu.atom < bv.atom
       · exact one u v bu hn hv hbu fun b hb => by rw [hbv] at hb; cases hb; omega
       by_cases h2 : bv.atom < bu.atom
       · exact (one v u bv (by omega) hu hbv fun b hb => by rw [hbu] at hb; cases hb; omega).symm
       have ha : bu.atom = bv.atom := by omega
       obtain ⟨ku, hku, eu, ebu⟩ := zY hbu
       obtain ⟨kv, hkv, ev, ebv⟩ := zY hbv
       have hbb : bu ≠ bv := fun e => huv (by
        rw [ebu, ebv] at e
        have := (List.getElem_inj hr.1).1 e
        omega)
       have hj : ∃ j, j < 3 ∧ bu.to j ≠ bv.to j := by
        by_cases g0 : bu.to 0 = bv.to 0
        · by_cases g1 : bu.to 1 = bv.to 1
          · by_cases g2 : bu.to 2 = bv.to 2
            · refine absurd (br_ext ha fun j hj => ?_) hbb
              match j, hj with
              | 0, _ => exact g0
              | 1, _ => exact g1
              | 2, _ => exact g2
            · exact ⟨2, by omega, g2⟩
          · exact ⟨1, by omega, g1⟩
        · exact ⟨0, by omega, g0⟩
       obtain ⟨j, hj, hne⟩ := hj
       obtain ⟨n1, n2⟩ := next_lt hw hbu hj
       obtain ⟨m1, m2⟩ := next_lt hw hbv hj
       obtain ⟨α, hα, e, e', he, he', hee⟩ := canon hw hr n (bu.to j) (bv.to j) (by omega) n2 m2 hne
       refine ⟨setα α bu.atom j, setα_lt hα hj, e, e', .step hbu ?_, .step hbv ?_, hee⟩
       · have e1 : setα α bu.atom j bu.atom = j := by unfold setα; rw [if_pos rfl]
         rw [e1]
         exact ev_set hw hα he (low_next hw hbu hj)
       · have e1 : setα α bu.atom j bv.atom = j := by unfold setα; rw [if_pos ha.symm]
         rw [e1]
         exact ev_set hw hα he' (by rw [ha]; exact low_next hw hbv hj)
theorem EvB.agree {l : List Br} {N : Int} (hw : WfB l) (hA : AtB N l) {α α' : Int → Nat} (h : ∀ a : Int, 0 ≤ a → a < N → α a = α' a) {w e : Int} (he : Ev l α w e) : Ev l α' w e := by
 induction he with
 | leaf h => exact .leaf h
 | @step w e b hb _ ih =>
   obtain ⟨k, hk, _, e2⟩ := zY hb
   have h1 := hA b (e2 ▸ List.getElem_mem hk)
   have h2 := (hw k hk).1
   rw [← e2] at h2
   refine .step hb ?_
   rw [← h b.atom h2 h1]
   exact ih
theorem dgm_parts {p : Pol} (h : zj p = 0) (hs : p.sz ≤ 10000) (hl : (qM p).length ≤ 64) (he : (polPt (qM p) 4 [] p).e = 0) (hr : 0 ≤ (polPt (qM p) 4 [] p).p.r) :
 ∃ α α' : Int → Nat, (∀ a, α a < 3) ∧ (∀ a, α' a < 3) ∧ polV (qM p) α 4 p ≠ polV (qM p) α' 4 p := by
 have S := pol_sem hl 4 (polK_right h hs) (E := []) (fun x hx => nomatch hx) (by have := wn_sz 4 p; show 0 + 6001 * p.wn 4 ≤ 70000000; omega) he
 obtain ⟨hN, hR⟩ := pol_keep (qM p) 4 (E := []) p List.nodup_nil
 have hw := S.pt.v.1
 have hlt := S.pt.w.1
 generalize polPt (qM p) 4 [] p = Q at *
 have hk : Q.p.r.toNat < Q.p.l.length := by omega
 have hb := brD_at hk
 rw [show ((Q.p.r.toNat : Nat) : Int) = Q.p.r by omega] at hb
 generalize Q.p.l[Q.p.r.toNat] = b at *
 obtain ⟨j, hj, hne⟩ := red_some (hR.2 b (by obtain ⟨k, hk, _, e⟩ := zY hb; exact e ▸ List.getElem_mem hk)) (b.to 0)
 obtain ⟨_, n2⟩ := next_lt hw hb hj
 obtain ⟨_, n3⟩ := next_lt hw hb (show 0 < 3 by omega)
 obtain ⟨α, hα, e, e', h1, h2, h3⟩ := canon hw hR _ _ _ (Nat.lt_succ_self _) n2 n3 hne
 have go : ∀ (i : Nat), i < 3 → ∀ e, Ev Q.p.l α (b.to i) e → Ev Q.p.l (setα α b.atom i) Q.p.r e := fun i hi e h => by
  refine .step hb ?_
  have e1 : setα α b.atom i b.atom = i := by unfold setα; rw [if_pos rfl]
  rw [e1]
  exact ev_set hw hα h (low_next hw hb hi)
 refine ⟨setα α b.atom j, setα α b.atom 0, setα_lt hα hj, setα_lt hα (by omega), fun heq => h3 ?_⟩
 obtain ⟨i1, a1, a2, a3⟩ := S.pt.ev _ (setα_lt hα hj (a := b.atom))
 obtain ⟨i2, b1, b2, b3⟩ := S.pt.ev _ (setα_lt hα (show 0 < 3 by omega) (a := b.atom))
 have c1 := (go j hj e h1).det a1
 have c2 := (go 0 (by omega) e' h2).det b1
 rw [heq, ← b3] at a3
 obtain ⟨k1, _⟩ := List.getElem?_eq_some_iff.1 b3
 have k2 : i1.toNat < Q.E.length := by
  rw [b3] at a3
  exact (List.getElem?_eq_some_iff.1 a3).1
 have : i1.toNat = i2.toNat := (List.getElem?_inj k2 hN).1 a3
 omega
def TT3 : Nat → Nat
 | 0 => 1
 | k + 1 => 1 + 3 * TT3 k
def DD3 : Nat → Nat
 | 0 => 0
 | k + 1 => 1 + 3 * DD3 k
theorem make_ok {m : Int} {l : List Br} {x : Br} (h1 : ¬ (x.atom < 0 ∨ 64 ≤ x.atom)) (h2 : zI l x = true) (hm : (l.length : Int) < m) : (zU m l x).2.1 = 0 ∧ (zU m l x).2.2.length ≤ l.length + 1 := by
 by_cases h3 : x.b = x.a ∧ x.c = x.a
 · rw [mk_same h1 h2 h3]; exact ⟨rfl, Nat.le_succ _⟩
 by_cases h4 : l.findIdx (fun y => decide (y = x)) < l.length
 · rw [mk_found h1 h2 h3 h4]; exact ⟨rfl, Nat.le_succ _⟩
 rw [mk_new h1 h2 h3 h4 (by omega)]
 exact ⟨rfl, by simp⟩
theorem may_of {l : List Br} {a v : Int} (h1 : v < 0 → -1048576 ≤ v) (h2 : v < l.length) (h3 : LowB l (a + 1) v) : mayD l a v = true := by
 unfold mayD
 by_cases h0 : v < 0
 · rw [if_pos h0]; exact decide_eq_true (h1 h0)
 · rw [if_neg h0]
   have hk : v.toNat < l.length := by omega
   have hb := brD_at hk
   rw [show ((v.toNat : Nat) : Int) = v by omega] at hb
   have := h3 _ hb
   have e : l.getD v.toNat zeroBr = l[v.toNat] := by rw [List.getD_eq_getElem?_getD, List.getElem?_eq_getElem hk]; rfl
   rw [e]
   simp only [Bool.and_eq_true, decide_eq_true_eq]
   exact ⟨h2, by omega⟩
theorem LowB.le {l : List Br} {a b v : Int} (h : LowB l a v) (hab : b ≤ a) : LowB l b v := fun x hx => Int.le_trans hab (h x hx)
section
variable {σ : Type} {Gs : List (Int → Prop)} {f : σ → List Int → Int × σ} {I : σ → Prop} {Le : σ → σ → Prop} {L : σ → Int → Prop} {M : σ → List Int → Int → Prop} {ps : List Pt} {len : σ → Nat} {C : Nat}
structure WSmall (len : σ → Nat) (w w' : Wv σ) (k : Nat) : Prop where
 rows : w'.rows ≤ w.rows + TT3 k
 nn : 0 ≤ w'.rows
 d : w'.d.length ≤ w.d.length + DD3 k
 len : len w'.st ≤ len w.st + TT3 k
theorem TT3_pos : ∀ k, 1 ≤ TT3 k
 | 0 => Nat.le_refl _
 | k + 1 => by unfold TT3; omega
theorem way_succ (hF : FSem Gs f I Le L M) (hlen : ∀ s l, I s → LV Gs l → len (f s l).2 ≤ len s + 1) (hC : ∀ s i, I s → len s ≤ C → L s i → i ≤ 1048575) {N : Int} (hN : N ≤ 64) (hA : ∀ p ∈ ps, AtB N p.l) :
 ∀ (n k : Nat) (w : Wv σ) (row : List Int), RowV Gs ps row → WSem I L M ps w → k < n → (qq (ps.zip row) = 64 ∨ N - qq (ps.zip row) ≤ k) → 0 ≤ w.rows → w.rows + TT3 k ≤ 6000 → w.d.length + DD3 k ≤ 2000 → len w.st + TT3 k ≤ C → ∃ v w', wayW ps f n w row = (v, 0, w') ∧ WSmall len w w' k
 | 0, k, w, row, _, _, hk, _, _, _, _, _ => absurd hk (Nat.not_lt_zero k)
 | n + 1, k, w, row, hV, hS, hk, hl, h0, hr, hd, hst => by
   have hw := hV.wf
   have hT := TT3_pos k
   cases hm : metF w.met row with
   | some u => exact ⟨u, w, wG hm, by omega, h0, by omega, by omega⟩
   | none =>
     have h1 : ¬ 6000 < w.rows + 1 := by omega
     by_cases h2 : qq (ps.zip row) = 64
     · refine ⟨_, _, qaJ hm h1 h2, ?_, ?_, ?_, ?_⟩
       · show w.rows + 1 ≤ _; omega
       · show 0 ≤ w.rows + 1; omega
       · show w.d.length ≤ _; omega
       · have := hlen w.st _ hS.st (row_leaf hV (row_no hw h2)).1
         show len (f w.st (row.map fun x => -1 - x)).2 ≤ _
         omega
     have ha : qq (ps.zip row) < N := by
      rcases atomW_some (ps.zip row) 64 with e | ⟨p, hpp, b, hb, e⟩
      · exact absurd e h2
      · obtain ⟨i, hi, _, e2⟩ := zY hb
        have := hA p.1 (List.of_mem_zip (a := p.1) (b := p.2) hpp).1 b (e2 ▸ List.getElem_mem hi)
        show (ps.zip row).foldl minF 64 < N
        rw [e]; exact this
     have hge : 0 ≤ qq (ps.zip row) := atomW_ge (c := 0) (by omega) fun p hp b hb => by
      obtain ⟨i, hi, e1, e2⟩ := zY hb
      have h1 := hw p.1 (List.of_mem_zip (a := p.1) (b := p.2) hp).1 i hi
      rw [e2]; exact h1.1
     replace hl : N - qq (ps.zip row) ≤ k := hl.resolve_left h2
     obtain ⟨k, rfl⟩ : ∃ k', k = k' + 1 := ⟨k - 1, by omega⟩
     have eT : TT3 (k + 1) = 1 + 3 * TT3 k := rfl
     have eD : DD3 (k + 1) = 1 + 3 * DD3 k := rfl
     have hat := fun (j : Nat) (hj : j < 3) => atom_on hV.len hw (show qq (ps.zip row) < 64 by omega) hj
     have hlv : ∀ j, j < 3 → qq (ps.zip (onW (ps.zip row) (qq (ps.zip row)) j)) = 64 ∨ N - qq (ps.zip (onW (ps.zip row) (qq (ps.zip row)) j)) ≤ k := fun j hj => .inr (by have := hat j hj; omega)
     have hS0 : WSem I L M ps w.inc := ⟨hS.d, hS.st, hS.ends, fun p hp => let h := hS.met p hp; ⟨h.lt, h.low, h.leaf, h.ev⟩⟩
     have r0 : w.inc.rows = w.rows + 1 := rfl
     have d0 : w.inc.d.length = w.d.length := rfl
     have l0 : len w.inc.st = len w.st := rfl
     obtain ⟨v0, w0, q0, s0⟩ := way_succ hF hlen hC hN hA n k w.inc _ (hV.on (qq (ps.zip row)) (show 0 < 3 by omega)) hS0 (by omega) (hlv 0 (by omega)) (by omega) (by omega) (by omega) (by omega)
     obtain ⟨i0, x0, m0⟩ := way_sem hF n w.inc _ _ _ (hV.on (qq (ps.zip row)) (show 0 < 3 by omega)) hS0 q0
     have a1 := s0.rows; have a2 := s0.nn; have a3 := s0.d; have a4 := s0.len
     obtain ⟨v1, w1, q1, s1⟩ := way_succ hF hlen hC hN hA n k w0 _ (hV.on (qq (ps.zip row)) (show 1 < 3 by omega)) i0 (by omega) (hlv 1 (by omega)) (by omega) (by omega) (by omega) (by omega)
     obtain ⟨i1, x1, m1⟩ := way_sem hF n w0 _ _ _ (hV.on (qq (ps.zip row)) (show 1 < 3 by omega)) i0 q1
     have b1 := s1.rows; have b2 := s1.nn; have b3 := s1.d; have b4 := s1.len
     obtain ⟨v2, w2, q2, s2⟩ := way_succ hF hlen hC hN hA n k w1 _ (hV.on (qq (ps.zip row)) (show 2 < 3 by omega)) i1 (by omega) (hlv 2 (by omega)) (by omega) (by omega) (by omega) (by omega)
     obtain ⟨i2, x2, m2⟩ := way_sem hF n w1 _ _ _ (hV.on (qq (ps.zip row)) (show 2 < 3 by omega)) i1 q2
     have c1 := s2.rows; have c2 := s2.nn; have c3 := s2.d; have c4 := s2.len
     have n0 := (m0.up hF x1).up hF x2
     have n1 := m1.up hF x2
     have hmay : ∀ v j, j < 3 → Means L M ps w2 (onW (ps.zip row) (qq (ps.zip row)) j) v → mayD w2.d (qq (ps.zip row)) v = true := fun v j hj h => may_of (fun hv => by have := hC w2.st _ i2.st (by omega) (h.leaf hv); omega) h.lt (h.low.le (by have := hat j hj; omega))
     have hwo : zI w2.d ⟨qq (ps.zip row), v0, v1, v2⟩ = true := by
      unfold zI
      simp only [Bool.and_eq_true]
      exact ⟨⟨hmay v0 0 (by omega) n0, hmay v1 1 (by omega) n1⟩, hmay v2 2 (by omega) m2⟩
     obtain ⟨k1, k2⟩ := make_ok (m := 2000) (x := ⟨qq (ps.zip row), v0, v1, v2⟩) (by simp only; omega) hwo (by omega)
     have hq := way_ok hm h1 h2 q0 q1 q2
     rw [k1] at hq
     refine ⟨_, _, hq, ?_, ?_, ?_, ?_⟩
     · show w2.rows ≤ _; omega
     · exact c2
     · show (zU 2000 w2.d ⟨qq (ps.zip row), v0, v1, v2⟩).2.2.length ≤ _; omega
     · show len w2.st ≤ _; omega
theorem woven_succ (hF : FSem Gs f I Le L M) (hlen : ∀ s l, I s → LV Gs l → len (f s l).2 ≤ len s + 1) (hC : ∀ s i, I s → len s ≤ C → L s i → i ≤ 1048575) {N : Int} (hN : N ≤ 5) (hA : ∀ p ∈ ps, AtB N p.l) {s : σ} (hV : RowV Gs ps (ps.map Pt.r)) (hI : I s) (hs : len s + 364 ≤ C) :
 (wayW ps f 66 ⟨[], [], 0, s⟩ (ps.map Pt.r)).2.1 = 0 ∧ (wayW ps f 66 ⟨[], [], 0, s⟩ (ps.map Pt.r)).2.2.d.length ≤ DD3 N.toNat ∧ len (wayW ps f 66 ⟨[], [], 0, s⟩ (ps.map Pt.r)).2.2.st ≤ len s + 364 := by
 have hge : 0 ≤ qq (ps.zip (ps.map Pt.r)) := atomW_ge (c := 0) (by omega) fun p hp b hb => by
  obtain ⟨i, hi, e1, e2⟩ := zY hb
  have h1 := hV.wf p.1 (List.of_mem_zip (a := p.1) (b := p.2) hp).1 i hi
  rw [e2]; exact h1.1
 have hT : TT3 N.toNat ≤ 364 := by
  have : N.toNat = 0 ∨ N.toNat = 1 ∨ N.toNat = 2 ∨ N.toNat = 3 ∨ N.toNat = 4 ∨ N.toNat = 5 := by omega
  rcases this with e | e | e | e | e | e <;> rw [e] <;> decide
 have hD : DD3 N.toNat ≤ 121 := by
  have : N.toNat = 0 ∨ N.toNat = 1 ∨ N.toNat = 2 ∨ N.toNat = 3 ∨ N.toNat = 4 ∨ N.toNat = 5 := by omega
  rcases this with e | e | e | e | e | e <;> rw [e] <;> decide
 obtain ⟨v, w', q, h⟩ := way_succ hF hlen hC (by omega) hA 66 N.toNat ⟨[], [], 0, s⟩ (ps.map Pt.r) hV ⟨fun i hi => absurd hi (Nat.not_lt_zero i), hI, (fun b hb => nomatch hb), (fun p hp => nomatch hp)⟩ (by omega) (.inr (by omega)) (Int.le_refl _) (by show (0 : Int) + TT3 N.toNat ≤ 6000; omega) (by show 0 + DD3 N.toNat ≤ 2000; omega) (by show len s + TT3 N.toNat ≤ C; omega)
 rw [q]
 have h3 := h.d
 have h4 := h.len
 simp only [List.length_nil] at h3 h4 ⊢
 exact ⟨trivial, by omega, by omega⟩
end
set_option maxRecDepth 100000
theorem wovT_succ {β : Type} {fl : List Int → Int} (hfl : ∀ l : List Int, (∀ x ∈ l, G0 x) → G0 (fl l)) {g : β → Pt} {T : β → (Int → Nat) → Int} {xs : List β} {N : Int} (hN : N ≤ 5) (h : ∀ x ∈ xs, PtT (g x) (T x)) (hA : ∀ x ∈ xs, AtB N (g x).l) : (jg (xs.map g) fl).2.1 = 0 := by
 have hV := rowV_map (G := fun _ => G0) (g := g) (xs := xs) fun x hx => ⟨(h x hx).v, (h x hx).w⟩
 exact (woven_succ (C := 364) (len := fun _ => 0) (fsem_plain hfl (Gs := xs.map fun _ => G0) fun H hH => by obtain ⟨_, _, rfl⟩ := List.mem_map.1 hH; rfl) (fun _ _ _ _ => Nat.zero_le _) (fun _ i _ _ hi => by have := hi.2; omega) hN (fun p hp => by obtain ⟨x, hx, rfl⟩ := List.mem_map.1 hp; exact hA x hx) (s := ()) hV trivial (Nat.le_refl _)).1
theorem wvSeq_z {β : Type} {fl : List Int → Int} {g : β → Pt × Int} {l : List β} (h : ∀ x ∈ l, (g x).2 = 0) : (wvSeq fl (jM g l)).2 = (jg (l.map fun x => (g x).1) fl).2.1 := by
 rw [seqPt_ok h]; rfl
theorem ar1 {e w q : Nat} (h : e + 364 * (w + 1) ≤ 1048576) (k : q ≤ e + 364 * w) : q + 364 ≤ 1048576 ∧ ∀ r, r ≤ q + 364 → r ≤ e + 364 * (w + 1) := by
 have e1 : 364 * (w + 1) = 364 * w + 364 := Nat.mul_succ _ _
 rw [e1] at h ⊢
 exact ⟨by omega, fun r hr => by omega⟩
theorem ar2 {e w s : Nat} (h : e + 364 * (w + 1) ≤ 1048576) (k : w + 1 ≤ s) (hs : s ≤ 10000) : e + 364 * w ≤ 1048576 ∧ e + 6001 * (w + 1) ≤ 70000000 := by
 have e1 : 364 * (w + 1) = 364 * w + 364 := Nat.mul_succ _ _
 have e2 : 6001 * (w + 1) = 6001 * w + 6001 := Nat.mul_succ _ _
 rw [e1] at h
 rw [e2]
 exact ⟨by omega, by omega⟩
theorem wn2 : ∀ (n : Nat) (p : Pol), 2 * p.wn n ≤ p.sz
 | 0, p => Nat.zero_le _
 | n + 1, p => by
   have h : ∀ l : List Pol, 2 * qB (Pol.wn n) l ≤ qB Pol.sz l := by
    intro l
    induction l with
    | nil => exact Nat.le_refl _
    | cons k l ih =>
      have := wn2 n k
      simp only [qB, List.map_cons, List.sum_cons] at ih ⊢
      omega
   have h1 := h p.kids
   have h2 := Pol.sz_eq p
   have h3 := len_sumBy rusz (fun r => by unfold rusz tsz; omega) p.rules
   have h4 : 1 ≤ tsz p.target := by unfold tsz; omega
   show 2 * (p.rules.length + qB (Pol.wn n) p.kids + 1) ≤ _
   omega
theorem seqE_succ {β : Type} {g : List Rs → β → PR} {wn : β → Nat} : ∀ {l : List β} {E : List Rs}, EK E → E.length + 364 * qB wn l ≤ 1048576 → (∀ x ∈ l, ∀ E, EK E → E.length + 364 * wn x ≤ 1048576 → (g E x).e = 0 ∧ EK (g E x).E ∧ (g E x).E.length ≤ E.length + 364 * wn x) → (seqE g E l).2.1 = 0 ∧ (seqE g E l).2.2.length ≤ E.length + 364 * qB wn l
 | [], E, _, _, _ => ⟨rfl, Nat.le_refl _⟩
 | x :: l, E, hE, hl, hg => by
   have hs : qB wn (x :: l) = wn x + qB wn l := by simp [qB]
   rw [hs] at hl
   obtain ⟨h1, h2, h3⟩ := hg x (by simp) E hE (by omega)
   obtain ⟨k1, k2⟩ := seqE_succ (l := l) (E := (g E x).E) h2 (by omega) fun y hy => hg y (by simp [hy])
   rw [seqE, if_neg (by rw [h1]; simp), hs]
   refine ⟨k1, ?_⟩
   show (seqE g (g E x).E l).2.2.length ≤ _
   omega
section
variable {at_ : List Atm} (hn : at_.length ≤ 5)
include hn
theorem all_succ {y : List Mat} (hm : ∀ a ∈ allA y, a ∈ at_) : (wF at_ y).2 = 0 :=
 wovT_succ least_nn (N := at_.length) (by omega) (fun m hm' => askedT (hm _ (List.mem_map.2 ⟨m, hm', rfl⟩)) (by omega)) fun m _ => atB_asked at_ _
theorem any_succ {x : List (List Mat)} (hl : x.length ≤ 1000 ∧ ∀ y ∈ x, y.length ≤ 1000) (hm : ∀ a ∈ anyA x, a ∈ at_) : (ju at_ x).2 = 0 := by
 have h1 : ∀ y ∈ x, (wF at_ y).2 = 0 := fun y hy => all_succ hn fun a ha => hm a (List.mem_flatMap.2 ⟨y, hy, ha⟩)
 unfold ju
 rw [wvSeq_z h1]
 exact wovT_succ great_nn (N := at_.length) (by omega) (fun y hy => allT_ok (by omega) (hl.2 y hy) (fun a ha => hm a (List.mem_flatMap.2 ⟨y, hy, ha⟩)) (h1 y hy)) fun y _ => atB_all at_ y
theorem tar_succ {t : Tar} (hl : TarK t) (hm : ∀ a ∈ tarA t, a ∈ at_) : (zP at_ t).2 = 0 := by
 have h1 : ∀ x ∈ t, (ju at_ x).2 = 0 := fun x hx => any_succ hn (hl.2 x hx) fun a ha => hm a (List.mem_flatMap.2 ⟨x, hx, ha⟩)
 unfold zP
 rw [wvSeq_z h1]
 exact wovT_succ least_nn (N := at_.length) (by omega) (fun x hx => anyT_ok (by omega) (hl.2 x hx) (fun a ha => hm a (List.mem_flatMap.2 ⟨x, hx, ha⟩)) (h1 x hx)) fun x _ => atB_any at_ x
theorem rul_succ {r : Rul} (hr : RulOk at_ r) {E : List Rs} (hE : EK E) (hl : E.length + 364 ≤ 1048576) : (qaH at_ E r).1.2 = 0 ∧ (qaH at_ E r).2.length ≤ E.length + 364 := by
 have ht := tar_succ hn hr.t fun a ha => hr.a a (List.mem_append_left _ ha)
 obtain ⟨Gs, g1, g2, g3⟩ := rulPs_ok (by omega) hr ht
 have S := woven_succ (C := 1048576) (len := List.length) (N := at_.length) (fsem_rul r hr.o Gs) (fun s l _ _ => endR_len s _) (fun s i _ h1 h2 => by have := h2.lt; omega) (by omega) (fun p hp => by
  unfold rulPs at hp
  rcases List.mem_cons.1 hp with rfl | hp
  · exact atB_tar at_ _
  · split at hp
    · cases hp
    · rw [List.mem_singleton.1 hp]; exact atB_asked at_ _) (s := E) g2 hE hl
 unfold qaH
 rw [if_neg (by rw [ht]; simp)]
 exact ⟨S.1, S.2.2⟩
theorem pol_succ : ∀ (n : Nat) {p : Pol}, PolK at_ n p → ∀ {E : List Rs}, EK E → E.length + 364 * p.wn n ≤ 1048576 → (polPt at_ n E p).e = 0 ∧ (polPt at_ n E p).E.length ≤ E.length + 364 * p.wn n ∧ (polPt at_ n E p).p.l.length ≤ DD3 at_.length
 | 0, p, h, E, _, _ => h.elim
 | n + 1, p, h, E, hE, hl => by
   have hK := h
   obtain ⟨hsz, h1, h2, h3, h4, h5⟩ := h
   have ht := tar_succ hn h1 h2
   have hT := tarT_ok (by omega) h1 h2 ht
   have hwn := wn_sz (n + 1) p
   rw [wn_sum] at hl hwn ⊢
   obtain ⟨W, hW⟩ : ∃ W, W = qB (iwn n) (ze p) := ⟨_, rfl⟩
   rw [← hW] at hl hwn ⊢
   have hitem : ∀ s ∈ ze p, ∀ E', EK E' → E'.length + 364 * iwn n s ≤ 1048576 → (jD at_ (polPt at_ n) E' s).e = 0 ∧ EK (jD at_ (polPt at_ n) E' s).E ∧ (jD at_ (polPt at_ n) E' s).E.length ≤ E'.length + 364 * iwn n s := fun s hs E' hE' hl' => by
    unfold ze at hs
    rcases List.mem_append.1 hs with hs | hs
    · obtain ⟨r, hr, rfl⟩ := List.mem_map.1 hs
      obtain ⟨q1, q2⟩ := rul_succ hn (h4 r hr) hE' hl'
      exact ⟨q1, (rul_sem (by omega) (h4 r hr) hE' q1).ek, q2⟩
    · obtain ⟨k, hk, rfl⟩ := List.mem_map.1 hs
      obtain ⟨q1, q2, _⟩ := pol_succ n (h5 k hk) hE' hl'
      have hw := wn_sz n k
      have hks : k.sz ≤ 10000 := by
       have := wd (f := Pol.sz) hk
       have := Pol.sz_eq p
       omega
      exact ⟨q1, (pol_sem (by omega) n (h5 k hk) hE' (by omega) q1).ek, q2⟩
   obtain ⟨hb1, hb2⟩ := ar2 hl hwn hsz
   obtain ⟨k1, k2⟩ := seqE_succ (wn := iwn n) (l := ze p) hE (by rw [← hW]; exact hb1) hitem
   obtain ⟨a1, a2, a3⟩ := seq_all (by omega) hK hE (by rw [wn_sum, ← hW]; exact hb2) k1
   rw [← hW] at k2
   rw [polPt, if_neg (by rw [ht]; simp), if_neg (by rw [k1]; simp)]
   have hB : ∀ q ∈ (zP at_ p.target).1 :: (seqE (jD at_ (polPt at_ n)) E (ze p)).1, AtB at_.length q.l := fun q hq => by
    rcases List.mem_cons.1 hq with rfl | hq
    · exact atB_tar at_ _
    · refine atB_seqE (fun E s => ?_) (ze p) E q hq
      cases s with
      | inl r => exact atB_rul at_ E r
      | inr k => exact atB_pol at_ n E k
   generalize seqE (jD at_ (polPt at_ n)) E (ze p) = q at *
   obtain ⟨hb3, hb4⟩ := ar1 hl k2
   obtain ⟨b1, b2⟩ := polPs_ok (at_ := at_) hT a3 a2 h3
   have S := woven_succ (C := 1048576) (len := List.length) (N := at_.length) (fsem_pol (p := p) (by omega) a1) (fun s l _ _ => endR_len s _) (fun s i _ h1 h2 => by have := h2.lt; omega) (by omega) hB (s := q.2.2) b1 ⟨a1, .refl _⟩ hb3
   refine ⟨S.1, ?_, ?_⟩
   · have := S.2.2
     show (polW p (zP at_ p.target).1 q).2.2.st.length ≤ _
     have e : (polW p (zP at_ p.target).1 q).2.2.st.length ≤ q.2.2.length + 364 := this
     exact hb4 _ e
   · have := S.2.1
     rw [Int.toNat_natCast] at this
     exact this
end
theorem dd3_le {k : Nat} (h : k ≤ 5) : DD3 k ≤ 3 ^ k := by
 have : k = 0 ∨ k = 1 ∨ k = 2 ∨ k = 3 ∨ k = 4 ∨ k = 5 := by omega
 rcases this with e | e | e | e | e | e <;> rw [e] <;> decide
theorem few_dgm {p : Pol} (h : zj p = 0) (hs : p.sz ≤ 3000) (hl : (qM p).length ≤ 5) : (polPt (qM p) 4 [] p).e = 0 ∧ (polPt (qM p) 4 [] p).p.l.length ≤ 3 ^ (qM p).length := by
 have hw := wn2 4 p
 obtain ⟨h1, _, h3⟩ := pol_succ hl 4 (polK_right h (by omega)) (E := []) (fun x hx => nomatch hx) (by show 0 + 364 * p.wn 4 ≤ 1048576; omega)
 exact ⟨h1, Nat.le_trans h3 (dd3_le hl)⟩
set_option maxHeartbeats 4000000
theorem danswer_h (l : List Int) (hl : l.length ≤ 1000000) (a : Int) (h0 : 0 ≤ a) : Holds Tryz.prog 57 [zJ l, pI a] (.p (pI (ansD l a))) [] := by
 have ll : (l.map fun i => [pI i]).length = l.length := by simp
 refine qo (ts := [4]) Tryz.func57 (by kernel_rfl) rfl rfl rfl ?_
 refine uA ?_
 refine uR ?_
 rw [ll]
 by_cases ha : a < l.length
 rotate_left
 · rw [show decide (a ≥ l.length) = true by simp; omega]
   have e : ansD l a = 1 := by unfold ansD; rw [if_neg ha]
   rw [e]
   refine uS ?_
   refine qb ?_
   refine uC (fun hc => ?_) (fun hc => ?_)
   · refine uA ?_
     refine uQ ?_
     exact qZ rfl rfl
   · cases hc
 rw [show decide (a ≥ l.length) = false by simp; omega]
 have hk : a.toNat < l.length := by omega
 have e9 : (l.map fun i => [pI i]).getD (Int.toNat a) [] = [pI l[a.toNat]] := by rw [List.getD_eq_getElem?_getD, List.getElem?_map, List.getElem?_eq_getElem hk]; rfl
 have e8 : ansD l a = if l[a.toNat] < 0 ∨ 2 < l[a.toNat] then 1 else l[a.toNat] := by
  unfold ansD
  rw [if_pos ha, List.getD_eq_getElem?_getD, List.getElem?_eq_getElem hk]; rfl
 rw [e8]
 generalize l[a.toNat] = v at *
 refine uS ?_
 refine qe qa rfl rfl (by rw [ll]; omega) rfl ?_
 rw [e9]
 refine uS ?_
 by_cases h1 : v < 0
 · rw [show decide (v < 0) = true from decide_eq_true h1, if_pos (.inl h1)]
   refine uS ?_
   refine qb ?_
   refine uC (fun hc => ?_) (fun hc => ?_)
   · refine uA ?_
     refine uQ ?_
     exact qZ rfl rfl
   · cases hc
 rw [show decide (v < 0) = false from decide_eq_false h1]
 refine uS ?_
 refine qe qa rfl rfl (by rw [ll]; omega) rfl ?_
 rw [e9]
 refine uS ?_
 by_cases h2 : v > 2
 · rw [show decide (v > 2) = true from decide_eq_true h2, if_pos (.inr h2)]
   refine qb ?_
   refine uC (fun hc => ?_) (fun hc => ?_)
   · refine uA ?_
     refine uQ ?_
     exact qZ rfl rfl
   · cases hc
 rw [show decide (v > 2) = false from decide_eq_false h2, if_neg (by omega)]
 refine qb ?_
 refine uC (fun hc => ?_) (fun hc => ?_)
 · cases hc
 refine qd ?_
 refine uR ?_
 refine qe qa rfl rfl (by rw [ll]; omega) rfl ?_
 rw [e9]
 refine uS ?_
 refine qb ?_
 refine uQ ?_
 exact qZ rfl rfl
theorem ansD_range (l : List Int) (a : Int) : 0 ≤ ansD l a ∧ ansD l a ≤ 2 := by
 unfold ansD
 split
 · split
   · omega
   · omega
 · omega
def ansα (l : List Int) (a : Int) : Nat := (ansD l a).toNat
theorem ansα_lt (l : List Int) (a : Int) : ansα l a < 3 := by
 have := ansD_range l a
 unfold ansα; omega
def stW (p : Pt) (l : List Int) (w : Int) : St := ⟨37, [(0, .p (dagP p.m p.l)), (1, .p (pI w)), (2, .p (zJ l))], []⟩
theorem dwalk_h (p : Pt) (l : List Int) (hl : l.length ≤ 1000000) (hW : WfB p.l) (hfew : p.l.length ≤ 2000) (hlt : p.r < p.l.length) (N : Nat) (i : Int) (h0 : 0 ≤ i) (hi9 : i ≤ 1000000000) (hN : EvN p.l (ansα l) p.r N (-1 - i)) :
 Holds Tryz.prog 30 [dagP p.m p.l, pI p.r, zJ l] (.p (pI i)) [] := by
 have lb : (p.l.map Br.pv).length = p.l.length := by simp
 refine qo (ts := [6]) Tryz.func30 (by kernel_rfl) rfl rfl rfl ?_
 refine uA ?_
 (repeat refine qH ?_); refine sw_scope 0 (fun m s => ∃ (w : Int), EvN p.l (ansα l) w m (-1 - i) ∧ s = stW p l w) rfl ?_ ?_
 · refine uA ?_
   rw [lb, show decide (p.r ≥ p.l.length) = false by simp; omega]
   refine uC (fun hc => ?_) (fun hc => ?_)
   · cases hc
   refine qd ?_
   refine uZ [0, 1, 2] [] ?_
   (repeat refine qH ?_); refine sw_label ?_
   change SW _ _ _ (stW p l p.r)
   obtain ⟨w, m, hv, hS⟩ : ∃ (w : Int) (m : Nat), EvN p.l (ansα l) w m (-1 - i) ∧ stW p l p.r = stW p l w := ⟨_, N, hN, rfl⟩
   rw [hS]
   clear hS
   unfold stW
   refine uA ?_
   cases hv with
   | leaf hneg =>
     rw [show decide (-1 - i < 0) = true from decide_eq_true hneg]
     refine uC (fun hc => ?_) (fun hc => ?_)
     rotate_left
     · cases hc
     refine uR ?_
     rw [show IntKind.i64.wrap (-1 - (-1 - i)) = i by rw [IntWalk.i64_in _ (by omega)]; omega]
     refine uS ?_
     refine qb ?_
     refine uQ ?_
     exact qZ rfl rfl
   | @step _ _ m' bb hbb hv' =>
     obtain ⟨q, hq, hwq, hbq⟩ := zY hbb
     have hwf := hW q hq
     rw [← hbq] at hwf
     have e9 : (p.l.map Br.pv).getD (Int.toNat w) [] = bb.pv := by
      rw [hwq, Int.toNat_natCast, List.getD_eq_getElem?_getD, List.getElem?_map, List.getElem?_eq_getElem hq, ← hbq]; rfl
     have HA := danswer_h l hl bb.atom hwf.1
     have hr := ansD_range l bb.atom
     have eα : ansα l bb.atom = (ansD l bb.atom).toNat := rfl
     rw [eα] at hv'
     generalize ansD l bb.atom = v at *
     rw [show decide (w < 0) = false from decide_eq_false (by omega)]
     refine uC (fun hc => ?_) (fun hc => ?_)
     · cases hc
     refine qd ?_
     have hvs : v = 0 ∨ v = 1 ∨ v = 2 := by omega
     rcases hvs with rfl | rfl | rfl
     · refine uD [] [1, 3, 5, 7, 9, 11, 13, 15, 17, 19, 21, 23, 25, 27, 31, 33, 28, 35, 37, 39] ?_
       refine qx qa rfl rfl rfl (by rw [lb]; omega) rfl ?_
       rw [e9]
       refine uT ?_
       refine qx qa rfl rfl rfl (by rw [lb]; omega) rfl ?_
       rw [e9]
       refine uT ?_
       refine uk HA ?_
       refine uT ?_
       refine qx qa rfl rfl rfl (by decide) rfl ?_
       refine uT ?_
       refine qY ?_
       (repeat refine qH ?_); refine qaF ?_
       first
        | exact ⟨rfl, _, _, qh [0, 1, 2] [] rfl rfl, _, hv', rfl⟩
        | exact ⟨rfl, _, _, (by omega), qh [0, 1, 2] [] rfl rfl, _, hv', rfl⟩
     · refine uD [] [1, 3, 5, 7, 9, 11, 13, 15, 17, 19, 21, 23, 25, 27, 31, 33, 28, 35, 37, 39] ?_
       refine qx qa rfl rfl rfl (by rw [lb]; omega) rfl ?_
       rw [e9]
       refine uT ?_
       refine qx qa rfl rfl rfl (by rw [lb]; omega) rfl ?_
       rw [e9]
       refine uT ?_
       refine uk HA ?_
       refine uT ?_
       refine qx qa rfl rfl rfl (by decide) rfl ?_
       refine uT ?_
       refine qY ?_
       (repeat refine qH ?_); refine qaF ?_
       first
        | exact ⟨rfl, _, _, qh [0, 1, 2] [] rfl rfl, _, hv', rfl⟩
        | exact ⟨rfl, _, _, (by omega), qh [0, 1, 2] [] rfl rfl, _, hv', rfl⟩
     · refine uD [] [1, 3, 5, 7, 9, 11, 13, 15, 17, 19, 21, 23, 25, 27, 31, 33, 28, 35, 37, 39] ?_
       refine qx qa rfl rfl rfl (by rw [lb]; omega) rfl ?_
       rw [e9]
       refine uT ?_
       refine qx qa rfl rfl rfl (by rw [lb]; omega) rfl ?_
       rw [e9]
       refine uT ?_
       refine uk HA ?_
       refine uT ?_
       refine qx qa rfl rfl rfl (by decide) rfl ?_
       refine uT ?_
       refine qY ?_
       (repeat refine qH ?_); refine qaF ?_
       first
        | exact ⟨rfl, _, _, qh [0, 1, 2] [] rfl rfl, _, hv', rfl⟩
        | exact ⟨rfl, _, _, (by omega), qh [0, 1, 2] [] rfl rfl, _, hv', rfl⟩
 · rintro m s ⟨w, hv, rfl⟩
   unfold stW
   refine qH ?_
   refine qd ?_
   refine uA ?_
   cases hv with
   | leaf hneg =>
     rw [show decide (-1 - i < 0) = true from decide_eq_true hneg]
     refine uC (fun hc => ?_) (fun hc => ?_)
     rotate_left
     · cases hc
     refine uR ?_
     rw [show IntKind.i64.wrap (-1 - (-1 - i)) = i by rw [IntWalk.i64_in _ (by omega)]; omega]
     refine uS ?_
     refine qb ?_
     refine uQ ?_
     exact qZ rfl rfl
   | @step _ _ m' bb hbb hv' =>
     obtain ⟨q, hq, hwq, hbq⟩ := zY hbb
     have hwf := hW q hq
     rw [← hbq] at hwf
     have e9 : (p.l.map Br.pv).getD (Int.toNat w) [] = bb.pv := by
      rw [hwq, Int.toNat_natCast, List.getD_eq_getElem?_getD, List.getElem?_map, List.getElem?_eq_getElem hq, ← hbq]; rfl
     have HA := danswer_h l hl bb.atom hwf.1
     have hr := ansD_range l bb.atom
     have eα : ansα l bb.atom = (ansD l bb.atom).toNat := rfl
     rw [eα] at hv'
     generalize ansD l bb.atom = v at *
     rw [show decide (w < 0) = false from decide_eq_false (by omega)]
     refine uC (fun hc => ?_) (fun hc => ?_)
     · cases hc
     refine qd ?_
     have hvs : v = 0 ∨ v = 1 ∨ v = 2 := by omega
     rcases hvs with rfl | rfl | rfl
     · refine uD [] [1, 3, 5, 7, 9, 11, 13, 15, 17, 19, 21, 23, 25, 27, 31, 33, 28, 35, 37, 39] ?_
       refine qx qa rfl rfl rfl (by rw [lb]; omega) rfl ?_
       rw [e9]
       refine uT ?_
       refine qx qa rfl rfl rfl (by rw [lb]; omega) rfl ?_
       rw [e9]
       refine uT ?_
       refine uk HA ?_
       refine uT ?_
       refine qx qa rfl rfl rfl (by decide) rfl ?_
       refine uT ?_
       refine qY ?_
       (repeat refine qH ?_); refine qaF ?_
       first
        | exact ⟨rfl, _, _, qh [0, 1, 2] [] rfl rfl, _, hv', rfl⟩
        | exact ⟨rfl, _, _, (by omega), qh [0, 1, 2] [] rfl rfl, _, hv', rfl⟩
     · refine uD [] [1, 3, 5, 7, 9, 11, 13, 15, 17, 19, 21, 23, 25, 27, 31, 33, 28, 35, 37, 39] ?_
       refine qx qa rfl rfl rfl (by rw [lb]; omega) rfl ?_
       rw [e9]
       refine uT ?_
       refine qx qa rfl rfl rfl (by rw [lb]; omega) rfl ?_
       rw [e9]
       refine uT ?_
       refine uk HA ?_
       refine uT ?_
       refine qx qa rfl rfl rfl (by decide) rfl ?_
       refine uT ?_
       refine qY ?_
       (repeat refine qH ?_); refine qaF ?_
       first
        | exact ⟨rfl, _, _, qh [0, 1, 2] [] rfl rfl, _, hv', rfl⟩
        | exact ⟨rfl, _, _, (by omega), qh [0, 1, 2] [] rfl rfl, _, hv', rfl⟩
     · refine uD [] [1, 3, 5, 7, 9, 11, 13, 15, 17, 19, 21, 23, 25, 27, 31, 33, 28, 35, 37, 39] ?_
       refine qx qa rfl rfl rfl (by rw [lb]; omega) rfl ?_
       rw [e9]
       refine uT ?_
       refine qx qa rfl rfl rfl (by rw [lb]; omega) rfl ?_
       rw [e9]
       refine uT ?_
       refine uk HA ?_
       refine uT ?_
       refine qx qa rfl rfl rfl (by decide) rfl ?_
       refine uT ?_
       refine qY ?_
       (repeat refine qH ?_); refine qaF ?_
       first
        | exact ⟨rfl, _, _, qh [0, 1, 2] [] rfl rfl, _, hv', rfl⟩
        | exact ⟨rfl, _, _, (by omega), qh [0, 1, 2] [] rfl rfl, _, hv', rfl⟩
theorem danswers_h (at_ : List Atm) (p : Pt) (E : List Rs) (hE : EK E) (l : List Int) (hl : l.length ≤ 1000000) (hW : WfB p.l) (hfew : p.l.length ≤ 2000) (hlt : p.r < p.l.length) (N : Nat) (i : Int) (h0 : 0 ≤ i) (hi9 : i ≤ 1000000000) (hN : EvN p.l (ansα l) p.r N (-1 - i)) (x : Rs) (hx : E[i.toNat]? = some x) :
 Holds Tryz.prog 14 [dgmP at_ p E, zJ l] (.p (.agg (rsP x))) [] := by
 have HW := dwalk_h p l hl hW hfew hlt N i h0 hi9 hN
 have HR := dresult_h at_ p E hE i x h0 hx
 refine .ofW ?_
 refine qz (T := TTab) qa Tryz.func14 (by kernel_rfl) rfl rfl rfl ?_
 refine uA ?_
 refine uD [4] [1, 3, 5, 7, 9, 11, 13, 15, 17, 19, 21, 23, 24, 26, 28] ?_
 refine uk HW ?_
 refine uT ?_
 refine uo HR ?_
 refine uT ?_
 refine qY ?_
 refine uQ ?_
 exact ⟨Or.inr rfl, _, _, [], _, Wk.refl _, rfl, rfl, .refl _, rfl, rfl⟩
set_option maxRecDepth 100000
def digL (m : Nat) : Nat → List Int
 | 0 => []
 | k + 1 => digL m k ++ [(((m / 3 ^ k) % 3 : Nat) : Int)]
theorem qaK (m : Nat) : ∀ k, (digL m k).length = k
 | 0 => rfl
 | k + 1 => by rw [digL, List.length_append, qaK m k]; rfl
theorem digL_at (m : Nat) : ∀ (k i : Nat), i < k → (digL m k)[i]? = some (((m / 3 ^ i) % 3 : Nat) : Int)
 | k + 1, i, h => by
   rw [digL]
   by_cases hi : i < k
   · rw [List.getElem?_append_left (by rw [qaK]; exact hi)]
     exact digL_at m k i hi
   · have : i = k := by omega
     subst this
     rw [List.getElem?_append_right (by rw [qaK]; exact Nat.le_refl _), qaK, Nat.sub_self]; rfl
theorem num_of : ∀ (k : Nat) (α : Nat → Nat), (∀ i, α i < 3) → ∃ m, m < 3 ^ k ∧ ∀ i, i < k → (m / 3 ^ i) % 3 = α i
 | 0, α, h => ⟨0, by decide, fun i hi => absurd hi (Nat.not_lt_zero _)⟩
 | k + 1, α, h => by
   obtain ⟨m, h1, h2⟩ := num_of k (fun i => α (i + 1)) fun i => h _
   have h0 := h 0
   refine ⟨α 0 + 3 * m, by rw [Nat.pow_succ]; omega, fun i hi => ?_⟩
   cases i with
   | zero => rw [Nat.pow_zero, Nat.div_one]; omega
   | succ i =>
     rw [Nat.pow_succ, Nat.mul_comm (3 ^ i) 3, ← Nat.div_div_eq_div_mul, show (α 0 + 3 * m) / 3 = m by omega]
     exact h2 i (by omega)
theorem ansα_dig {m k : Nat} {a : Int} (h0 : 0 ≤ a) (hk : a < k) : ansα (digL m k) a = (m / 3 ^ a.toNat) % 3 := by
 have hi : a.toNat < k := by omega
 have h1 := digL_at m k a.toNat hi
 have h2 : (m / 3 ^ a.toNat) % 3 < 3 := Nat.mod_lt _ (by decide)
 unfold ansα ansD
 rw [if_pos (by rw [qaK]; exact hk), List.getD_eq_getElem?_getD, h1]
 simp only [Option.getD_some]
 rw [if_neg (by omega)]
 omega
section
variable {p : Pol} (h : zj p = 0) (hs : p.sz ≤ 3000) (hl : (qM p).length ≤ 5)
include h hs hl
theorem con_sem : ItS [] (p.wn 4) p.sz (polPt (qM p) 4 [] p).p (polPt (qM p) 4 [] p).E fun α => polV (qM p) α 4 p :=
 pol_sem (by omega) 4 (polK_right h (by omega)) (E := []) (fun x hx => nomatch hx) (by have := wn_sz 4 p; show 0 + 6001 * p.wn 4 ≤ 70000000; omega) (few_dgm h hs hl).1
theorem con_agree {α α' : Int → Nat} (hα : ∀ a, α a < 3) (hα' : ∀ a, α' a < 3) (ha : ∀ a : Int, 0 ≤ a → a < (qM p).length → α a = α' a) : polV (qM p) α 4 p = polV (qM p) α' 4 p := by
 have S := con_sem h hs hl
 obtain ⟨i1, a1, a2, a3⟩ := S.pt.ev α hα
 obtain ⟨i2, b1, b2, b3⟩ := S.pt.ev α' hα'
 have e := (EvB.agree S.pt.v.1 (atB_pol (qM p) 4 [] p) ha a1).det b1
 have : i1 = i2 := by omega
 subst this
 rw [a3] at b3
 simpa using b3
theorem con_law {α0 : Int → Nat} (h0 : ∀ a, α0 a < 3) : (¬ (0 ≤ (polPt (qM p) 4 [] p).p.r ∧ (polPt (qM p) 4 [] p).p.r < (polPt (qM p) 4 [] p).p.l.length)) ↔ ∀ m, m < 3 ^ (qM p).length → polV (qM p) (ansα (digL m (qM p).length)) 4 p = polV (qM p) α0 4 p := by
 have S := con_sem h hs hl
 have hlt := S.pt.w.1
 constructor
 · intro hn m hm
   have hneg : (polPt (qM p) 4 [] p).p.r < 0 := by omega
   obtain ⟨i1, a1, a2, a3⟩ := S.pt.ev _ (ansα_lt (digL m (qM p).length))
   obtain ⟨i2, b1, b2, b3⟩ := S.pt.ev _ h0
   have e1 := (Ev.leaf hneg).det a1
   have e2 := (Ev.leaf hneg).det b1
   have : i1 = i2 := by omega
   subst this
   rw [a3] at b3
   simpa using b3
 · intro hall hr
   obtain ⟨α, α', g1, g2, hne⟩ := dgm_parts h (by omega) (by omega) (few_dgm h hs hl).1 hr.1
   have go : ∀ β : Int → Nat, (∀ a, β a < 3) → polV (qM p) β 4 p = polV (qM p) α0 4 p := fun β hβ => by
    obtain ⟨m, m1, m2⟩ := num_of (qM p).length (fun i => β i) fun i => hβ i
    rw [← hall m m1]
    refine con_agree h hs hl hβ (ansα_lt _) fun a ha hk => ?_
    rw [ansα_dig ha hk, m2 a.toNat (by omega), Int.toNat_of_nonneg ha]
   exact hne ((go α g1).trans (go α' g2).symm)
end
theorem made_flat {z : Array Value} {zs : List Value} {size : Nat} (hz : z.toList = zs) (hl : zs.length = size) (hpos : 0 < size) (c : Cel size) (hc : c.val = zs) (N : Nat) : madeCells z (N * size) = ((List.replicate N c).flatMap Subtype.val).toArray := by
 refine Array.ext (by rw [size_madeCells, List.size_toArray, zt (fun x : Cel size => x.2.1), List.length_replicate]) fun k h1 h2 => ?_
 rw [size_madeCells] at h1
 have hdiv : k / size < (List.replicate N c).length := by rw [List.length_replicate]; exact (Nat.div_lt_iff_lt_mul hpos).2 h1
 have hmod : k % size < size := Nat.mod_lt _ hpos
 have hjj : k / size * size + k % size = k := by rw [Nat.mul_comm]; exact Nat.div_add_mod k size
 have g1 := flat_get (fun x : Cel size => x.2.1) (List.replicate N c) (k / size) hdiv (k % size) hmod
 rw [hjj, List.getElem_replicate, hc] at g1
 have e2 : ((List.replicate N c).flatMap Subtype.val)[k]? = some (((List.replicate N c).flatMap Subtype.val)[k]'(by simpa using h2)) := List.getElem?_eq_getElem (by simpa using h2)
 rw [e2] at g1
 have hs : z.size = size := by rw [← Array.length_toList, hz, hl]
 have hk : k % z.size < z.size := by rw [hs]; exact hmod
 have e3 : (madeCells z (N * size))[k]'(by rw [size_madeCells]; exact h1) = z[k % z.size]'hk := by
  unfold madeCells
  rw [Array.getElem_map, Array.getElem_range]
  exact getElem!_pos z (k % z.size) hk
 rw [e3, List.getElem_toArray]
 have e4 : zs[k % size]? = some (z[k % z.size]'hk) := by
  subst hz
  rw [Array.getElem?_toList, ← hs]
  exact Array.getElem?_eq_getElem hk
 rw [e4] at g1
 exact (Option.some.inj g1).symm
section
variable {P : Program} {T : TT} (hT : qX P T) {st : St}
include hT
theorem act_makeSlice {o : Oper} {t e : TypeId} {x y : Operand} (ho : o.op = .makeSlice t x y) {d : Nat} (hdst : o.dst = some d) {ti ei : TyI} (ht : lk t T = some ti) (hte : ti.d = .sl e) (he : lk e T = some ei)
 (hsz : Nat.blt 0 ei.size = true) (hz : Nat.beq ei.zero.length ei.size = true) (hpl : ei.zero.all plain = true) {N : Nat} (hx : evS st x = some (.p (.v (.int .i64 (N : Int))))) (hy : evS st y = some (.p (.v (.int .i64 (N : Int)))))
 (hd : lk d st.own = none) (hn : Nat.blt d st.n = true) (hN : N ≤ reachBytes) (hb : ei.bytes * N ≤ 281474976710656)
 {Q : St → Prop} (h : Q ⟨st.n, (d, .row d) :: st.fr, (d, .row e ei.size (List.replicate N (ei.zero.map PV.v))) :: st.own⟩) : ActOk P [] o st Q := by
 intro w0 Sx γ a w QQ hI
 obtain ⟨info, zv, hinf, hsize, hby, hzv, hzc⟩ := (hT e ei he).info
 have hu := (hT t ti ht).und
 rw [hte] at hu
 simp only [je] at hu
 have hpos : 0 < ei.size := by simpa [Nat.blt, Nat.lt_iff_add_one_le] using hsz
 have hzl : ei.zero.length = ei.size := Nat.eq_of_beq_eq_true hz
 have hxv := (qp hI hx).v_inv
 have hyv := (qp hI hy).v_inv
 have hplz : ∀ v ∈ ei.zero, plain v = true := fun v hv => List.all_eq_true.1 hpl v hv
 obtain ⟨c, hc⟩ : ∃ c : Cel ei.size, c.val = ei.zero := ⟨⟨ei.zero, hzl, fun u hu => plain_one (hplz u hu)⟩, rfl⟩
 have hflat := made_flat hzc hzl hpos c hc N
 have hr := run_make (P := P) w t e info zv hu hinf hzv .i64 .i64 (N : Int) (N : Int) (by omega) (Int.le_refl _) (by rw [hby]; have : ((ei.bytes * N : Nat) : Int) ≤ 281474976710656 := by omega
                                                                                                                     rwa [Int.natCast_mul] at this) (by unfold reachBytes at hN; omega)
 rw [Int.toNat_natCast, hsize, hflat] at hr
 generalize hcs : (List.replicate N c) = css at hr
 have hcl : css.length = N := by rw [← hcs, List.length_replicate]
 have hci : ∀ (i : Nat) (h : i < css.length), css[i] = c := fun i h => by subst hcs; rw [List.getElem_replicate]
 have hw : Below w.heap.size w (w.alloc (.cells (css.flatMap Subtype.val).toArray e)) := (Below.refl _ w).alloc (Nat.le_refl _) _
 have hll : (List.replicate N (ei.zero.map PV.v)).length = N := List.length_replicate ..
 have hrow : BoxOk w0 Sx (upd γ d (.slice (some ⟨w.heap.size, 0, none⟩) N N)) ((d, .row e ei.size (List.replicate N (ei.zero.map PV.v))) :: st.own) (w.alloc (.cells (css.flatMap Subtype.val).toArray e)) d (.row e ei.size (List.replicate N (ei.zero.map PV.v))) := by
  refine .row ?_ (fun y hy => ?_) (by rw [hll]; exact hN) (fun b hb hk => by simp only [upd, if_true, qK, Option.some.injEq] at hb; have := hI.heap.sx.lt _ hk; omega)
  rotate_left
  · rw [List.eq_of_mem_replicate hy]
    refine ⟨by rw [List.length_map, hzl], fun s hs => ?_⟩
    obtain ⟨v, _, rfl⟩ := List.mem_map.1 hs
    rfl
  rw [show upd γ d (.slice (some ⟨w.heap.size, 0, none⟩) N N) d = .slice (some ⟨w.heap.size, 0, none⟩) N N from if_pos rfl]
  refine ⟨css, ⟨by rw [zt (fun x : Cel ei.size => x.2.1)], Or.inr ⟨w.heap.size, N, _, by rw [hcl], Nat.zero_le _, heap_alloc_new w _, by omega, by unfold maxLen; unfold reachBytes at hN; omega, by rw [List.size_toArray, zt (fun x : Cel ei.size => x.2.1), hcl], ?_⟩⟩, by rw [hcl, hll], fun i a1 a2 => ?_⟩
  · show (css.flatMap Subtype.val).take (css.length * ei.size) = _
    rw [← zt (fun x : Cel ei.size => x.2.1) css, List.take_length]
  · rw [hci i a1, hc, List.getElem_replicate]
    refine ⟨by rw [List.length_map], fun j s u hs hu => ?_⟩
    rw [List.getElem?_map, hu] at hs
    cases hs
    exact .v (hplz u (List.mem_of_getElem? hu))
 have key := hI.addBox hw hd hn (s := .row d) (v := .slice (some ⟨w.heap.size, 0, none⟩) N N) (fun b hb => by simp only [qK, Option.some.injEq] at hb; omega) hrow (.row (by unfold hp; rw [qA, if_pos rfl]; simp [upd]))
 unfold Oper.wp
 have : (execOp a.eval o).run P w = .ok (.value (.slice (some ⟨w.heap.size, 0, none⟩) N N)) (w.alloc (.cells (css.flatMap Subtype.val).toArray e)) := by
  simp only [execOp, ho, hxv, hyv, Sem.run_bind, hr, Result.andThen_ok]; rfl
 rw [this, Oper.upon_value, hdst]
 exact ⟨_, _, h, key.1, key.2.1, key.2.2⟩
end
section
variable {P : Program} {T : TT} (hT : qX P T) {st : St}
include hT
end
set_option maxHeartbeats 8000000
set_option maxRecDepth 100000
theorem rdO_E {P : Program} {T : TT} (hT : qX P T) {K : List Nat} {st : St} {o : Oper} {s : SV} (h : opE T K st o.op some = some s) : RdO P K st o s := by
 obtain ⟨s', h1, h2⟩ := opE_ok (P := P) hT h
 cases h2
 exact h1
def oneB (f : Nat → Rs) (F : Rs) (n : Nat) : Bool := (List.range n).all fun m => decide (f m = F)
theorem oneB_succ (f : Nat → Rs) (F : Rs) (n : Nat) : oneB f F (n + 1) = (oneB f F n && decide (f n = F)) := by
 unfold oneB
 rw [List.range_succ, List.all_append]; simp
theorem pow3_le {k n : Nat} (h : k ≤ n) : 3 ^ k ≤ 3 ^ n := Nat.pow_le_pow_right (by omega) h
theorem compileConst_h (hRuns : Holds Tryz.prog 3 [] (.p (pB true)) []) {n : Nat} (p : Pol) (hf : PolF n p) : Holds Tryz.prog 4 [.agg (polP p)] (.p (pB true)) [] := by
 have hS := small_h p hf
 have hR := right_h p (qaE 4 hf)
 have hO0 := fun a b c => of_ok p hf a b c
 have hM0 := fun a b c => of_many p hf a b c
 have hC0 := fun a b c d => cof_ok p hf a b c d
 have hD : zj p = 0 → p.sz ≤ 3000 → (qM p).length ≤ 5 → (polPt (qM p) 4 [] p).e = 0 ∧ (polPt (qM p) 4 [] p).p.l.length ≤ 3 ^ (qM p).length := few_dgm
 have hV : zj p = 0 → p.sz ≤ 3000 → (qM p).length ≤ 5 → ∀ l : List Int, l.length ≤ 1000000 → Holds Tryz.prog 14 [dgmP (qM p) (polPt (qM p) 4 [] p).p (polPt (qM p) 4 [] p).E, zJ l] (.p (.agg (rsP (polV (qM p) (ansα l) 4 p)))) [] ∧ RsK (polV (qM p) (ansα l) 4 p) := fun h1 h2 h3 l hl => by
  have S := con_sem h1 h2 h3
  have hw := wn_sz 4 p
  obtain ⟨i, a1, a2, a3⟩ := S.pt.ev _ (ansα_lt l)
  obtain ⟨N, hN⟩ := a1.steps
  have hlen : (polPt (qM p) 4 [] p).E.length ≤ 0 + 6001 * p.wn 4 := S.len
  obtain ⟨hk, hke⟩ := List.getElem?_eq_some_iff.1 a3
  exact ⟨danswers_h _ _ _ S.ek l hl S.pt.v.1 S.pt.few S.pt.w.1 N i a2 (by omega) hN _ a3, hke ▸ S.ek _ (List.getElem_mem hk)⟩
 have hL : zj p = 0 → p.sz ≤ 3000 → (qM p).length ≤ 5 → ∀ l : List Int, _ := fun h1 h2 h3 l => con_law h1 h2 h3 (ansα_lt l)
 rw [qG] at hS hR hO0 hM0 hC0 ⊢
 refine qo (ts := [2]) Tryz.func4 (by kernel_rfl) rfl rfl rfl ?_
 refine uA ?_
 refine uR ?_
 refine qy rfl (qaG rfl rfl rfl rfl (hS) rfl ?_)
 rintro _ ⟨b1, rfl, h1⟩
 cases b1 with
 | false =>
   refine uS ?_
   refine qb ?_
   refine uC (fun hc => ?_) (fun hc => ?_)
   · refine uR ?_
     refine uK hRuns ?_
     refine qb ?_
     refine uQ ?_
     exact jJ rfl rfl
   · cases hc
 | true =>
   refine uS ?_
   refine uK hR ?_
   by_cases hr : zj p = 0
   rotate_left
   · rw [show (zj p != 0) = true by simpa using hr]
     refine uS ?_
     refine qb ?_
     refine uC (fun hc => ?_) (fun hc => ?_)
     · refine uR ?_
       refine uK hRuns ?_
       refine qb ?_
       refine uQ ?_
       exact jJ rfl rfl
     · cases hc
   rw [show (zj p != 0) = false by simpa using hr]
   refine uS ?_
   refine qb ?_
   refine uC (fun hc => ?_) (fun hc => ?_)
   · cases hc
   refine qd ?_
   have hsz := h1 rfl
   by_cases hl64 : (qM p).length ≤ 64
   rotate_left
   · have hM := hM0 (by omega) hr (by omega)
     refine uR ?_
     refine uO hM ?_
     refine qb ?_
     refine uR ?_
     refine qb ?_
     refine uC (fun hc => ?_) (fun hc => ?_)
     · refine uR ?_
       refine uK hRuns ?_
       refine qb ?_
       refine uQ ?_
       exact jJ rfl rfl
     · cases hc
   have hO := hO0 (by omega) hr hl64
   have hC := hC0 (by omega) hr hl64
   specialize hD hr hsz
   specialize hV hr hsz
   specialize hL hr hsz
   obtain ⟨at_, hat⟩ : ∃ at_, at_ = qM p := ⟨_, rfl⟩
   rw [← hat] at hO hC hD hV hL hl64
   have la : (at_.map Atm.pv).length = at_.length := by simp
   refine uR ?_
   refine uO hO ?_
   refine qb ?_
   refine SW.wk (zg (k := 25000) rfl) ?_
   refine uR ?_
   rw [la]
   by_cases hl5 : at_.length ≤ 5
   rotate_left
   · rw [show decide ((at_.length : Int) > 5) = true by simp; omega]
     refine uS ?_
     refine qb ?_
     refine uC (fun hc => ?_) (fun hc => ?_)
     · refine uR ?_
       refine uK hRuns ?_
       refine qb ?_
       refine uQ ?_
       exact jJ rfl rfl
     · cases hc
   rw [show decide ((at_.length : Int) > 5) = false by simp; omega]
   refine uS ?_
   refine qb ?_
   refine uC (fun hc => ?_) (fun hc => ?_)
   · cases hc
   refine qd ?_
   obtain ⟨hd0, hd1⟩ := hD hl5
   specialize hV hl5
   specialize hL hl5
   have hC := hC hd0
   generalize polPt at_ 4 [] p = Q at *
   obtain ⟨z, q, e, E⟩ := Q
   simp only at hC hd0 hd1 hV hL
   refine uR ?_
   refine uO hC ?_
   refine qb ?_
   obtain ⟨D, hDg⟩ : ∃ D, D = dgmP at_ q E := ⟨_, rfl⟩
   have hNil : ∃ cs, D = .rp cs := ⟨_, hDg⟩
   have HZ := gsize_h at_ q E (by have := pow3_le hl5; omega)
   rw [← hDg] at HZ hV
   refine uR ?_
   refine qy rfl (jl (K := []) (rdO_E qa (s := .p (pB false)) (by rfl)) rfl ?_)
   refine uS ?_
   refine qb ?_
   refine uC (fun hc => ?_) (fun hc => ?_)
   · cases hc
   refine qd ?_
   refine uA ?_
   refine uA ?_
   refine uB ?_
   rw [← hDg]
   clear hC
   refine uZ [3, 5, 7, 47, 48] [] ?_
   refine qw (fun m s => ∃ (k : Nat) (kk rr : Int), k ≤ at_.length ∧ m = at_.length - k ∧ kk = k ∧ rr = ((3 ^ k : Nat) : Int) ∧ s = ⟨98, [(3, .p (atmsP at_)), (5, .p D), (7, .p (pI rr)), (47, .p (pI (at_.map Atm.pv).length)), (48, .p (pI kk))], []⟩) at_.length ⟨0, 0, 1, Nat.zero_le _, rfl, rfl, rfl, rfl⟩ ?_
   rintro m s ⟨k, _, rr, hk, rfl, rfl, hrr, rfl⟩
   refine uA ?_
   rw [la]
   refine uC (fun hlt => ?_) (fun hlt => ?_)
   · refine qd ?_
     have hlt' : k < at_.length := by simpa using hlt
     have h81 : 3 ^ k ≤ 81 := by have := pow3_le (show k ≤ 4 by omega); omega
     refine uB ?_
     refine uA ?_
     refine uA ?_
     refine ⟨_, _, ?_, qh [3, 5, 7, 47, 48] [] rfl rfl, k + 1, _, _, hlt', rfl, qf hlt' (by omega), ?_, rfl⟩
     · omega
     · obtain ⟨y, hy⟩ : ∃ y : Nat, y = 3 ^ k := ⟨_, rfl⟩
       rw [hrr, Nat.pow_succ, ← hy, show IntKind.i64.wrap ((y : Int) * 3) = (y : Int) * 3 from IntWalk.i64_in _ (by omega)]
       omega
   · refine qt ?_
     have hkk : k = at_.length := by simp at hlt; omega
     subst hkk
     have h243 : 3 ^ at_.length ≤ 243 := by have := pow3_le hl5; omega
     have hV0 := (hV (List.replicate at_.length 0) (by simp; omega)).1
     have hK0 := (hV (List.replicate at_.length 0) (by simp; omega)).2
     have hLaw := hL (List.replicate at_.length 0)
     rw [show zJ (List.replicate at_.length 0) = .sl 1 (List.replicate at_.length [pI 0]) by unfold zJ; rw [List.map_replicate]] at hV0
     have hVm := fun m => hV (digL m at_.length) (by rw [qaK]; omega)
     generalize polV at_ (ansα (List.replicate at_.length 0)) 4 p = F at *
     obtain ⟨f, hfd⟩ : ∃ f : Nat → Rs, f = fun m => polV at_ (ansα (digL m at_.length)) 4 p := ⟨_, rfl⟩
     have hfm : ∀ m, polV at_ (ansα (digL m at_.length)) 4 p = f m := fun m => by rw [hfd]
     simp only [hfm] at hLaw hVm
     refine uA ?_
     refine uR ?_
     rw [la]
     refine qy rfl (act_makeSlice qa rfl rfl rfl rfl rfl rfl rfl rfl rfl rfl rfl rfl (by unfold reachBytes; omega) (by simp only; omega) ?_)
     refine SWT.wk (zg (k := 56) rfl) ?_
     refine uS ?_
     refine uO hV0 ?_
     refine uS ?_
     refine qb ?_
     refine uA ?_
     refine uB ?_
     have lr0 : 0 < 3 ^ at_.length := Nat.pow_pos (by omega)
     obtain ⟨R3, hR3⟩ : ∃ R3, R3 = 3 ^ at_.length := ⟨_, rfl⟩
     rw [← hR3] at hd1 hLaw hrr h243 lr0
     subst hrr
     refine uZ [3, 5, 7, 8, 9, 10] [(9, 9)] ?_
     refine qw (fun m' s => ∃ (m : Nat) (mm : Int) (one : Bool), m ≤ R3 ∧ m' = R3 - m ∧ mm = m ∧ one = oneB f F m ∧ s = ⟨98, [(3, .p (atmsP at_)), (5, .p D), (7, .p (pI (R3 : Int))), (8, .p (pB one)), (9, .ptr 9 0), (10, .p (pI mm))], [(9, .cells [.p (mkP F.m), .p (jc F.obls)])]⟩) R3 ⟨0, 0, true, Nat.zero_le _, rfl, rfl, rfl, rfl⟩ ?_
     rintro m' s ⟨m, _, one, hm, rfl, rfl, hone, rfl⟩
     refine uA ?_
     by_cases hm2 : m < R3
     · rw [show decide ((m : Int) < (R3 : Int)) = true by simp; omega]
       refine uC (fun hlt => ?_) (fun hlt => ?_)
       rotate_left
       · cases hlt
       refine qd ?_
       refine uB ?_
       refine uA ?_
       refine uA ?_
       refine uA ?_
       refine uB ?_
       rw [la]
       refine SW.wk (zp 11 900 3 1 rfl rfl) ?_
       refine uZ [3, 5, 7, 8, 9, 10, 11, 12, 65, 66] [(9, 9), (900, 0)] ?_
       refine qw (fun j' s => ∃ (j : Nat) (jj kk : Int), j ≤ at_.length ∧ j' = at_.length - j ∧ jj = j ∧ kk = ((m / 3 ^ j : Nat) : Int) ∧ s = ⟨98, [(3, .p (atmsP at_)), (5, .p D), (7, .p (pI (R3 : Int))), (8, .p (pB one)), (9, .ptr 9 0), (10, .p (pI (m : Int))), (11, .row 0), (12, .p (pI kk)), (65, .p (pI (at_.length : Int))), (66, .p (pI jj))], [(9, .cells [.p (mkP F.m), .p (jc F.obls)]), (0, .row 3 1 ((digL m j).map fun i => [pI i]))]⟩) at_.length ⟨0, 0, (m : Int), Nat.zero_le _, rfl, rfl, by rw [Nat.pow_zero, Nat.div_one], rfl⟩ ?_
       rintro j' s ⟨j, _, kk, hj, rfl, rfl, hkk, rfl⟩
       refine uA ?_
       refine uC (fun hlj => ?_) (fun hlj => ?_)
       · refine qd ?_
         have hlj' : j < at_.length := by simpa using hlj
         obtain ⟨x, hx⟩ : ∃ x, x = m / 3 ^ j := ⟨_, rfl⟩
         have hxm : x ≤ m := by rw [hx]; exact Nat.div_le_self _ _
         rw [← hx] at hkk
         subst hkk
         have e9 : (digL m (j + 1)).map (fun i => [pI i]) = (digL m j).map (fun i => [pI i]) ++ [[pI ((x : Int).tmod 3)]] := by
          rw [digL, List.map_append, ← hx]
          congr 3
         have ld := qaK m j
         refine uB ?_
         refine uR ?_
         refine qe qa rfl rfl (by decide) rfl ?_
         refine uS ?_
         refine qy rfl (qg qa rfl rfl rfl rfl rfl rfl rfl rfl rfl rfl rfl rfl rfl rfl rfl rfl (by simp only [List.length_append, List.length_map, List.length_take, List.length_cons, List.length_nil]; unfold reachBytes; omega) (by simp only [List.length_append, List.length_map, List.length_take, List.length_cons, List.length_nil]; omega) ?_)
         refine uS ?_
         refine qb ?_
         refine uR ?_
         refine qe qa rfl rfl (by decide) rfl ?_
         refine uS ?_
         refine qb ?_
         refine uA ?_
         refine ⟨_, _, ?_, qh [3, 5, 7, 8, 9, 10, 11, 12, 65, 66] [(9, 9), (72, 0)] rfl rfl, j + 1, _, IntKind.i64.wrap ((x : Int).tdiv 3), hlj', rfl, qf hlj' (by omega), ?_, ?_⟩
         · omega
         · show IntKind.i64.wrap ((x : Int).tdiv 3) = ((m / 3 ^ (j + 1) : Nat) : Int)
           rw [Nat.pow_succ, ← Nat.div_div_eq_div_mul, ← hx, show (x : Int).tdiv 3 = ((x / 3 : Nat) : Int) from rfl]
           exact IntWalk.i64_in _ (by omega)
         · rw [e9]; rfl
       · refine qt ?_
         have hjj : j = at_.length := by simp at hlj; omega
         subst hjj
         refine SW.wk (zg (k := 0) rfl) ?_
         have HA := (hVm m).1
         have HR := resultsD_h (f m) F (hVm m).2 hK0
         have hs := oneB_succ f F m
         rw [← hone] at hs
         generalize f m = fm at *
         cases one with
         | false =>
           refine uD [] [1, 3, 5, 7, 11, 8, 12, 15, 17] ?_
           refine qY ?_
           refine uA ?_
           refine ⟨_, _, ?_, qh [3, 5, 7, 8, 9, 10] [(9, 9)] rfl rfl, m + 1, _, _, hm2, rfl, qf hm2 (by omega), hs.symm, rfl⟩
           omega
         | true =>
           refine uD [] [1, 3, 5, 7, 11, 8, 12, 15, 17] ?_
           refine uo HA ?_
           refine uT ?_
           refine uk HR ?_
           refine uT ?_
           refine qY ?_
           refine uA ?_
           rw [Bool.true_and] at hs
           refine ⟨_, _, ?_, qh [3, 5, 7, 8, 9, 10] [(9, 9)] rfl rfl, m + 1, _, _, hm2, rfl, qf hm2 (by omega), hs.symm, rfl⟩
           omega
     · rw [show decide ((m : Int) < (R3 : Int)) = false by simp; omega]
       refine uC (fun hlt => ?_) (fun hlt => ?_)
       · cases hlt
       refine qt ?_
       have hmk : m = R3 := by omega
       rw [hmk] at hone
       have hall : (∀ m, m < R3 → f m = F) ↔ one = true := by
        rw [hone]
        unfold oneB
        rw [List.all_eq_true]
        exact ⟨fun h m hm => decide_eq_true (h m (List.mem_range.1 hm)), fun h m hm => of_decide_eq_true (h m (List.mem_range.2 hm))⟩
       rw [hall] at hLaw
       refine uR ?_
       refine qy rfl (qaG rfl rfl rfl rfl (HZ) rfl ?_)
       rintro _ ⟨n1, rfl, g1, g2⟩
       rw [hLaw] at g2
       have e1 : ((n1 : Int) == 0) = one := by
        rw [Bool.eq_iff_iff, beq_iff_eq]
        constructor
        · intro h; exact g2.1 (by omega)
        · intro h; have := g2.2 h; omega
       refine uS ?_
       rw [e1, show (one == one) = true from beq_self_eq_true one]
       refine uS ?_
       refine qy rfl (qaG rfl rfl rfl rfl (HZ) rfl ?_)
       rintro _ ⟨n2, rfl, g3, _⟩
       refine uS ?_
       rw [show decide ((n2 : Int) ≤ (R3 : Int)) = true by simp; omega]
       refine uS ?_
       refine uK hRuns ?_
       refine uS ?_
       refine qb ?_
       refine uQ ?_
       exact jJ rfl rfl
set_option maxHeartbeats 8000000
set_option maxRecDepth 100000
def xM : Mat := ⟨⟨3, ⟨#[120]⟩, false⟩, 1, ⟨2, 1, ⟨#[]⟩⟩⟩
def rP1 : Pol := .mk ⟨#[112]⟩ false 3 [] [⟨⟨#[114]⟩, false, [[[xM]]], [], []⟩, ⟨⟨#[100]⟩, true, [], [], []⟩] [] []
def rP2 : Pol := .mk ⟨#[112]⟩ false 5 [] [⟨⟨#[100]⟩, true, [[[xM]]], [], []⟩] [] []
def xG : List Giv := [⟨3, ⟨#[120]⟩, [⟨2, 1, ⟨#[]⟩⟩]⟩]
def tgX : PV := .sl 1 [[.sl 1 [[.sl 7 [[pI 3, pS ⟨#[120]⟩, pB false, pI 1, pI 2, pI 1, pS ⟨#[]⟩]]]]]]
theorem read1_h : Holds Tryz.prog 7 [.v (.string ⟨#[112, 111, 108, 105, 99, 121, 32, 112, 32, 102, 105, 114, 115, 116, 32, 123, 32, 112, 101, 114, 109, 105, 116, 32, 114, 32, 119, 104, 101, 110, 32, 40, 99, 97, 115, 101, 46, 120, 32, 61, 32, 49, 41, 59, 32, 100, 101, 110, 121, 32, 100, 59, 32, 125]⟩)] (.agg [.p (pS ⟨#[112]⟩), .p (pB false), .p (pI 3), .p nilV, .row 0, .p nilV, .p nilV]) [(0, .row 109 5 [[pS ⟨#[114]⟩, pB false, tgX, nilV, nilV], [pS ⟨#[100]⟩, pB true, nilV, nilV, nilV]])] :=
 .ofW (qan (n := 5000) qa (qaq _) (FnsCF_ok ctab) (by kernel_rfl) (by kernel_rfl))
theorem read2_h : Holds Tryz.prog 7 [.v (.string ⟨#[112, 111, 108, 105, 99, 121, 32, 112, 32, 100, 101, 110, 121, 117, 110, 108, 101, 115, 115, 32, 123, 32, 100, 101, 110, 121, 32, 100, 32, 119, 104, 101, 110, 32, 40, 99, 97, 115, 101, 46, 120, 32, 61, 32, 49, 41, 59, 32, 125]⟩)] (.agg [.p (pS ⟨#[112]⟩), .p (pB false), .p (pI 5), .p nilV, .row 0, .p nilV, .p nilV]) [(0, .row 109 5 [[pS ⟨#[100]⟩, pB true, tgX, nilV, nilV]])] :=
 .ofW (qan (n := 5000) qa (qaq _) (FnsCF_ok ctab) (by kernel_rfl) (by kernel_rfl))
theorem x_h : Holds Tryz.prog 9 [pI 1] (.row 0) [(0, .row 84 3 (xG.map Giv.pv))] :=
 .ofW (qan (n := 5000) qa (qaq _) (FnsCF_ok ctab) (by kernel_rfl) (by kernel_rfl))
set_option maxHeartbeats 8000000
set_option maxRecDepth 100000
theorem xM_fit : xM.Fit := ⟨⟨by unfold R64; decide, by decide⟩, by unfold R64; decide, ⟨by unfold R64; decide, by unfold R64; decide, by decide⟩⟩
theorem xT_fit : TarFit [[[xM]]] := fun x hx y hy m hm => by
 have e1 : x = [[xM]] := List.mem_singleton.1 hx
 subst e1
 have e2 : y = [xM] := List.mem_singleton.1 hy
 subst e2
 have e3 : m = xM := List.mem_singleton.1 hm
 subst e3
 exact xM_fit
theorem rul_fit1 (s : ByteArray) (hs : s.size ≤ reachBytes) (d : Bool) (t : Tar) (ht : TarFit t) : RulFit ⟨s, d, t, [], []⟩ := ⟨hs, ht, (fun n hn => nomatch hn), fun o ho => nomatch ho⟩
theorem tar_nil_fit : TarFit [] := fun x hx => nomatch hx
theorem rP1_f : PolF 1 rP1 := ⟨⟨by decide, tar_nil_fit, fun r hr => by
 rcases List.mem_cons.1 hr with rfl | hr
 · exact rul_fit1 _ (by decide) _ _ xT_fit
 · rw [List.mem_singleton.1 hr]; exact rul_fit1 _ (by decide) _ _ tar_nil_fit, fun o ho => (nomatch ho), by decide, by decide⟩, by unfold R64; decide, fun k hk => (nomatch hk)⟩
theorem rP2_f : PolF 1 rP2 := ⟨⟨by decide, tar_nil_fit, fun r hr => by
 rw [List.mem_singleton.1 hr]; exact rul_fit1 _ (by decide) _ _ xT_fit, fun o ho => (nomatch ho), by decide, by decide⟩, by unfold R64; decide, fun k hk => (nomatch hk)⟩
def xA : List Atm := [⟨xM, []⟩]
theorem rP1_a : qM rP1 = xA := by decide +kernel
theorem rP2_a : qM rP2 = xA := by decide +kernel
def xE1 : List Rs := [⟨(0, 0), []⟩, ⟨(1, 0), []⟩, ⟨(2, 0), []⟩, ⟨(0, 2), []⟩]
def xE2 : List Rs := [⟨(0, 0), []⟩, ⟨(0, 1), []⟩, ⟨(0, 2), []⟩]
theorem rP1_q : polPt (qM rP1) 4 [] rP1 = ⟨false, ⟨2000, [⟨0, -4, -2, -3⟩], 0⟩, 0, xE1⟩ := by kernel_rfl
theorem rP2_q : polPt (qM rP2) 4 [] rP2 = ⟨false, ⟨2000, [], -3⟩, 0, xE2⟩ := by kernel_rfl
theorem rP1_r : zj rP1 = 0 := by decide +kernel
theorem rP2_r : zj rP2 = 0 := by decide +kernel
theorem rP1_s : rP1.sz ≤ 3000 := by decide +kernel
theorem rP2_s : rP2.sz ≤ 3000 := by decide +kernel
theorem ask1_h : Holds Tryz.prog 25 [.agg (Atm.pv ⟨xM, []⟩), zm xG] (.p (pI (askS xM [] xG))) [] :=
 .ofW (qan (n := 5000) qa (qaq _) (FnsCF_ok ctab) (by kernel_rfl) (by kernel_rfl))
theorem ask2_h : Holds Tryz.prog 25 [.agg (Atm.pv ⟨xM, []⟩), zm []] (.p (pI (askS xM [] []))) [] :=
 .ofW (qan (n := 5000) qa (qaq _) (FnsCF_ok ctab) (by kernel_rfl) (by kernel_rfl))
theorem asks1 : ∀ x ∈ xA, Holds Tryz.prog 25 [.agg x.pv, zm xG] (.p (pI (askS x.m x.c xG))) [] := fun x hx => by
 have e : x = ⟨xM, []⟩ := List.mem_singleton.1 hx
 subst e
 exact ask1_h
theorem asks2 : ∀ x ∈ xA, Holds Tryz.prog 25 [.agg x.pv, zm []] (.p (pI (askS x.m x.c []))) [] := fun x hx => by
 have e : x = ⟨xM, []⟩ := List.mem_singleton.1 hx
 subst e
 exact ask2_h
theorem r1_cv : CvL [pS ⟨#[114]⟩, pB false, tgX, nilV, nilV] (zy ⟨⟨#[114]⟩, false, [[[xM]]], [], []⟩) := .cons (.refl _) (.cons (.refl _) (.cons (.refl _) (.cons (.nil 7) (.cons (.nil 3) .nil))))
theorem r2_cv : CvL [pS ⟨#[100]⟩, pB true, nilV, nilV, nilV] (zy ⟨⟨#[100]⟩, true, [], [], []⟩) := .cons (.refl _) (.cons (.refl _) (.cons (.nil 1) (.cons (.nil 7) (.cons (.nil 3) .nil))))
theorem r3_cv : CvL [pS ⟨#[100]⟩, pB true, tgX, nilV, nilV] (zy ⟨⟨#[100]⟩, true, [[[xM]]], [], []⟩) := .cons (.refl _) (.cons (.refl _) (.cons (.refl _) (.cons (.nil 7) (.cons (.nil 3) .nil))))
theorem p1_cv : CvL [pS ⟨#[112]⟩, pB false, pI 3, nilV, .sl 5 [[pS ⟨#[114]⟩, pB false, tgX, nilV, nilV], [pS ⟨#[100]⟩, pB true, nilV, nilV, nilV]], nilV, nilV] (polP rP1) :=
 .cons (.refl _) (.cons (.refl _) (.cons (.refl _) (.cons (.nil 1) (.cons (CvM.sl (.cons r1_cv (.cons r2_cv .nil))) (.cons (.nil 7) (.cons (.nil 3) .nil))))))
theorem p2_cv : CvL [pS ⟨#[112]⟩, pB false, pI 5, nilV, .sl 5 [[pS ⟨#[100]⟩, pB true, tgX, nilV, nilV]], nilV, nilV] (polP rP2) :=
 .cons (.refl _) (.cons (.refl _) (.cons (.refl _) (.cons (.nil 1) (.cons (CvM.sl (.cons r3_cv .nil)) (.cons (.nil 7) (.cons (.nil 3) .nil))))))
theorem o1_h : Holds Tryz.prog 6 [.agg [pS ⟨#[112]⟩, pB false, pI 3, nilV, .sl 5 [[pS ⟨#[114]⟩, pB false, tgX, nilV, nilV], [pS ⟨#[100]⟩, pB true, nilV, nilV, nilV]], nilV, nilV]] (.tup [.p (dgmP xA ⟨2000, [⟨0, -4, -2, -3⟩], 0⟩ xE1), .p (pI 0)]) [] := by
 have H := cof_ok rP1 rP1_f (Nat.le_trans rP1_s (by decide)) rP1_r (by rw [rP1_a]; decide) (by rw [rP1_q])
 rw [rP1_q, rP1_a] at H
 exact H.cv (.cons (CvL.agg p1_cv) .nil)
theorem o2_h : Holds Tryz.prog 6 [.agg [pS ⟨#[112]⟩, pB false, pI 5, nilV, .sl 5 [[pS ⟨#[100]⟩, pB true, tgX, nilV, nilV]], nilV, nilV]] (.tup [.p (dgmP xA ⟨2000, [], -3⟩ xE2), .p (pI 0)]) [] := by
 have H := cof_ok rP2 rP2_f (Nat.le_trans rP2_s (by decide)) rP2_r (by rw [rP2_a]; decide) (by rw [rP2_q])
 rw [rP2_q, rP2_a] at H
 exact H.cv (.cons (CvL.agg p2_cv) .nil)
theorem xE1_ek : EK xE1 := fun x hx => by
 simp only [xE1, List.mem_cons, List.not_mem_nil, or_false] at hx
 rcases hx with rfl | rfl | rfl | rfl <;> exact ⟨by decide, Nat.zero_le _⟩
theorem xE2_ek : EK xE2 := fun x hx => by
 simp only [xE2, List.mem_cons, List.not_mem_nil, or_false] at hx
 rcases hx with rfl | rfl | rfl <;> exact ⟨by decide, Nat.zero_le _⟩
theorem w1 : WfB [⟨0, -4, -2, -3⟩] := fun i hi => by
 have : i = 0 := by simpa using hi
 subst this
 refine ⟨(by show (0 : Int) ≤ 0; decide), (by show (0 : Int) < 64; decide), fun j hj => ?_⟩
 match j, hj with
 | 0, _ => exact ⟨(by show (-1048576 : Int) ≤ -4; decide), fun h => absurd h (by show ¬ (0 : Int) ≤ -4; decide)⟩
 | 1, _ => exact ⟨(by show (-1048576 : Int) ≤ -2; decide), fun h => absurd h (by show ¬ (0 : Int) ≤ -2; decide)⟩
 | 2, _ => exact ⟨(by show (-1048576 : Int) ≤ -3; decide), fun h => absurd h (by show ¬ (0 : Int) ≤ -3; decide)⟩
theorem a1 : AtB (xA.length : Int) [⟨0, -4, -2, -3⟩] := fun b hb => by rw [List.mem_singleton.1 hb]; decide
theorem d1_h : Holds Tryz.prog 8 [dgmP xA ⟨2000, [⟨0, -4, -2, -3⟩], 0⟩ xE1, zm xG] (.tup [.p (.agg (rsP ⟨(2, 0), []⟩)), .p (pI ((1 : Nat) : Int))]) [] :=
 ddec_h xA ⟨2000, [⟨0, -4, -2, -3⟩], 0⟩ xE1 xE1_ek xG asks1 w1 (by decide) a1 1 (by decide) 2 (by decide) (by decide) _ rfl (.step (b := ⟨0, -4, -2, -3⟩) rfl (by
  rw [show askα xA xG (Br.atom ⟨0, -4, -2, -3⟩) = 2 by decide +kernel]
  exact .leaf (by decide)))
theorem d2_h : Holds Tryz.prog 8 [dgmP xA ⟨2000, [⟨0, -4, -2, -3⟩], 0⟩ xE1, nilV] (.tup [.p (.agg (rsP ⟨(0, 2), []⟩)), .p (pI ((1 : Nat) : Int))]) [] :=
 (ddec_h xA ⟨2000, [⟨0, -4, -2, -3⟩], 0⟩ xE1 xE1_ek [] asks2 w1 (by decide) a1 1 (by decide) 3 (by decide) (by decide) _ rfl (.step (b := ⟨0, -4, -2, -3⟩) rfl (by
  rw [show askα xA [] (Br.atom ⟨0, -4, -2, -3⟩) = 0 by decide +kernel]
  exact .leaf (by decide)))).cv (.cons (.refl _) (.cons (.nil 3) .nil))
theorem d3_h : Holds Tryz.prog 8 [dgmP xA ⟨2000, [], -3⟩ xE2, zm xG] (.tup [.p (.agg (rsP ⟨(0, 2), []⟩)), .p (pI ((0 : Nat) : Int))]) [] :=
 ddec_h xA ⟨2000, [], -3⟩ xE2 xE2_ek xG asks1 (fun i hi => absurd hi (Nat.not_lt_zero _)) (by decide) (atB_nil _) 0 (by decide) 2 (by decide) (by decide) _ rfl (.leaf (by decide))
theorem rdO_mk {K : List Nat} {st : St} {o : Oper} {m c : Mk} (A B : Nat) (hmc : m = c) (hm : m ∈ mks) (hA : hb c.1 = A) (hB : hb c.2 = B) (h : opR TTab K st o.op = some (True, .p (pB (FloatKind.f64.format.order (hb m.1) A == some .eq && FloatKind.f64.format.order (hb m.2) B == some .eq)))) : RdO Tryz.prog K st o (.p (pB true)) := by
 subst hA hB
 have e : mkE m c = true := by rw [mkE_eq hm (hmc ▸ hm)]; exact decide_eq_true hmc
 rw [← e]
 exact qs qa h True.intro
theorem HoldsE.imp {P : Program} {f : FuncId} {args : List PV} {R R' : SV → Prop} (h : HoldsE P f args R) (hr : ∀ r, R r → R' r) : HoldsE P f args R' := ⟨h.1, fun w Sx vs a b c => (h.2 w Sx vs a b c).mono fun e w' ⟨r, v, hR, h2⟩ => ⟨r, v, hr r hR, h2⟩⟩
theorem z1_h : HoldsE Tryz.prog 10 [dgmP xA ⟨2000, [⟨0, -4, -2, -3⟩], 0⟩ xE1] (fun r => r = .p (pI ((1 : Nat) : Int))) :=
 (gsize_h xA ⟨2000, [⟨0, -4, -2, -3⟩], 0⟩ xE1 (by show 1 ≤ 100000; omega)).imp fun r ⟨n, h1, h2, h3⟩ => by
  have e1 : n ≤ 1 := h2
  have e2 : n ≠ 0 := fun h => (h3.1 h) ⟨(by show (0 : Int) ≤ 0; omega), (by show (0 : Int) < ((1 : Nat) : Int); omega)⟩
  clear h2 h3
  have e3 : n = 1 := by omega
  rw [h1, e3]
theorem z2_h : HoldsE Tryz.prog 10 [dgmP xA ⟨2000, [], -3⟩ xE2] (fun r => r = .p (pI ((0 : Nat) : Int))) :=
 (gsize_h xA ⟨2000, [], -3⟩ xE2 (by show 0 ≤ 100000; omega)).imp fun r ⟨n, h1, h2, h3⟩ => by
  have e1 : n ≤ 0 := h2
  clear h2 h3
  have e3 : n = 0 := by omega
  rw [h1, e3]
theorem compileRuns_h : Holds Tryz.prog 3 [] (.p (pB true)) [] := by
 have HZ1 := z1_h
 have HZ2 := z2_h
 have H1 := o1_h
 have H2 := o2_h
 have HD1 := d1_h
 have HD2 := d2_h
 have HD3 := d3_h
 obtain ⟨m1, hm1⟩ : ∃ m : Mk, m = (2, 0) := ⟨_, rfl⟩
 obtain ⟨m2, hm2⟩ : ∃ m : Mk, m = (0, 2) := ⟨_, rfl⟩
 rw [← hm1] at HD1
 rw [← hm2] at HD2 HD3
 generalize hD1 : dgmP xA ⟨2000, [⟨0, -4, -2, -3⟩], 0⟩ xE1 = D1 at *
 generalize hD2 : dgmP xA ⟨2000, [], -3⟩ xE2 = D2 at *
 refine qo (ts := [0]) Tryz.func3 (by kernel_rfl) rfl rfl rfl ?_
 refine uA ?_
 refine uR ?_
 refine uO read1_h ?_
 refine SWT.wk (zg (k := 13000) rfl) ?_
 refine uS ?_
 refine uO H1 ?_
 refine qb ?_
 refine uR ?_
 refine uO read2_h ?_
 refine SWT.wk (zg (k := 18000) rfl) ?_
 refine uS ?_
 refine uO H2 ?_
 refine qb ?_
 obtain ⟨cs1, rfl⟩ : ∃ cs, D1 = .rp cs := ⟨_, hD1.symm⟩
 obtain ⟨cs2, rfl⟩ : ∃ cs, D2 = .rp cs := ⟨_, hD2.symm⟩
 clear hD1 hD2
 refine uR ?_
 refine qy rfl (jl (K := []) (rdO_E qa (s := .p (pB false)) (by rfl)) rfl ?_)
 refine uS ?_
 refine qy rfl (jl (K := []) (rdO_E qa (s := .p (pB false)) (by rfl)) rfl ?_)
 refine uS ?_
 refine qb ?_
 refine uC (fun hc => ?_) (fun hc => ?_)
 · cases hc
 refine qd ?_
 refine uR ?_
 refine uO x_h ?_
 refine SWT.wk (zg (k := 38000) rfl) ?_
 refine uS ?_
 refine uO HD1 ?_
 refine uS ?_
 refine qb ?_
 refine uR ?_
 refine uO HD2 ?_
 refine uS ?_
 refine qb ?_
 refine uR ?_
 refine uO x_h ?_
 refine SWT.wk (zg (k := 49000) rfl) ?_
 refine uS ?_
 refine uO HD3 ?_
 refine uS ?_
 refine qb ?_
 have k1 : m1 ∈ mks := by rw [hm1]; simp [mks]
 have k2 : m2 ∈ mks := by rw [hm2]; simp [mks]
 refine uR ?_
 refine qy rfl (qaG rfl rfl rfl rfl (HZ1) rfl ?_)
 rintro _ rfl
 refine zR ?_
 refine zR ?_
 refine zR ?_
 refine zR ?_
 refine qy rfl (jl (K := []) (rdO_mk (m := m1) (c := (2, 0)) 4607182418800017408 0 hm1 k1 rfl rfl (by kernel_rfl)) rfl ?_)
 refine zR ?_
 refine zR ?_
 refine zR ?_
 refine zR ?_
 refine zR ?_
 refine zR ?_
 refine zR ?_
 refine zR ?_
 refine qy rfl (jl (K := []) (rdO_mk (m := m2) (c := (0, 2)) 0 4607182418800017408 hm2 k2 rfl rfl (by kernel_rfl)) rfl ?_)
 refine zR ?_
 refine zR ?_
 refine zR ?_
 refine zR ?_
 refine zR ?_
 refine zR ?_
 refine zR ?_
 refine qy rfl (qaG rfl rfl rfl rfl (HZ2) rfl ?_)
 rintro _ rfl
 refine zR ?_
 refine zR ?_
 refine zR ?_
 refine zR ?_
 refine zR ?_
 refine qy rfl (jl (K := []) (rdO_mk (m := m2) (c := (0, 2)) 0 4607182418800017408 hm2 k2 rfl rfl (by kernel_rfl)) rfl ?_)
 refine uS ?_
 refine qb ?_
 refine uQ ?_
 exact jJ rfl rfl
inductive RelsP (w : World) : List PV → List Value → Prop
 | nil : RelsP w [] []
 | cons {x : PV} {u : Value} {xs : List PV} {us : List Value} (h : RelP (fun _ => True) w x u) (r : RelsP w xs us) : RelsP w (x :: xs) (u :: us)
theorem RelsP.get {w : World} {xs : List PV} {us : List Value} (h : RelsP w xs us) : us.length = xs.length ∧ ∀ (i : Nat) (s : PV) (u : Value), xs[i]? = some s → us[i]? = some u → RelP (fun _ => True) w s u := by
 induction h with
 | nil => exact ⟨rfl, fun i s u h => by simp at h⟩
 | cons h r ih =>
   refine ⟨by simp [ih.1], fun i s u hs hu => ?_⟩
   cases i with
   | zero => simp at hs hu; subst hs; subst hu; exact h
   | succ i => exact ih.2 i s u (by simpa using hs) (by simpa using hu)
theorem law_callsG {P : Program} {f : FuncId} {args : List PV} {us : List Value} {W : World} (hg : GlOk (entry W) fun _ => False) (H : Holds P f args (.p (.v (.bool true))) []) (hr : RelsP W args us) : Calls P f us.toArray W fun e w' => e = .returned (.bool true) ∧ Below W.heap.size W w' := by
 obtain ⟨h1, h2⟩ := hr.get
 refine (H.2 W (fun _ => False) us ⟨fun _ h => h.elim, hg⟩ h1 fun i s u hs hu => (h2 i s u hs hu).weak fun _ _ _ => fun h => h).mono fun e w' ⟨v, γ, he, hb, _, hv⟩ => ?_
 have := hv.v_inv
 subst this
 exact ⟨he, hb⟩
theorem rel_agg {w : World} {cs : List Value} {x : List PV} (h : rPV (fun _ => True) w cs x) : RelP (fun _ => True) w (.agg x) (.agg cs.toArray) := .agg h.1 h.2
end Go.Proofs.YtkkbdgijfkocnaaGreatDoor
namespace Go.Proofs.YtkkbdgijfkocnaaGreatDoor
set_option linter.unusedSimpArgs false
open Go.ChangeShapes Go.WideShapes Go.ChangeAt Go.RowKit
set_option linter.unusedVariables false
theorem law_liftL {H : Type} {enc : TypeId × Value → H} {C : Checked} {os : Os} {f : FuncId} {fn : Func} {s : ChangeSpec} {bt : TypeId} {laid : List (String × DataW Unit)}
 (own : ownKnob C.prog.godebug = none) (started : os.Started) (noInit : C.prog.inits.idxOf? f = none) (hfn : C.prog.funcs[f]? = some fn)
 (witness : ∃ (w : World) (tape : Tape) (i : Input), w.os = os ∧ (w.forCall tape i).Shaped C.prog ∧ i.vars = [] ∧ Input.okWide C.prog (w.forCall tape i) .any w.heap.size f i ∧
  ((s.pre enc C.prog fn [] false (w.forCall tape i).memory i.args ∧ laidMetH C.prog laid (w.forCall tape i).memory) ∧ sizedMet enc C.prog fn (OpenSpec.ofChange s) false (w.forCall tape i).memory i.args) ∧ ({} : Assume).holds C.prog (lone (Frame.enter C.prog f i.args .normal) [] (w.forCall tape i)))
 (hl : laidOutB C.prog = true) (hts : ∀ t ∈ fn.params.toList, C.prog.readableRec t = true ∧ t < C.prog.types.size) (hvars : s.vars = []) (hvt : s.plain.varTypes C.prog = [])
 (hspec : ∀ (W : World) (args : Array Value) (ds : List (DataW H)) (ps : List MemPlace), DataW.TrodAll enc C.prog W 0 (fun _ => true) true fn.params.toList args.toList ds ps → s.fn H ds = { results := [.lit (.bool true)], args := ds })
 (hres : fn.resultTypes = #[bt]) (hbt : C.prog.underlying bt = some .bool)
 (walk : ∀ (W : World) (base : Nat) (args : Array Value) (ds : List (DataW H)) (ps : List MemPlace), laidMetH C.prog laid W →
  (∀ (j : Nat) t v, fn.params[j]? = some t → args[j]? = some v → Value.okWide C.prog W .any base t v) →
  DataW.TrodAll enc C.prog W 0 (fun _ => true) true fn.params.toList args.toList ds ps →
  (∀ n ∈ DataW.weightsEach C.prog fn.params.toList ds, n ≤ reachBytes) →
  Calls C.prog f args W fun e W' => e = .returned (.bool true) ∧ Below W.heap.size W W') :
 ReturnsInHanded {} C os f .any (fun w args => (s.pre enc C.prog fn [] false w args ∧ laidMetH C.prog laid w) ∧ sizedMet enc C.prog fn (OpenSpec.ofChange s) false w args) (s.post enc C.prog fn false true false false) := by
 refine returnsInHanded_of_change_and (X := fun w _ => laidMetH C.prog laid w) (fun _ _ _ hh h => h.of_heap hh) own started noInit hfn witness ?_
 intro W base args ds gs before hval hW _ hsz hL _
 have hlt : ∀ p ∈ before, p.block < W.heap.size := fun p hp => hW.lt p hp
 have hW0 := hW
 obtain ⟨p, q, hA, hV, rfl, hz, hn⟩ := hW0
 rw [hvars] at hV
 obtain ⟨rfl, rfl⟩ := trodVars_none hV
 have hsp := hspec W args ds p hA
 refine (walk W base args ds p hL hval hA ?_).mono fun e W' ⟨he, hb⟩ => ?_
 · intro n hn
   rw [hvt, List.append_nil, List.append_nil] at hsz
   exact of_decide_eq_true (List.all_eq_true.1 hsz n hn)
 · subst he
   refine ⟨_, rfl, ds, [], p ++ [], [], p, [], hW, ?_, ?_, ?_, World.keptBut_mono (fun x hx => ⟨hx, Or.inr (Or.inl (by simpa using hx))⟩) (hb.frame (· ∈ p ++ [])), fun h => by cases h⟩
   · rw [List.append_nil, hsp, hres]
     exact trodAll_mk1 (shut_bool hbt _)
   · rw [List.append_nil, hsp]
     exact trodAll_below hl hb hts (fun x hx => hlt x (by simpa using hx)) (fun x hx => by simpa using hlt x (by simpa using hx)) hA
   · rw [List.append_nil, hsp, hvars]
     rfl
theorem jr {P : Program} {x : String × DataW Unit} {l : List (String × DataW Unit)} {W : World} (h : laidMet P (x :: l) W) : laidMet P l W := by
 obtain ⟨ps, ⟨g, t, cs, fuel, p, q, h1, h2, h3, h4, h5, h6⟩, hn, hb⟩ := h
 subst h6
 exact ⟨q, h5, (List.nodup_append.1 hn).2.1, fun b off hm => hb b off (List.mem_append_right _ hm)⟩
theorem block_of_tab {P : Program} {W : World} {name : String} {k : IntKind} {zs : List Int} {g : Nat} (h : Lib.TabIs P W name k zs) (hg : P.globalNamed name = some g) {us : List Value} (hu : us = zs.map fun z => Value.int k z) : g < W.heap.size ∧ ∃ ty m, W.heap[g]? = some (.cells us.toArray ty m) := by
 unfold Lib.TabIs World.var? at h
 rw [hg] at h
 simp only [Option.bind_some] at h
 split at h
 · rename_i cs ty m hb
   cases h
   exact ⟨(Array.getElem?_eq_some_iff.1 hb).1, ty, m, by rw [hb, hu]⟩
 · cases h
theorem err_of_reads {P : Program} {W : World} {name nm : String} {g t : Nat} {ms : Array (String × TypeId)} {d : DataW Unit} (hg : P.globalNamed name = some g) (ht : (P.globals[g]?).map (·.type) = some t) (hu : P.underlying t = some (.interface ms)) (h : Lib.VarReads P W name (.iface nm d)) :
 g < W.heap.size ∧ ∃ ev ty m, W.heap[g]? = some (.cells #[ev] ty m) ∧ errV ev = true := by
 obtain ⟨g', t', cs, fuel, p, h1, h2, h3, h4⟩ := h
 rw [hg] at h1
 cases h1
 rw [ht] at h2
 cases h2
 have hc : ∃ u v, cs.toList = [.iface u v] := by
  cases fuel with
  | zero => cases h4
  | succ fuel =>
    unfold DataW.trod at h4
    rw [hu] at h4
    generalize cs.toList = l at h4
    match l, h4 with
    | [.iface u v], _ => exact ⟨u, v, rfl⟩
    | [.nilIface], h4 => simp at h4
    | [], h4 => simp at h4
    | _ :: _ :: _, h4 => simp at h4
 obtain ⟨u, v, hc⟩ := hc
 have hc' : cs = #[.iface u v] := Array.toList_inj.1 hc
 subst hc'
 unfold World.var? at h3
 rw [hg] at h3
 simp only [Option.bind_some] at h3
 split at h3
 · rename_i cs ty m hb
   cases h3
   exact ⟨(Array.getElem?_eq_some_iff.1 hb).1, _, ty, m, hb, rfl⟩
 · cases h3
end Go.Proofs.YtkkbdgijfkocnaaGreatDoor
namespace Go.Proofs.YtkkbdgijfkocnaaGreatDoor
open Go.RowKit
theorem own_none : ownKnob Tryz.prog.godebug = none := by kernel_rfl
theorem gl_of_laid {rest : List (String × DataW Unit)} {W : World} (h : laidMet Tryz.prog (("math/bits.deBruijn32tab", Rows.laid_math_bits_deBruijn32tab) :: ("math/bits.deBruijn64tab", Rows.laid_math_bits_deBruijn64tab) :: ("internal/strconv.uint64pow10", Rows.laid_internal_strconv_uint64pow10) :: ("strconv.ErrRange", Rows.laid_strconv_ErrRange) :: rest) W) : GlOk (entry W) fun _ => False := by
 have b0 := block_of_tab (g := 4) (us := [.int .u8 0, .int .u8 1, .int .u8 28, .int .u8 2, .int .u8 29, .int .u8 14, .int .u8 24, .int .u8 3, .int .u8 30, .int .u8 22, .int .u8 20, .int .u8 15, .int .u8 25, .int .u8 17, .int .u8 4, .int .u8 8, .int .u8 31, .int .u8 27, .int .u8 13, .int .u8 23, .int .u8 21, .int .u8 19, .int .u8 16, .int .u8 7, .int .u8 26, .int .u8 12, .int .u8 18, .int .u8 6, .int .u8 11, .int .u8 5, .int .u8 10, .int .u8 9]) (Lib.tabIs_of_head (k := .u8) (zs := [0, 1, 28, 2, 29, 14, 24, 3, 30, 22, 20, 15, 25, 17, 4, 8, 31, 27, 13, 23, 21, 19, 16, 7, 26, 12, 18, 6, 11, 5, 10, 9]) (g := 4) (t := 301) (e := 5) (n := 32) (by kernel_rfl) (by kernel_rfl) Tryz.underlying301 Tryz.underlying5 (by kernel_rfl) (by kernel_rfl) h) (by kernel_rfl) rfl
 have b1 := block_of_tab (g := 5) (us := [.int .u8 0, .int .u8 1, .int .u8 56, .int .u8 2, .int .u8 57, .int .u8 49, .int .u8 28, .int .u8 3, .int .u8 61, .int .u8 58, .int .u8 42, .int .u8 50, .int .u8 38, .int .u8 29, .int .u8 17, .int .u8 4, .int .u8 62, .int .u8 47, .int .u8 59, .int .u8 36, .int .u8 45, .int .u8 43, .int .u8 51, .int .u8 22, .int .u8 53, .int .u8 39, .int .u8 33, .int .u8 30, .int .u8 24, .int .u8 18, .int .u8 12, .int .u8 5, .int .u8 63, .int .u8 55, .int .u8 48, .int .u8 27, .int .u8 60, .int .u8 41, .int .u8 37, .int .u8 16, .int .u8 46, .int .u8 35, .int .u8 44, .int .u8 21, .int .u8 52, .int .u8 32, .int .u8 23, .int .u8 11, .int .u8 54, .int .u8 26, .int .u8 40, .int .u8 15, .int .u8 34, .int .u8 20, .int .u8 31, .int .u8 10, .int .u8 25, .int .u8 14, .int .u8 19, .int .u8 9, .int .u8 13, .int .u8 8, .int .u8 7, .int .u8 6]) (Lib.tabIs_of_head (k := .u8) (zs := [0, 1, 56, 2, 57, 49, 28, 3, 61, 58, 42, 50, 38, 29, 17, 4, 62, 47, 59, 36, 45, 43, 51, 22, 53, 39, 33, 30, 24, 18, 12, 5, 63, 55, 48, 27, 60, 41, 37, 16, 46, 35, 44, 21, 52, 32, 23, 11, 54, 26, 40, 15, 34, 20, 31, 10, 25, 14, 19, 9, 13, 8, 7, 6]) (g := 5) (t := 302) (e := 5) (n := 64) (by kernel_rfl) (by kernel_rfl) Tryz.underlying302 Tryz.underlying5 (by kernel_rfl) (by kernel_rfl) (jr h)) (by kernel_rfl) rfl
 have b2 := block_of_tab (g := 3) (us := [.int .u64 1, .int .u64 10, .int .u64 100, .int .u64 1000, .int .u64 10000, .int .u64 100000, .int .u64 1000000, .int .u64 10000000, .int .u64 100000000, .int .u64 1000000000, .int .u64 10000000000, .int .u64 100000000000, .int .u64 1000000000000, .int .u64 10000000000000, .int .u64 100000000000000, .int .u64 1000000000000000, .int .u64 10000000000000000, .int .u64 100000000000000000, .int .u64 1000000000000000000, .int .u64 10000000000000000000]) (Lib.tabIs_of_head (k := .u64) (zs := [1, 10, 100, 1000, 10000, 100000, 1000000, 10000000, 100000000, 1000000000, 10000000000, 100000000000, 1000000000000, 10000000000000, 100000000000000, 1000000000000000, 10000000000000000, 100000000000000000, 1000000000000000000, 10000000000000000000]) (g := 3) (t := 290) (e := 263) (n := 20) (by kernel_rfl) (by kernel_rfl) Tryz.underlying290 Tryz.underlying263 (by kernel_rfl) (by kernel_rfl) (jr (jr h))) (by kernel_rfl) rfl
 have bE := err_of_reads (g := 2) (t := 234) (by kernel_rfl) (by kernel_rfl) Tryz.underlying234 (Lib.laidMet.reads (jr (jr (jr h))) (List.mem_cons_self ..))
 refine ⟨?_, fun g hg => ?_⟩
 rotate_left
 · have e : g = 2 := by simpa [ETab] using hg
   subst e
   exact ⟨bE.1, fun h => h, bE.2⟩
 intro g us hg
 simp only [GTab, qA] at hg
 repeat' split at hg
 all_goals first | cases hg; done | skip
 all_goals (subst_vars; cases hg)
 all_goals first | exact ⟨b0.1, fun h => h, b0.2⟩ | exact ⟨b1.1, fun h => h, b1.2⟩ | exact ⟨b2.1, fun h => h, b2.2⟩
noncomputable def lowB : Nat := (World.holding Tryz.prog default ⟨#[], #[], []⟩).heap.size
noncomputable def worldB (os : Os) : World :=
 let w0 := World.holding Tryz.prog os ⟨#[.cells #[.string ⟨#[118, 97, 108, 117, 101, 32, 111, 117, 116, 32, 111, 102, 32, 114, 97, 110, 103, 101]⟩] 298, .cells #[.string ⟨#[105, 110, 118, 97, 108, 105, 100, 32, 115, 121, 110, 116, 97, 120]⟩] 298], #[], []⟩
 { w0 with heap := ((((((((((w0.heap).modify 4 fun | .cells _ t frozen => .cells #[.int .u8 0, .int .u8 1, .int .u8 28, .int .u8 2, .int .u8 29, .int .u8 14, .int .u8 24, .int .u8 3, .int .u8 30, .int .u8 22, .int .u8 20, .int .u8 15, .int .u8 25, .int .u8 17, .int .u8 4, .int .u8 8, .int .u8 31, .int .u8 27, .int .u8 13, .int .u8 23, .int .u8 21, .int .u8 19, .int .u8 16, .int .u8 7, .int .u8 26, .int .u8 12, .int .u8 18, .int .u8 6, .int .u8 11, .int .u8 5, .int .u8 10, .int .u8 9] t frozen | o => o)).modify 5 fun | .cells _ t frozen => .cells #[.int .u8 0, .int .u8 1, .int .u8 56, .int .u8 2, .int .u8 57, .int .u8 49, .int .u8 28, .int .u8 3, .int .u8 61, .int .u8 58, .int .u8 42, .int .u8 50, .int .u8 38, .int .u8 29, .int .u8 17, .int .u8 4, .int .u8 62, .int .u8 47, .int .u8 59, .int .u8 36, .int .u8 45, .int .u8 43, .int .u8 51, .int .u8 22, .int .u8 53, .int .u8 39, .int .u8 33, .int .u8 30, .int .u8 24, .int .u8 18, .int .u8 12, .int .u8 5, .int .u8 63, .int .u8 55, .int .u8 48, .int .u8 27, .int .u8 60, .int .u8 41, .int .u8 37, .int .u8 16, .int .u8 46, .int .u8 35, .int .u8 44, .int .u8 21, .int .u8 52, .int .u8 32, .int .u8 23, .int .u8 11, .int .u8 54, .int .u8 26, .int .u8 40, .int .u8 15, .int .u8 34, .int .u8 20, .int .u8 31, .int .u8 10, .int .u8 25, .int .u8 14, .int .u8 19, .int .u8 9, .int .u8 13, .int .u8 8, .int .u8 7, .int .u8 6] t frozen | o => o)).modify 3 fun | .cells _ t frozen => .cells #[.int .u64 1, .int .u64 10, .int .u64 100, .int .u64 1000, .int .u64 10000, .int .u64 100000, .int .u64 1000000, .int .u64 10000000, .int .u64 100000000, .int .u64 1000000000, .int .u64 10000000000, .int .u64 100000000000, .int .u64 1000000000000, .int .u64 10000000000000, .int .u64 100000000000000, .int .u64 1000000000000000, .int .u64 10000000000000000, .int .u64 100000000000000000, .int .u64 1000000000000000000, .int .u64 10000000000000000000] t frozen | o => o)).modify 2 fun | .cells _ t frozen => .cells #[.iface 296 (.pointer (some ⟨lowB + 0, 0, none⟩))] t frozen | o => o)).modify 1 fun | .cells _ t frozen => .cells #[.iface 296 (.pointer (some ⟨lowB + 1, 0, none⟩))] t frozen | o => o) }
theorem worldB_met (os : Os) (args : Array Value) : laidMet Tryz.prog [("math/bits.deBruijn32tab", Rows.laid_math_bits_deBruijn32tab), ("math/bits.deBruijn64tab", Rows.laid_math_bits_deBruijn64tab), ("internal/strconv.uint64pow10", Rows.laid_internal_strconv_uint64pow10), ("strconv.ErrRange", Rows.laid_strconv_ErrRange), ("strconv.ErrSyntax", Rows.laid_strconv_ErrSyntax)] ((worldB os).forCall (fun _ _ => 0) ⟨#[], args, []⟩).memory :=
 laidMet_of_run' 100 (by kernel_rfl) (by kernel_rfl)
end Go.Proofs.YtkkbdgijfkocnaaGreatDoor
