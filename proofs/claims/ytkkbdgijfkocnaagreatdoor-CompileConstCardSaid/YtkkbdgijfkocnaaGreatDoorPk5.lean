/-
  What the statement leans on, part 5: SmallH, VarAskH, VarH, FnsM, MkH, CombH, EvH, Asked, CompP, TarH, EndH, WeaveS, WeaveT, WayB, EvJ, EvD, WovenB, Pol1, CompQ, CompR, RulH, PolK, VarO, VarOf, PolO.
-/
import Derived.Test.YtkkbdgijfkocnaaGreatDoorPk1
import Derived.Test.YtkkbdgijfkocnaaGreatDoorPk2
import Derived.Test.YtkkbdgijfkocnaaGreatDoorPk3
import Derived.Test.YtkkbdgijfkocnaaGreatDoorPk4
namespace Go.Proofs.YtkkbdgijfkocnaaGreatDoor
set_option linter.unusedVariables false
set_option linter.unusedSimpArgs false
open Go.RowKit
theorem nod_back {ok : Nat → Prop} {w : World} {cs : List Value} {x : Nod} (h : rPV ok w cs x.pv) (hf : x.Fit) : rNod w cs x :=
 ⟨rPV_plain (xs := [.int .i64 x.op, .int .i64 x.val.kind, .int .i64 x.val.n, .string x.val.s, .int .i64 x.attr.cat, .string x.attr.name, .bool x.attr.must]) h, hf⟩
theorem obl_back {ok : Nat → Prop} {w : World} {cs : List Value} {x : Obli} (h : rPV ok w cs x.pv) (hf : x.Fit) : rObl w cs x :=
 ⟨rPV_plain (xs := [.int .i64 x.on, .int .i64 x.kind, .string x.arg]) h, hf⟩
theorem slv_back {α : Type} {R : Rp α} {f : α → List PV} {z : Nat} {ok : Nat → Prop} {w : World} {u : Value} {l : List α} (h : RelP ok w (.sl z (l.map f)) u) (hf : ∀ x ∈ l, ∀ cs, rPV ok w cs (f x) → R w cs x) : SlV R z w u l := by
 obtain ⟨A, c, rfl, h1, h2, h3⟩ := qaD h hf
 exact ⟨A, c, rfl, h1, h2, h3⟩
theorem tar_back {ok : Nat → Prop} {w : World} {u : Value} {t : Tar} (h : RelP ok w (tgtP t) u) (hf : TarFit t) : SlV rTar' 1 w u t := by
 obtain ⟨A, c, rfl, h1, h2, h3⟩ := tgt_typed h hf
 exact ⟨A, c, rfl, h1, h2, h3⟩
theorem rul_back {ok : Nat → Prop} {w : World} {cs : List Value} {x : Rul} (h : rPV ok w cs (zy x)) (hf : RulFit x) : rRul w cs x := by
 have hl : cs.length = 5 := h.1
 match cs, hl with
 | [c0, c1, c2, c3, c4], _ =>
   have e0 := jd (h.2 0 _ c0 rfl rfl) rfl
   have e1 := jd (h.2 1 _ c1 rfl rfl) rfl
   subst e0 e1
   exact ⟨c2, c3, c4, rfl, hf.id, tar_back (h.2 2 _ c2 rfl rfl) hf.tgt, slv_back (h.2 3 _ c3 rfl rfl) (fun x hx cs hcs => nod_back hcs (hf.cond x hx)), slv_back (h.2 4 _ c4 rfl rfl) (fun x hx cs hcs => obl_back hcs (hf.obls x hx))⟩
theorem pol_back : ∀ {n : Nat} {ok : Nat → Prop} {w : World} {cs : List Value} {p : Pol}, rPV ok w cs (polP p) → PolF n p → rPolN n w cs p
 | n + 1, ok, w, cs, p, h, hf => by
   rw [qG] at h
   have hl : cs.length = 7 := h.1
   match cs, hl with
   | [c0, c1, c2, c3, c4, c5, c6], _ =>
     have e0 := jd (h.2 0 _ c0 rfl rfl) rfl
     have e1 := jd (h.2 1 _ c1 rfl rfl) rfl
     have e2 := jd (h.2 2 _ c2 rfl rfl) rfl
     subst e0 e1 e2
     exact ⟨c3, c4, c5, c6, rfl, hf.1.id, hf.2.1, tar_back (h.2 3 _ c3 rfl rfl) hf.1.tgt, slv_back (h.2 4 _ c4 rfl rfl) (fun x hx cs hcs => rul_back hcs (hf.1.rules x hx)),
      slv_back (h.2 5 _ c5 rfl rfl) (fun x hx cs hcs => pol_back hcs (hf.2.2 x hx)), slv_back (h.2 6 _ c6 rfl rfl) (fun x hx cs hcs => obl_back hcs (hf.1.obls x hx))⟩
theorem small_h {n : Nat} (p : Pol) (hf : PolF n p) : HoldsE Tryz.prog 11 [.agg (polP p)] (Upto p.sz 3000) :=
 .of_calls Tryz.func11 (by kernel_rfl) rfl fun w vs hl hr => by
  obtain ⟨u, rfl⟩ := one_arg hl
  have h := hr 0 _ u rfl rfl
  cases h with
  | @agg _ us hl2 hr2 =>
    have hp := pol_back ⟨hl2, hr2⟩ hf
    match n, hf, hp with
    | n + 1, _, ⟨c3, c4, c5, c6, he, h1⟩ =>
      subst he
      exact (small_any (n + 1) p w c3 c4 c5 c6 ⟨c3, c4, c5, c6, rfl, h1⟩).mono fun e w' h => upto_ok h
set_option maxHeartbeats 4000000
theorem HoldsE.cv {P : Program} {f : FuncId} {args args' : List PV} {R : SV → Prop} (h : HoldsE P f args R) (hc : CvL args' args) : HoldsE P f args' R :=
 ⟨h.1, fun w Sx vs hSx hl hr => h.2 w Sx vs hSx (by rw [hl, hc.1]) fun i s u hs hu => by
  have hi : i < args.length := (List.getElem?_eq_some_iff.1 hs).1
  have h0 : args'[i]? = some (args'[i]'(by rw [hc.1]; exact hi)) := List.getElem?_eq_getElem _
  exact (hr i _ u h0 hu).cv (hc.2 i _ s h0 hs)⟩
def askS (m : Mat) (l : List Nod) (g : List Giv) : Int := if l = [] then jG m g else condS l g
def atmP (m : Mat) (c : PV) : List PV := [pI m.attr.cat, pS m.attr.name, pB m.attr.must, pI m.op, pI m.val.kind, pI m.val.n, pS m.val.s, c]
set_option maxHeartbeats 4000000
def Atm.pv (a : Atm) : List PV := atmP a.m (nodsP a.c)
abbrev atmsP (l : List Atm) : PV := .sl 8 (l.map Atm.pv)
theorem cloneN_h (l : List Nod) (hn : l.length ≤ 1000000) : Holds Tryz.prog 91 [nodsP l] (.row 0) [(0, .row 137 7 (l.map Nod.pv))] := by
 refine qo (ts := [2]) Tryz.func91 (by kernel_rfl) rfl rfl rfl ?_
 refine uA ?_
 refine uR ?_
 refine qy rfl (act_nilcmp qa rfl rfl rfl rfl rfl rfl (fun b hb => ?_))
 refine qb ?_
 refine uC (fun hc => ?_) (fun hc => ?_)
 · have hl := hb hc
   have hl' : l = [] := by simpa using hl
   subst hl'
   refine uA ?_
   refine uQ ?_
   exact ⟨Or.inr rfl, _, _, [(0, 0)], zp 2 0 137 7 rfl rfl, rfl, rfl, rfl, rfl⟩
 · refine qd ?_
   refine uR ?_
   refine qy rfl (qg qa rfl rfl rfl rfl rfl rfl rfl rfl rfl rfl rfl rfl rfl rfl rfl rfl (by simp [reachBytes]; omega) (by simp; omega) ?_)
   refine uS ?_
   refine qb ?_
   refine uQ ?_
   exact uF [(7, 0)]
theorem eqL_mat (x y : Mat) : eqL x.pv y.pv = some (decide (x = y)) := by
 have h : eqL x.pv y.pv = some ((x.attr.cat == y.attr.cat) && ((x.attr.name.toList == y.attr.name.toList) && ((x.attr.must == y.attr.must) && ((x.op == y.op) && ((x.val.kind == y.val.kind) && ((x.val.n == y.val.n) && ((x.val.s.toList == y.val.s.toList) && true))))))) := rfl
 rw [h, qac, qac, Bool.and_true]
 congr 1
 rw [Bool.eq_iff_iff]
 obtain ⟨⟨a, b, c⟩, d, ⟨e, f, g⟩⟩ := x
 obtain ⟨⟨a', b', c'⟩, d', ⟨e', f', g'⟩⟩ := y
 simp [and_assoc]
theorem eqL_nod (x y : Nod) : eqL x.pv y.pv = some (decide (x = y)) := by
 have h : eqL x.pv y.pv = some ((x.op == y.op) && ((x.val.kind == y.val.kind) && ((x.val.n == y.val.n) && ((x.val.s.toList == y.val.s.toList) && ((x.attr.cat == y.attr.cat) && ((x.attr.name.toList == y.attr.name.toList) && ((x.attr.must == y.attr.must) && true))))))) := rfl
 rw [h, qac, qac, Bool.and_true]
 congr 1
 rw [Bool.eq_iff_iff]
 obtain ⟨a, ⟨b, c, d⟩, ⟨e, f, g⟩⟩ := x
 obtain ⟨a', ⟨b', c', d'⟩, ⟨e', f', g'⟩⟩ := y
 simp [and_assoc]
theorem opR_eqM {T : TT} {K : List Nat} {st : St} {o : Op} {t t' : TypeId} {a b : Operand} (x y : Mat) (ho : o = .binOp .eql t a b t') {n m : Nat} {d : Ty} {z : List Value} (ht : lk t T = some ⟨n, m, d, z, true⟩) (ha : evS st a = some (.p (.agg x.pv))) (hb : evS st b = some (.p (.agg y.pv))) : opR T K st o = some (zd x.pv z = true, .p (pB (decide (x = y)))) := by
 subst ho
 show rBin T .eql t (evS st a) (evS st b) = _
 rw [ha, hb]
 unfold rBin
 simp only [ht, eqL_mat]
theorem opR_neN {T : TT} {K : List Nat} {st : St} {o : Op} {t t' : TypeId} {a b : Operand} (x y : Nod) (ho : o = .binOp .neq t a b t') {n m : Nat} {d : Ty} {z : List Value} (ht : lk t T = some ⟨n, m, d, z, true⟩) (ha : evS st a = some (.p (.agg x.pv))) (hb : evS st b = some (.p (.agg y.pv))) : opR T K st o = some (zd x.pv z = true, .p (pB (!decide (x = y)))) := by
 subst ho
 show rBin T .neq t (evS st a) (evS st b) = _
 rw [ha, hb]
 unfold rBin
 simp only [ht, eqL_nod]
theorem equalN_h (a b : List Nod) (ha : a.length ≤ 1000000) (hb : b.length ≤ 1000000) : Holds Tryz.prog 129 [nodsP a, nodsP b] (.p (pB (decide (a = b)))) [] := by
 have la : (a.map Nod.pv).length = a.length := by simp
 have lb : (b.map Nod.pv).length = b.length := by simp
 refine qo (ts := [4]) Tryz.func129 (by kernel_rfl) rfl rfl rfl ?_
 refine uA ?_
 refine uA ?_
 rw [la, lb]
 refine uC (fun h0 => ?_) (fun h0 => ?_)
 · have e : a ≠ b := by intro e; subst e; simp at h0
   refine uA ?_
   refine uQ ?_
   exact jJ rfl (by simp [e])
 · have hl : a.length = b.length := by simp at h0; omega
   refine qd ?_
   refine uA ?_
   refine uB ?_
   refine uZ [0, 1, 12, 13] [] ?_
   refine qw (fun m s => ∃ (k : Nat) (kk : Int), k ≤ a.length ∧ m = a.length - k ∧ kk = k ∧ a.take k = b.take k ∧ s = ⟨26, [(0, .p (nodsP a)), (1, .p (nodsP b)), (12, .p (pI (a.map Nod.pv).length)), (13, .p (pI kk))], []⟩) a.length ⟨0, 0, Nat.zero_le _, rfl, rfl, rfl, rfl⟩ ?_
   rintro m s ⟨k, _, hk, rfl, rfl, he, rfl⟩
   refine uA ?_
   refine uC (fun hlt => ?_) (fun hlt => ?_)
   · refine qd ?_
     rw [la] at hlt
     simp only [decide_eq_true_eq] at hlt
     have hlt' : k < a.length := by omega
     have hlb : k < b.length := by omega
     obtain ⟨x, hx⟩ : ∃ x, x = a[k] := ⟨_, rfl⟩
     obtain ⟨y, hy⟩ : ∃ y, y = b[k] := ⟨_, rfl⟩
     refine uB ?_
     refine uA ?_
     refine uD [] [1, 3, 5, 7, 9, 11, 13, 15, 17] ?_
     refine qx qa rfl rfl rfl (by rw [la]; omega) rfl ?_
     rw [qm hlt', ← hx]
     refine uT ?_
     refine qx qa rfl rfl rfl (by rw [lb]; omega) rfl ?_
     rw [qm hlb, ← hy]
     refine uT ?_
     refine qx qa rfl rfl (opR_neN x y rfl rfl rfl rfl) rfl rfl ?_
     refine uT ?_
     refine qY ?_
     refine uC (fun hp => ?_) (fun hp => ?_)
     · have e : x ≠ y := by simpa using hp
       have e2 : a ≠ b := by intro e2; subst e2; exact e (by rw [hx, hy])
       refine uA ?_
       refine uQ ?_
       exact jJ rfl (by simp [e2])
     · refine qd ?_
       refine uA ?_
       refine ⟨_, _, ?_, qh [0, 1, 12, 13] [] rfl rfl, k + 1, _, hlt', rfl, qf hlt' (by omega), ?_, rfl⟩
       · omega
       · rw [List.take_succ_eq_append_getElem hlt', List.take_succ_eq_append_getElem hlb, he, ← hx, ← hy, show x = y by simpa using hp]
   · refine qt ?_
     rw [la] at hlt
     simp only [decide_eq_false_iff_not] at hlt
     have hkk : k = a.length := by omega
     subst hkk
     rw [List.take_length, List.take_of_length_le (by omega)] at he
     refine uA ?_
     refine uQ ?_
     exact jJ rfl (by simp [he])
theorem find1_h (x a : Atm) (hx : x.c.length ≤ 1000000) (ha : a.c.length ≤ 1000000) : Holds Tryz.prog 128 [.agg x.pv, .rp a.pv] (.p (pB (decide (x = a)))) [] := by
 have H := equalN_h x.c a.c hx ha
 have e : (x = a) ↔ (x.m = a.m ∧ x.c = a.c) := ⟨fun h => by subst h; exact ⟨rfl, rfl⟩, fun h => by cases x; cases a; simp only at h; simp [h]⟩
 refine qo (ts := [3]) Tryz.func128 (by kernel_rfl) rfl rfl rfl ?_
 refine uA ?_
 refine uR ?_
 refine qe qa rfl (opR_eqM x.m a.m rfl rfl rfl rfl) rfl rfl ?_
 by_cases hm : x.m = a.m
 · rw [decide_eq_true hm]
   refine uS ?_
   refine uK H ?_
   refine qb ?_
   refine uQ ?_
   exact jJ rfl (by simp [e, hm])
 · rw [decide_eq_false hm]
   refine uS ?_
   refine qb ?_
   refine uQ ?_
   exact jJ rfl (by simp [e, hm])
theorem indexA_h (l : List Atm) (hn : l.length ≤ 1000000) (f : FuncId) (caps : List PV) (p : Atm → Bool) (hF : ∀ m ∈ l, Holds Tryz.prog f ([.agg m.pv] ++ caps) (.p (pB (p m))) []) :
 Holds Tryz.prog 127 [atmsP l, .fn f caps] (.p (pI (if l.findIdx p < l.length then (l.findIdx p : Int) else -1))) [] := by
 refine qo (ts := [4]) Tryz.func127 (by kernel_rfl) rfl rfl rfl ?_
 refine uA ?_
 refine uA ?_
 refine uB ?_
 refine uZ [0, 1, 7, 8] [] ?_
 refine qw (fun n s => ∃ (k : Nat) (kk : Int), k ≤ l.length ∧ n = l.length - k ∧ kk = k ∧ (∀ g ∈ l.take k, p g = false) ∧ s = ⟨19, [(0, .p (atmsP l)), (1, .p (.fn f caps)), (7, .p (pI (l.map Atm.pv).length)), (8, .p (pI kk))], []⟩) l.length ⟨0, 0, Nat.zero_le _, rfl, rfl, by simp, rfl⟩ ?_
 rintro n s ⟨k, _, hk, rfl, rfl, ha, rfl⟩
 refine uA ?_
 refine uC (fun hlt => ?_) (fun hlt => ?_)
 · refine qd ?_
   simp only [List.length_map, decide_eq_true_eq] at hlt
   have hlt' : k < l.length := by omega
   refine uB ?_
   refine uA ?_
   refine uR ?_
   refine qe qa rfl rfl (by simp only [List.length_map]; omega) rfl ?_
   rw [qm hlt']
   refine uS ?_
   refine uK (hF l[k] (List.getElem_mem hlt')) ?_
   refine qb ?_
   refine uC (fun hp => ?_) (fun hp => ?_)
   · refine uA ?_
     refine uQ ?_
     refine qZ rfl ?_
     have e : l.findIdx p = k := (List.findIdx_eq hlt').2 ⟨hp, fun j hj => ha _ (List.mem_take_iff_getElem.2 ⟨j, by omega, rfl⟩)⟩
     rw [e, if_pos hlt']
   · refine qd ?_
     refine uA ?_
     refine ⟨_, _, ?_, qh [0, 1, 7, 8] [] rfl rfl, k + 1, _, hlt', rfl, qf hlt' (by omega), ?_, rfl⟩
     · omega
     · intro g hg
       rw [List.take_succ_eq_append_getElem hlt', List.mem_append, List.mem_singleton] at hg
       rcases hg with hg | rfl
       · exact ha g hg
       · exact hp
 · refine qt ?_
   simp only [List.length_map, decide_eq_false_iff_not] at hlt
   have hkk : k = l.length := by omega
   subst hkk
   refine uA ?_
   refine uQ ?_
   refine qZ rfl ?_
   rw [List.take_length] at ha
   rw [if_neg]
   have := List.findIdx_eq_length_of_false ha
   omega
theorem find_h (l : List Atm) (a : Atm) (hn : l.length ≤ 1000000) (hl : ∀ x ∈ l, x.c.length ≤ 1000000) (ha : a.c.length ≤ 1000000) : Holds Tryz.prog 90 [atmsP l, .agg a.pv] (.p (pI (jU l a))) [] := by
 refine qo (ts := [4]) Tryz.func90 (by kernel_rfl) rfl rfl rfl ?_
 refine uA ?_
 refine uR ?_
 refine uK (indexA_h l hn _ _ (fun x => decide (x = a)) (fun x hx => find1_h x a (hl x hx) ha)) ?_
 refine qb ?_
 refine uQ ?_
 exact qZ rfl rfl
abbrev rowA (i : Nat) (l : List Atm) : List (Nat × Box) := [(i, .row 81 8 (l.map Atm.pv))]
theorem more_h (l : List Atm) (a : Atm) (hn : l.length ≤ 1000000) (hl : ∀ x ∈ l, x.c.length ≤ 1000000) (ha : a.c.length ≤ 1000000) : qJ Tryz.prog 56 [.row 1000000, .p (.agg a.pv)] (rowA 1000000 l) (.row 0) (rowA 0 (moreA l a)) := by
 have HF := find_h l a hn hl ha
 have HC := (cloneN_h a.c ha).row_sl
 by_cases hm : a ∈ l
 · have e1 : moreA l a = l := if_pos hm
   have e2 := findA_yes hm
   rw [e1]
   refine qD (ts := [4]) Tryz.func56 (by kernel_rfl) rfl rfl rfl ?_
   refine uA ?_
   refine uR ?_
   refine uK HF ?_
   refine qb ?_
   refine uC (fun h => ?_) (fun h => ?_)
   · refine uA ?_
     refine uQ ?_
     exact uF [(1000000, 0)]
   · exfalso
     simp at h
     omega
 · have e1 : moreA l a = l ++ [a] := if_neg hm
   rw [e1, show rowA 0 (l ++ [a]) = [(0, .row 81 8 (l.map Atm.pv ++ [a.pv]))] by simp [rowA]]
   rw [findA_no hm] at HF
   refine qD (ts := [4]) Tryz.func56 (by kernel_rfl) rfl rfl rfl ?_
   refine uA ?_
   refine uR ?_
   refine uK HF ?_
   refine qb ?_
   refine uC (fun h => ?_) (fun h => ?_)
   · cases h
   · refine qd ?_
     refine uR ?_
     refine uO HC ?_
     refine qb ?_
     refine uR ?_
     refine qy rfl (qg qa rfl rfl rfl rfl rfl rfl rfl rfl rfl rfl rfl rfl rfl rfl rfl rfl (by simp only [List.length_append, List.length_map, List.length_take, List.length_cons, List.length_nil]; unfold reachBytes; omega) (by simp only [List.length_append, List.length_map, List.length_take, List.length_cons, List.length_nil]; omega) ?_)
     refine uS ?_
     refine qb ?_
     refine uQ ?_
     exact uF [(17, 0)]
noncomputable def fnsm140 : FnI := ⟨31, Tryz.f140.body.getD .skip, [.tmp 6], []⟩
theorem fnsm140_ok : FnOk Tryz.prog 140 fnsm140 := ⟨_, Tryz.func140, by kernel_rfl, by kernel_rfl, by kernel_rfl, by kernel_rfl, by kernel_rfl, by kernel_rfl⟩
noncomputable def fnsm102 : FnI := ⟨26, Tryz.f102.body.getD .skip, [.tmp 4], []⟩
theorem fnsm102_ok : FnOk Tryz.prog 102 fnsm102 := ⟨_, Tryz.func102, by kernel_rfl, by kernel_rfl, by kernel_rfl, by kernel_rfl, by kernel_rfl, by kernel_rfl⟩
noncomputable def fnsm136 : FnI := ⟨8, Tryz.f136.body.getD .skip, [.tmp 4], []⟩
theorem fnsm136_ok : FnOk Tryz.prog 136 fnsm136 := ⟨_, Tryz.func136, by kernel_rfl, by kernel_rfl, by kernel_rfl, by kernel_rfl, by kernel_rfl, by kernel_rfl⟩
noncomputable def fnsm135 : FnI := ⟨10, Tryz.f135.body.getD .skip, [.tmp 2, .tmp 3], []⟩
theorem fnsm135_ok : FnOk Tryz.prog 135 fnsm135 := ⟨_, Tryz.func135, by kernel_rfl, by kernel_rfl, by kernel_rfl, by kernel_rfl, by kernel_rfl, by kernel_rfl⟩
noncomputable def fnsm139 : FnI := ⟨13, Tryz.f139.body.getD .skip, [.tmp 2], []⟩
theorem fnsm139_ok : FnOk Tryz.prog 139 fnsm139 := ⟨_, Tryz.func139, by kernel_rfl, by kernel_rfl, by kernel_rfl, by kernel_rfl, by kernel_rfl, by kernel_rfl⟩
noncomputable def fnsm138 : FnI := ⟨5, Tryz.f138.body.getD .skip, [.tmp 2], []⟩
theorem fnsm138_ok : FnOk Tryz.prog 138 fnsm138 := ⟨_, Tryz.func138, by kernel_rfl, by kernel_rfl, by kernel_rfl, by kernel_rfl, by kernel_rfl, by kernel_rfl⟩
noncomputable def fnsm104 : FnI := ⟨13, Tryz.f104.body.getD .skip, [.tmp 2], []⟩
theorem fnsm104_ok : FnOk Tryz.prog 104 fnsm104 := ⟨_, Tryz.func104, by kernel_rfl, by kernel_rfl, by kernel_rfl, by kernel_rfl, by kernel_rfl, by kernel_rfl⟩
noncomputable def fnsm103 : FnI := ⟨29, Tryz.f103.body.getD .skip, [.tmp 2], []⟩
theorem fnsm103_ok : FnOk Tryz.prog 103 fnsm103 := ⟨_, Tryz.func103, by kernel_rfl, by kernel_rfl, by kernel_rfl, by kernel_rfl, by kernel_rfl, by kernel_rfl⟩
noncomputable def fnsm101 : FnI := ⟨6, Tryz.f101.body.getD .skip, [.tmp 2], []⟩
theorem fnsm101_ok : FnOk Tryz.prog 101 fnsm101 := ⟨_, Tryz.func101, by kernel_rfl, by kernel_rfl, by kernel_rfl, by kernel_rfl, by kernel_rfl, by kernel_rfl⟩
noncomputable def fnsm134 : FnI := ⟨16, Tryz.f134.body.getD .skip, [.tmp 2], []⟩
theorem fnsm134_ok : FnOk Tryz.prog 134 fnsm134 := ⟨_, Tryz.func134, by kernel_rfl, by kernel_rfl, by kernel_rfl, by kernel_rfl, by kernel_rfl, by kernel_rfl⟩
noncomputable def fnsm72 : FnI := ⟨9, Tryz.f72.body.getD .skip, [.tmp 2], []⟩
theorem fnsm72_ok : FnOk Tryz.prog 72 fnsm72 := ⟨_, Tryz.func72, by kernel_rfl, by kernel_rfl, by kernel_rfl, by kernel_rfl, by kernel_rfl, by kernel_rfl⟩
noncomputable def FnsMF : List (FuncId × FnI) := [(140, fnsm140),
 (102, fnsm102),
 (136, fnsm136),
 (135, fnsm135),
 (139, fnsm139),
 (138, fnsm138),
 (104, fnsm104),
 (103, fnsm103),
 (101, fnsm101),
 (134, fnsm134),
 (72, fnsm72)]
theorem wO (C : FuncId → List PV → Option SV) : FOk Tryz.prog ⟨TTab, FnsMF, C⟩ := qn fnsm140_ok <|
 qn fnsm102_ok <|
 qn fnsm136_ok <|
 qn fnsm135_ok <|
 qn fnsm139_ok <|
 qn fnsm138_ok <|
 qn fnsm104_ok <|
 qn fnsm103_ok <|
 qn fnsm101_ok <|
 qn fnsm134_ok <|
 qn fnsm72_ok <| fok_nil
set_option maxHeartbeats 4000000
def hb : Nat → Nat
 | 0 => 0
 | 1 => 4602678819172646912
 | _ => 4607182418800017408
def mkP (m : Mk) : PV := .v (.complex .f64 (hb m.1) (hb m.2))
def mkE (a b : Mk) : Bool := FloatKind.f64.format.order (hb a.1) (hb b.1) == some .eq && FloatKind.f64.format.order (hb a.2) (hb b.2) == some .eq
theorem hb_eq {a b : Nat} (ha : a ≤ 2) (hb' : b ≤ 2) : (FloatKind.f64.format.order (hb a) (hb b) == some .eq) = decide (a = b) := by
 have h1 : a = 0 ∨ a = 1 ∨ a = 2 := by omega
 have h2 : b = 0 ∨ b = 1 ∨ b = 2 := by omega
 rcases h1 with rfl | rfl | rfl <;> rcases h2 with rfl | rfl | rfl <;> decide +kernel
theorem mks_le {m : Mk} (h : m ∈ mks) : m.1 ≤ 2 ∧ m.2 ≤ 2 := by
 unfold mks at h
 simp only [List.mem_cons, List.not_mem_nil, or_false] at h
 rcases h with rfl | rfl | rfl | rfl | rfl | rfl <;> exact ⟨by decide, by decide⟩
theorem mkE_eq {a b : Mk} (ha : a ∈ mks) (hb' : b ∈ mks) : mkE a b = decide (a = b) := by
 obtain ⟨h1, h2⟩ := mks_le ha
 obtain ⟨h3, h4⟩ := mks_le hb'
 unfold mkE
 rw [hb_eq h1 h3, hb_eq h2 h4]
 obtain ⟨a1, a2⟩ := a
 obtain ⟨b1, b2⟩ := b
 rw [Bool.eq_iff_iff]
 simp
theorem mkRight_h (m : Mk) (hm : m ∈ mks) : Holds Tryz.prog 101 [mkP m] (.p (pB true)) [] := by
 unfold mks at hm; simp only [List.mem_cons, List.not_mem_nil, or_false] at hm; rcases hm with rfl | rfl | rfl | rfl | rfl | rfl <;> exact .ofW (qan (n := 500) qa (qaq _) (wO ctab) (by kernel_rfl) (by kernel_rfl))
theorem mkIndet_h (m : Mk) (hm : m ∈ mks) : Holds Tryz.prog 72 [mkP m] (.p (mkP (indetM m))) [] := by
 unfold mks at hm; simp only [List.mem_cons, List.not_mem_nil, or_false] at hm; rcases hm with rfl | rfl | rfl | rfl | rfl | rfl <;> exact .ofW (qan (n := 500) qa (qaq _) (wO ctab) (by kernel_rfl) (by kernel_rfl))
theorem applies_h (m : Mk) (hm : m ∈ mks) : Holds Tryz.prog 138 [mkP m] (.p (pB (decide (m ≠ (0, 0))))) [] := by
 unfold mks at hm; simp only [List.mem_cons, List.not_mem_nil, or_false] at hm; rcases hm with rfl | rfl | rfl | rfl | rfl | rfl <;> exact .ofW (qan (n := 500) qa (qaq _) (wO ctab) (by kernel_rfl) (by kernel_rfl))
theorem sure_h (m : Mk) (hm : m ∈ mks) : Holds Tryz.prog 139 [mkP m] (.p (pB (sureM m))) [] := by
 unfold mks at hm; simp only [List.mem_cons, List.not_mem_nil, or_false] at hm; rcases hm with rfl | rfl | rfl | rfl | rfl | rfl <;> exact .ofW (qan (n := 500) qa (qaq _) (wO ctab) (by kernel_rfl) (by kernel_rfl))
theorem step4_h (j m : Mk) (hj : j ∈ mks) (hm : m ∈ mks) : Holds Tryz.prog 140 [pI 4, mkP j, mkP m] (.p (mkP (stepJ j m))) [] := by
 unfold mks at hj
 simp only [List.mem_cons, List.not_mem_nil, or_false] at hj
 unfold mks at hm; simp only [List.mem_cons, List.not_mem_nil, or_false] at hm; rcases hm with rfl | rfl | rfl | rfl | rfl | rfl <;> rcases hj with rfl | rfl | rfl | rfl | rfl | rfl <;> exact .ofW (qan (n := 500) qa (qaq _) (wO ctab) (by kernel_rfl) (by kernel_rfl))
theorem mkTurn_h (a b : Nat) (ha : a ≤ 2) (hb' : b ≤ 2) : Holds Tryz.prog 104 [mkP (a, b)] (.p (mkP (b, a))) [] := by
 have h1 : a = 0 ∨ a = 1 ∨ a = 2 := by omega
 have h2 : b = 0 ∨ b = 1 ∨ b = 2 := by omega
 rcases h1 with rfl | rfl | rfl <;> rcases h2 with rfl | rfl | rfl <;> exact .ofW (qan (n := 500) qa (qaq _) (wO ctab) (by kernel_rfl) (by kernel_rfl))
theorem mkOver_h (a b : Nat) (ha : a ≤ 2) (hb' : b ≤ 2) : Holds Tryz.prog 103 [mkP (a, b)] (.p (mkP (overM (a, b)))) [] := by
 have h1 : a = 0 ∨ a = 1 ∨ a = 2 := by omega
 have h2 : b = 0 ∨ b = 1 ∨ b = 2 := by omega
 rcases h1 with rfl | rfl | rfl <;> rcases h2 with rfl | rfl | rfl <;> exact .ofW (qan (n := 500) qa (qaq _) (wO ctab) (by kernel_rfl) (by kernel_rfl))
theorem mkJoin_h (j m : Mk) (hj : j.1 ≤ 2 ∧ j.2 ≤ 2) (hm : m ∈ mks) : Holds Tryz.prog 102 [mkP j, mkP m] (.p (mkP (wJ j m))) [] := by
 obtain ⟨a, b⟩ := j
 obtain ⟨h1, h2⟩ := hj
 simp only at h1 h2
 have h1 : a = 0 ∨ a = 1 ∨ a = 2 := by omega
 have h2 : b = 0 ∨ b = 1 ∨ b = 2 := by omega
 unfold mks at hm; simp only [List.mem_cons, List.not_mem_nil, or_false] at hm; rcases hm with rfl | rfl | rfl | rfl | rfl | rfl <;> rcases h1 with rfl | rfl | rfl <;> rcases h2 with rfl | rfl | rfl <;> exact .ofW (qan (n := 500) qa (qaq _) (wO ctab) (by kernel_rfl) (by kernel_rfl))
theorem joinM_le {a b : Mk} (ha : a.1 ≤ 2 ∧ a.2 ≤ 2) (hb' : b.1 ≤ 2 ∧ b.2 ≤ 2) : (wJ a b).1 ≤ 2 ∧ (wJ a b).2 ≤ 2 := by
 unfold wJ
 simp only
 omega
set_option maxHeartbeats 4000000
def marksP (l : List Mk) : PV := .sl 1 (l.map fun m => [mkP m])
theorem indexMk_h (l : List Mk) (hn : l.length ≤ 1000000) (f : FuncId) (caps : List PV) (p : Mk → Bool) (hF : ∀ m ∈ l, Holds Tryz.prog f ([mkP m] ++ caps) (.p (pB (p m))) []) :
 Holds Tryz.prog 137 [marksP l, .fn f caps] (.p (pI (if l.findIdx p < l.length then (l.findIdx p : Int) else -1))) [] := by
 refine qo (ts := [4]) Tryz.func137 (by kernel_rfl) rfl rfl rfl ?_
 refine uA ?_
 refine uA ?_
 refine uB ?_
 refine uZ [0, 1, 7, 8] [] ?_
 refine qw (fun n s => ∃ (k : Nat) (kk : Int), k ≤ l.length ∧ n = l.length - k ∧ kk = k ∧ (∀ g ∈ l.take k, p g = false) ∧ s = ⟨19, [(0, .p (marksP l)), (1, .p (.fn f caps)), (7, .p (pI (l.map fun m => [mkP m]).length)), (8, .p (pI kk))], []⟩) l.length ⟨0, 0, Nat.zero_le _, rfl, rfl, by simp, rfl⟩ ?_
 rintro n s ⟨k, _, hk, rfl, rfl, ha, rfl⟩
 refine uA ?_
 refine uC (fun hlt => ?_) (fun hlt => ?_)
 · refine qd ?_
   simp only [List.length_map, decide_eq_true_eq] at hlt
   have hlt' : k < l.length := by omega
   refine uB ?_
   refine uA ?_
   refine uR ?_
   refine qe qa rfl rfl (by simp only [List.length_map]; omega) rfl ?_
   rw [qm hlt']
   refine uS ?_
   refine uK (hF l[k] (List.getElem_mem hlt')) ?_
   refine qb ?_
   refine uC (fun hp => ?_) (fun hp => ?_)
   · refine uA ?_
     refine uQ ?_
     refine qZ rfl ?_
     have e : l.findIdx p = k := (List.findIdx_eq hlt').2 ⟨hp, fun j hj => ha _ (List.mem_take_iff_getElem.2 ⟨j, by omega, rfl⟩)⟩
     rw [e, if_pos hlt']
   · refine qd ?_
     refine uA ?_
     refine ⟨_, _, ?_, qh [0, 1, 7, 8] [] rfl rfl, k + 1, _, hlt', rfl, qf hlt' (by omega), ?_, rfl⟩
     · omega
     · intro g hg
       rw [List.take_succ_eq_append_getElem hlt', List.mem_append, List.mem_singleton] at hg
       rcases hg with hg | rfl
       · exact ha g hg
       · exact hp
 · refine qt ?_
   simp only [List.length_map, decide_eq_false_iff_not] at hlt
   have hkk : k = l.length := by omega
   subst hkk
   refine uA ?_
   refine uQ ?_
   refine qZ rfl ?_
   rw [List.take_length] at ha
   rw [if_neg]
   have := List.findIdx_eq_length_of_false ha
   omega
theorem indexEq_h (l : List Mk) (hn : l.length ≤ 1000000) (hl : ∀ m ∈ l, m ∈ mks) (v : Mk) (hv : v ∈ mks) :
 Holds Tryz.prog 162 [marksP l, mkP v] (.p (pI (if l.findIdx (fun m => decide (v = m)) < l.length then (l.findIdx (fun m => decide (v = m)) : Int) else -1))) [] := by
 refine qo (ts := [4]) Tryz.func162 (by kernel_rfl) rfl rfl rfl ?_
 refine uA ?_
 refine uA ?_
 refine uB ?_
 refine uZ [0, 1, 7, 8] [] ?_
 refine qw (fun n s => ∃ (k : Nat) (kk : Int), k ≤ l.length ∧ n = l.length - k ∧ kk = k ∧ (∀ g ∈ l.take k, decide (v = g) = false) ∧ s = ⟨19, [(0, .p (marksP l)), (1, .p (mkP v)), (7, .p (pI (l.map fun m => [mkP m]).length)), (8, .p (pI kk))], []⟩) l.length ⟨0, 0, Nat.zero_le _, rfl, rfl, by simp, rfl⟩ ?_
 rintro n s ⟨k, _, hk, rfl, rfl, ha, rfl⟩
 refine uA ?_
 refine uC (fun hlt => ?_) (fun hlt => ?_)
 · refine qd ?_
   simp only [List.length_map, decide_eq_true_eq] at hlt
   have hlt' : k < l.length := by omega
   refine uB ?_
   refine uA ?_
   refine uR ?_
   refine qe qa rfl rfl (by simp only [List.length_map]; omega) rfl ?_
   rw [qm hlt']
   refine uS ?_
   refine qb ?_
   refine uC (fun hp => ?_) (fun hp => ?_)
   · refine uA ?_
     refine uQ ?_
     refine qZ rfl ?_
     change mkE v l[k] = true at hp
     rw [mkE_eq hv (hl _ (List.getElem_mem hlt'))] at hp
     have e : l.findIdx (fun m => decide (v = m)) = k := (List.findIdx_eq hlt').2 ⟨hp, fun j hj => ha _ (List.mem_take_iff_getElem.2 ⟨j, by omega, rfl⟩)⟩
     rw [e, if_pos hlt']
   · change mkE v l[k] = false at hp
     rw [mkE_eq hv (hl _ (List.getElem_mem hlt'))] at hp
     refine qd ?_
     refine uA ?_
     refine ⟨_, _, ?_, qh [0, 1, 7, 8] [] rfl rfl, k + 1, _, hlt', rfl, qf hlt' (by omega), ?_, rfl⟩
     · omega
     · intro g hg
       rw [List.take_succ_eq_append_getElem hlt', List.mem_append, List.mem_singleton] at hg
       rcases hg with hg | rfl
       · exact ha g hg
       · exact hp
 · refine qt ?_
   simp only [List.length_map, decide_eq_false_iff_not] at hlt
   have hkk : k = l.length := by omega
   subst hkk
   refine uA ?_
   refine uQ ?_
   refine qZ rfl ?_
   rw [List.take_length] at ha
   rw [if_neg]
   have := List.findIdx_eq_length_of_false ha
   omega
theorem contMk_h (l : List Mk) (hn : l.length ≤ 1000000) (hl : ∀ m ∈ l, m ∈ mks) (v : Mk) (hv : v ∈ mks) :
 Holds Tryz.prog 141 [marksP l, mkP v] (.p (pB (decide (v ∈ l)))) [] := by
 refine qo (ts := [4]) Tryz.func141 (by kernel_rfl) rfl rfl rfl ?_
 refine uA ?_
 refine uR ?_
 refine uK (indexEq_h l hn hl v hv) ?_
 refine qb ?_
 refine uQ ?_
 refine jJ rfl ?_
 by_cases h : v ∈ l
 · have : l.findIdx (fun m => decide (v = m)) < l.length := List.findIdx_lt_length_of_exists ⟨v, h, by simp⟩
   rw [if_pos this]
   simp [h]
 · have : l.findIdx (fun m => decide (v = m)) = l.length := List.findIdx_eq_length_of_false fun x hx => by
    simp only [decide_eq_false_iff_not]
    exact fun e => h (e ▸ hx)
   rw [if_neg (by omega)]
   simp [h]
theorem unless_h (l : List Mk) (hn : l.length ≤ 1000000) (hl : ∀ m ∈ l, m ∈ mks) (m o : Mk) (ho : o ∈ mks) : Holds Tryz.prog 107 [marksP l, mkP m, mkP o] (.p (mkP (wW l m o))) [] := by
 unfold wW
 refine qo (ts := [6]) Tryz.func107 (by kernel_rfl) rfl rfl rfl ?_
 refine uA ?_
 refine uR ?_
 refine uK (contMk_h l hn hl o ho) ?_
 refine qb ?_
 refine uC (fun hc => ?_) (fun hc => ?_)
 · refine uA ?_
   refine uQ ?_
   rw [if_pos (of_decide_eq_true hc)]
   exact uF []
 · refine qd ?_
   refine uA ?_
   refine uQ ?_
   rw [if_neg (of_decide_eq_false hc)]
   exact uF []
theorem firstM_idx : ∀ {l : List Mk} {k : Nat} (h : k < l.length), l.findIdx (fun m => decide (m ≠ (0, 0))) = k → jP l = l[k]
 | m :: l, k, h, e => by
   rw [List.findIdx_cons] at e
   rw [jP]
   by_cases hm : m = (0, 0)
   · rw [if_pos hm]
     rw [show decide (m ≠ (0, 0)) = false by simp [hm], cond_false] at e
     obtain ⟨j, rfl⟩ : ∃ j, k = j + 1 := ⟨k - 1, by omega⟩
     rw [List.getElem_cons_succ]
     exact firstM_idx (by simpa using h) (by omega)
   · rw [if_neg hm]
     rw [show decide (m ≠ (0, 0)) = true by simp [hm], cond_true] at e
     subst e; rfl
theorem firstM_none : ∀ {l : List Mk}, (∀ m ∈ l, m = (0, 0)) → jP l = (0, 0)
 | [], _ => rfl
 | m :: l, h => by rw [jP, if_pos (h m (by simp))]; exact firstM_none fun x hx => h x (List.mem_cons_of_mem _ hx)
theorem first_h (l : List Mk) (hn : l.length ≤ 1000000) (hl : ∀ m ∈ l, m ∈ mks) : Holds Tryz.prog 105 [marksP l] (.p (mkP (jP l))) [] := by
 refine qo (ts := [2]) Tryz.func105 (by kernel_rfl) rfl rfl rfl ?_
 refine uA ?_
 refine uR ?_
 refine uK (indexMk_h l hn _ _ (fun m => decide (m ≠ (0, 0))) (fun m hm => applies_h m (hl m hm))) ?_
 refine qb ?_
 by_cases hf : l.findIdx (fun m => decide (m ≠ (0, 0))) < l.length
 · obtain ⟨k, hk, e1, e⟩ : ∃ k, ∃ h : k < l.length, l.findIdx (fun m => decide (m ≠ (0, 0))) = k ∧ jP l = l[k] := ⟨_, hf, rfl, firstM_idx hf rfl⟩
   rw [if_pos hf, e1, e]
   clear e1 hf
   refine uA ?_
   refine uC (fun hc => ?_) (fun hc => ?_)
   · refine uR ?_
     refine qe qa rfl rfl (by simp only [List.length_map]; omega) rfl ?_
     rw [qm hk]
     refine uS ?_
     refine qb ?_
     refine uQ ?_
     exact uF []
   · exfalso
     simp at hc
 · have e : jP l = (0, 0) := firstM_none fun m hm => Classical.byContradiction fun hne => hf (List.findIdx_lt_length_of_exists ⟨m, hm, by simp [hne]⟩)
   rw [if_neg hf, e]
   refine uA ?_
   refine uC (fun hc => ?_) (fun hc => ?_)
   · cases hc
   · refine qd ?_
     refine uA ?_
     refine uQ ?_
     exact uF []
theorem stepJ_mem {j m : Mk} (hj : j ∈ mks) (hm : m ∈ mks) : stepJ j m ∈ mks := by
 unfold stepJ
 repeat' split
 · exact hm
 · simp [mks]
 · exact hj
theorem only_h (l : List Mk) (hn : l.length ≤ 1000000) (hl : ∀ m ∈ l, m ∈ mks) : Holds Tryz.prog 106 [marksP l] (.p (mkP (onlyM (0, 0) l))) [] := by
 refine qo (ts := [2]) Tryz.func106 (by kernel_rfl) rfl rfl rfl ?_
 refine uA ?_
 refine uA ?_
 refine uA ?_
 refine uB ?_
 refine uZ [3, 6, 7, 8] [] ?_
 refine qw (fun n s => ∃ (k : Nat) (kk : Int) (j : Mk), k ≤ l.length ∧ n = l.length - k ∧ kk = k ∧ j ∈ mks ∧ onlyM (0, 0) l = onlyM j (l.drop k) ∧ s = ⟨20, [(3, .p (mkP j)), (6, .p (marksP l)), (7, .p (pI (l.map fun m => [mkP m]).length)), (8, .p (pI kk))], []⟩) l.length ⟨0, 0, (0, 0), Nat.zero_le _, rfl, rfl, by simp [mks], rfl, rfl⟩ ?_
 rintro n s ⟨k, _, j, hk, rfl, rfl, hj, ha, rfl⟩
 refine uA ?_
 refine uC (fun hlt => ?_) (fun hlt => ?_)
 · refine qd ?_
   simp only [List.length_map, decide_eq_true_eq] at hlt
   have hlt' : k < l.length := by omega
   have hm := hl _ (List.getElem_mem hlt')
   rw [List.drop_eq_getElem_cons hlt', onlyM] at ha
   refine uB ?_
   refine uR ?_
   refine qe qa rfl rfl (by simp only [List.length_map]; omega) rfl ?_
   rw [qm hlt']
   refine uS ?_
   refine qb ?_
   refine uR ?_
   refine uK (sure_h l[k] hm) ?_
   refine qb ?_
   cases hs : sureM l[k] with
   | false =>
     rw [hs, if_neg (by simp)] at ha
     refine uC (fun hc => ?_) (fun hc => ?_)
     · refine uA ?_
       refine uQ ?_
       rw [ha]
       exact uF []
     · cases hc
   | true =>
     rw [hs, if_pos rfl] at ha
     refine uC (fun hc => ?_) (fun hc => ?_)
     · cases hc
     refine qd ?_
     refine uR ?_
     refine uK (step4_h j l[k] hj hm) ?_
     refine qb ?_
     refine uA ?_
     refine ⟨_, _, ?_, qh [3, 6, 7, 8] [] rfl rfl, k + 1, _, stepJ j l[k], hlt', rfl, qf hlt' (by omega), stepJ_mem hj hm, ha, rfl⟩
     omega
 · refine qt ?_
   simp only [List.length_map, decide_eq_false_iff_not] at hlt
   have hkk : k = l.length := by omega
   subst hkk
   rw [List.drop_length] at ha
   rw [ha]
   refine uA ?_
   refine uQ ?_
   exact uF []
theorem joinL_take {l : List Mk} {k : Nat} (h : k < l.length) : wJ (joinL (l.take k)) l[k] = joinL (l.take (k + 1)) := by
 unfold joinL
 rw [List.take_succ_eq_append_getElem h, List.foldl_append]; rfl
theorem combAll_h (alg : Int) (l : List Mk) (hn : l.length ≤ 1000000) (hl : ∀ m ∈ l, m ∈ mks) : Holds Tryz.prog 71 [pI alg, marksP l] (.tup [.p (mkP (allM alg l)), .p (pI (if 1 ≤ alg ∧ alg ≤ 6 then 0 else 1))]) [] := by
 refine qo (ts := [4,5]) Tryz.func71 (by kernel_rfl) rfl rfl rfl ?_
 refine uA ?_
 refine uA ?_
 refine uA ?_
 refine uB ?_
 refine uZ [0, 1, 6, 9, 10, 11] [] ?_
 refine qw (fun m s => ∃ (k : Nat) (kk : Int) (j : Mk), k ≤ l.length ∧ m = l.length - k ∧ kk = k ∧ j = joinL (l.take k) ∧ (j.1 ≤ 2 ∧ j.2 ≤ 2) ∧ s = ⟨49, [(0, .p (pI alg)), (1, .p (marksP l)), (6, .p (mkP j)), (9, .p (marksP l)), (10, .p (pI (l.map fun m => [mkP m]).length)), (11, .p (pI kk))], []⟩) l.length ⟨0, 0, (0, 0), Nat.zero_le _, rfl, rfl, rfl, ⟨by decide, by decide⟩, rfl⟩ ?_
 rintro m s ⟨k, _, j, hk, rfl, rfl, hj, hj2, rfl⟩
 refine uA ?_
 refine uC (fun hlt => ?_) (fun hlt => ?_)
 · refine qd ?_
   simp only [List.length_map, decide_eq_true_eq] at hlt
   have hlt' : k < l.length := by omega
   have hm := hl _ (List.getElem_mem hlt')
   refine uB ?_
   refine uR ?_
   refine qe qa rfl rfl (by simp only [List.length_map]; omega) rfl ?_
   rw [qm hlt']
   refine uS ?_
   refine qb ?_
   refine uR ?_
   refine uK (mkRight_h l[k] hm) ?_
   refine qb ?_
   refine uC (fun hc => ?_) (fun hc => ?_)
   · cases hc
   refine qd ?_
   refine uR ?_
   refine uK (mkJoin_h j l[k] hj2 hm) ?_
   refine qb ?_
   refine uA ?_
   refine ⟨_, _, ?_, qh [0, 1, 6, 9, 10, 11] [] rfl rfl, k + 1, _, wJ j l[k], hlt', rfl, qf hlt' (by omega), ?_, joinM_le hj2 (mks_le hm), rfl⟩
   · omega
   · rw [hj]; exact joinL_take hlt'
 · refine qt ?_
   simp only [List.length_map, decide_eq_false_iff_not] at hlt
   have hkk : k = l.length := by omega
   subst hkk
   rw [List.take_length] at hj
   obtain ⟨a, b⟩ := j
   obtain ⟨h1, h2⟩ := hj2
   simp only at h1 h2
   refine uA ?_
   refine uB ?_
   refine uA ?_
   refine uC (fun c1 => ?_) (fun c1 => ?_)
   · have e : alg = 1 := by simpa using c1
     subst e
     have e : allM 1 l = overM (a, b) := by rw [hj]; rfl
     rw [e]
     refine uR ?_
     refine uK (mkOver_h a b h1 h2) ?_
     refine qb ?_
     refine uQ ?_
     exact uF []
   have n1 : ¬ alg = 1 := by simpa using c1
   refine uA ?_
   refine uC (fun c2 => ?_) (fun c2 => ?_)
   · have e : alg = 2 := by simpa using c2
     subst e
     have e : allM 2 l = turnM (overM (b, a)) := by
      show turnM (overM (turnM (joinL l))) = _
      rw [← hj]; rfl
     rw [e]
     obtain ⟨ho1, ho2⟩ := mks_le (overM_mem (b, a))
     have HO := mkOver_h b a h2 h1
     generalize overM (b, a) = o at *
     obtain ⟨x, y⟩ := o
     refine uR ?_
     refine uK (mkTurn_h a b h1 h2) ?_
     refine uK HO ?_
     refine uK (mkTurn_h x y ho1 ho2) ?_
     refine qb ?_
     refine uQ ?_
     exact uF []
   have n2 : ¬ alg = 2 := by simpa using c2
   refine uA ?_
   refine uC (fun c3 => ?_) (fun c3 => ?_)
   · have e : alg = 3 := by simpa using c3
     subst e
     rw [show allM 3 l = jP l from rfl]
     refine uR ?_
     refine uK (first_h l hn hl) ?_
     refine qb ?_
     refine uQ ?_
     exact uF []
   have n3 : ¬ alg = 3 := by simpa using c3
   refine uA ?_
   refine uC (fun c4 => ?_) (fun c4 => ?_)
   · have e : alg = 4 := by simpa using c4
     subst e
     rw [show allM 4 l = onlyM (0, 0) l from rfl]
     refine uR ?_
     refine uK (only_h l hn hl) ?_
     refine qb ?_
     refine uQ ?_
     exact uF []
   have n4 : ¬ alg = 4 := by simpa using c4
   refine uA ?_
   refine uC (fun c5 => ?_) (fun c5 => ?_)
   · have e : alg = 5 := by simpa using c5
     subst e
     rw [show allM 5 l = wW l (0, 2) (2, 0) from rfl]
     refine uR ?_
     refine uK (unless_h l hn hl (0, 2) (2, 0) (by simp [mks])) ?_
     refine qb ?_
     refine uQ ?_
     exact uF []
   have n5 : ¬ alg = 5 := by simpa using c5
   refine uA ?_
   refine uC (fun c6 => ?_) (fun c6 => ?_)
   · have e : alg = 6 := by simpa using c6
     subst e
     rw [show allM 6 l = wW l (2, 0) (0, 2) from rfl]
     refine uR ?_
     refine uK (unless_h l hn hl (2, 0) (0, 2) (by simp [mks])) ?_
     refine qb ?_
     refine uQ ?_
     exact uF []
   · have n6 : ¬ alg = 6 := by simpa using c6
     have e : allM alg l = (0, 0) := by unfold allM; rw [if_neg n1, if_neg n2, if_neg n3, if_neg n4, if_neg n5, if_neg n6]
     rw [e, if_neg (by omega)]
     refine qd ?_
     refine uA ?_
     refine uQ ?_
     exact uF []
set_option maxHeartbeats 4000000
def rsP (x : Rs) : List PV := [mkP x.m, jc x.obls]
def rssP (l : List Rs) : PV := .sl 2 (l.map rsP)
theorem dutiesS_take {l : List Obli} {m : Mk} {k : Nat} (h : k < l.length) : jZ (l.take (k + 1)) m = if dutyS m l[k] then jZ (l.take k) m ++ [l[k]] else jZ (l.take k) m := by
 unfold jZ
 rw [List.take_succ_eq_append_getElem h, List.filter_append]
 cases hd : dutyS m l[k] <;> simp [hd]
theorem jL (l : List Obli) (m : Mk) : (jZ l m).length ≤ l.length := List.length_filter_le _ _
theorem duties_h (l : List Obli) (hn : l.length ≤ 1000000) (m : Mk) (hm : m ∈ mks) : Holds Tryz.prog 73 [jc l, mkP m] (.p (jc (jZ l m))) [] := by
 have lm : (l.map Obli.pv).length = l.length := by simp
 refine .ofW ?_
 refine qz (T := TTab) qa Tryz.func73 (by kernel_rfl) rfl rfl rfl ?_
 refine uA ?_
 refine uA ?_
 refine uA ?_
 refine uB ?_
 refine SW.wk (zp 5 900 98 3 rfl rfl) ?_
 refine uZ [1, 5, 8, 9, 10] [(900, 0)] ?_
 refine qw (fun n s => ∃ (k : Nat) (kk : Int) (L : List Obli), k ≤ l.length ∧ n = l.length - k ∧ kk = k ∧ L = jZ (l.take k) m ∧ s = ⟨36, [(1, .p (mkP m)), (5, .row 0), (8, .p (jc l)), (9, .p (pI (l.map Obli.pv).length)), (10, .p (pI kk))], [(0, .row 98 3 (L.map Obli.pv))]⟩) l.length ⟨0, 0, [], Nat.zero_le _, rfl, rfl, rfl, rfl⟩ ?_
 rintro n s ⟨k, _, L, hk, rfl, rfl, hL, rfl⟩
 refine uA ?_
 refine uC (fun hlt => ?_) (fun hlt => ?_)
 · refine qd ?_
   rw [lm] at hlt
   simp only [decide_eq_true_eq] at hlt
   have hlt' : k < l.length := by omega
   have hs := dutiesS_take (m := m) hlt'
   have hLl : L.length ≤ k := by rw [hL]; have := jL (l.take k) m; simp at this; omega
   refine uB ?_
   refine uR ?_
   refine qe qa rfl rfl (by rw [lm]; omega) rfl ?_
   rw [qm hlt']
   refine uS ?_
   refine qb ?_
   have hd : dutyS m l[k] = bif (l[k].on == 1) && mkE m (2, 0) then true else (l[k].on == 2) && mkE m (0, 2) := by
    rw [mkE_eq hm (by simp [mks]), mkE_eq hm (by simp [mks])]
    unfold dutyS
    rw [Bool.eq_iff_iff]
    simp
   (repeat refine qH ?_); refine ql (by kernel_rfl) ?_
   repeat (refine qi qa rfl (by exact True.intro) rfl ?_)
   refine qP ?_
   refine uC (fun hc => ?_) (fun hc => ?_)
   · have hd' : dutyS m l[k] = true := by
      rw [hd]
      revert hc
      unfold mkE
      cases (l[k].on == 1) <;> cases (l[k].on == 2) <;> simp [hb]
     rw [hd', if_pos rfl] at hs
     refine uR ?_
     refine qy rfl (qg qa rfl rfl rfl rfl rfl rfl rfl rfl rfl rfl rfl rfl rfl rfl rfl rfl (by simp only [List.length_append, List.length_map, List.length_take, List.length_cons, List.length_nil]; unfold reachBytes; omega) (by simp only [List.length_append, List.length_map, List.length_take, List.length_cons, List.length_nil]; omega) ?_)
     refine uS ?_
     refine qb ?_
     refine uA ?_
     refine ⟨_, _, ?_, qh [1, 5, 8, 9, 10] [(33, 0)] rfl rfl, k + 1, _, jZ (l.take (k + 1)) m, hlt', rfl, qf hlt' (by omega), rfl, ?_⟩
     · omega
     · rw [hs, ← hL, List.map_append]; rfl
   · have hd' : dutyS m l[k] = false := by
      rw [hd]
      revert hc
      unfold mkE
      cases (l[k].on == 1) <;> cases (l[k].on == 2) <;> simp [hb]
     rw [hd', if_neg (by simp)] at hs
     refine qd ?_
     refine uA ?_
     refine ⟨_, _, ?_, qh [1, 5, 8, 9, 10] [(0, 0)] rfl rfl, k + 1, _, L, hlt', rfl, qf hlt' (by omega), by rw [hs]; exact hL, rfl⟩
     omega
 · refine qt ?_
   rw [lm] at hlt
   simp only [decide_eq_false_iff_not] at hlt
   have hkk : k = l.length := by omega
   subst hkk
   rw [List.take_length] at hL
   subst hL
   refine uA ?_
   refine uQ ?_
   exact ⟨Or.inr rfl, _, _, [], _, zg (k := 0) rfl, rfl, rfl, .refl _, rfl, rfl⟩
theorem effect_h (r : Rul) (t c : Int) (ho : r.obls.length ≤ 1000000) : Holds Tryz.prog 65 [.agg (zy r), pI t, pI c] (.p (.agg (rsP (zE r t c)))) [] := by
 obtain ⟨id, deny, tg, cond, obls⟩ := r
 unfold zE effM
 simp only at ho ⊢
 refine .ofW ?_
 cases deny with
 | true =>
   rw [if_pos rfl]
   refine qz (T := TTab) qa Tryz.func65 (by kernel_rfl) rfl rfl rfl ?_
   refine uA ?_
   refine uA ?_
   refine uA ?_
   refine uC (fun hd => ?_) (fun hd => ?_)
   · refine uA ?_
     refine uB ?_
     (repeat refine qH ?_); refine ql (by kernel_rfl) ?_
     repeat (refine qi qa rfl (by exact True.intro) rfl ?_)
     refine qP ?_
     refine uC (fun h0 => ?_) (fun h0 => ?_)
     · have h0' : t = 0 ∨ (t = 2 ∧ c = 0) := by
        revert h0
        by_cases a : t = 0 <;> by_cases b : t = 2 <;> by_cases d : c = 0 <;> simp [a, b, d]
       rw [if_pos h0']
       refine uA ?_
       refine uQ ?_
       exact ⟨Or.inr rfl, _, _, [], _, Wk.refl _, rfl, rfl, .p (CvL.agg (.cons (.refl _) (.cons (.nil 3) .nil))), rfl, rfl⟩
     · have h0' : ¬ (t = 0 ∨ (t = 2 ∧ c = 0)) := by
        revert h0
        by_cases a : t = 0 <;> by_cases b : t = 2 <;> by_cases d : c = 0 <;> simp [a, b, d]
       rw [if_neg h0']
       (repeat refine qH ?_); refine ql (by kernel_rfl) ?_
       repeat (refine qi qa rfl (by exact True.intro) rfl ?_)
       refine qP ?_
       refine uC (fun h1 => ?_) (fun h1 => ?_)
       · have h1' : t = 1 ∨ c = 1 := by
          revert h1
          by_cases a : t = 1 <;> by_cases d : c = 1 <;> simp [a, d]
         rw [if_pos h1']
         refine uR ?_
         refine uK (mkIndet_h (0, 2) (by simp [mks])) ?_
         refine qb ?_
         refine uQ ?_
         exact ⟨Or.inr rfl, _, _, [], _, Wk.refl _, rfl, rfl, .p (CvL.agg (.cons (.refl _) (.cons (.nil 3) .nil))), rfl, rfl⟩
       · have h1' : ¬ (t = 1 ∨ c = 1) := by
          revert h1
          by_cases a : t = 1 <;> by_cases d : c = 1 <;> simp [a, d]
         rw [if_neg h1']
         refine qd ?_
         refine uR ?_
         refine uO (duties_h obls ho (0, 2) (by simp [mks])) ?_
         refine qb ?_
         refine uQ ?_
         exact ⟨Or.inr rfl, _, _, [], _, Wk.refl _, rfl, rfl, .refl _, rfl, rfl⟩
   · cases hd
 | false =>
   simp only [Bool.false_eq_true, if_false]
   refine qz (T := TTab) qa Tryz.func65 (by kernel_rfl) rfl rfl rfl ?_
   refine uA ?_
   refine uA ?_
   refine uA ?_
   refine uC (fun hd => ?_) (fun hd => ?_)
   · cases hd
   · refine qd ?_
     refine uB ?_
     (repeat refine qH ?_); refine ql (by kernel_rfl) ?_
     repeat (refine qi qa rfl (by exact True.intro) rfl ?_)
     refine qP ?_
     refine uC (fun h0 => ?_) (fun h0 => ?_)
     · have h0' : t = 0 ∨ (t = 2 ∧ c = 0) := by
        revert h0
        by_cases a : t = 0 <;> by_cases b : t = 2 <;> by_cases d : c = 0 <;> simp [a, b, d]
       rw [if_pos h0']
       refine uA ?_
       refine uQ ?_
       exact ⟨Or.inr rfl, _, _, [], _, Wk.refl _, rfl, rfl, .p (CvL.agg (.cons (.refl _) (.cons (.nil 3) .nil))), rfl, rfl⟩
     · have h0' : ¬ (t = 0 ∨ (t = 2 ∧ c = 0)) := by
        revert h0
        by_cases a : t = 0 <;> by_cases b : t = 2 <;> by_cases d : c = 0 <;> simp [a, b, d]
       rw [if_neg h0']
       (repeat refine qH ?_); refine ql (by kernel_rfl) ?_
       repeat (refine qi qa rfl (by exact True.intro) rfl ?_)
       refine qP ?_
       refine uC (fun h1 => ?_) (fun h1 => ?_)
       · have h1' : t = 1 ∨ c = 1 := by
          revert h1
          by_cases a : t = 1 <;> by_cases d : c = 1 <;> simp [a, d]
         rw [if_pos h1']
         refine uR ?_
         refine uK (mkIndet_h (2, 0) (by simp [mks])) ?_
         refine qb ?_
         refine uQ ?_
         exact ⟨Or.inr rfl, _, _, [], _, Wk.refl _, rfl, rfl, .p (CvL.agg (.cons (.refl _) (.cons (.nil 3) .nil))), rfl, rfl⟩
       · have h1' : ¬ (t = 1 ∨ c = 1) := by
          revert h1
          by_cases a : t = 1 <;> by_cases d : c = 1 <;> simp [a, d]
         rw [if_neg h1']
         refine qd ?_
         refine uR ?_
         refine uO (duties_h obls ho (2, 0) (by simp [mks])) ?_
         refine qb ?_
         refine uQ ?_
         exact ⟨Or.inr rfl, _, _, [], _, Wk.refl _, rfl, rfl, .refl _, rfl, rfl⟩
set_option maxHeartbeats 4000000
def dgmO (at_ : List Atm) (r : Nat) (E : List Rs) : List (Nat × Box) := [(1000000, .cells [.p (.v (.pointer none)), .p (pI 0), .p (atmsP at_), .row r]), (r, .row 37 2 (E.map rsP))]
def qaf (at_ : List Atm) (a : Atm) : Pt := ⟨1, (zU 1 [] ⟨jU at_ a, -1, -2, -3⟩).2.2, (zU 1 [] ⟨jU at_ a, -1, -2, -3⟩).1⟩
structure AtOk (at_ : List Atm) : Prop where
 few : at_.length ≤ 64
 c : ∀ x ∈ at_, x.c.length ≤ 1000000
theorem asked_h (at_ : List Atm) (hat : AtOk at_) (E : List Rs) (a : Atm) (ha : a.c.length ≤ 1000000) : qJ Tryz.prog 61 [.ptr 1000000 0, .p (.agg a.pv)] (dgmO at_ 1000001 E) (.p (.agg (qaf at_ a).pv)) (dgmO at_ 1000001 E) := by
 have HF := find_h at_ a (by have := hat.few; omega) hat.c ha
 have HM := dmake_h 1 [] (by show 0 ≤ 100000; omega) ⟨jU at_ a, -1, -2, -3⟩
 unfold qaf
 generalize jU at_ a = fi at *
 generalize zU 1 [] ⟨fi, -1, -2, -3⟩ = r at *
 obtain ⟨v, e, d2⟩ := r
 simp only at HM ⊢
 refine qz (T := TTab) qa Tryz.func61 (by kernel_rfl) rfl rfl rfl ?_
 refine uA ?_
 refine uR ?_
 refine uO (dnew_h 1 (by omega) (by omega)) ?_
 refine qb ?_
 refine SW.wk (wk_nilc 11000 1 901 68 4 rfl rfl rfl) ?_
 refine uZ [0, 3, 4, 5] [(3, 3), (4, 4), (11000, 1), (901, 5), (1000000, 1000000), (1000001, 1000001)] ?_
 refine uD [1, 5] [1, 3, 5, 7, 9, 11, 15, 12, 17, 18, 21, 23, 25, 27, 29] ?_
 refine swm_rdX rfl rfl (rdO_build3 qa rfl rfl rfl) rfl ?_
 refine uk HF ?_
 refine uT ?_
 refine uw [(1, 1000000), (5, 1000001)] HM ?_
 refine uT ?_
 refine qY ?_
 refine uZ [4, 5, 7] [(4, 4), (1, 1), (24000, 5), (1000000, 1000000), (1000001, 1000001)] ?_
 refine SW.wk (zg (k := 5) rfl) ?_
 refine SW.wk (wk_frzB (k := 1) rfl rfl) ?_
 refine uA ?_
 refine uQ ?_
 exact ⟨Or.inr rfl, _, _, [(1000000, 1000000), (1000001, 1000001)], _, Wk.refl _, rfl, rfl, .refl _, rfl, rfl⟩
structure PtG (p : Pt) : Prop where
 d : WfB p.l
 few : p.l.length ≤ 2000
 r : VB p.r
theorem vb_least {row : List Int} (h : ∀ x ∈ row, VB x) : VB (-1 - wZ (row.map fun x => -1 - x)) := by
 unfold wZ
 cases row with
 | nil => show VB (-1 - 2); exact ⟨by decide, by decide⟩
 | cons y r =>
   rcases qas (f := min) (fun a b => by omega) ((r.map fun x => -1 - x) ++ [2]) (-1 - y) with e | e
   · show VB (-1 - ((r.map fun x => -1 - x) ++ [2]).foldl min (-1 - y))
     rw [e, show -1 - (-1 - y) = y by omega]
     exact h y (by simp)
   · show VB (-1 - ((r.map fun x => -1 - x) ++ [2]).foldl min (-1 - y))
     rcases List.mem_append.1 e with e | e
     · obtain ⟨x, hx, e⟩ := List.mem_map.1 e
       rw [← e, show -1 - (-1 - x) = x by omega]
       exact h x (by simp [hx])
     · rw [List.mem_singleton.1 e]; exact ⟨by decide, by decide⟩
theorem vb_great {row : List Int} (h : ∀ x ∈ row, VB x) : VB (-1 - greatL (row.map fun x => -1 - x)) := by
 unfold greatL
 cases row with
 | nil => show VB (-1 - 0); exact ⟨by decide, by decide⟩
 | cons y r =>
   rcases qas (f := max) (fun a b => by omega) ((r.map fun x => -1 - x) ++ [0]) (-1 - y) with e | e
   · show VB (-1 - ((r.map fun x => -1 - x) ++ [0]).foldl max (-1 - y))
     rw [e, show -1 - (-1 - y) = y by omega]
     exact h y (by simp)
   · show VB (-1 - ((r.map fun x => -1 - x) ++ [0]).foldl max (-1 - y))
     rcases List.mem_append.1 e with e | e
     · obtain ⟨x, hx, e⟩ := List.mem_map.1 e
       rw [← e, show -1 - (-1 - x) = x by omega]
       exact h x (by simp [hx])
     · rw [List.mem_singleton.1 e]; exact ⟨by decide, by decide⟩
theorem psOk_of {ps : List Pt} (hn : ps.length ≤ 1000) (h : ∀ p ∈ ps, PtG p) : PsOk ps (ps.map Pt.r) where
 len := by simp
 few := hn
 dag := fun p hp => by have := (h p hp).few; omega
 ways := fun x hx => by
  obtain ⟨p, hp, rfl⟩ := List.mem_map.1 hx
  exact (h p hp).r
theorem wovenG {ps : List Pt} {fl : List Int → Int} (hn : ps.length ≤ 1000) (h : ∀ p ∈ ps, PtG p) (hf : ∀ row : List Int, (∀ x ∈ row, VB x) → VB (-1 - fl (row.map fun x => -1 - x))) : PtG (wovenP (jg ps fl)) := by
 obtain ⟨h1, h2⟩ := way_wf (f := jV fl) (fun _ row hr => hf row hr) (fun p hp => (h p hp).d) 66 ⟨[], [], 0, ()⟩ (ps.map Pt.r) (psOk_of hn h) ⟨fun i hi => absurd hi (Nat.not_lt_zero i), Nat.zero_le _, fun p hp => by cases hp⟩
 exact ⟨h1.d, h1.few, h2⟩
theorem askedG (at_ : List Atm) (a : Atm) : PtG (qaf at_ a) := by
 have h0 : WfB [] := fun i hi => absurd hi (Nat.not_lt_zero i)
 exact ⟨wfB_make h0, make_len (by show 0 ≤ 2000; omega), make_vb (by show 0 ≤ 2000; omega) ⟨by show _ ≤ (-1 : Int); decide, by show (-1 : Int) ≤ _; decide⟩⟩
def jM {α : Type} (g : α → Pt × Int) : List α → List Pt × Option (Pt × Int)
 | [] => ([], none)
 | x :: r => if (g x).2 ≠ 0 then ([], some (g x)) else ((g x).1 :: (jM g r).1, (jM g r).2)
theorem seqPt_ok {α : Type} {g : α → Pt × Int} : ∀ {l : List α}, (∀ x ∈ l, (g x).2 = 0) → jM g l = (l.map fun x => (g x).1, none)
 | [], _ => rfl
 | x :: r, h => by
   rw [jM, if_neg (by rw [h x (by simp)]; simp), seqPt_ok fun y hy => h y (by simp [hy])]; rfl
theorem seqPt_at {α : Type} {g : α → Pt × Int} : ∀ {l : List α} {k : Nat} (hk : k < l.length), (∀ x ∈ l.take k, (g x).2 = 0) → (g l[k]).2 ≠ 0 → (jM g l).2 = some (g l[k])
 | x :: r, 0, _, _, h => by rw [jM, if_pos (show (g x).2 ≠ 0 from h)]; rfl
 | x :: r, k + 1, hk, ha, h => by
   rw [jM, if_neg (by rw [ha x (by simp)]; simp)]
   exact seqPt_at (by simpa using hk) (fun y hy => ha y (by rw [List.take_succ_cons]; exact List.mem_cons_of_mem _ hy)) h
def wvP (r : Int × Int × Wv Unit) : Pt × Int := (wovenP r, r.2.1)
def wvSeq (fl : List Int → Int) (q : List Pt × Option (Pt × Int)) : Pt × Int := match q.2 with
 | some pe => pe
 | none => wvP (jg q.1 fl)
def wF (at_ : List Atm) (y : List Mat) : Pt × Int := wvP (jg (y.map fun m => qaf at_ ⟨m, []⟩) wZ)
def ju (at_ : List Atm) (x : List (List Mat)) : Pt × Int := wvSeq greatL (jM (wF at_) x)
def zP (at_ : List Atm) (t : Tar) : Pt × Int := wvSeq wZ (jM (ju at_) t)
theorem allG (at_ : List Atm) {y : List Mat} (h : y.length ≤ 1000) : PtG (wF at_ y).1 :=
 wovenG (by simpa using h) (fun p hp => by obtain ⟨m, _, rfl⟩ := List.mem_map.1 hp; exact askedG at_ _) fun row hr => vb_least hr
theorem seqG {α : Type} {g : α → Pt × Int} {fl : List Int → Int} (hf : ∀ row : List Int, (∀ x ∈ row, VB x) → VB (-1 - fl (row.map fun x => -1 - x))) {l : List α} (hn : l.length ≤ 1000) (hg : ∀ x ∈ l, PtG (g x).1) : PtG (wvSeq fl (jM g l)).1 := by
 have key : ∀ l : List α, (∀ x ∈ l, PtG (g x).1) → (∀ p ∈ (jM g l).1, PtG p) ∧ (∀ pe, (jM g l).2 = some pe → PtG pe.1) ∧ (jM g l).1.length ≤ l.length := by
  intro l
  induction l with
  | nil => intro _; exact ⟨(fun p hp => nomatch hp), (fun pe h => nomatch h), Nat.le_refl _⟩
  | cons x r ih =>
    intro h
    obtain ⟨h1, h2, h3⟩ := ih fun y hy => h y (by simp [hy])
    rw [jM]
    split
    · exact ⟨(fun p hp => nomatch hp), (fun pe e => by cases e; exact h x (by simp)), Nat.zero_le _⟩
    · refine ⟨fun p hp => ?_, h2, by simp only [List.length_cons]; omega⟩
      rcases List.mem_cons.1 hp with rfl | hp
      · exact h x (by simp)
      · exact h1 p hp
 obtain ⟨k1, k2, k3⟩ := key l hg
 unfold wvSeq
 cases e : (jM g l).2 with
 | some pe => exact k2 pe e
 | none => exact wovenG (by omega) k1 hf
theorem anyG (at_ : List Atm) {x : List (List Mat)} (h : x.length ≤ 1000) (hy : ∀ y ∈ x, y.length ≤ 1000) : PtG (ju at_ x).1 := seqG (fun row hr => vb_great hr) h fun y h => allG at_ (hy y h)
set_option maxHeartbeats 4000000
theorem HoldsR.cv2x {P : Program} {f : FuncId} {s : SV} {x x' : PV} {own : List (Nat × Box)} {R : SV → List (Nat × Box) → Prop} (h : HoldsR P f [s, .p x] own R) (hc : Cv x' x) : HoldsR P f [s, .p x'] own R :=
 ⟨h.1, fun w Sx γ vs hh hl hr => h.2 w Sx γ vs hh hl fun i t u ht hu => by
  match i, ht with
  | 0, ht => exact hr 0 t u ht hu
  | 1, ht =>
    simp only [List.getElem?_cons_succ, List.getElem?_cons_zero, Option.some.injEq] at ht
    subst ht
    exact .p ((hr 1 (.p x') u rfl hu).p_inv.cv hc)⟩
theorem askedM_h (at_ : List Atm) (hat : AtOk at_) (E : List Rs) (m : Mat) : qJ Tryz.prog 61 [.ptr 1000000 0, .p (.agg (atmP m nilV))] (dgmO at_ 1000001 E) (.p (.agg (qaf at_ ⟨m, []⟩).pv)) (dgmO at_ 1000001 E) :=
 HoldsR.cv2x (asked_h at_ hat E ⟨m, []⟩ (Nat.zero_le _)) (CvL.agg (.cons (.refl _) (.cons (.refl _) (.cons (.refl _) (.cons (.refl _) (.cons (.refl _) (.cons (.refl _) (.cons (.refl _) (.cons (.nil 7) .nil)))))))))
def TarK (t : Tar) : Prop := t.length ≤ 1000 ∧ ∀ x ∈ t, x.length ≤ 1000 ∧ ∀ y ∈ x, y.length ≤ 1000
theorem ctarget_h (at_ : List Atm) (hat : AtOk at_) (E : List Rs) (t : Tar) (ht : TarK t) : qJ Tryz.prog 37 [.ptr 1000000 0, .p (tgtP t)] (dgmO at_ 1000001 E) (.tup [.p (.agg (zP at_ t).1.pv), .p (pI (zP at_ t).2)]) (dgmO at_ 1000001 E) := by
 have lt : (t.map fun x => [anyP x]).length = t.length := by simp
 have ht1 := ht.1
 refine qz (T := TTab) qa Tryz.func37 (by kernel_rfl) rfl rfl rfl ?_
 refine uA ?_
 refine uA ?_
 refine uA ?_
 refine uB ?_
 refine SW.wk (zp 6 900 58 2 rfl rfl) ?_
 refine uZ [0, 4, 6, 19, 20, 21] [(4, 4), (900, 0), (1000000, 1000000), (1000001, 1000001)] ?_
 refine qw (fun m s => ∃ (k : Nat) (kk : Int), k ≤ t.length ∧ m = t.length - k ∧ kk = k ∧ (∀ x ∈ t.take k, (ju at_ x).2 = 0) ∧ s = ⟨77, [(0, .ptr 1000000 0), (4, .ptr 4 0), (6, .row 0), (19, .p (tgtP t)), (20, .p (pI (t.map fun x => [anyP x]).length)), (21, .p (pI kk))], [(4, .cells [.p (.v (.pointer none)), .p (pI 0)]), (0, .row 58 2 (((t.take k).map fun x => (ju at_ x).1).map Pt.pv))] ++ dgmO at_ 1000001 E⟩) t.length ⟨0, 0, Nat.zero_le _, rfl, rfl, by simp, rfl⟩ ?_
 rintro m s ⟨k, _, hk, rfl, rfl, ha, rfl⟩
 refine uA ?_
 refine uC (fun hlt => ?_) (fun hlt => ?_)
 · refine qd ?_
   rw [lt] at hlt
   simp only [decide_eq_true_eq] at hlt
   have hlt' : k < t.length := by omega
   have hx1 := ht.2 _ (List.getElem_mem hlt')
   have hSt := List.take_succ_eq_append_getElem hlt'
   have hstep := fun e => take_ok (p := fun x => (ju at_ x).2 = 0) hlt' ha e
   have herr := seqPt_at (g := ju at_) hlt' ha
   obtain ⟨x, hx⟩ : ∃ x, x = t[k] := ⟨_, rfl⟩
   rw [← hx] at hx1 hSt hstep herr
   have lx : (x.map fun y => [wq y]).length = x.length := by simp
   refine uB ?_
   refine uR ?_
   refine qe qa rfl rfl (by rw [lt]; omega) rfl ?_
   rw [qm hlt', ← hx]
   refine uS ?_
   refine qb ?_
   refine uA ?_
   refine uA ?_
   refine uB ?_
   refine SW.wk (zp 9 901 58 2 rfl rfl) ?_
   refine uZ [0, 4, 6, 9, 19, 20, 21, 25, 26, 27] [(4, 4), (0, 0), (901, 1), (1000000, 1000000), (1000001, 1000001)] ?_
   refine qw (fun m s => ∃ (j : Nat) (jj : Int), j ≤ x.length ∧ m = x.length - j ∧ jj = j ∧ (∀ y ∈ x.take j, (wF at_ y).2 = 0) ∧ s = ⟨77, [(0, .ptr 1000000 0), (4, .ptr 4 0), (6, .row 0), (9, .row 1), (19, .p (tgtP t)), (20, .p (pI (t.map fun x => [anyP x]).length)), (21, .p (pI k)), (25, .p (anyP x)), (26, .p (pI (x.map fun y => [wq y]).length)), (27, .p (pI jj))],
    [(4, .cells [.p (.v (.pointer none)), .p (pI 0)]), (0, .row 58 2 (((t.take k).map fun x => (ju at_ x).1).map Pt.pv)), (1, .row 58 2 (((x.take j).map fun y => (wF at_ y).1).map Pt.pv))] ++ dgmO at_ 1000001 E⟩) x.length ⟨0, 0, Nat.zero_le _, rfl, rfl, by simp, rfl⟩ ?_
   rintro m s ⟨j, _, hj, rfl, rfl, hb, rfl⟩
   refine uA ?_
   refine uC (fun hlj => ?_) (fun hlj => ?_)
   · refine qd ?_
     rw [lx] at hlj
     simp only [decide_eq_true_eq] at hlj
     have hlj' : j < x.length := by omega
     have hy1 := hx1.2 _ (List.getElem_mem hlj')
     have hSx := List.take_succ_eq_append_getElem hlj'
     have hstepx := fun e => take_ok (p := fun y => (wF at_ y).2 = 0) hlj' hb e
     have herrx := seqPt_at (g := wF at_) hlj' hb
     obtain ⟨y, hy⟩ : ∃ y, y = x[j] := ⟨_, rfl⟩
     rw [← hy] at hy1 hSx hstepx herrx
     have ly : (y.map Mat.pv).length = y.length := by simp
     refine uB ?_
     refine uR ?_
     refine qe qa rfl rfl (by rw [lx]; omega) rfl ?_
     rw [qm hlj', ← hy]
     refine uS ?_
     refine qb ?_
     refine uA ?_
     refine uA ?_
     refine uB ?_
     refine SW.wk (zp 12 902 58 2 rfl rfl) ?_
     refine uZ [0, 4, 6, 9, 12, 19, 20, 21, 25, 26, 27, 31, 32, 33] [(4, 4), (0, 0), (1, 1), (902, 2), (1000000, 1000000), (1000001, 1000001)] ?_
     refine qw (fun m s => ∃ (i : Nat) (ii : Int), i ≤ y.length ∧ m = y.length - i ∧ ii = i ∧ s = ⟨77, [(0, .ptr 1000000 0), (4, .ptr 4 0), (6, .row 0), (9, .row 1), (12, .row 2), (19, .p (tgtP t)), (20, .p (pI (t.map fun x => [anyP x]).length)), (21, .p (pI k)), (25, .p (anyP x)), (26, .p (pI (x.map fun y => [wq y]).length)), (27, .p (pI j)), (31, .p (wq y)), (32, .p (pI (y.map Mat.pv).length)), (33, .p (pI ii))],
      [(4, .cells [.p (.v (.pointer none)), .p (pI 0)]), (0, .row 58 2 (((t.take k).map fun x => (ju at_ x).1).map Pt.pv)), (1, .row 58 2 (((x.take j).map fun y => (wF at_ y).1).map Pt.pv)), (2, .row 58 2 (((y.take i).map fun m => qaf at_ ⟨m, []⟩).map Pt.pv))] ++ dgmO at_ 1000001 E⟩) y.length ⟨0, 0, Nat.zero_le _, rfl, rfl, rfl⟩ ?_
     rintro m s ⟨i, _, hi, rfl, rfl, rfl⟩
     refine uA ?_
     refine uC (fun hli => ?_) (fun hli => ?_)
     · refine qd ?_
       rw [ly] at hli
       simp only [decide_eq_true_eq] at hli
       have hli' : i < y.length := by omega
       have hSy := List.take_succ_eq_append_getElem hli'
       obtain ⟨mm, hmm⟩ : ∃ mm, mm = y[i] := ⟨_, rfl⟩
       rw [← hmm] at hSy
       refine uB ?_
       refine uR ?_
       refine qe qa rfl rfl (by rw [ly]; omega) rfl ?_
       rw [qm hli', ← hmm]
       refine uS ?_
       refine qb ?_
       refine uR ?_
       refine uW [(1000000, 1000000), (1000001, 1000001)] (askedM_h at_ hat E mm) ?_
       refine qy rfl (qg qa rfl rfl rfl rfl rfl rfl rfl rfl rfl rfl rfl rfl rfl rfl rfl rfl (by simp only [List.length_append, List.length_map, List.length_take, List.length_cons, List.length_nil]; unfold reachBytes; omega) (by simp only [List.length_append, List.length_map, List.length_take, List.length_cons, List.length_nil]; omega) ?_)
       refine uS ?_
       refine qb ?_
       refine uA ?_
       refine ⟨_, _, ?_, qh [0, 4, 6, 9, 12, 19, 20, 21, 25, 26, 27, 31, 32, 33] [(4, 4), (0, 0), (1, 1), (43, 2), (1000000, 1000000), (1000001, 1000001)] rfl rfl, i + 1, _, hli', rfl, qf hli' (by omega), ?_⟩
       · omega
       · rw [hSy, List.map_append, List.map_append]; rfl
     · refine qt ?_
       rw [ly] at hli
       simp only [decide_eq_false_iff_not] at hli
       have hii : i = y.length := by omega
       subst hii
       rw [List.take_length]
       have HW := woven_h least_ok (y.map fun m => qaf at_ ⟨m, []⟩) (fun p hp => by obtain ⟨m, _, rfl⟩ := List.mem_map.1 hp; exact (askedG at_ _).d) (psOk_of (by simpa using hy1) fun p hp => by obtain ⟨m, _, rfl⟩ := List.mem_map.1 hp; exact askedG at_ _)
       change Holds _ _ _ (.tup [.p (.agg (wF at_ y).1.pv), .p (pI (wF at_ y).2)]) _ at HW
       refine SW.wk (zg (k := 2) rfl) ?_
       have eA : (wF at_ y).2 ≠ 0 → zP at_ t = wF at_ y := fun he => by
        have e1 : ju at_ x = wF at_ y := by unfold ju wvSeq; rw [herrx he]
        have e2 : zP at_ t = ju at_ x := by unfold zP wvSeq; rw [herr (by rw [e1]; exact he)]
        rw [e2, e1]
       have e9 : ((x.take (j + 1)).map fun y => (wF at_ y).1).map Pt.pv = ((x.take j).map fun y => (wF at_ y).1).map Pt.pv ++ [(wF at_ y).1.pv] := by rw [hSx, List.map_append, List.map_append]; rfl
       generalize wF at_ y = Y at *
       obtain ⟨pt, e⟩ := Y
       simp only at *
       refine uR ?_
       refine uO HW ?_
       refine qb ?_
       refine uA ?_
       by_cases he : e = 0
       rotate_left
       · rw [show (e != 0) = true by simpa using he]
         refine uC (fun h6 => ?_) (fun h6 => ?_)
         · rw [eA he]
           refine uA ?_
           refine uQ ?_
           exact ⟨Or.inr rfl, _, _, [(1000000, 1000000), (1000001, 1000001)], _, Wk.refl _, rfl, rfl, .refl _, rfl, rfl⟩
         · cases h6
       subst he
       refine uC (fun h6 => ?_) (fun h6 => ?_)
       · cases h6
       refine qd ?_
       refine uR ?_
       refine qy rfl (qg qa rfl rfl rfl rfl rfl rfl rfl rfl rfl rfl rfl rfl rfl rfl rfl rfl (by simp only [List.length_append, List.length_map, List.length_take, List.length_cons, List.length_nil]; unfold reachBytes; omega) (by simp only [List.length_append, List.length_map, List.length_take, List.length_cons, List.length_nil]; omega) ?_)
       refine uS ?_
       refine qb ?_
       refine uA ?_
       refine ⟨_, _, ?_, qh [0, 4, 6, 9, 19, 20, 21, 25, 26, 27] [(4, 4), (0, 0), (57, 1), (1000000, 1000000), (1000001, 1000001)] rfl rfl, j + 1, _, hlj', rfl, qf hlj' (by omega), hstepx rfl, ?_⟩
       · omega
       · rw [e9]; rfl
   · refine qt ?_
     rw [lx] at hlj
     simp only [decide_eq_false_iff_not] at hlj
     have hjj : j = x.length := by omega
     subst hjj
     rw [List.take_length] at hb ⊢
     have HW := woven_h great_ok (x.map fun y => (wF at_ y).1) (fun p hp => by obtain ⟨y, hy, rfl⟩ := List.mem_map.1 hp; exact (allG at_ (hx1.2 y hy)).d) (psOk_of (by simpa using hx1.1) fun p hp => by obtain ⟨y, hy, rfl⟩ := List.mem_map.1 hp; exact allG at_ (hx1.2 y hy))
     have e1 : ju at_ x = wvP (jg (x.map fun y => (wF at_ y).1) greatL) := by unfold ju wvSeq; rw [seqPt_ok hb]
     rw [show (wovenP (jg (x.map fun y => (wF at_ y).1) greatL)) = (ju at_ x).1 from by rw [e1]; rfl, show (jg (x.map fun y => (wF at_ y).1) greatL).2.1 = (ju at_ x).2 from by rw [e1]; rfl] at HW
     clear e1
     refine SW.wk (zg (k := 1) rfl) ?_
     have eA : (ju at_ x).2 ≠ 0 → zP at_ t = ju at_ x := fun he => by unfold zP wvSeq; rw [herr he]
     have e9 : ((t.take (k + 1)).map fun x => (ju at_ x).1).map Pt.pv = ((t.take k).map fun x => (ju at_ x).1).map Pt.pv ++ [(ju at_ x).1.pv] := by rw [hSt, List.map_append, List.map_append]; rfl
     generalize ju at_ x = Y at *
     obtain ⟨pt, e⟩ := Y
     simp only at *
     refine uR ?_
     refine uO HW ?_
     refine qb ?_
     refine uA ?_
     by_cases he : e = 0
     rotate_left
     · rw [show (e != 0) = true by simpa using he]
       refine uC (fun h6 => ?_) (fun h6 => ?_)
       · rw [eA he]
         refine uA ?_
         refine uQ ?_
         exact ⟨Or.inr rfl, _, _, [(1000000, 1000000), (1000001, 1000001)], _, Wk.refl _, rfl, rfl, .refl _, rfl, rfl⟩
       · cases h6
     subst he
     refine uC (fun h6 => ?_) (fun h6 => ?_)
     · cases h6
     refine qd ?_
     refine uR ?_
     refine qy rfl (qg qa rfl rfl rfl rfl rfl rfl rfl rfl rfl rfl rfl rfl rfl rfl rfl rfl (by simp only [List.length_append, List.length_map, List.length_take, List.length_cons, List.length_nil]; unfold reachBytes; omega) (by simp only [List.length_append, List.length_map, List.length_take, List.length_cons, List.length_nil]; omega) ?_)
     refine uS ?_
     refine qb ?_
     refine uA ?_
     refine ⟨_, _, ?_, qh [0, 4, 6, 19, 20, 21] [(4, 4), (71, 0), (1000000, 1000000), (1000001, 1000001)] rfl rfl, k + 1, _, hlt', rfl, qf hlt' (by omega), hstep rfl, ?_⟩
     · omega
     · rw [e9]; rfl
 · refine qt ?_
   rw [lt] at hlt
   simp only [decide_eq_false_iff_not] at hlt
   have hkk : k = t.length := by omega
   subst hkk
   rw [List.take_length] at ha ⊢
   have hG : ∀ p ∈ t.map (fun x => (ju at_ x).1), PtG p := fun p hp => by obtain ⟨x, hx, rfl⟩ := List.mem_map.1 hp; exact anyG at_ (ht.2 x hx).1 (ht.2 x hx).2
   have HW := woven_h least_ok (t.map fun x => (ju at_ x).1) (fun p hp => (hG p hp).d) (psOk_of (by simpa using ht1) hG)
   have e1 : zP at_ t = wvP (jg (t.map fun x => (ju at_ x).1) wZ) := by unfold zP wvSeq; rw [seqPt_ok ha]
   rw [show (wovenP (jg (t.map fun x => (ju at_ x).1) wZ)) = (zP at_ t).1 from by rw [e1]; rfl, show (jg (t.map fun x => (ju at_ x).1) wZ).2.1 = (zP at_ t).2 from by rw [e1]; rfl] at HW
   clear e1
   generalize zP at_ t = Y at *
   obtain ⟨pt, e⟩ := Y
   simp only at *
   refine SW.wk (zg (k := 0) rfl) ?_
   refine uR ?_
   refine uO HW ?_
   refine qb ?_
   refine uQ ?_
   exact ⟨Or.inr rfl, _, _, [(1000000, 1000000), (1000001, 1000001)], _, Wk.refl _, rfl, rfl, .refl _, rfl, rfl⟩
set_option maxHeartbeats 4000000
instance decObl : DecidableEq Obli := fun a b => decidable_of_iff (a.on = b.on ∧ a.kind = b.kind ∧ a.arg = b.arg) ⟨fun h => by cases a; cases b; simp only at h; simp [h], fun h => by subst h; simp⟩
theorem eqL_obl (x y : Obli) : eqL x.pv y.pv = some (decide (x = y)) := by
 have h : eqL x.pv y.pv = some ((x.on == y.on) && ((x.kind == y.kind) && ((x.arg.toList == y.arg.toList) && true))) := rfl
 rw [h, qac, Bool.and_true]
 congr 1
 rw [Bool.eq_iff_iff]
 obtain ⟨a, b, c⟩ := x
 obtain ⟨a', b', c'⟩ := y
 simp [and_assoc]
theorem opR_neO {T : TT} {K : List Nat} {st : St} {o : Op} {t t' : TypeId} {a b : Operand} (x y : Obli) (ho : o = .binOp .neq t a b t') {n m : Nat} {d : Ty} {z : List Value} (ht : lk t T = some ⟨n, m, d, z, true⟩) (ha : evS st a = some (.p (.agg x.pv))) (hb : evS st b = some (.p (.agg y.pv))) : opR T K st o = some (zd x.pv z = true, .p (pB (!decide (x = y)))) := by
 subst ho
 show rBin T .neq t (evS st a) (evS st b) = _
 rw [ha, hb]
 unfold rBin
 simp only [ht, eqL_obl]
theorem equalO_h (a b : List Obli) (ha : a.length ≤ 1000000) (hb : b.length ≤ 1000000) : Holds Tryz.prog 100 [jc a, jc b] (.p (pB (decide (a = b)))) [] := by
 have la : (a.map Obli.pv).length = a.length := by simp
 have lb : (b.map Obli.pv).length = b.length := by simp
 refine qo (ts := [4]) Tryz.func100 (by kernel_rfl) rfl rfl rfl ?_
 refine uA ?_
 refine uA ?_
 rw [la, lb]
 refine uC (fun h0 => ?_) (fun h0 => ?_)
 · have e : a ≠ b := by intro e; subst e; simp at h0
   refine uA ?_
   refine uQ ?_
   exact jJ rfl (by simp [e])
 · have hl : a.length = b.length := by simp at h0; omega
   refine qd ?_
   refine uA ?_
   refine uB ?_
   refine uZ [0, 1, 12, 13] [] ?_
   refine qw (fun m s => ∃ (k : Nat) (kk : Int), k ≤ a.length ∧ m = a.length - k ∧ kk = k ∧ a.take k = b.take k ∧ s = ⟨26, [(0, .p (jc a)), (1, .p (jc b)), (12, .p (pI (a.map Obli.pv).length)), (13, .p (pI kk))], []⟩) a.length ⟨0, 0, Nat.zero_le _, rfl, rfl, rfl, rfl⟩ ?_
   rintro m s ⟨k, _, hk, rfl, rfl, he, rfl⟩
   refine uA ?_
   refine uC (fun hlt => ?_) (fun hlt => ?_)
   · refine qd ?_
     rw [la] at hlt
     simp only [decide_eq_true_eq] at hlt
     have hlt' : k < a.length := by omega
     have hlb : k < b.length := by omega
     obtain ⟨x, hx⟩ : ∃ x, x = a[k] := ⟨_, rfl⟩
     obtain ⟨y, hy⟩ : ∃ y, y = b[k] := ⟨_, rfl⟩
     refine uB ?_
     refine uA ?_
     refine uD [] [1, 3, 5, 7, 9, 11, 13, 15, 17] ?_
     refine qx qa rfl rfl rfl (by rw [la]; omega) rfl ?_
     rw [qm hlt', ← hx]
     refine uT ?_
     refine qx qa rfl rfl rfl (by rw [lb]; omega) rfl ?_
     rw [qm hlb, ← hy]
     refine uT ?_
     refine qx qa rfl rfl (opR_neO x y rfl rfl rfl rfl) rfl rfl ?_
     refine uT ?_
     refine qY ?_
     refine uC (fun hp => ?_) (fun hp => ?_)
     · have e : x ≠ y := by simpa using hp
       have e2 : a ≠ b := by intro e2; subst e2; exact e (by rw [hx, hy])
       refine uA ?_
       refine uQ ?_
       exact jJ rfl (by simp [e2])
     · refine qd ?_
       refine uA ?_
       refine ⟨_, _, ?_, qh [0, 1, 12, 13] [] rfl rfl, k + 1, _, hlt', rfl, qf hlt' (by omega), ?_, rfl⟩
       · omega
       · rw [List.take_succ_eq_append_getElem hlt', List.take_succ_eq_append_getElem hlb, he, ← hx, ← hy, show x = y by simpa using hp]
   · refine qt ?_
     rw [la] at hlt
     simp only [decide_eq_false_iff_not] at hlt
     have hkk : k = a.length := by omega
     subst hkk
     rw [List.take_length, List.take_of_length_le (by omega)] at he
     refine uA ?_
     refine uQ ?_
     exact jJ rfl (by simp [he])
instance decRs : DecidableEq Rs := fun a b => decidable_of_iff (a.m = b.m ∧ a.obls = b.obls) ⟨fun h => by cases a; cases b; simp only at h; simp [h], fun h => by subst h; simp⟩
def RsK (x : Rs) : Prop := x.m ∈ mks ∧ x.obls.length ≤ 1000000
theorem same_h (a b : Rs) (ha : RsK a) (hb : RsK b) : Holds Tryz.prog 70 [.agg (rsP a), .agg (rsP b)] (.p (pB (decide (a = b)))) [] := by
 obtain ⟨am, ao⟩ := a
 obtain ⟨bm, bo⟩ := b
 have HE := equalO_h ao bo ha.2 hb.2
 have e0 := mkE_eq ha.1 hb.1
 have e9 : decide ((⟨am, ao⟩ : Rs) = ⟨bm, bo⟩) = (decide (am = bm) && decide (ao = bo)) := by
  rw [Bool.eq_iff_iff]; simp
 rw [e9]
 have e1 : ∀ x : Bool, mkE am bm = x → decide (am = bm) = x := fun x h => by rw [← h]; exact e0.symm
 simp only at e0
 refine qo (ts := [4]) Tryz.func70 (by kernel_rfl) rfl rfl rfl ?_
 refine uA ?_
 refine uR ?_
 change SWT _ _ _ _ (St.put _ _ (.p (pB (mkE am bm))))
 cases hm : mkE am bm with
 | false =>
   rw [e1 _ hm]
   refine uS ?_
   refine qb ?_
   refine uQ ?_
   exact jJ rfl rfl
 | true =>
   rw [e1 _ hm]
   refine uS ?_
   refine uK HE ?_
   refine uS ?_
   refine qb ?_
   refine uQ ?_
   exact jJ rfl rfl
theorem end1_h (r y : Rs) (hr : RsK r) (hy : RsK y) : Holds Tryz.prog 69 [.agg (rsP y), .rp (rsP r)] (.p (pB (decide (r = y)))) [] := by
 have H := same_h r y hr hy
 refine qo (ts := [3]) Tryz.func69 (by kernel_rfl) rfl rfl rfl ?_
 refine uA ?_
 refine uR ?_
 refine uK H ?_
 refine qb ?_
 refine uQ ?_
 exact jJ rfl rfl
theorem indexR_h (l : List Rs) (hn : l.length ≤ 100000000) (f : FuncId) (caps : List PV) (p : Rs → Bool) (hF : ∀ m ∈ l, Holds Tryz.prog f ([.agg (rsP m)] ++ caps) (.p (pB (p m))) []) :
 Holds Tryz.prog 68 [rssP l, .fn f caps] (.p (pI (if l.findIdx p < l.length then (l.findIdx p : Int) else -1))) [] := by
 have ll : (l.map rsP).length = l.length := by simp
 refine qo (ts := [4]) Tryz.func68 (by kernel_rfl) rfl rfl rfl ?_
 refine uA ?_
 refine uA ?_
 refine uB ?_
 refine uZ [0, 1, 7, 8] [] ?_
 refine qw (fun n s => ∃ (k : Nat) (kk : Int), k ≤ l.length ∧ n = l.length - k ∧ kk = k ∧ (∀ g ∈ l.take k, p g = false) ∧ s = ⟨19, [(0, .p (rssP l)), (1, .p (.fn f caps)), (7, .p (pI (l.map rsP).length)), (8, .p (pI kk))], []⟩) l.length ⟨0, 0, Nat.zero_le _, rfl, rfl, by simp, rfl⟩ ?_
 rintro n s ⟨k, _, hk, rfl, rfl, ha, rfl⟩
 refine uA ?_
 refine uC (fun hlt => ?_) (fun hlt => ?_)
 · refine qd ?_
   simp only [List.length_map, decide_eq_true_eq] at hlt
   have hlt' : k < l.length := by omega
   refine uB ?_
   refine uA ?_
   refine uR ?_
   refine qe qa rfl rfl (by simp only [List.length_map]; omega) rfl ?_
   rw [qm hlt']
   refine uS ?_
   refine uK (hF l[k] (List.getElem_mem hlt')) ?_
   refine qb ?_
   refine uC (fun hp => ?_) (fun hp => ?_)
   · refine uA ?_
     refine uQ ?_
     refine qZ rfl ?_
     have e : l.findIdx p = k := (List.findIdx_eq hlt').2 ⟨hp, fun j hj => ha _ (List.mem_take_iff_getElem.2 ⟨j, by omega, rfl⟩)⟩
     rw [e, if_pos hlt']
   · refine qd ?_
     refine uA ?_
     refine ⟨_, _, ?_, qh [0, 1, 7, 8] [] rfl rfl, k + 1, _, hlt', rfl, qf hlt' (by omega), ?_, rfl⟩
     · omega
     · intro g hg
       rw [List.take_succ_eq_append_getElem hlt', List.mem_append, List.mem_singleton] at hg
       rcases hg with hg | rfl
       · exact ha g hg
       · exact hp
 · refine qt ?_
   simp only [List.length_map, decide_eq_false_iff_not] at hlt
   have hkk : k = l.length := by omega
   subst hkk
   refine uA ?_
   refine uQ ?_
   refine qZ rfl ?_
   rw [List.take_length] at ha
   rw [if_neg]
   have := List.findIdx_eq_length_of_false ha
   omega
def endR (E : List Rs) (r : Rs) : Int × List Rs := if E.findIdx (fun y => decide (r = y)) < E.length then ((E.findIdx (fun y => decide (r = y)) : Nat), E) else ((E.length : Nat), E ++ [r])
theorem end_h (at_ : List Atm) (E : List Rs) (hE : E.length ≤ 100000000) (hk : ∀ x ∈ E, RsK x) (r : Rs) (hr : RsK r) : qJ Tryz.prog 41 [.ptr 1000000 0, .p (.agg (rsP r))] (dgmO at_ 1000001 E) (.p (pI (endR E r).1)) (dgmO at_ 0 (endR E r).2) := by
 have HI := indexR_h E hE 69 [.rp (rsP r)] (fun y => decide (r = y)) (fun y hy => end1_h r y hr (hk y hy))
 have lE : (E.map rsP).length = E.length := by simp
 refine qD (ts := [4]) Tryz.func41 (by kernel_rfl) rfl rfl rfl ?_
 refine uA ?_
 refine SW.wk (wk_frzB (k := 3) rfl rfl) ?_
 refine uR ?_
 refine uK HI ?_
 refine qb ?_
 refine uA ?_
 unfold endR
 by_cases hf : E.findIdx (fun y => decide (r = y)) < E.length
 · rw [if_pos hf, if_pos hf]
   generalize E.findIdx (fun y => decide (r = y)) = fi at *
   rw [show decide ((fi : Int) < 0) = false from decide_eq_false (by omega)]
   refine uC (fun h7 => ?_) (fun h7 => ?_)
   · cases h7
   refine qd ?_
   refine uA ?_
   refine uQ ?_
   exact uF [(1000000, 1000000), (1000001, 0)]
 · rw [if_neg hf, if_neg hf]
   refine uC (fun h7 => ?_) (fun h7 => ?_)
   · refine uA ?_
     rw [lE]
     refine uZ [0, 3, 5] [(1000000, 1000000), (1000001, 1000001)] ?_
     (repeat refine qH ?_); refine zC 11 rfl (by kernel_rfl) ?_
     refine qT (i := 0) (K := [1000001, 1000000]) (by kernel_rfl) (by kernel_rfl) rfl rfl (qs qa rfl (by exact True.intro)) rfl ?_
     refine qT (i := 1) (K := [1000001, 1000000]) (by kernel_rfl) (by kernel_rfl) rfl rfl (qs qa rfl (by exact True.intro)) rfl ?_
     refine qT (i := 2) (K := [1000001, 1000000]) (by kernel_rfl) (by kernel_rfl) rfl rfl (qs qa rfl (by exact True.intro)) rfl ?_
     refine qT (i := 3) (K := [1000001, 1000000]) (by kernel_rfl) (by kernel_rfl) rfl rfl (qs qa rfl (by exact True.intro)) rfl ?_
     refine qT (i := 4) (K := [1000001]) (by kernel_rfl) (by kernel_rfl) rfl rfl (qs qa rfl (by exact True.intro)) rfl ?_
     refine qT (i := 5) (K := [1000001, 1000000]) (by kernel_rfl) (by kernel_rfl) rfl rfl (qs qa rfl (by exact True.intro)) rfl ?_
     refine qQ 6 (by kernel_rfl) ?_
     first | refine qr rfl rfl rfl (aM (h := ?_)) | refine qr rfl rfl rfl (aB (h := ?_)) | refine qr rfl rfl rfl (aA (h := ?_)) | refine qr rfl rfl rfl (aS (h := ?_)) | refine qr rfl rfl rfl (aL (h := ?_)) | refine qr rfl rfl rfl (jl (K := []) (qs qa rfl (by exact True.intro)) rfl ?_)
     refine qQ 7 (by kernel_rfl) ?_
     refine qr rfl rfl rfl (qg qa rfl rfl rfl rfl rfl rfl rfl rfl rfl rfl rfl rfl rfl rfl rfl rfl (by simp only [List.length_append, List.length_map, List.length_take, List.length_cons, List.length_nil]; unfold reachBytes; omega) (by simp only [List.length_append, List.length_map, List.length_take, List.length_cons, List.length_nil]; omega) ?_)
     refine qT (i := 8) (K := [1000001, 1000000]) (by kernel_rfl) (by kernel_rfl) rfl rfl (qs qa rfl (by exact True.intro)) rfl ?_
     refine qT (i := 9) (K := [1000001, 1000000]) (by kernel_rfl) (by kernel_rfl) rfl rfl (qs qa rfl (by exact True.intro)) rfl ?_
     refine qQ 10 (by kernel_rfl) ?_
     first | refine qr rfl rfl rfl (aM (h := ?_)) | refine qr rfl rfl rfl (aB (h := ?_)) | refine qr rfl rfl rfl (aA (h := ?_)) | refine qr rfl rfl rfl (aS (h := ?_)) | refine qr rfl rfl rfl (aL (h := ?_)) | refine qr rfl rfl rfl (jl (K := []) (qs qa rfl (by exact True.intro)) rfl ?_)
     refine wR (by kernel_rfl) ?_
     refine SW.wk (qh [5] [(1000000, 1000000), (26, 0)] rfl rfl) ?_
     refine ?fk4_210
     rotate_left
     refine uA ?_
     refine uQ ?_
     have e9 : (E ++ [r]).map rsP = E.map rsP ++ [rsP r] := by simp
     show Fin _ _ [(1000000, .cells [.p (.v (.pointer none)), .p (pI 0), .p (atmsP at_), .row 0]), (0, .row _ 2 ((E ++ [r]).map rsP))] _ _
     rw [e9]
     exact uF [(1000000, 1000000), (0, 0)]
   · cases h7
inductive Ev (l : List Br) (α : Int → Nat) : Int → Int → Prop
 | leaf {w : Int} : w < 0 → Ev l α w w
 | step {w e : Int} {b : Br} : brD l w = some b → Ev l α (b.to (α b.atom)) e → Ev l α w e
theorem brD_neg {l : List Br} {w : Int} (h : w < 0) : brD l w = none := by unfold brD; rw [if_pos h]
theorem Ev.neg {l : List Br} {α : Int → Nat} {w e : Int} (h : Ev l α w e) : e < 0 := by
 induction h with
 | leaf h => exact h
 | step _ _ ih => exact ih
theorem Ev.det {l : List Br} {α : Int → Nat} {w e : Int} (h : Ev l α w e) : ∀ {e' : Int}, Ev l α w e' → e = e' := by
 induction h with
 | leaf h =>
   intro e' h'
   cases h' with
   | leaf _ => rfl
   | step hb _ => rw [brD_neg h] at hb; cases hb
 | step hb _ ih =>
   intro e' h'
   cases h' with
   | leaf h => rw [brD_neg h] at hb; cases hb
   | step hb' h' => rw [hb] at hb'; cases hb'; exact ih h'
theorem brD_more {l : List Br} (x : List Br) {w : Int} {b : Br} (h : brD l w = some b) : brD (l ++ x) w = some b := by
 obtain ⟨k, hk, rfl, rfl⟩ := zY h
 have h2 : k < (l ++ x).length := by rw [List.length_append]; omega
 rw [brD_at h2, List.getElem_append_left hk]
theorem Ev.more {l : List Br} {α : Int → Nat} {w e : Int} (h : Ev l α w e) (x : List Br) : Ev (l ++ x) α w e := by
 induction h with
 | leaf h => exact .leaf h
 | step hb _ ih => exact .step (brD_more x hb) ih
inductive EvR (α : Int → Nat) : List Pt → List Int → List Int → Prop
 | nil : EvR α [] [] []
 | cons {p : Pt} {ps : List Pt} {w : Int} {row : List Int} {e : Int} {es : List Int} : Ev p.l α w e → EvR α ps row es → EvR α (p :: ps) (w :: row) (e :: es)
def PtV (G : Int → Prop) (p : Pt) : Prop := WfB p.l ∧ ∀ b ∈ p.l, ∀ j, j < 3 → b.to j < 0 → G (-1 - b.to j)
def WyV (G : Int → Prop) (p : Pt) (w : Int) : Prop := w < p.l.length ∧ (w < 0 → G (-1 - w))
inductive RowV : List (Int → Prop) → List Pt → List Int → Prop
 | nil : RowV [] [] []
 | cons {G : Int → Prop} {Gs : List (Int → Prop)} {p : Pt} {ps : List Pt} {w : Int} {row : List Int} : PtV G p → WyV G p w → RowV Gs ps row → RowV (G :: Gs) (p :: ps) (w :: row)
inductive LV : List (Int → Prop) → List Int → Prop
 | nil : LV [] []
 | cons {G : Int → Prop} {Gs : List (Int → Prop)} {x : Int} {l : List Int} : G x → LV Gs l → LV (G :: Gs) (x :: l)
theorem onB_v {G : Int → Prop} {p : Pt} {w : Int} (hp : PtV G p) (hw : WyV G p w) (a : Int) {j : Nat} (hj : j < 3) : WyV G p (onB (p, w) a j) := by
 unfold onB
 cases e : brD p.l w with
 | none => simpa only [e] using hw
 | some b =>
   simp only [e]
   split
   · obtain ⟨k, hk, e1, e2⟩ := zY e
     have h1 := (hp.1 k hk).2.2 j hj
     rw [← e2] at h1
     refine ⟨?_, hp.2 b (e2 ▸ List.getElem_mem hk) j hj⟩
     by_cases h0 : b.to j < 0
     · omega
     · obtain ⟨k', hk', e3, _⟩ := h1.2 (by omega)
       omega
   · exact hw
theorem RowV.on {Gs : List (Int → Prop)} {ps : List Pt} {row : List Int} (h : RowV Gs ps row) (a : Int) {j : Nat} (hj : j < 3) : RowV Gs ps (onW (ps.zip row) a j) := by
 induction h with
 | nil => exact .nil
 | cons hp hw _ ih => exact .cons hp (onB_v hp hw a hj) ih
theorem onB_ev {l : List Br} {p : Pt} {w e a : Int} {α : Int → Nat} {j : Nat} (h : Ev p.l α w e) (ha : α a = j) : Ev p.l α (onB (p, w) a j) e := by
 unfold onB
 cases h with
 | leaf h => simp only [brD_neg h]; exact .leaf h
 | step hb h =>
   simp only [hb]
   split
   · rename_i h1; rw [h1, ha] at h; exact h
   · exact .step hb h
theorem EvR.on {α : Int → Nat} {ps : List Pt} {row es : List Int} (h : EvR α ps row es) {a : Int} {j : Nat} (ha : α a = j) : EvR α ps (onW (ps.zip row) a j) es := by
 induction h with
 | nil => exact .nil
 | cons he _ ih => exact .cons (onB_ev (l := []) he ha) ih
theorem RowV.wf {Gs : List (Int → Prop)} {ps : List Pt} {row : List Int} (h : RowV Gs ps row) : ∀ p ∈ ps, WfB p.l := by
 induction h with
 | nil => intro p hp; cases hp
 | cons hp _ _ ih =>
   intro q hq
   rcases List.mem_cons.1 hq with rfl | hq
   · exact hp.1
   · exact ih q hq
theorem RowV.len {Gs : List (Int → Prop)} {ps : List Pt} {row : List Int} (h : RowV Gs ps row) : ps.length = row.length := by
 induction h with
 | nil => rfl
 | cons _ _ _ ih => rw [List.length_cons, List.length_cons, ih]
theorem row_no {ps : List Pt} {row : List Int} (hw : ∀ p ∈ ps, WfB p.l) (h : qq (ps.zip row) = 64) : ∀ q ∈ ps.zip row, brD q.1.l q.2 = none := fun q hq => by
 cases e : brD q.1.l q.2 with
 | none => rfl
 | some b =>
   have h1 := atomW_min hq e
   obtain ⟨k, hk, _, e2⟩ := zY e
   have h2 := (hw q.1 (List.of_mem_zip (a := q.1) (b := q.2) hq).1 k hk).2.1
   rw [← e2] at h2
   omega
theorem row_leaf {Gs : List (Int → Prop)} {ps : List Pt} {row : List Int} (h : RowV Gs ps row) : (∀ q ∈ ps.zip row, brD q.1.l q.2 = none) → LV Gs (row.map fun x => -1 - x) ∧ ∀ (α : Int → Nat) (es : List Int), EvR α ps row es → es = row := by
 induction h with
 | nil => intro _; exact ⟨.nil, fun α es h => by cases h; rfl⟩
 | @cons G Gs p ps w row hp hw _ ih =>
   intro hn
   obtain ⟨i1, i2⟩ := ih fun q hq => hn q (by rw [List.zip_cons_cons]; exact List.mem_cons_of_mem _ hq)
   have h0 := hn (p, w) (by rw [List.zip_cons_cons]; exact List.mem_cons_self)
   have hneg : w < 0 := by
    have hl := hw.1
    by_cases h1 : w < 0
    · exact h1
    · exfalso
      have hk : w.toNat < p.l.length := by omega
      have := brD_at hk
      rw [show ((w.toNat : Nat) : Int) = w by omega] at this
      rw [this] at h0; cases h0
   refine ⟨.cons (hw.2 hneg) i1, fun α es h => ?_⟩
   cases h with
   | cons he hr =>
     rw [i2 α _ hr, ← Ev.det (.leaf hneg) he]
def LowB (l : List Br) (a v : Int) : Prop := ∀ b, brD l v = some b → a ≤ b.atom
theorem waysOk_to {l : List Br} {x : Br} (h : zI l x = true) {j : Nat} (hj : j < 3) : mayD l x.atom (x.to j) = true := by
 unfold zI at h
 simp only [Bool.and_eq_true] at h
 match j, hj with
 | 0, _ => exact h.1.1
 | 1, _ => exact h.1.2
 | 2, _ => exact h.2
structure MakeS (l : List Br) (x : Br) (v : Int) (l' : List Br) : Prop where
 ext : ∃ y, l' = l ++ y
 lt : v < l'.length
 low : LowB l' x.atom v
 mem : ∀ b ∈ l', b ∈ l ∨ b = x
 neg : v < 0 → v = x.to 0
 ev : ∀ (α : Int → Nat) (e : Int), (∀ a, α a < 3) → Ev l α (x.to (α x.atom)) e → Ev l' α v e
theorem make_sem {m : Int} {l l' : List Br} {x : Br} {v : Int} (h : zU m l x = (v, 0, l')) : MakeS l x v l' := by
 by_cases h1 : x.atom < 0 ∨ 64 ≤ x.atom
 · rw [mk_atom h1] at h; cases h
 cases h2 : zI l x with
 | false => rw [mk_ways h1 h2] at h; cases h
 | true =>
   by_cases h3 : x.b = x.a ∧ x.c = x.a
   · rw [mk_same h1 h2 h3] at h
     cases h
     obtain ⟨q1, q2⟩ := may_ok (waysOk_to h2 (show 0 < 3 by omega))
     refine ⟨⟨[], by simp⟩, ?_, fun b hb => ?_, fun b hb => .inl hb, fun _ => rfl, fun α e hα he => ?_⟩
     · by_cases h0 : x.a < 0
       · omega
       · obtain ⟨k, hk, e, _⟩ := q2 (by show 0 ≤ x.a; omega)
         have e' : x.a = k := e
         omega
     · obtain ⟨k, hk, e1, e2⟩ := zY hb
       obtain ⟨k', hk', e3, e4⟩ := q2 (by show 0 ≤ x.a; omega)
       have e3' : x.a = k' := e3
       have : k = k' := by omega
       subst this
       rw [e2]; omega
     · have : x.to (α x.atom) = x.a := by
        have := hα x.atom
        unfold Br.to
        split
        · rfl
        · split
          · exact h3.1
          · exact h3.2
       rw [this] at he
       exact he
   by_cases h4 : l.findIdx (fun y => decide (y = x)) < l.length
   · rw [mk_found h1 h2 h3 h4] at h
     cases h
     have hx : l[l.findIdx (fun y => decide (y = x))] = x := by
      have := List.findIdx_getElem (w := h4)
      simpa using this
     refine ⟨⟨[], by simp⟩, by omega, fun b hb => ?_, fun b hb => .inl hb, fun h => absurd h (by omega), fun α e hα he => ?_⟩
     · rw [brD_at h4, hx] at hb; cases hb; exact Int.le_refl _
     · exact .step (b := x) (by rw [brD_at h4, hx]) he
   by_cases h5 : m ≤ l.length
   · rw [mk_full h1 h2 h3 h4 h5] at h; cases h
   · rw [mk_new h1 h2 h3 h4 h5] at h
     cases h
     have hl : l.length < (l ++ [x]).length := by simp
     have hx : (l ++ [x])[l.length] = x := by simp
     refine ⟨⟨[x], rfl⟩, by omega, fun b hb => ?_, fun b hb => by simpa using hb, fun h => absurd h (by omega), fun α e hα he => ?_⟩
     · rw [brD_at hl, hx] at hb; cases hb; exact Int.le_refl _
     · exact .step (b := x) (by rw [brD_at hl, hx]) (he.more _)
structure FSem {σ : Type} (Gs : List (Int → Prop)) (f : σ → List Int → Int × σ) (I : σ → Prop) (Le : σ → σ → Prop) (L : σ → Int → Prop) (M : σ → List Int → Int → Prop) : Prop where
 now : ∀ s l, I s → LV Gs l → I (f s l).2 ∧ Le s (f s l).2 ∧ 0 ≤ (f s l).1 ∧ L (f s l).2 (f s l).1 ∧ M (f s l).2 l (f s l).1
 upM : ∀ s s' l i, M s l i → Le s s' → M s' l i
 upL : ∀ s s' i, L s i → Le s s' → L s' i
 refl : ∀ s, Le s s
 trans : ∀ s s' s'', Le s s' → Le s' s'' → Le s s''
section
variable {σ : Type} {Gs : List (Int → Prop)} {f : σ → List Int → Int × σ} {I : σ → Prop} {Le : σ → σ → Prop} {L : σ → Int → Prop} {M : σ → List Int → Int → Prop} {ps : List Pt}
structure Means (L : σ → Int → Prop) (M : σ → List Int → Int → Prop) (ps : List Pt) (w : Wv σ) (row : List Int) (v : Int) : Prop where
 lt : v < w.d.length
 low : LowB w.d (qq (ps.zip row)) v
 leaf : v < 0 → L w.st (-1 - v)
 ev : ∀ α : Int → Nat, (∀ a, α a < 3) → ∀ es, EvR α ps row es → ∃ e, Ev w.d α v e ∧ M w.st (es.map fun x => -1 - x) (-1 - e)
structure WSem (I : σ → Prop) (L : σ → Int → Prop) (M : σ → List Int → Int → Prop) (ps : List Pt) (w : Wv σ) : Prop where
 d : WfB w.d
 st : I w.st
 ends : ∀ b ∈ w.d, ∀ j, j < 3 → b.to j < 0 → L w.st (-1 - b.to j)
 met : ∀ p ∈ w.met, Means L M ps w p.1 p.2
structure WExt (Le : σ → σ → Prop) (w w' : Wv σ) : Prop where
 d : ∃ y, w'.d = w.d ++ y
 st : Le w.st w'.st
theorem WExt.refl (hF : FSem Gs f I Le L M) (w : Wv σ) : WExt Le w w := ⟨⟨[], by simp⟩, hF.refl _⟩
theorem WExt.trans (hF : FSem Gs f I Le L M) {a b c : Wv σ} (h : WExt Le a b) (k : WExt Le b c) : WExt Le a c := by
 obtain ⟨⟨y, hy⟩, h2⟩ := h
 obtain ⟨⟨z, hz⟩, k2⟩ := k
 exact ⟨⟨y ++ z, by rw [hz, hy, List.append_assoc]⟩, hF.trans _ _ _ h2 k2⟩
theorem Means.up (hF : FSem Gs f I Le L M) {w w' : Wv σ} {row : List Int} {v : Int} (h : Means L M ps w row v) (hx : WExt Le w w') : Means L M ps w' row v := by
 obtain ⟨⟨y, hy⟩, h2⟩ := hx
 refine ⟨?_, fun b hb => ?_, fun h0 => hF.upL _ _ _ (h.leaf h0) h2, fun α hα es he => ?_⟩
 · rw [hy, List.length_append]; have := h.lt; omega
 · by_cases h0 : v < 0
   · rw [brD_neg h0] at hb; cases hb
   · have hlt := h.lt
     have hk : v.toNat < w.d.length := by omega
     have h3 := brD_at hk
     rw [show ((v.toNat : Nat) : Int) = v by omega] at h3
     have h4 := brD_more y h3
     rw [← hy, hb] at h4
     cases h4
     exact h.low _ h3
 · obtain ⟨e, h3, h4⟩ := h.ev α hα es he
   exact ⟨e, by rw [hy]; exact h3.more y, hF.upM _ _ _ _ h4 h2⟩
theorem metF_get {m : List (List Int × Int)} {row : List Int} {v : Int} (h : metF m row = some v) : (row, v) ∈ m := by
 unfold metF at h
 obtain ⟨p, hp, rfl⟩ := Option.map_eq_some_iff.1 h
 have h1 := List.find?_some hp
 have h2 := List.mem_of_find?_eq_some hp
 have h3 : p.1 = row := by simpa using h1
 rw [← h3]; exact h2
theorem way_sem (hF : FSem Gs f I Le L M) : ∀ (n : Nat) (w : Wv σ) (row : List Int) (v : Int) (w' : Wv σ), RowV Gs ps row → WSem I L M ps w → wayW ps f n w row = (v, 0, w') → WSem I L M ps w' ∧ WExt Le w w' ∧ Means L M ps w' row v
 | 0, w, row, v, w', _, _, h => by unfold wayW at h; simp at h
 | n + 1, w, row, v, w', hV, hS, h => by
   have hw := hV.wf
   cases hm : metF w.met row with
   | some u =>
     rw [wG hm] at h
     cases h
     exact ⟨hS, .refl hF _, hS.met _ (metF_get hm)⟩
   | none =>
     by_cases h1 : 6000 < w.rows + 1
     · rw [wy hm h1] at h; cases h
     by_cases h2 : qq (ps.zip row) = 64
     · rw [qaJ hm h1 h2] at h
       cases h
       obtain ⟨l1, l2⟩ := row_leaf hV (row_no hw h2)
       obtain ⟨f1, f2, f0, f3, f4⟩ := hF.now _ _ hS.st l1
       have hx : WExt Le w ⟨w.d, w.met ++ [(row, endV f w row)], w.rows + 1, (f w.st (row.map fun x => -1 - x)).2⟩ := ⟨⟨[], by simp⟩, f2⟩
       have hneg : endV f w row < 0 := by unfold endV; omega
       have hM : Means L M ps (⟨w.d, w.met ++ [(row, endV f w row)], w.rows + 1, (f w.st (row.map fun x => -1 - x)).2⟩ : Wv σ) row (endV f w row) := by
        refine ⟨by show endV f w row < w.d.length; omega, fun b hb => ?_, fun _ => ?_, fun α hα es he => ⟨_, .leaf hneg, ?_⟩⟩
        · rw [brD_neg hneg] at hb; cases hb
        · show L _ (-1 - endV f w row)
          unfold endV
          rw [show -1 - (-1 - (f w.st (row.map fun x => -1 - x)).1) = (f w.st (row.map fun x => -1 - x)).1 by omega]
          exact f3
        · rw [l2 α es he]
          unfold endV
          rw [show -1 - (-1 - (f w.st (row.map fun x => -1 - x)).1) = (f w.st (row.map fun x => -1 - x)).1 by omega]
          exact f4
       refine ⟨⟨hS.d, f1, fun b hb j hj h0 => hF.upL _ _ _ (hS.ends b hb j hj h0) f2, fun p hp => ?_⟩, hx, hM⟩
       rcases List.mem_append.1 hp with hp | hp
       · exact (hS.met p hp).up hF hx
       · rw [List.mem_singleton] at hp
         subst hp
         exact hM
     obtain ⟨⟨v0, e0, w0⟩, q0⟩ : ∃ r, wayW ps f n w.inc (onW (ps.zip row) (qq (ps.zip row)) 0) = r := ⟨_, rfl⟩
     by_cases z0 : e0 = 0
     rotate_left
     · rw [way_e0 hm h1 h2 q0 z0] at h
       cases h
       exact absurd rfl z0
     subst z0
     have hS0 : WSem I L M ps w.inc := ⟨hS.d, hS.st, hS.ends, fun p hp => let h := hS.met p hp; ⟨h.lt, h.low, h.leaf, h.ev⟩⟩
     obtain ⟨i0, x0, m0⟩ := way_sem hF n w.inc _ _ _ (hV.on (qq (ps.zip row)) (show 0 < 3 by omega)) hS0 q0
     obtain ⟨⟨v1, e1, w1⟩, q1⟩ : ∃ r, wayW ps f n w0 (onW (ps.zip row) (qq (ps.zip row)) 1) = r := ⟨_, rfl⟩
     by_cases z1 : e1 = 0
     rotate_left
     · rw [way_e1 hm h1 h2 q0 q1 z1] at h
       cases h
       exact absurd rfl z1
     subst z1
     obtain ⟨i1, x1, m1⟩ := way_sem hF n w0 _ _ _ (hV.on (qq (ps.zip row)) (show 1 < 3 by omega)) i0 q1
     obtain ⟨⟨v2, e2, w2⟩, q2⟩ : ∃ r, wayW ps f n w1 (onW (ps.zip row) (qq (ps.zip row)) 2) = r := ⟨_, rfl⟩
     by_cases z2 : e2 = 0
     rotate_left
     · rw [way_e2 hm h1 h2 q0 q1 q2 z2] at h
       cases h
       exact absurd rfl z2
     subst z2
     obtain ⟨i2, x2, m2⟩ := way_sem hF n w1 _ _ _ (hV.on (qq (ps.zip row)) (show 2 < 3 by omega)) i1 q2
     rw [way_ok hm h1 h2 q0 q1 q2] at h
     obtain ⟨⟨mv, me, md⟩, hk⟩ : ∃ r, zU 2000 w2.d ⟨qq (ps.zip row), v0, v1, v2⟩ = r := ⟨_, rfl⟩
     rw [hk] at h
     simp only [Prod.mk.injEq] at h
     obtain ⟨rfl, rfl, rfl⟩ := h
     have K := make_sem hk
     have hd := wfB_make (m := 2000) (x := ⟨qq (ps.zip row), v0, v1, v2⟩) i2.d
     rw [hk] at hd
     have n0 := (m0.up hF x1).up hF x2
     have n1 := m1.up hF x2
     have hx : WExt Le w2 ⟨md, w2.met ++ [(row, mv)], w2.rows, w2.st⟩ := ⟨K.ext, hF.refl _⟩
     have hx' : WExt Le w ⟨md, w2.met ++ [(row, mv)], w2.rows, w2.st⟩ := (WExt.trans hF (WExt.trans hF (show WExt Le w w0 from ⟨x0.d, x0.st⟩) x1) (WExt.trans hF x2 hx))
     have hto : ∀ j, j < 3 → Means L M ps w2 (onW (ps.zip row) (qq (ps.zip row)) j) ((⟨qq (ps.zip row), v0, v1, v2⟩ : Br).to j) := fun j hj => by
      match j, hj with
      | 0, _ => exact n0
      | 1, _ => exact n1
      | 2, _ => exact m2
     have hends : ∀ b ∈ md, ∀ j, j < 3 → b.to j < 0 → L w2.st (-1 - b.to j) := fun b hb j hj h0 => by
      rcases K.mem b hb with hb | rfl
      · exact i2.ends b hb j hj h0
      · exact (hto j hj).leaf h0
     have hM : Means L M ps (⟨md, w2.met ++ [(row, mv)], w2.rows, w2.st⟩ : Wv σ) row mv := by
      refine ⟨K.lt, K.low, fun h0 => ?_, fun α hα es he => ?_⟩
      · have h0' : mv < 0 := h0
        have h9 := K.neg h0'
        show L w2.st (-1 - mv)
        rw [h9] at h0' ⊢
        exact (hto 0 (by omega)).leaf h0'
      · obtain ⟨e, h3, h4⟩ := (hto _ (hα (qq (ps.zip row)))).ev α hα es (he.on rfl)
        exact ⟨e, K.ev α e hα h3, h4⟩
     refine ⟨⟨hd, i2.st, hends, fun p hp => ?_⟩, hx', hM⟩
     rcases List.mem_append.1 hp with hp | hp
     · exact (i2.met p hp).up hF hx
     · rw [List.mem_singleton] at hp
       subst hp
       exact hM
end
set_option maxHeartbeats 4000000
theorem act_call_WS {P : Program} {st : St} {o : Oper} {cl : Call} {fo : Operand} {f : FuncId} {sf : SV} {caps caps' : List SV} (ρ : List (Nat × Nat)) {args : List SV} {own : List (Nat × Box)} {r : SV} {own' : List (Nat × Box)} (ho : o.op = .call cl) (hcl : cl.callee = .value fo) (hfo : evS st fo = some sf) (hcf : fnOf sf = some (f, caps)) (hcaps : mapRs ρ caps = some caps')
 (hown : ownR ρ st.own ρ = some own) (hρ : ((dist (ρ.map (·.1)) && dist (ρ.map (·.2))) && ρ.all (fun p => Nat.ble 1000000 p.2)) = true) (hargs : argWs st ρ cl.args.toList = some args)
 (H : qJ P f (args ++ caps') own r own') (hd : zl st o.dst = true) {st' : St} (hb : st.back ρ o.dst r own' = some st') (hk : backOk st ρ o.dst own' = true) {Q : St → Prop} (h : Q st') : ActOk P (ρ.map (·.1)) o st Q :=
 act_call_RS ρ ho hcl hfo hcf hcaps hown hρ hargs H hd fun r' o' ⟨hr, ho'⟩ => by subst hr; subst ho'; exact ⟨st', hb, hk, h⟩
def wvB (F : FuncId) (R : List PV) (at_ : List Atm) (ps : List Pt) (rd re : Nat) (d : List Br) (met : List (List Int × Int)) (rows : Int) (E : List Rs) : List (Nat × Box) :=
 [(1000000, .cells [.p (ptsP ps), .fn F [.ptr 1000004 0, .p (.rp R)], .ptr 1000001 0, .row 1000003, .p (pI rows)]), (1000001, .cells [.p (pI 2000), .row rd]), (rd, .row 68 4 (d.map Br.pv)), (1000003, .mp (ents17 met)), (1000004, .cells [.ptr 1000005 0]), (1000005, .cells [.p (.v (.pointer none)), .p (pI 0), .p (atmsP at_), .row re]), (re, .row 37 2 (E.map rsP))]
def capO (at_ : List Atm) (k : Nat) (re : Nat) (E : List Rs) : List (Nat × Box) := [(k, .cells [.ptr (k + 1) 0]), (k + 1, .cells [.p (.v (.pointer none)), .p (pI 0), .p (atmsP at_), .row re]), (re, .row 37 2 (E.map rsP))]
structure FlB (F : FuncId) (R : List PV) (at_ : List Atm) (Gs : List (Int → Prop)) (f : List Rs → List Int → Int × List Rs) (I : List Rs → Prop) : Prop where
 call : ∀ (E : List Rs) (l : List Int), I E → LV Gs l → E.length ≤ 90000000 → l.length ≤ 1000 → qJ Tryz.prog F [.row 1000000, .ptr 1000001 0, .p (.rp R)] ((1000000, .row 3 1 (l.map fun i => [pI i])) :: capO at_ 1000001 1000003 E) (.p (pI (f E l).1)) (capO at_ 1000001 0 (f E l).2)
 keep : ∀ (E : List Rs) (l : List Int), I E → LV Gs l → I (f E l).2 ∧ (f E l).2.length ≤ E.length + 1 ∧ 0 ≤ (f E l).1 ∧ (f E l).1 ≤ E.length
section
variable {F : FuncId} {R : List PV} {at_ : List Atm} {f : List Rs → List Int → Int × List Rs}
theorem watomB_h (ps : List Pt) (d : List Br) (met : List (List Int × Int)) (rows : Int) (E : List Rs) (row : List Int) (hp : PsOk ps row) : qJ Tryz.prog 97 [.ptr 1000000 0, .p (zJ row)] (wvB F R at_ ps 1000002 1000006 d met rows E) (.p (pI (qq (ps.zip row)))) (wvB F R at_ ps 1000002 1000006 d met rows E) := by
 have lp : (ps.map Pt.pv).length = ps.length := by simp
 have lr : (row.map fun i => [pI i]).length = row.length := by simp
 have hlen := hp.len
 have hfew := hp.few
 refine qD (ts := [4]) Tryz.func97 (by kernel_rfl) rfl rfl rfl ?_
 refine uA ?_
 refine uA ?_
 refine uA ?_
 refine uB ?_
 refine uZ [0, 1, 5, 10, 11, 12] [(1000000, 1000000), (1000001, 1000001), (1000002, 1000002), (1000003, 1000003), (1000004, 1000004), (1000005, 1000005), (1000006, 1000006)] ?_
 refine qw (fun m s => ∃ (k : Nat) (kk : Int) (a : Int), k ≤ row.length ∧ m = row.length - k ∧ kk = k ∧ a = qq ((ps.zip row).take k) ∧ s = ⟨37, [(0, .ptr 1000000 0), (1, .p (zJ row)), (5, .p (pI a)), (10, .p (zJ row)), (11, .p (pI (row.map fun i => [pI i]).length)), (12, .p (pI kk))], wvB F R at_ ps 1000002 1000006 d met rows E⟩) row.length ⟨0, 0, 64, Nat.zero_le _, rfl, rfl, rfl, rfl⟩ ?_
 rintro m s ⟨k, _, a, hk, rfl, rfl, ha, rfl⟩
 refine uA ?_
 refine uC (fun hlt => ?_) (fun hlt => ?_)
 · refine qd ?_
   rw [lr] at hlt
   simp only [decide_eq_true_eq] at hlt
   have hlt' : k < row.length := by omega
   have hltp : k < ps.length := by omega
   have hzl : k < (ps.zip row).length := by rw [List.length_zip]; omega
   have hB := jI ps[k].m ps[k].l (hp.dag _ (List.getElem_mem hltp)) row[k]
   have hS := zQ (fun a (p : Pt × Int) => match brD p.1.l p.2 with
    | some b => min a b.atom
    | none => a) 64 (ps.zip row) k hzl
   change qq ((ps.zip row).take (k + 1)) = (match brD ((ps.zip row)[k]).1.l ((ps.zip row)[k]).2 with
    | some b => min (qq ((ps.zip row).take k)) b.atom
    | none => qq ((ps.zip row).take k)) at hS
   rw [← ha, zip_at hltp hlt'] at hS
   obtain ⟨p, hpe⟩ : ∃ p, p = ps[k] := ⟨_, rfl⟩
   obtain ⟨w, hwe⟩ : ∃ w, w = row[k] := ⟨_, rfl⟩
   rw [← hpe, ← hwe] at hB hS
   obtain ⟨pm, pl, pr⟩ := p
   simp only at hB hS
   refine uB ?_
   refine uR ?_
   refine qe qa rfl rfl (by rw [lr]; omega) rfl ?_
   rw [qm hlt', ← hwe]
   refine uS ?_
   refine qb ?_
   refine uR ?_
   refine qe qa rfl rfl (by rw [lp]; omega) rfl ?_
   rw [qm hltp, ← hpe]
   refine uS ?_
   refine uK hB ?_
   refine qb ?_
   refine uA ?_
   unfold brGet
   cases hb : brD pl w with
   | none =>
     rw [hb] at hS
     refine uC (fun h5 => ?_) (fun h5 => ?_)
     · cases h5
     refine qd ?_
     refine uA ?_
     refine ⟨_, _, ?_, qh [0, 1, 5, 10, 11, 12] [(1000000, 1000000), (1000001, 1000001), (1000002, 1000002), (1000003, 1000003), (1000004, 1000004), (1000005, 1000005), (1000006, 1000006)] rfl rfl, k + 1, _, _, hlt', rfl, qf hlt' (by omega), hS.symm, rfl⟩
     omega
   | some b =>
     rw [hb] at hS
     refine uC (fun h5 => ?_) (fun h5 => ?_)
     · have hM2 : (if b.atom < a then b.atom else a) = min a b.atom := by split <;> omega
       refine uA ?_
       refine uA ?_
       refine ⟨_, _, ?_, qh [0, 1, 5, 10, 11, 12] [(1000000, 1000000), (1000001, 1000001), (1000002, 1000002), (1000003, 1000003), (1000004, 1000004), (1000005, 1000005), (1000006, 1000006)] rfl rfl, k + 1, _, (if b.atom < a then b.atom else a), hlt', rfl, qf hlt' (by omega), by rw [hS, hM2], rfl⟩
       omega
     · cases h5
 · refine qt ?_
   rw [lr] at hlt
   simp only [decide_eq_false_iff_not] at hlt
   have hkk : k = row.length := by omega
   subst hkk
   rw [List.take_of_length_le (by rw [List.length_zip]; omega)] at ha
   rw [← ha]
   refine uA ?_
   refine uQ ?_
   exact uF [(1000000, 1000000), (1000001, 1000001), (1000002, 1000002), (1000003, 1000003), (1000004, 1000004), (1000005, 1000005), (1000006, 1000006)]
theorem wonB_h (ps : List Pt) (d : List Br) (met : List (List Int × Int)) (rows : Int) (E : List Rs) (row : List Int) (hp : PsOk ps row) (a : Int) (j : Nat) (hj : j < 3) : qJ Tryz.prog 99 [.ptr 1000000 0, .p (zJ row), .p (pI a), .p (pI (j : Int))] (wvB F R at_ ps 1000002 1000006 d met rows E) (.p (zJ (onW (ps.zip row) a j))) (wvB F R at_ ps 1000002 1000006 d met rows E) := by
 have lp : (ps.map Pt.pv).length = ps.length := by simp
 have lr : (row.map fun i => [pI i]).length = row.length := by simp
 have hlen := hp.len
 have hfew := hp.few
 have hx2 : (ps.zip row).map (·.2) = row := by rw [List.map_snd_zip (by omega)]
 refine qD (ts := [8]) Tryz.func99 (by kernel_rfl) rfl rfl rfl ?_
 refine uA ?_
 refine uR ?_
 refine uO (cloneI_h row (by omega)) ?_
 refine qb ?_
 refine uA ?_
 refine uB ?_
 refine uZ [0, 1, 2, 3, 9, 16, 17, 18] ([(1000000, 1000000), (1000001, 1000001), (1000002, 1000002), (1000003, 1000003), (1000004, 1000004), (1000005, 1000005), (1000006, 1000006)] ++ [(15000 + 1000, 0)]) ?_
 refine qw (fun m s => ∃ (k : Nat) (kk : Int) (L : List (List PV)), k ≤ row.length ∧ m = row.length - k ∧ kk = k ∧ L = (outK (ps.zip row) a j k).map (fun i => [pI i]) ∧ s = ⟨52, [(0, .ptr 1000000 0), (1, .p (zJ row)), (2, .p (pI a)), (3, .p (pI j)), (9, .row 0), (16, .p (zJ row)), (17, .p (pI (row.map fun i => [pI i]).length)), (18, .p (pI kk))], wvB F R at_ ps 1000002 1000006 d met rows E ++ [(0, .row 3 1 L)]⟩) row.length ⟨0, 0, _, Nat.zero_le _, rfl, rfl, by unfold outK; rw [List.take_zero, List.drop_zero, hx2]; rfl, rfl⟩ ?_
 rintro m s ⟨k, _, L, hk, rfl, rfl, hL, rfl⟩
 have hLl : L.length = (outK (ps.zip row) a j k).length := by rw [hL, List.length_map]
 refine uA ?_
 refine uC (fun hlt => ?_) (fun hlt => ?_)
 · refine qd ?_
   rw [lr] at hlt
   simp only [decide_eq_true_eq] at hlt
   have hlt' : k < row.length := by omega
   have hltp : k < ps.length := by omega
   have hzl : k < (ps.zip row).length := by rw [List.length_zip]; omega
   have hB := jI ps[k].m ps[k].l (hp.dag _ (List.getElem_mem hltp)) row[k]
   have hsv : onB (ps.zip row)[k] a j = (ps.zip row)[k].2 → (outK (ps.zip row) a j (k + 1)) = outK (ps.zip row) a j k := outK_stay hzl
   rw [zip_at hltp hlt'] at hsv
   obtain ⟨p, hpe⟩ : ∃ p, p = ps[k] := ⟨_, rfl⟩
   obtain ⟨w, hwe⟩ : ∃ w, w = row[k] := ⟨_, rfl⟩
   rw [← hpe, ← hwe] at hB hsv
   obtain ⟨pm, pl, pr⟩ := p
   simp only at hB hsv
   refine uB ?_
   refine uR ?_
   refine qe qa rfl rfl (by rw [lr]; omega) rfl ?_
   rw [qm hlt', ← hwe]
   refine uS ?_
   refine qb ?_
   refine uR ?_
   refine qe qa rfl rfl (by rw [lp]; omega) rfl ?_
   rw [qm hltp, ← hpe]
   refine uS ?_
   refine uK hB ?_
   refine qb ?_
   unfold brGet
   cases hb : brD pl w with
   | none =>
     refine uA ?_
     refine uC (fun h5 => ?_) (fun h5 => ?_)
     · cases h5
     refine qd ?_
     refine uA ?_
     refine ⟨_, _, ?_, qh [0, 1, 2, 3, 9, 16, 17, 18] ([(1000000, 1000000), (1000001, 1000001), (1000002, 1000002), (1000003, 1000003), (1000004, 1000004), (1000005, 1000005), (1000006, 1000006)] ++ [(0, 0)]) rfl rfl, k + 1, _, _, hlt', rfl, qf hlt' (by omega), ?_, rfl⟩
     · omega
     · rw [hsv (by unfold onB; simp only [hb])]; exact hL
   | some b =>
     refine uR ?_
     by_cases hat : b.atom = a
     · rw [show (((some b).getD zeroBr).atom == a) = true by simpa using hat]
       refine uS ?_
       refine qb ?_
       refine uC (fun h5 => ?_) (fun h5 => ?_)
       · match j, hj, L, hL, hLl, hsv with
         | 0, _, L, hL, hLl, hsv =>
           refine uR ?_
           refine qe qa rfl rfl (by decide) rfl ?_
           refine uS ?_
           refine qe qa rfl rfl (by rw [hLl, zb]; omega) rfl ?_
           refine uS ?_
           refine qy rfl (zi qa rfl rfl rfl rfl rfl (by rw [hLl, zb, Int.toNat_natCast]; omega) rfl rfl rfl rfl rfl ?_)
           refine uS ?_
           refine qb ?_
           refine uA ?_
           refine ⟨_, _, ?_, qh [0, 1, 2, 3, 9, 16, 17, 18] ([(1000000, 1000000), (1000001, 1000001), (1000002, 1000002), (1000003, 1000003), (1000004, 1000004), (1000005, 1000005), (1000006, 1000006)] ++ [(0, 0)]) rfl rfl, k + 1, _, _, hlt', rfl, qf hlt' (by omega), ?_, rfl⟩
           · omega
           · rw [hL, Int.toNat_natCast, rowI_set _ _ (by rw [zb]; exact hzl), ← wv hzl, zip_at hltp hlt', ← hpe, ← hwe]
             have e9 : onB (⟨pm, pl, pr⟩, w) a 0 = b.to 0 := by unfold onB; simp only [hb, hat, if_true]
             rw [e9]
             rfl
         | 1, _, L, hL, hLl, hsv =>
           refine uR ?_
           refine qe qa rfl rfl (by decide) rfl ?_
           refine uS ?_
           refine qe qa rfl rfl (by rw [hLl, zb]; omega) rfl ?_
           refine uS ?_
           refine qy rfl (zi qa rfl rfl rfl rfl rfl (by rw [hLl, zb, Int.toNat_natCast]; omega) rfl rfl rfl rfl rfl ?_)
           refine uS ?_
           refine qb ?_
           refine uA ?_
           refine ⟨_, _, ?_, qh [0, 1, 2, 3, 9, 16, 17, 18] ([(1000000, 1000000), (1000001, 1000001), (1000002, 1000002), (1000003, 1000003), (1000004, 1000004), (1000005, 1000005), (1000006, 1000006)] ++ [(0, 0)]) rfl rfl, k + 1, _, _, hlt', rfl, qf hlt' (by omega), ?_, rfl⟩
           · omega
           · rw [hL, Int.toNat_natCast, rowI_set _ _ (by rw [zb]; exact hzl), ← wv hzl, zip_at hltp hlt', ← hpe, ← hwe]
             have e9 : onB (⟨pm, pl, pr⟩, w) a 1 = b.to 1 := by unfold onB; simp only [hb, hat, if_true]
             rw [e9]
             rfl
         | 2, _, L, hL, hLl, hsv =>
           refine uR ?_
           refine qe qa rfl rfl (by decide) rfl ?_
           refine uS ?_
           refine qe qa rfl rfl (by rw [hLl, zb]; omega) rfl ?_
           refine uS ?_
           refine qy rfl (zi qa rfl rfl rfl rfl rfl (by rw [hLl, zb, Int.toNat_natCast]; omega) rfl rfl rfl rfl rfl ?_)
           refine uS ?_
           refine qb ?_
           refine uA ?_
           refine ⟨_, _, ?_, qh [0, 1, 2, 3, 9, 16, 17, 18] ([(1000000, 1000000), (1000001, 1000001), (1000002, 1000002), (1000003, 1000003), (1000004, 1000004), (1000005, 1000005), (1000006, 1000006)] ++ [(0, 0)]) rfl rfl, k + 1, _, _, hlt', rfl, qf hlt' (by omega), ?_, rfl⟩
           · omega
           · rw [hL, Int.toNat_natCast, rowI_set _ _ (by rw [zb]; exact hzl), ← wv hzl, zip_at hltp hlt', ← hpe, ← hwe]
             have e9 : onB (⟨pm, pl, pr⟩, w) a 2 = b.to 2 := by unfold onB; simp only [hb, hat, if_true]
             rw [e9]
             rfl
       · cases h5
     · rw [show (((some b).getD zeroBr).atom == a) = false by simpa using hat]
       refine uS ?_
       refine qb ?_
       refine uC (fun h5 => ?_) (fun h5 => ?_)
       · cases h5
       refine qd ?_
       refine uA ?_
       refine ⟨_, _, ?_, qh [0, 1, 2, 3, 9, 16, 17, 18] ([(1000000, 1000000), (1000001, 1000001), (1000002, 1000002), (1000003, 1000003), (1000004, 1000004), (1000005, 1000005), (1000006, 1000006)] ++ [(0, 0)]) rfl rfl, k + 1, _, _, hlt', rfl, qf hlt' (by omega), ?_, rfl⟩
       · omega
       · rw [hsv (by unfold onB; simp only [hb, if_neg hat])]; exact hL
 · refine qt ?_
   rw [lr] at hlt
   simp only [decide_eq_false_iff_not] at hlt
   have hkk : k = row.length := by omega
   subst hkk
   have e : outK (ps.zip row) a j row.length = onW (ps.zip row) a j := by
    unfold outK onW
    have hz : (ps.zip row).length = row.length := by rw [List.length_zip]; omega
    rw [← hz, List.take_length, List.drop_length]; simp
   rw [e] at hL
   subst hL
   refine uA ?_
   refine SW.wk (zg (k := 0) rfl) ?_
   refine uQ ?_
   exact uF [(1000000, 1000000), (1000001, 1000001), (1000002, 1000002), (1000003, 1000003), (1000004, 1000004), (1000005, 1000005), (1000006, 1000006)]
theorem wendB_h {Gs : List (Int → Prop)} {I : List Rs → Prop} (hF : FlB F R at_ Gs f I) (ps : List Pt) (d : List Br) (met : List (List Int × Int)) (rows : Int) (E : List Rs) (hI : I E) (hE : E.length ≤ 90000000) (row : List Int) (hL : LV Gs (row.map fun x => -1 - x)) (hp : PsOk ps row) : qJ Tryz.prog 98 [.ptr 1000000 0, .p (zJ row)] (wvB F R at_ ps 1000002 1000006 d met rows E) (.p (pI (-1 - (f E (row.map fun x => -1 - x)).1))) (wvB F R at_ ps 1000002 0 d met rows (f E (row.map fun x => -1 - x)).2) := by
 have lr : (row.map fun i => [pI i]).length = row.length := by simp
 have hfew : row.length ≤ 1000 := by have := hp.few; have := hp.len; omega
 refine qD (ts := [4]) Tryz.func98 (by kernel_rfl) rfl rfl rfl ?_
 refine uA ?_
 refine uA ?_
 refine uA ?_
 refine uB ?_
 refine SW.wk (zp 5 900 3 1 rfl rfl) ?_
 refine uZ [0, 5, 8, 9, 10] ([(1000000, 1000000), (1000001, 1000001), (1000002, 1000002), (1000003, 1000003), (1000004, 1000004), (1000005, 1000005), (1000006, 1000006)] ++ [(900, 0)]) ?_
 refine qw (fun m s => ∃ (k : Nat) (kk : Int), k ≤ row.length ∧ m = row.length - k ∧ kk = k ∧ s = ⟨27, [(0, .ptr 1000000 0), (5, .row 0), (8, .p (zJ row)), (9, .p (pI (row.map fun i => [pI i]).length)), (10, .p (pI kk))], wvB F R at_ ps 1000002 1000006 d met rows E ++ [(0, .row 3 1 (((row.take k).map fun x => -1 - x).map fun i => [pI i]))]⟩) row.length ⟨0, 0, Nat.zero_le _, rfl, rfl, rfl⟩ ?_
 rintro m s ⟨k, _, hk, rfl, rfl, rfl⟩
 refine uA ?_
 refine uC (fun hlt => ?_) (fun hlt => ?_)
 · refine qd ?_
   rw [lr] at hlt
   simp only [decide_eq_true_eq] at hlt
   have hlt' : k < row.length := by omega
   have hw := hp.ways _ (List.getElem_mem hlt')
   obtain ⟨w, hwe⟩ : ∃ w, w = row[k] := ⟨_, rfl⟩
   rw [← hwe] at hw
   have e9 : ((row.take (k + 1)).map fun x => -1 - x).map (fun i => [pI i]) = ((row.take k).map fun x => -1 - x).map (fun i => [pI i]) ++ [[pI (-1 - w)]] := by
    rw [List.take_succ_eq_append_getElem hlt', ← hwe, List.map_append, List.map_append]; rfl
   refine uB ?_
   refine uR ?_
   refine qe qa rfl rfl (by rw [lr]; omega) rfl ?_
   rw [qm hlt', ← hwe]
   refine uS ?_
   refine qb ?_
   refine uR ?_
   rw [show IntKind.i64.wrap (-1 - w) = -1 - w from IntWalk.i64_in _ (by omega)]
   refine uS ?_
   refine qy rfl (qg qa rfl rfl rfl rfl rfl rfl rfl rfl rfl rfl rfl rfl rfl rfl rfl rfl (by simp only [List.length_append, List.length_map, List.length_take, List.length_cons, List.length_nil]; unfold reachBytes; omega) (by simp only [List.length_append, List.length_map, List.length_take, List.length_cons, List.length_nil]; omega) ?_)
   refine uS ?_
   refine qb ?_
   refine uA ?_
   refine ⟨_, _, ?_, qh [0, 5, 8, 9, 10] ([(1000000, 1000000), (1000001, 1000001), (1000002, 1000002), (1000003, 1000003), (1000004, 1000004), (1000005, 1000005), (1000006, 1000006)] ++ [(18, 0)]) rfl rfl, k + 1, _, hlt', rfl, qf hlt' (by omega), ?_⟩
   · omega
   · rw [e9]; rfl
 · refine qt ?_
   rw [lr] at hlt
   simp only [decide_eq_false_iff_not] at hlt
   have hkk : k = row.length := by omega
   subst hkk
   rw [List.take_length]
   have HC := hF.call E (row.map fun x => -1 - x) hI hL hE (by simpa using hfew)
   have hb := hF.keep E _ hI hL
   generalize row.map (fun x => -1 - x) = l at *
   generalize f E l = q at *
   obtain ⟨qv, qE⟩ := q
   simp only at HC hb
   refine uR ?_
   refine qy rfl (act_call_WS [(0, 1000000), (1000004, 1000001), (1000005, 1000002), (1000006, 1000003)] rfl rfl rfl rfl rfl rfl rfl rfl HC rfl rfl rfl ?_)
   refine uS ?_
   rw [show IntKind.i64.wrap (-1 - qv) = -1 - qv from IntWalk.i64_in _ (by omega)]
   refine uS ?_
   refine qb ?_
   refine uQ ?_
   exact uF [(1000000, 1000000), (1000001, 1000001), (1000002, 1000002), (1000003, 1000003), (1000004, 1000004), (1000005, 1000005), (26000, 0)]
end
set_option maxHeartbeats 8000000
section
variable {F : FuncId} {R : List PV} {at_ : List Atm} {f : List Rs → List Int → Int × List Rs} {Gs : List (Int → Prop)} {I : List Rs → Prop} {ps : List Pt}
structure WI (I : List Rs → Prop) (w w' : Wv (List Rs)) : Prop where
 st : I w'.st
 len : (w'.st.length : Int) + w.rows ≤ w.st.length + w'.rows
theorem way_I (hf : ∀ E l, I E → LV Gs l → I (f E l).2 ∧ (f E l).2.length ≤ E.length + 1) : ∀ (n : Nat) (w : Wv (List Rs)) (row : List Int), RowV Gs ps row → I w.st → WI I w (wayW ps f n w row).2.2
 | 0, w, row, _, h => ⟨h, Int.le_refl _⟩
 | n + 1, w, row, hV, h => by
   have hw := hV.wf
   cases hm : metF w.met row with
   | some v => rw [wG hm]; exact ⟨h, Int.le_refl _⟩
   | none =>
     by_cases h1 : 6000 < w.rows + 1
     · rw [wy hm h1]; exact ⟨h, by show (w.st.length : Int) + w.rows ≤ w.st.length + (w.rows + 1); omega⟩
     by_cases h2 : qq (ps.zip row) = 64
     · rw [qaJ hm h1 h2]
       obtain ⟨l1, _⟩ := row_leaf hV (row_no hw h2)
       obtain ⟨k1, k2⟩ := hf _ _ h l1
       exact ⟨k1, by show (((f w.st (row.map fun x => -1 - x)).2.length : Nat) : Int) + w.rows ≤ w.st.length + (w.rows + 1); omega⟩
     obtain ⟨⟨v0, e0, w0⟩, q0⟩ : ∃ r, wayW ps f n w.inc (onW (ps.zip row) (qq (ps.zip row)) 0) = r := ⟨_, rfl⟩
     have i0 := way_I hf n w.inc _ (hV.on (qq (ps.zip row)) (show 0 < 3 by omega)) h
     rw [q0] at i0
     have g0 : (w0.st.length : Int) + (w.rows + 1) ≤ w.st.length + w0.rows := i0.len
     by_cases z0 : e0 = 0
     rotate_left
     · rw [way_e0 hm h1 h2 q0 z0]; exact ⟨i0.st, by show (w0.st.length : Int) + w.rows ≤ w.st.length + w0.rows; omega⟩
     subst z0
     obtain ⟨⟨v1, e1, w1⟩, q1⟩ : ∃ r, wayW ps f n w0 (onW (ps.zip row) (qq (ps.zip row)) 1) = r := ⟨_, rfl⟩
     have i1 := way_I hf n w0 _ (hV.on (qq (ps.zip row)) (show 1 < 3 by omega)) i0.st
     rw [q1] at i1
     have g1 : (w1.st.length : Int) + w0.rows ≤ w0.st.length + w1.rows := i1.len
     by_cases z1 : e1 = 0
     rotate_left
     · rw [way_e1 hm h1 h2 q0 q1 z1]; exact ⟨i1.st, by show (w1.st.length : Int) + w.rows ≤ w.st.length + w1.rows; omega⟩
     subst z1
     obtain ⟨⟨v2, e2, w2⟩, q2⟩ : ∃ r, wayW ps f n w1 (onW (ps.zip row) (qq (ps.zip row)) 2) = r := ⟨_, rfl⟩
     have i2 := way_I hf n w1 _ (hV.on (qq (ps.zip row)) (show 2 < 3 by omega)) i1.st
     rw [q2] at i2
     have g2 : (w2.st.length : Int) + w1.rows ≤ w1.st.length + w2.rows := i2.len
     by_cases z2 : e2 = 0
     rotate_left
     · rw [way_e2 hm h1 h2 q0 q1 q2 z2]; exact ⟨i2.st, by show (w2.st.length : Int) + w.rows ≤ w.st.length + w2.rows; omega⟩
     subst z2
     rw [way_ok hm h1 h2 q0 q1 q2]
     exact ⟨i2.st, by show (w2.st.length : Int) + w.rows ≤ w.st.length + w2.rows; omega⟩
def WayB (F : FuncId) (R : List PV) (at_ : List Atm) (f : List Rs → List Int → Int × List Rs) (Gs : List (Int → Prop)) (I : List Rs → Prop) (ps : List Pt) (n : Nat) : Prop := ∀ (w : Wv (List Rs)) (row : List Int), PsOk ps row → RowV Gs ps row → 64 - qq (ps.zip row) < n → w.d.length ≤ 2000 → 0 ≤ w.rows → w.rows ≤ 6000 → I w.st → w.st.length ≤ 80000000 + w.rows →
 qJ Tryz.prog 67 [.ptr 1000000 0, .p (zJ row)] (wvB F R at_ ps 1000002 1000006 w.d w.met w.rows w.st) (.tup [.p (pI (wayW ps f n w row).1), .p (pI (wayW ps f n w row).2.1)])
  (wvB F R at_ ps 0 1 (wayW ps f n w row).2.2.d (wayW ps f n w row).2.2.met (wayW ps f n w row).2.2.rows (wayW ps f n w row).2.2.st)
def TurnB (ps : List Pt) (f : List Rs → List Int → Int × List Rs) (n : Nat) (w : Wv (List Rs)) (row : List Int) : Nat → Int → Int → Int → Wv (List Rs) → Prop
 | 0, b0, b1, b2, w' => b0 = 0 ∧ b1 = 0 ∧ b2 = 0 ∧ w' = w.inc
 | 1, b0, b1, b2, w' => wayW ps f n w.inc (onW (ps.zip row) (qq (ps.zip row)) 0) = (b0, 0, w') ∧ b1 = 0 ∧ b2 = 0
 | 2, b0, b1, b2, w' => ∃ w0, wayW ps f n w.inc (onW (ps.zip row) (qq (ps.zip row)) 0) = (b0, 0, w0) ∧ wayW ps f n w0 (onW (ps.zip row) (qq (ps.zip row)) 1) = (b1, 0, w') ∧ b2 = 0
 | _, b0, b1, b2, w' => ∃ w0 w1, wayW ps f n w.inc (onW (ps.zip row) (qq (ps.zip row)) 0) = (b0, 0, w0) ∧ wayW ps f n w0 (onW (ps.zip row) (qq (ps.zip row)) 1) = (b1, 0, w1) ∧ wayW ps f n w1 (onW (ps.zip row) (qq (ps.zip row)) 2) = (b2, 0, w')
theorem wayB_step (hF : FlB F R at_ Gs f I) (n : Nat) (IH : WayB F R at_ f Gs I ps n) : WayB F R at_ f Gs I ps (n + 1) := by
 rintro ⟨d, met, rows, E⟩ row hp hV hn hd hr0 hr hI hEl
 have hw := hV.wf
 have hkeep := fun E l h1 h2 => (⟨(hF.keep E l h1 h2).1, (hF.keep E l h1 h2).2.1⟩ : I (f E l).2 ∧ (f E l).2.length ≤ E.length + 1)
 have HK := ckey_h row (by have := hp.few; have := hp.len; omega) (fun x hx => by have := hp.ways x hx; exact ⟨by omega, by omega⟩)
 have HA := watomB_h (F := F) (R := R) (at_ := at_) ps d met (rows + 1) E row hp
 simp only at hd hr0 hr hI hEl
 refine qD (ts := [4,5]) Tryz.func67 (by kernel_rfl) rfl rfl rfl ?_
 refine uA ?_
 refine uR ?_
 refine uK HK ?_
 refine qb ?_
 refine uR ?_
 refine qe qa rfl rfl (zW met) rfl ?_
 rw [jB]
 cases hm : metF met row with
 | some v =>
   rw [wG (w := ⟨d, met, rows, E⟩) hm]
   refine uS ?_
   refine qb ?_
   refine uA ?_
   refine uC (fun h3 => ?_) (fun h3 => ?_)
   · refine uA ?_
     refine uQ ?_
     exact uF [(1000000, 1000000), (1000001, 1000001), (1000002, 0), (1000003, 1000003), (1000004, 1000004), (1000005, 1000005), (1000006, 1)]
   · cases h3
 | none =>
   refine uS ?_
   refine qb ?_
   refine uA ?_
   refine uC (fun h3 => ?_) (fun h3 => ?_)
   · cases h3
   refine qd ?_
   refine uR ?_
   rw [show IntKind.i64.wrap (rows + 1) = rows + 1 from IntWalk.i64_in _ (by omega)]
   refine uS ?_
   refine qb ?_
   refine uZ [0, 1, 6] [(1000000, 1000000), (1000001, 1000001), (1000002, 1000002), (1000003, 1000003), (1000004, 1000004), (1000005, 1000005), (1000006, 1000006)] ?_
   change SW _ _ _ ⟨100, [(0, .ptr 1000000 0), (1, .p (zJ row)), (6, .p (pS (keyB row)))], wvB F R at_ ps 1000002 1000006 d met (rows + 1) E⟩
   refine uA ?_
   by_cases h1 : 6000 < rows + 1
   · rw [wy (w := ⟨d, met, rows, E⟩) hm h1, show decide (rows + 1 > 6000) = true from decide_eq_true h1]
     refine uC (fun h4 => ?_) (fun h4 => ?_)
     · refine uA ?_
       refine uQ ?_
       exact uF [(1000000, 1000000), (1000001, 1000001), (1000002, 0), (1000003, 1000003), (1000004, 1000004), (1000005, 1000005), (1000006, 1)]
     · cases h4
   rw [show decide (rows + 1 > 6000) = false from decide_eq_false h1]
   refine uC (fun h4 => ?_) (fun h4 => ?_)
   · cases h4
   refine qd ?_
   refine uR ?_
   refine uW [(1000000, 1000000), (1000001, 1000001), (1000002, 1000002), (1000003, 1000003), (1000004, 1000004), (1000005, 1000005), (1000006, 1000006)] HA ?_
   refine qb ?_
   refine uA ?_
   by_cases h2 : qq (ps.zip row) = 64
   · rw [qaJ (w := ⟨d, met, rows, E⟩) hm h1 h2, show (qq (ps.zip row) == 64) = true by simpa using h2]
     refine uC (fun h5 => ?_) (fun h5 => ?_)
     · refine uZ [0, 1, 6] [(1000000, 1000000), (1000001, 1000001), (1000002, 1000002), (1000003, 1000003), (1000004, 1000004), (1000005, 1000005), (1000006, 1000006)] ?_
       change SW _ _ _ ⟨100, [(0, .ptr 1000000 0), (1, .p (zJ row)), (6, .p (pS (keyB row)))], wvB F R at_ ps 1000002 1000006 d met (rows + 1) E⟩
       have HE := wendB_h hF ps d met (rows + 1) E hI (by omega) row (row_leaf hV (row_no hw h2)).1 hp
       (repeat refine qH ?_); refine zC 9 rfl (by kernel_rfl) ?_
       refine qT (i := 0) (K := [1000000, 1000001, 1000002, 1000003, 1000004, 1000005, 1000006]) (by kernel_rfl) (by kernel_rfl) rfl rfl (qs qa rfl (by exact True.intro)) rfl ?_
       refine qT (i := 1) (K := [1000000, 1000001, 1000002, 1000003, 1000004, 1000005, 1000006]) (by kernel_rfl) (by kernel_rfl) rfl rfl (qs qa rfl (by exact True.intro)) rfl ?_
       refine qT (i := 2) (K := [1000000, 1000001, 1000002, 1000003, 1000004, 1000005, 1000006]) (by kernel_rfl) (by kernel_rfl) rfl rfl (qs qa rfl (by exact True.intro)) rfl ?_
       refine qT (i := 4) (K := [1000000, 1000001, 1000002, 1000003, 1000004, 1000005, 1000006]) (by kernel_rfl) (by kernel_rfl) rfl rfl (qs qa rfl (by exact True.intro)) rfl ?_
       refine qT (i := 5) (K := [1000000, 1000001, 1000002, 1000003, 1000004, 1000005, 1000006]) (by kernel_rfl) (by kernel_rfl) rfl rfl (qs qa rfl (by exact True.intro)) rfl ?_
       refine qT (i := 6) (K := [1000000, 1000001, 1000002, 1000003, 1000004, 1000005, 1000006]) (by kernel_rfl) (by kernel_rfl) rfl rfl (qs qa rfl (by exact True.intro)) rfl ?_
       refine swb_fork2 3 7 (by kernel_rfl) ?_ ?_
       first | refine qr rfl rfl rfl (aM (h := ?_)) | refine qr rfl rfl rfl (aB (h := ?_)) | refine qr rfl rfl rfl (aA (h := ?_)) | refine qr rfl rfl rfl (aS (h := ?_)) | refine qr rfl rfl rfl (aL (h := ?_)) | refine qr rfl rfl rfl (jl (K := []) (qs qa rfl (by exact True.intro)) rfl ?_)
       refine qQ 7 (by kernel_rfl) ?_
       refine qr rfl rfl rfl (qaj [(1000000, 1000000), (1000001, 1000001), (1000002, 1000002), (1000003, 1000003), (1000004, 1000004), (1000005, 1000005), (1000006, 1000006)] rfl rfl rfl rfl rfl rfl (HE) rfl rfl rfl ?_)
       refine qQ 8 (by kernel_rfl) ?_
       refine qr rfl rfl rfl (zh qa rfl rfl rfl rfl rfl rfl rfl rfl rfl (zW met) (by rw [jB, hm]; rfl) rfl ?_)
       refine wR (by kernel_rfl) ?_
       refine SW.wk (qh [0, 6] [(1000000, 1000000), (1000001, 1000001), (1000002, 1000002), (1000003, 1000003), (1000004, 1000004), (1000005, 1000005), (54000, 1)] rfl rfl) ?_
       refine ?fk10_128
       rotate_left
       refine qr rfl rfl rfl (qaj [(1000000, 1000000), (1000001, 1000001), (1000002, 1000002), (1000003, 1000003), (1000004, 1000004), (1000005, 1000005), (1000006, 1000006)] rfl rfl rfl rfl rfl rfl (HE) rfl rfl rfl ?_)
       refine qQ 3 (by kernel_rfl) ?_
       first | refine qr rfl rfl rfl (aM (h := ?_)) | refine qr rfl rfl rfl (aB (h := ?_)) | refine qr rfl rfl rfl (aA (h := ?_)) | refine qr rfl rfl rfl (aS (h := ?_)) | refine qr rfl rfl rfl (aL (h := ?_)) | refine qr rfl rfl rfl (jl (K := []) (qs qa rfl (by exact True.intro)) rfl ?_)
       refine qQ 8 (by kernel_rfl) ?_
       refine qr rfl rfl rfl (zh qa rfl rfl rfl rfl rfl rfl rfl rfl rfl (zW met) (by rw [jB, hm]; rfl) rfl ?_)
       refine wR (by kernel_rfl) ?_
       refine SW.wk (qh [0, 6] [(1000000, 1000000), (1000001, 1000001), (1000002, 1000002), (1000003, 1000003), (1000004, 1000004), (1000005, 1000005), (54000, 1)] rfl rfl) ?_
       exact ?fk10_128
       obtain ⟨v, hv⟩ : ∃ v, v = endV f ⟨d, met, rows, E⟩ row := ⟨_, rfl⟩
       obtain ⟨E2, hE2⟩ : ∃ E2, E2 = (f E (row.map fun x => -1 - x)).2 := ⟨_, rfl⟩
       change SW _ _ _ ⟨100, [(0, .ptr 1000000 0), (6, .p (pS (keyB row)))], [(1000000, .cells [.p (ptsP ps), .fn F [.ptr 1000004 0, .p (.rp R)], .ptr 1000001 0, .row 1000003, .p (pI (rows + 1))]), (1000001, .cells [.p (pI 2000), .row 1000002]), (1000002, .row 68 4 (d.map Br.pv)), (1000003, .mp (ents17 met ++ [(.string (keyB row), pI (endV f ⟨d, met, rows, E⟩ row))])), (1000004, .cells [.ptr 1000005 0]), (1000005, .cells [.p (.v (.pointer none)), .p (pI 0), .p (atmsP at_), .row 1]), (1, .row 37 2 ((f E (row.map fun x => -1 - x)).2.map rsP))]⟩
       rw [← hv, qap, ← hE2]
       refine uR ?_
       refine qy rfl (act_lookupF qa rfl rfl rfl rfl rfl rfl rfl rfl rfl (zW _) (by rw [jB, metF_snoc hm]; rfl) rfl ?_)
       refine uS ?_
       refine qb ?_
       refine uQ ?_
       exact uF [(1000000, 1000000), (1000001, 1000001), (1000002, 0), (1000003, 1000003), (1000004, 1000004), (1000005, 1000005), (1, 1)]
     · cases h5
   rw [show (qq (ps.zip row) == 64) = false by simpa using h2]
   refine uC (fun h5 => ?_) (fun h5 => ?_)
   · cases h5
   refine qd ?_
   obtain ⟨A, hA0⟩ : ∃ A, A = qq (ps.zip row) := ⟨_, rfl⟩
   rw [← hA0]
   have ha := atomW_le (ps.zip row)
   have hat := fun (j : Nat) (hj : j < 3) => atom_on hp.len hw (show qq (ps.zip row) < 64 by omega) hj
   have hps := fun (j : Nat) (hj : j < 3) => hp.on hw (qq (ps.zip row)) hj
   refine uA ?_
   refine uA ?_
   refine uB ?_
   refine uZ [0, 1, 6, 9, 10, 62] [(10, 10), (1000000, 1000000), (1000001, 1000001), (1000002, 0), (1000003, 1000003), (1000004, 1000004), (1000005, 1000005), (1000006, 1)] ?_
   refine qw (fun m s => ∃ (k : Nat) (kk b0 b1 b2 : Int) (w' : Wv (List Rs)), k ≤ 3 ∧ m = 3 - k ∧ kk = k ∧ TurnB ps f n ⟨d, met, rows, E⟩ row k b0 b1 b2 w' ∧ (w'.d.length ≤ 2000 ∧ 0 ≤ w'.rows ∧ w'.rows ≤ 6000 ∧ WI I ⟨d, met, rows, E⟩ w' ∧ ∀ p ∈ w'.met, p ∈ met ∨ qq (ps.zip row) < qq (ps.zip p.1)) ∧
    s = ⟨100, [(0, .ptr 1000000 0), (1, .p (zJ row)), (6, .p (pS (keyB row))), (9, .p (pI A)), (10, .ptr 10 0), (62, .p (pI kk))], (10, .cells [.p (pI A), .p (pI b0), .p (pI b1), .p (pI b2)]) :: wvB F R at_ ps 0 1 w'.d w'.met w'.rows w'.st⟩) 3
    ⟨0, 0, 0, 0, 0, Wv.inc ⟨d, met, rows, E⟩, by omega, rfl, rfl, ⟨rfl, rfl, rfl, rfl⟩, ⟨hd, by show 0 ≤ rows + 1; omega, by show rows + 1 ≤ 6000; omega, ⟨hI, by show (E.length : Int) + rows ≤ E.length + (rows + 1); omega⟩, fun p hp => .inl hp⟩, rfl⟩ ?_
   rintro m s ⟨k, _, b0, b1, b2, w', hk, rfl, rfl, hT, ⟨g1, g2, g3, g5, g4⟩, rfl⟩
   match k, hk, hT with
   | 0, _, hT =>
     obtain ⟨rfl, rfl, rfl, rfl⟩ := hT
     have hrs : (Wv.inc ⟨d, met, rows, E⟩).st.length ≤ 80000000 + (Wv.inc ⟨d, met, rows, E⟩).rows := by have h9 : ((Wv.inc ⟨d, met, rows, E⟩).st.length : Int) + rows ≤ E.length + (Wv.inc ⟨d, met, rows, E⟩).rows := g5.len; omega
     have HO := wonB_h (F := F) (R := R) (at_ := at_) ps (Wv.inc ⟨d, met, rows, E⟩).d (Wv.inc ⟨d, met, rows, E⟩).met (Wv.inc ⟨d, met, rows, E⟩).rows (Wv.inc ⟨d, met, rows, E⟩).st row hp (qq (ps.zip row)) 0 (by omega)
     have HC := IH (Wv.inc ⟨d, met, rows, E⟩) (onW (ps.zip row) (qq (ps.zip row)) 0) (hps 0 (by omega)) (hV.on _ (by omega)) (by have := hat 0 (by omega); omega) g1 g2 g3 g5.st hrs
     have hwi := way_I hkeep n (Wv.inc ⟨d, met, rows, E⟩) _ (hV.on (qq (ps.zip row)) (show 0 < 3 by omega)) g5.st
     have hi := wV hw (f := f) n (Wv.inc ⟨d, met, rows, E⟩) _ (hps 0 (by omega)) (by have := hat 0 (by omega); omega) g1 g3
     obtain ⟨⟨v, e, w2⟩, q⟩ : ∃ r, wayW ps f n (Wv.inc ⟨d, met, rows, E⟩) (onW (ps.zip row) (qq (ps.zip row)) 0) = r := ⟨_, rfl⟩
     rw [q] at HC hi hwi
     have hW2 : WI I ⟨d, met, rows, E⟩ w2 := ⟨hwi.st, by have h8 := g5.len; have h9 := hwi.len; simp only at h8 h9 ⊢; omega⟩
     rw [← hA0] at HO HC
     have hlo := hi.lo
     have hmt : ∀ p ∈ w2.met, p ∈ met ∨ qq (ps.zip row) < qq (ps.zip p.1) := fun p hp => (hi.met p hp).elim (g4 p) fun h => .inr (by have := hat 0 (by omega); omega)
     simp only at HC hlo
     refine uA ?_
     refine uC (fun hlt => ?_) (fun hlt => ?_)
     rotate_left
     · cases hlt
     refine qd ?_
     refine uB ?_
     refine uA ?_
     refine uR ?_
     refine uW [(1000000, 1000000), (1000001, 1000001), (0, 1000002), (1000003, 1000003), (1000004, 1000004), (1000005, 1000005), (1, 1000006)] HO ?_
     refine uW [(1000000, 1000000), (1000001, 1000001), (0, 1000002), (1000003, 1000003), (1000004, 1000004), (1000005, 1000005), (1, 1000006)] HC ?_
     refine qb ?_
     refine uA ?_
     by_cases he : e = 0
     rotate_left
     · rw [show (e != 0) = true by simpa using he]
       refine uC (fun h6 => ?_) (fun h6 => ?_)
       · rw [way_e0 (w := ⟨d, met, rows, E⟩) hm h1 h2 q he]
         refine uA ?_
         refine uQ ?_
         exact uF [(1000000, 1000000), (1000001, 1000001), (73000, 0), (1000003, 1000003), (1000004, 1000004), (1000005, 1000005), (73001, 1)]
       · cases h6
     subst he
     refine uC (fun h6 => ?_) (fun h6 => ?_)
     · cases h6
     refine qd ?_
     refine uR ?_
     refine qe qa rfl rfl (by decide) rfl ?_
     refine uS ?_
     refine qb ?_
     refine uA ?_
     refine ⟨_, _, ?_, qh [0, 1, 6, 9, 10, 62] [(10, 10), (1000000, 1000000), (1000001, 1000001), (73000, 0), (1000003, 1000003), (1000004, 1000004), (1000005, 1000005), (73001, 1)] rfl rfl, 0 + 1, _, v, 0, 0, w2, by omega, rfl, rfl, ⟨q, rfl, rfl⟩, ⟨hi.d, by omega, hi.ok rfl, hW2, hmt⟩, rfl⟩
     omega
   | 1, _, hT =>
     obtain ⟨q0, rfl, rfl⟩ := hT
     have hrs : w'.st.length ≤ 80000000 + w'.rows := by have h9 : (w'.st.length : Int) + rows ≤ E.length + w'.rows := g5.len; omega
     have HO := wonB_h (F := F) (R := R) (at_ := at_) ps w'.d w'.met w'.rows w'.st row hp (qq (ps.zip row)) 1 (by omega)
     have HC := IH w' (onW (ps.zip row) (qq (ps.zip row)) 1) (hps 1 (by omega)) (hV.on _ (by omega)) (by have := hat 1 (by omega); omega) g1 g2 g3 g5.st hrs
     have hwi := way_I hkeep n w' _ (hV.on (qq (ps.zip row)) (show 1 < 3 by omega)) g5.st
     have hi := wV hw (f := f) n w' _ (hps 1 (by omega)) (by have := hat 1 (by omega); omega) g1 g3
     obtain ⟨⟨v, e, w2⟩, q⟩ : ∃ r, wayW ps f n w' (onW (ps.zip row) (qq (ps.zip row)) 1) = r := ⟨_, rfl⟩
     rw [q] at HC hi hwi
     have hW2 : WI I ⟨d, met, rows, E⟩ w2 := ⟨hwi.st, by have h8 := g5.len; have h9 := hwi.len; simp only at h8 h9 ⊢; omega⟩
     rw [← hA0] at HO HC
     have hlo := hi.lo
     have hmt : ∀ p ∈ w2.met, p ∈ met ∨ qq (ps.zip row) < qq (ps.zip p.1) := fun p hp => (hi.met p hp).elim (g4 p) fun h => .inr (by have := hat 1 (by omega); omega)
     simp only at HC hlo
     refine uA ?_
     refine uC (fun hlt => ?_) (fun hlt => ?_)
     rotate_left
     · cases hlt
     refine qd ?_
     refine uB ?_
     refine uA ?_
     refine uR ?_
     refine uW [(1000000, 1000000), (1000001, 1000001), (0, 1000002), (1000003, 1000003), (1000004, 1000004), (1000005, 1000005), (1, 1000006)] HO ?_
     refine uW [(1000000, 1000000), (1000001, 1000001), (0, 1000002), (1000003, 1000003), (1000004, 1000004), (1000005, 1000005), (1, 1000006)] HC ?_
     refine qb ?_
     refine uA ?_
     by_cases he : e = 0
     rotate_left
     · rw [show (e != 0) = true by simpa using he]
       refine uC (fun h6 => ?_) (fun h6 => ?_)
       · rw [way_e1 (w := ⟨d, met, rows, E⟩) hm h1 h2 q0 q he]
         refine uA ?_
         refine uQ ?_
         exact uF [(1000000, 1000000), (1000001, 1000001), (73000, 0), (1000003, 1000003), (1000004, 1000004), (1000005, 1000005), (73001, 1)]
       · cases h6
     subst he
     refine uC (fun h6 => ?_) (fun h6 => ?_)
     · cases h6
     refine qd ?_
     refine uR ?_
     refine qe qa rfl rfl (by decide) rfl ?_
     refine uS ?_
     refine qb ?_
     refine uA ?_
     refine ⟨_, _, ?_, qh [0, 1, 6, 9, 10, 62] [(10, 10), (1000000, 1000000), (1000001, 1000001), (73000, 0), (1000003, 1000003), (1000004, 1000004), (1000005, 1000005), (73001, 1)] rfl rfl, 1 + 1, _, b0, v, 0, w2, by omega, rfl, rfl, ⟨_, q0, q, rfl⟩, ⟨hi.d, by omega, hi.ok rfl, hW2, hmt⟩, rfl⟩
     omega
   | 2, _, hT =>
     obtain ⟨w0, q0, q1, rfl⟩ := hT
     have hrs : w'.st.length ≤ 80000000 + w'.rows := by have h9 : (w'.st.length : Int) + rows ≤ E.length + w'.rows := g5.len; omega
     have HO := wonB_h (F := F) (R := R) (at_ := at_) ps w'.d w'.met w'.rows w'.st row hp (qq (ps.zip row)) 2 (by omega)
     have HC := IH w' (onW (ps.zip row) (qq (ps.zip row)) 2) (hps 2 (by omega)) (hV.on _ (by omega)) (by have := hat 2 (by omega); omega) g1 g2 g3 g5.st hrs
     have hwi := way_I hkeep n w' _ (hV.on (qq (ps.zip row)) (show 2 < 3 by omega)) g5.st
     have hi := wV hw (f := f) n w' _ (hps 2 (by omega)) (by have := hat 2 (by omega); omega) g1 g3
     obtain ⟨⟨v, e, w2⟩, q⟩ : ∃ r, wayW ps f n w' (onW (ps.zip row) (qq (ps.zip row)) 2) = r := ⟨_, rfl⟩
     rw [q] at HC hi hwi
     have hW2 : WI I ⟨d, met, rows, E⟩ w2 := ⟨hwi.st, by have h8 := g5.len; have h9 := hwi.len; simp only at h8 h9 ⊢; omega⟩
     rw [← hA0] at HO HC
     have hlo := hi.lo
     have hmt : ∀ p ∈ w2.met, p ∈ met ∨ qq (ps.zip row) < qq (ps.zip p.1) := fun p hp => (hi.met p hp).elim (g4 p) fun h => .inr (by have := hat 2 (by omega); omega)
     simp only at HC hlo
     refine uA ?_
     refine uC (fun hlt => ?_) (fun hlt => ?_)
     rotate_left
     · cases hlt
     refine qd ?_
     refine uB ?_
     refine uA ?_
     refine uR ?_
     refine uW [(1000000, 1000000), (1000001, 1000001), (0, 1000002), (1000003, 1000003), (1000004, 1000004), (1000005, 1000005), (1, 1000006)] HO ?_
     refine uW [(1000000, 1000000), (1000001, 1000001), (0, 1000002), (1000003, 1000003), (1000004, 1000004), (1000005, 1000005), (1, 1000006)] HC ?_
     refine qb ?_
     refine uA ?_
     by_cases he : e = 0
     rotate_left
     · rw [show (e != 0) = true by simpa using he]
       refine uC (fun h6 => ?_) (fun h6 => ?_)
       · rw [way_e2 (w := ⟨d, met, rows, E⟩) hm h1 h2 q0 q1 q he]
         refine uA ?_
         refine uQ ?_
         exact uF [(1000000, 1000000), (1000001, 1000001), (73000, 0), (1000003, 1000003), (1000004, 1000004), (1000005, 1000005), (73001, 1)]
       · cases h6
     subst he
     refine uC (fun h6 => ?_) (fun h6 => ?_)
     · cases h6
     refine qd ?_
     refine uR ?_
     refine qe qa rfl rfl (by decide) rfl ?_
     refine uS ?_
     refine qb ?_
     refine uA ?_
     refine ⟨_, _, ?_, qh [0, 1, 6, 9, 10, 62] [(10, 10), (1000000, 1000000), (1000001, 1000001), (73000, 0), (1000003, 1000003), (1000004, 1000004), (1000005, 1000005), (73001, 1)] rfl rfl, 2 + 1, _, b0, b1, v, w2, by omega, rfl, rfl, ⟨_, _, q0, q1, q⟩, ⟨hi.d, by omega, hi.ok rfl, hW2, hmt⟩, rfl⟩
     omega
   | 3, _, hT =>
     obtain ⟨w0, w1, q0, q1, q2⟩ := hT
     have hno : metF w'.met row = none := metF_no fun p hp e => (g4 p hp).elim (fun h => metF_mem hm p h e) fun h => by rw [e] at h; omega
     rw [way_ok (w := ⟨d, met, rows, E⟩) hm h1 h2 q0 q1 q2, ← hA0]
     have HM := dmake_h 2000 w'.d (by omega) ⟨A, b0, b1, b2⟩
     generalize zU 2000 w'.d ⟨A, b0, b1, b2⟩ = r at *
     obtain ⟨v, e, d2⟩ := r
     simp only at HM
     refine uA ?_
     refine uC (fun hlt => ?_) (fun hlt => ?_)
     · cases hlt
     refine qt ?_
     refine uD [1000001, 0] [1, 3, 5, 7, 9, 10, 13, 15, 17, 19, 21] ?_
     refine uw [(1000001, 1000000), (0, 1000001)] HM ?_
     refine uT ?_
     refine qY ?_
     refine uR ?_
     refine qy rfl (zh qa rfl rfl rfl rfl rfl rfl rfl rfl rfl (zW w'.met) (by rw [jB, hno]; rfl) rfl ?_)
     rw [qap]
     refine uS ?_
     refine qb ?_
     refine uA ?_
     refine uQ ?_
     exact uF [(1000000, 1000000), (1000001, 1000001), (90000, 0), (1000003, 1000003), (1000004, 1000004), (1000005, 1000005), (1, 1)]
end
set_option maxHeartbeats 4000000
def oblN (l : List Rs) : Nat := qB (fun x => x.obls.length) l
theorem oblN_take {l : List Rs} {k : Nat} (h : k < l.length) : oblN (l.take (k + 1)) = oblN (l.take k) + l[k].obls.length := zk h
theorem oblN_le (l : List Rs) (k : Nat) : oblN (l.take k) ≤ oblN l := sumBy_take _ l k
theorem rs_app (M : Mk) (a b : List Obli) : rsP ⟨M, a ++ b⟩ = [mkP M, .sl 3 (a.map Obli.pv ++ b.map Obli.pv)] := by
 unfold rsP
 simp only
 rw [show jc (a ++ b) = .sl 3 ((a ++ b).map Obli.pv) from rfl, List.map_append]
def joinX (alg : Int) (obls : List Obli) (M : Mk) (t : Int) (parts : List Rs) : Rs :=
 if t = 0 then ⟨(0, 0), []⟩ else if t = 1 then ⟨indetM M, []⟩
 else if M ≠ (2, 0) ∧ M ≠ (0, 2) then ⟨M, []⟩ else ⟨M, wC alg M parts ++ jZ obls M⟩
theorem join_h (p : Pol) (t : Int) (parts : List Rs) (hn : parts.length ≤ 1000000) (hm : ∀ x ∈ parts, x.m ∈ mks) (ho : oblN parts ≤ 500000) (hp : p.obls.length ≤ 500000) : Holds Tryz.prog 42 [.agg (polP p), pI t, rssP parts] (.p (.agg (rsP (zO p t parts)))) [] := by
 obtain ⟨id, set, alg, tg, rules, kids, obls⟩ := p
 have lp : (parts.map rsP).length = parts.length := by simp
 replace hp : obls.length ≤ 500000 := hp
 have hM : allM alg (parts.map Rs.m) ∈ mks := allM_mem fun m h => by
  obtain ⟨x, hx, rfl⟩ := List.mem_map.1 h
  exact hm x hx
 have HC := combAll_h alg (parts.map Rs.m) (by simpa using hn) (fun m h => by
  obtain ⟨x, hx, rfl⟩ := List.mem_map.1 h
  exact hm x hx)
 rw [show zO (.mk id set alg tg rules kids obls) t parts = joinX alg obls (allM alg (parts.map Rs.m)) t parts from rfl, qG]
 simp only [Pol.id, Pol.set, Pol.alg, Pol.target, Pol.rules, Pol.kids, Pol.obls]
 obtain ⟨M, hMe⟩ : ∃ M, M = allM alg (parts.map Rs.m) := ⟨_, rfl⟩
 rw [← hMe] at hM HC ⊢
 clear hMe
 unfold joinX
 refine .ofW ?_
 refine qz (T := TTab) qa Tryz.func42 (by kernel_rfl) rfl rfl rfl ?_
 refine uA ?_
 refine uA ?_
 refine uA ?_
 refine uB ?_
 refine SW.wk (zp 7 900 35 1 rfl rfl) ?_
 refine uZ [1, 2, 3, 6, 7, 15, 16, 17] [(3, 3), (6, 6), (900, 0)] ?_
 refine qw (fun n s => ∃ (k : Nat) (kk : Int), k ≤ parts.length ∧ n = parts.length - k ∧ kk = k ∧ s = ⟨84, [(1, .p (pI t)), (2, .p (rssP parts)), (3, .ptr 3 0), (6, .ptr 6 0), (7, .row 0), (15, .p (rssP parts)), (16, .p (pI (parts.map rsP).length)), (17, .p (pI kk))], [(3, .cells [.p (pS id), .p (pB set), .p (pI alg), .p (tgtP tg), .p (.sl 5 (rules.map zy)), .p (.sl 7 (kids.map polP)), .p (jc obls)]), (6, .cells [.p (.v (.complex .f64 0 0)), .p nilV]), (0, .row 35 1 (((parts.take k).map Rs.m).map fun m => [mkP m]))]⟩) parts.length ⟨0, 0, Nat.zero_le _, rfl, rfl, rfl⟩ ?_
 rintro n s ⟨k, _, hk, rfl, rfl, rfl⟩
 refine uA ?_
 refine uC (fun hlt => ?_) (fun hlt => ?_)
 · refine qd ?_
   rw [lp] at hlt
   simp only [decide_eq_true_eq] at hlt
   have hlt' : k < parts.length := by omega
   obtain ⟨x, hx⟩ : ∃ x, x = parts[k] := ⟨_, rfl⟩
   refine uB ?_
   refine uR ?_
   refine qe qa rfl rfl (by rw [lp]; omega) rfl ?_
   rw [qm hlt', ← hx]
   refine uS ?_
   refine qb ?_
   refine uR ?_
   refine qy rfl (qg qa rfl rfl rfl rfl rfl rfl rfl rfl rfl rfl rfl rfl rfl rfl rfl rfl (by simp only [List.length_append, List.length_map, List.length_take, List.length_cons, List.length_nil]; unfold reachBytes; omega) (by simp only [List.length_append, List.length_map, List.length_take, List.length_cons, List.length_nil]; omega) ?_)
   refine uS ?_
   refine qb ?_
   refine uA ?_
   refine ⟨_, _, ?_, qh [1, 2, 3, 6, 7, 15, 16, 17] [(3, 3), (6, 6), (25, 0)] rfl rfl, k + 1, _, hlt', rfl, qf hlt' (by omega), ?_⟩
   · omega
   · rw [List.take_succ_eq_append_getElem hlt', ← hx, List.map_append, List.map_append]; rfl
 · refine qt ?_
   rw [lp] at hlt
   simp only [decide_eq_false_iff_not] at hlt
   have hkk : k = parts.length := by omega
   subst hkk
   rw [List.take_length]
   refine uR ?_
   refine uK HC ?_
   refine qb ?_
   refine uB ?_
   refine uA ?_
   refine uC (fun c0 => ?_) (fun c0 => ?_)
   · have e : t = 0 := by simpa using c0
     rw [if_pos e]
     refine uA ?_
     refine uQ ?_
     exact ⟨Or.inr rfl, _, _, [], _, Wk.refl _, rfl, rfl, .p (CvL.agg (.cons (.refl _) (.cons (.nil 3) .nil))), rfl, rfl⟩
   have n0 : ¬ t = 0 := by simpa using c0
   rw [if_neg n0]
   refine uA ?_
   refine uC (fun c1 => ?_) (fun c1 => ?_)
   · have e : t = 1 := by simpa using c1
     rw [if_pos e]
     refine uR ?_
     refine uK (mkIndet_h M hM) ?_
     refine qb ?_
     refine uQ ?_
     exact ⟨Or.inr rfl, _, _, [], _, Wk.refl _, rfl, rfl, .p (CvL.agg (.cons (.refl _) (.cons (.nil 3) .nil))), rfl, rfl⟩
   have n1 : ¬ t = 1 := by simpa using c1
   rw [if_neg n1]
   have hP : mkE M (2, 0) = decide (M = (2, 0)) := mkE_eq hM (by simp [mks])
   have hD : mkE M (0, 2) = decide (M = (0, 2)) := mkE_eq hM (by simp [mks])
   (repeat refine qH ?_); refine ql (by kernel_rfl) ?_
   repeat (refine qi qa rfl (by exact True.intro) rfl ?_)
   refine qP ?_
   refine uC (fun c2 => ?_) (fun c2 => ?_)
   · have e : M ≠ (2, 0) ∧ M ≠ (0, 2) := by
      change (bif !mkE M (2, 0) then !mkE M (0, 2) else false) = true at c2
      rw [hP, hD] at c2
      revert c2
      by_cases a : M = (2, 0) <;> by_cases b : M = (0, 2) <;> simp [a, b]
     rw [if_pos e]
     refine uA ?_
     refine uQ ?_
     exact ⟨Or.inr rfl, _, _, [], _, Wk.refl _, rfl, rfl, .p (CvL.agg (.cons (.refl _) (.cons (.nil 3) .nil))), rfl, rfl⟩
   have e : ¬ (M ≠ (2, 0) ∧ M ≠ (0, 2)) := by
    change (bif !mkE M (2, 0) then !mkE M (0, 2) else false) = false at c2
    rw [hP, hD] at c2
    revert c2
    by_cases a : M = (2, 0) <;> by_cases b : M = (0, 2) <;> simp [a, b]
   rw [if_neg e]
   refine qd ?_
   refine uA ?_
   refine uA ?_
   refine uB ?_
   refine SW.wk (wk_nilc 12 1 900 98 3 rfl rfl rfl) ?_
   refine uZ [3, 6, 10, 12, 55, 56, 57] [(3, 3), (6, 6), (12, 12), (900, 0)] ?_
   refine qw (fun n s => ∃ (k : Nat) (kk : Int) (acc : List Obli), k ≤ parts.length ∧ n = parts.length - k ∧ kk = k ∧ acc.length ≤ oblN (parts.take k) ∧ wC alg M parts = acc ++ wC alg M (parts.drop k) ∧ s = ⟨84, [(3, .ptr 3 0), (6, .ptr 6 0), (10, .p (mkP M)), (12, .ptr 12 0), (55, .p (rssP parts)), (56, .p (pI (parts.map rsP).length)), (57, .p (pI kk))], [(3, .cells [.p (pS id), .p (pB set), .p (pI alg), .p (tgtP tg), .p (.sl 5 (rules.map zy)), .p (.sl 7 (kids.map polP)), .p (jc obls)]), (6, .cells [.p (.v (.complex .f64 0 0)), .p nilV]), (12, .cells [.p (mkP M), .row 0]), (0, .row 98 3 (acc.map Obli.pv))]⟩) parts.length ⟨0, 0, [], Nat.zero_le _, rfl, rfl, Nat.zero_le _, rfl, rfl⟩ ?_
   rintro n s ⟨k, _, acc, hk, rfl, rfl, hacc, hfin, rfl⟩
   have htk := oblN_le parts k
   refine uA ?_
   refine uC (fun hlt => ?_) (fun hlt => ?_)
   · refine qd ?_
     rw [lp] at hlt
     simp only [decide_eq_true_eq] at hlt
     have hlt' : k < parts.length := by omega
     have hs := oblN_take hlt'
     have htk2 := oblN_le parts (k + 1)
     have hxm := hm _ (List.getElem_mem hlt')
     rw [List.drop_eq_getElem_cons hlt', wC] at hfin
     refine uB ?_
     refine uR ?_
     refine qe qa rfl rfl (by rw [lp]; omega) rfl ?_
     rw [qm hlt']
     refine uS ?_
     refine qb ?_
     generalize parts[k] = x at *
     have hE : mkE x.m M = decide (x.m = M) := mkE_eq hxm hM
     refine uA ?_
     refine uC (fun cx => ?_) (fun cx => ?_)
     · have e : ¬ x.m = M := by
        change (!mkE x.m M) = true at cx
        rw [hE] at cx
        simpa using cx
       rw [if_neg e] at hfin
       refine qt ?_
       refine uA ?_
       refine ⟨_, _, ?_, qh [3, 6, 10, 12, 55, 56, 57] [(3, 3), (6, 6), (12, 12), (0, 0)] rfl rfl, k + 1, _, acc, hlt', rfl, qf hlt' (by omega), by omega, hfin, rfl⟩
       omega
     · have e : x.m = M := by
        change (!mkE x.m M) = false at cx
        rw [hE] at cx
        simpa using cx
       rw [if_pos e] at hfin
       refine qd ?_
       refine uR ?_
       refine qy rfl (qg qa rfl rfl rfl rfl rfl rfl rfl rfl rfl rfl rfl rfl rfl rfl rfl rfl (by simp only [List.length_append, List.length_map, List.length_take, List.length_cons, List.length_nil]; unfold reachBytes; omega) (by simp only [List.length_append, List.length_map, List.length_take, List.length_cons, List.length_nil]; omega) ?_)
       refine uS ?_
       refine qb ?_
       refine uA ?_
       refine uC (fun c3 => ?_) (fun c3 => ?_)
       · have e3 : alg = 3 := by simpa using c3
         rw [if_pos e3] at hfin
         refine qt ?_
         obtain ⟨acc2, ha2⟩ : ∃ acc2, acc2 = acc ++ x.obls := ⟨_, rfl⟩
         have hl2 : acc2.length = acc.length + x.obls.length := by rw [ha2, List.length_append]
         rw [← ha2] at hfin
         refine uZ [3, 6, 10, 12] [(3, 3), (6, 6), (12, 12), (69, 69)] ?_
         have eL : acc.map Obli.pv ++ x.obls.map Obli.pv = acc2.map Obli.pv := by rw [ha2, List.map_append]
         change SW _ _ _ ⟨84, [(3, .ptr 3 0), (6, .ptr 6 0), (10, .p (mkP M)), (12, .ptr 12 0)], [(3, .cells [.p (pS id), .p (pB set), .p (pI alg), .p (tgtP tg), .p (.sl 5 (rules.map zy)), .p (.sl 7 (kids.map polP)), .p (jc obls)]), (6, .cells [.p (.v (.complex .f64 0 0)), .p nilV]), (12, .cells [.p (mkP M), .row 69]), (69, .row 98 3 (acc.map Obli.pv ++ x.obls.map Obli.pv))]⟩
         rw [eL]
         have hacc2 : acc2.length ≤ 1000000 := by omega
         have hdl := jL obls M
         (repeat refine qH ?_); refine zC 9 rfl (by kernel_rfl) ?_
         refine qT (i := 0) (K := [12, 69]) (by kernel_rfl) (by kernel_rfl) rfl rfl (qs qa rfl (by exact True.intro)) rfl ?_
         refine qT (i := 1) (K := []) (by kernel_rfl) (by kernel_rfl) rfl rfl (qs qa rfl (by exact True.intro)) rfl ?_
         refine qT (i := 2) (K := [12, 69]) (by kernel_rfl) (by kernel_rfl) rfl rfl (qs qa rfl (by exact True.intro)) rfl ?_
         refine qT (i := 3) (K := [12, 69]) (by kernel_rfl) (by kernel_rfl) rfl rfl (qs qa rfl (by exact True.intro)) rfl ?_
         refine qT (i := 4) (K := [12, 69]) (by kernel_rfl) (by kernel_rfl) rfl rfl (qs qa rfl (by exact True.intro)) rfl ?_
         refine qQ 5 (by kernel_rfl) ?_
         refine qr rfl rfl rfl (act_call rfl rfl rfl rfl ((duties_h obls (by omega) M hM)) rfl rfl rfl ?_)
         refine qQ 6 (by kernel_rfl) ?_
         refine qr rfl rfl rfl (qg qa rfl rfl rfl rfl rfl rfl rfl rfl rfl rfl rfl rfl rfl rfl rfl rfl (by simp only [List.length_append, List.length_map, List.length_take, List.length_cons, List.length_nil]; unfold reachBytes; omega) (by simp only [List.length_append, List.length_map, List.length_take, List.length_cons, List.length_nil]; omega) ?_)
         refine qT (i := 7) (K := [12, 69]) (by kernel_rfl) (by kernel_rfl) rfl rfl (qs qa rfl (by exact True.intro)) rfl ?_
         refine qQ 8 (by kernel_rfl) ?_
         first | refine qr rfl rfl rfl (aM (h := ?_)) | refine qr rfl rfl rfl (aB (h := ?_)) | refine qr rfl rfl rfl (aA (h := ?_)) | refine qr rfl rfl rfl (aS (h := ?_)) | refine qr rfl rfl rfl (aL (h := ?_)) | refine qr rfl rfl rfl (jl (K := []) (qs qa rfl (by exact True.intro)) rfl ?_)
         refine wR (by kernel_rfl) ?_
         refine SW.wk (qh [3, 6, 12] [(3, 3), (6, 6), (12, 12), (81, 81)] rfl rfl) ?_
         refine ?fk22_185
         rotate_left
         refine uA ?_
         refine uQ ?_
         rw [hfin, rs_app]
         exact ⟨Or.inr rfl, _, _, [], _, zg (k := 81) rfl, rfl, rfl, .refl _, rfl, rfl⟩
       · have e3 : ¬ alg = 3 := by simpa using c3
         rw [if_neg e3] at hfin
         refine qd ?_
         refine uA ?_
         refine ⟨_, _, ?_, qh [3, 6, 10, 12, 55, 56, 57] [(3, 3), (6, 6), (12, 12), (69, 0)] rfl rfl, k + 1, _, acc ++ x.obls, hlt', rfl, qf hlt' (by omega), by rw [List.length_append]; omega, by rw [List.append_assoc]; exact hfin, ?_⟩
         · omega
         · rw [List.map_append]; rfl
   · refine qt ?_
     rw [lp] at hlt
     simp only [decide_eq_false_iff_not] at hlt
     have hkk : k = parts.length := by omega
     subst hkk
     rw [List.drop_length, wC, List.append_nil] at hfin
     obtain ⟨acc2, ha2⟩ : ∃ acc2, acc2 = acc := ⟨_, rfl⟩
     rw [← ha2] at hfin hacc ⊢
     have hacc2 : acc2.length ≤ 1000000 := by omega
     have hdl := jL obls M
     (repeat refine qH ?_); refine zC 9 rfl (by kernel_rfl) ?_
     refine qT (i := 0) (K := [12, 0]) (by kernel_rfl) (by kernel_rfl) rfl rfl (qs qa rfl (by exact True.intro)) rfl ?_
     refine qT (i := 1) (K := []) (by kernel_rfl) (by kernel_rfl) rfl rfl (qs qa rfl (by exact True.intro)) rfl ?_
     refine qT (i := 2) (K := [12, 0]) (by kernel_rfl) (by kernel_rfl) rfl rfl (qs qa rfl (by exact True.intro)) rfl ?_
     refine qT (i := 3) (K := [12, 0]) (by kernel_rfl) (by kernel_rfl) rfl rfl (qs qa rfl (by exact True.intro)) rfl ?_
     refine qT (i := 4) (K := [12, 0]) (by kernel_rfl) (by kernel_rfl) rfl rfl (qs qa rfl (by exact True.intro)) rfl ?_
     refine qQ 5 (by kernel_rfl) ?_
     refine qr rfl rfl rfl (act_call rfl rfl rfl rfl ((duties_h obls (by omega) M hM)) rfl rfl rfl ?_)
     refine qQ 6 (by kernel_rfl) ?_
     refine qr rfl rfl rfl (qg qa rfl rfl rfl rfl rfl rfl rfl rfl rfl rfl rfl rfl rfl rfl rfl rfl (by simp only [List.length_append, List.length_map, List.length_take, List.length_cons, List.length_nil]; unfold reachBytes; omega) (by simp only [List.length_append, List.length_map, List.length_take, List.length_cons, List.length_nil]; omega) ?_)
     refine qT (i := 7) (K := [12, 0]) (by kernel_rfl) (by kernel_rfl) rfl rfl (qs qa rfl (by exact True.intro)) rfl ?_
     refine qQ 8 (by kernel_rfl) ?_
     first | refine qr rfl rfl rfl (aM (h := ?_)) | refine qr rfl rfl rfl (aB (h := ?_)) | refine qr rfl rfl rfl (aA (h := ?_)) | refine qr rfl rfl rfl (aS (h := ?_)) | refine qr rfl rfl rfl (aL (h := ?_)) | refine qr rfl rfl rfl (jl (K := []) (qs qa rfl (by exact True.intro)) rfl ?_)
     refine wR (by kernel_rfl) ?_
     refine SW.wk (qh [3, 6, 12] [(3, 3), (6, 6), (12, 12), (81, 81)] rfl rfl) ?_
     refine ?fk22_223
     rotate_left
     refine uA ?_
     refine uQ ?_
     rw [hfin, rs_app]
     exact ⟨Or.inr rfl, _, _, [], _, zg (k := 81) rfl, rfl, rfl, .refl _, rfl, rfl⟩
set_option maxHeartbeats 4000000
theorem partsO_len (alg : Int) (m : Mk) : ∀ l : List Rs, (wC alg m l).length ≤ oblN l
 | [] => Nat.le_refl _
 | x :: l => by
   have ih := partsO_len alg m l
   have e : oblN (x :: l) = x.obls.length + oblN l := by unfold oblN qB; rw [List.map_cons, List.sum_cons]
   rw [wC, e]
   split
   · split
     · omega
     · rw [List.length_append]; omega
   · omega
theorem effectS_len (r : Rul) (t c : Int) : (zE r t c).obls.length ≤ r.obls.length := by
 unfold zE
 repeat' split
 · exact Nat.zero_le _
 · exact Nat.zero_le _
 · exact jL _ _
theorem tarSm_sz {t : Tar} {n : Nat} (h : tsz t ≤ n) (hn : n ≤ 100000) : TarSm t := by
 refine ⟨by unfold tsz at h; omega, fun x hx => ?_⟩
 have h1 := xsz_le hx
 refine ⟨by unfold xsz at h1; omega, fun y hy => ?_⟩
 have h4 : asz y ≤ xsz x := by have := wd (f := asz) hy; unfold xsz; omega
 unfold asz at h4
 omega
theorem sz_big {p : Pol} {n : Nat} (h : p.sz ≤ n) (hn : n ≤ 100000) : TarSm p.target ∧ p.rules.length ≤ 100000 ∧ p.kids.length ≤ 100000 ∧ p.obls.length ≤ 100000 ∧ (∀ r ∈ p.rules, TarSm r.target ∧ r.cond.length ≤ 100000 ∧ r.obls.length ≤ 100000) ∧ ∀ k ∈ p.kids, k.sz ≤ n := by
 have h1 := Pol.sz_eq p
 have h2 := len_sumBy Pol.sz (fun p => by rw [Pol.sz_eq]; omega) p.kids
 have h3 : p.obls.length ≤ osz p.obls := by unfold osz; omega
 refine ⟨tarSm_sz (n := n) (by omega) hn, by omega, by omega, by omega, fun r hr => ?_, fun k hk => ?_⟩
 · have h4 := wd (f := rusz) hr
   have h5 : r.obls.length ≤ osz r.obls := by unfold osz; omega
   have h6 : rusz r = txt r.id + tsz r.target + r.cond.length + osz r.obls + qB nsz r.cond := rfl
   exact ⟨tarSm_sz (n := n) (by omega) hn, by omega, by omega⟩
 · have := wd (f := Pol.sz) hk
   omega
set_option maxHeartbeats 4000000
theorem wayB_all {F : FuncId} {R : List PV} {at_ : List Atm} {f : List Rs → List Int → Int × List Rs} {Gs : List (Int → Prop)} {I : List Rs → Prop} {ps : List Pt} (hF : FlB F R at_ Gs f I) : ∀ n, WayB F R at_ f Gs I ps n
 | 0 => fun w row _ _ hn => absurd hn (by have := atomW_le (ps.zip row); omega)
 | n + 1 => wayB_step hF n (wayB_all hF n)
def jq (ps : List Pt) (f : List Rs → List Int → Int × List Rs) (E : List Rs) : Int × Int × Wv (List Rs) := wayW ps f 66 ⟨[], [], 0, E⟩ (ps.map Pt.r)
def wovenQ (r : Int × Int × Wv (List Rs)) : Pt := ⟨2000, r.2.2.d, r.1⟩
theorem row0 {ps : List Pt} (hw : ∀ p ∈ ps, WfB p.l) : 64 - qq (ps.zip (ps.map Pt.r)) < ((66 : Nat) : Int) := by
 have := atomW_ge (x := ps.zip (ps.map Pt.r)) (c := 0) (by omega) fun p hp b hb => by
  obtain ⟨k, hk, e1, e2⟩ := zY hb
  have h1 := hw p.1 (List.of_mem_zip (a := p.1) (b := p.2) hp).1 k hk
  rw [e2]; exact h1.1
 omega
theorem wovenB_h {F : FuncId} {R : List PV} {at_ : List Atm} {f : List Rs → List Int → Int × List Rs} {Gs : List (Int → Prop)} {I : List Rs → Prop} (hF : FlB F R at_ Gs f I) (ps : List Pt) (E : List Rs) (hp : PsOk ps (ps.map Pt.r)) (hV : RowV Gs ps (ps.map Pt.r)) (hI : I E) (hE : E.length ≤ 80000000) :
 qJ Tryz.prog 39 [.fn F [.ptr 1000000 0, .p (.rp R)], .p (ptsP ps)] (capO at_ 1000000 1000002 E) (.tup [.p (.agg (wovenQ (jq ps f E)).pv), .p (pI (jq ps f E).2.1)]) (capO at_ 1000000 0 (jq ps f E).2.2.st) := by
 have lp : (ps.map Pt.pv).length = ps.length := by simp
 have hfew := hp.few
 have HW := wayB_all (ps := ps) hF 66 ⟨[], [], 0, E⟩ (ps.map Pt.r) hp hV (row0 hV.wf) (by show 0 ≤ 2000; omega) (Int.le_refl _) (by show (0 : Int) ≤ 6000; omega) hI (by show (E.length : Int) ≤ 80000000 + 0; omega)
 change qJ _ _ _ _ (.tup [.p (pI (jq ps f E).1), .p (pI (jq ps f E).2.1)]) (wvB F R at_ ps 0 1 (jq ps f E).2.2.d (jq ps f E).2.2.met (jq ps f E).2.2.rows (jq ps f E).2.2.st) at HW
 generalize jq ps f E = r at *
 obtain ⟨v, e, w⟩ := r
 simp only at HW
 refine qz (T := TTab) qa Tryz.func39 (by kernel_rfl) rfl rfl rfl ?_
 refine uA ?_
 refine uR ?_
 refine uO (dnew_h 2000 (by omega) (by omega)) ?_
 refine qb ?_
 refine uA ?_
 refine uA ?_
 refine uA ?_
 refine uB ?_
 refine SW.wk (zp 9 900 3 1 rfl rfl) ?_
 refine SW.wk (wk_nilc 16000 1 901 68 4 rfl rfl rfl) ?_
 refine uZ [4, 6, 8, 9, 24, 25, 26] [(4, 4), (16000, 1), (23, 2), (21, 3), (901, 5), (900, 0), (1000000, 1000000), (1000001, 1000001), (1000002, 1000002)] ?_
 refine qw (fun m s => ∃ (k : Nat) (kk : Int), k ≤ ps.length ∧ m = ps.length - k ∧ kk = k ∧ s = ⟨46, [(4, .ptr 4 0), (6, .ptr 1 0), (8, .ptr 2 0), (9, .row 0), (24, .p (ptsP ps)), (25, .p (pI (ps.map Pt.pv).length)), (26, .p (pI kk))],
  [(4, .cells [.p (.v (.pointer none)), .p (pI 0)]), (1, .cells [.p (pI 2000), .row 5]), (2, .cells [.p (ptsP ps), .fn F [.ptr 1000000 0, .p (.rp R)], .ptr 1 0, .row 3, .p (pI 0)]), (3, .mp []), (5, .row 68 4 []), (0, .row 3 1 (((ps.take k).map Pt.r).map fun i => [pI i]))] ++ capO at_ 1000000 1000002 E⟩) ps.length ⟨0, 0, Nat.zero_le _, rfl, rfl, rfl⟩ ?_
 rintro m s ⟨k, _, hk, rfl, rfl, rfl⟩
 refine uA ?_
 refine uC (fun hlt => ?_) (fun hlt => ?_)
 · refine qd ?_
   rw [lp] at hlt
   simp only [decide_eq_true_eq] at hlt
   have hlt' : k < ps.length := by omega
   have e9 : ((ps.take (k + 1)).map Pt.r).map (fun i => [pI i]) = ((ps.take k).map Pt.r).map (fun i => [pI i]) ++ [[pI ps[k].r]] := by
    rw [List.take_succ_eq_append_getElem hlt', List.map_append, List.map_append]; rfl
   obtain ⟨x, hx⟩ : ∃ x, x = ps[k] := ⟨_, rfl⟩
   rw [← hx] at e9
   refine uB ?_
   refine uR ?_
   refine qe qa rfl rfl (by rw [lp]; omega) rfl ?_
   rw [qm hlt', ← hx]
   refine uS ?_
   refine qb ?_
   refine uR ?_
   refine qy rfl (qg qa rfl rfl rfl rfl rfl rfl rfl rfl rfl rfl rfl rfl rfl rfl rfl rfl (by simp only [List.length_append, List.length_map, List.length_take, List.length_cons, List.length_nil]; unfold reachBytes; omega) (by simp only [List.length_append, List.length_map, List.length_take, List.length_cons, List.length_nil]; omega) ?_)
   refine uS ?_
   refine qb ?_
   refine uA ?_
   refine ⟨_, _, ?_, qh [4, 6, 8, 9, 24, 25, 26] [(4, 4), (1, 1), (2, 2), (3, 3), (5, 5), (34, 0), (1000000, 1000000), (1000001, 1000001), (1000002, 1000002)] rfl rfl, k + 1, _, hlt', rfl, qf hlt' (by omega), ?_⟩
   · omega
   · rw [e9]; rfl
 · refine qt ?_
   rw [lp] at hlt
   simp only [decide_eq_false_iff_not] at hlt
   have hkk : k = ps.length := by omega
   subst hkk
   rw [List.take_length]
   refine SW.wk (zg (k := 0) rfl) ?_
   refine uR ?_
   refine uW [(2, 1000000), (1, 1000001), (5, 1000002), (3, 1000003), (1000000, 1000004), (1000001, 1000005), (1000002, 1000006)] HW ?_
   refine qb ?_
   refine uZ [4, 6, 12, 13] [(4, 4), (1, 1), (40000, 5), (1000000, 1000000), (1000001, 1000001), (40001, 6)] ?_
   refine SW.wk (zg (k := 5) rfl) ?_
   refine SW.wk (wk_frzB (k := 1) rfl rfl) ?_
   refine uA ?_
   refine uQ ?_
   exact ⟨Or.inr rfl, _, _, [(1000000, 1000000), (1000001, 1000001), (6, 0)], _, Wk.refl _, rfl, rfl, .refl _, rfl, rfl⟩
theorem LV.len {Gs : List (Int → Prop)} {l : List Int} (h : LV Gs l) : l.length = Gs.length := by
 induction h with
 | nil => rfl
 | cons _ _ ih => rw [List.length_cons, List.length_cons, ih]
def EK (E : List Rs) : Prop := ∀ x ∈ E, RsK x
theorem endR_len (E : List Rs) (x : Rs) : (endR E x).2.length ≤ E.length + 1 := by unfold endR; split <;> simp
theorem endR_ge (E : List Rs) (x : Rs) : 0 ≤ (endR E x).1 := by unfold endR; split <;> simp only <;> omega
theorem endR_le (E : List Rs) (x : Rs) : (endR E x).1 ≤ E.length := by unfold endR; split <;> simp only <;> omega
theorem endR_ek {E : List Rs} {x : Rs} (h : EK E) (hx : RsK x) : EK (endR E x).2 := by
 unfold endR
 split
 · exact h
 · intro y hy
   rcases List.mem_append.1 hy with hy | hy
   · exact h y hy
   · rw [List.mem_singleton.1 hy]; exact hx
theorem endR_ext (E : List Rs) (x : Rs) : ∃ y, (endR E x).2 = E ++ y := by
 unfold endR
 split
 · exact ⟨[], by simp⟩
 · exact ⟨[x], rfl⟩
theorem endR_at (E : List Rs) (x : Rs) : (endR E x).2[(endR E x).1.toNat]? = some x := by
 unfold endR
 split
 · rename_i h
   have := List.findIdx_getElem (w := h)
   have h2 : x = E[E.findIdx fun y => decide (x = y)] := by simpa using this
   simp only [Int.toNat_natCast]
   rw [List.getElem?_eq_getElem h, ← h2]
 · simp
def rulF (r : Rul) (E : List Rs) (l : List Int) : Int × List Rs := endR E (zE r ((l ++ [2]).getD 0 0) ((l ++ [2]).getD 1 0))
theorem effectK (r : Rul) (hr : r.obls.length ≤ 1000000) (t c : Int) : RsK (zE r t c) := ⟨effectS_mem r t c, Nat.le_trans (effectS_len r t c) hr⟩
theorem rule1_h (r : Rul) (hr : r.obls.length ≤ 1000000) (at_ : List Atm) (E : List Rs) (hI : EK E) (hE : E.length ≤ 90000000) (l : List Int) (hl : l.length = 1 ∨ l.length = 2) :
 qJ Tryz.prog 64 [.row 1000000, .ptr 1000001 0, .p (.rp (zy r))] ((1000000, .row 3 1 (l.map fun i => [pI i])) :: capO at_ 1000001 1000003 E) (.p (pI (rulF r E l).1)) (capO at_ 1000001 0 (rulF r E l).2) := by
 rcases l with _ | ⟨a, _ | ⟨b, _ | ⟨c, l⟩⟩⟩
 · simp at hl
 ·     have HE := effect_h r a 2 hr
       have HN := end_h at_ E (by omega) hI (zE r a 2) (effectK r hr _ _)
       change qJ _ _ _ _ (.p (pI (rulF r E [a]).1)) (dgmO at_ 0 (rulF r E [a]).2) at HN
       generalize rulF r E [a] = q at *
       generalize zE r a 2 = x at *
       refine qD (ts := [4]) Tryz.func64 (by kernel_rfl) rfl rfl rfl ?_
       refine uA ?_
       refine uR ?_
       refine qy rfl (qg qa rfl rfl rfl rfl rfl rfl rfl rfl rfl rfl rfl rfl rfl rfl rfl rfl (by simp only [List.length_append, List.length_map, List.length_take, List.length_cons, List.length_nil]; unfold reachBytes; omega) (by simp only [List.length_append, List.length_map, List.length_take, List.length_cons, List.length_nil]; omega) ?_)
       refine uS ?_
       refine qb ?_
       refine uZ [0, 1, 2] [(7, 0), (1000001, 1000001), (1000002, 1000002), (1000003, 1000003)] ?_
       change SW _ _ _ ⟨18, [(0, .row 0), (1, .ptr 1000001 0), (2, .p (.rp (zy r)))], (0, .row 3 1 ([a, 2].map fun i => [pI i])) :: capO at_ 1000001 1000003 E⟩
       refine uD [1000002, 1000003] [1, 3, 5, 7, 9, 11, 13, 15, 16, 18, 21] ?_
       refine qx qa rfl rfl rfl (by simp) rfl ?_
       refine uT ?_
       refine qx qa rfl rfl rfl (by simp) rfl ?_
       refine uT ?_
       refine qx qa rfl rfl rfl (by simp) rfl ?_
       refine uT ?_
       refine qx qa rfl rfl rfl (by simp) rfl ?_
       refine uT ?_
       refine uo HE ?_
       refine uT ?_
       refine uw [(1000002, 1000000), (1000003, 1000001)] HN ?_
       refine uT ?_
       refine qY ?_
       refine uQ ?_
       exact uF [(1000001, 1000001), (1000002, 1000002), (18000, 0)]
 ·     have HE := effect_h r a b hr
       have HN := end_h at_ E (by omega) hI (zE r a b) (effectK r hr _ _)
       change qJ _ _ _ _ (.p (pI (rulF r E [a, b]).1)) (dgmO at_ 0 (rulF r E [a, b]).2) at HN
       generalize rulF r E [a, b] = q at *
       generalize zE r a b = x at *
       refine qD (ts := [4]) Tryz.func64 (by kernel_rfl) rfl rfl rfl ?_
       refine uA ?_
       refine uR ?_
       refine qy rfl (qg qa rfl rfl rfl rfl rfl rfl rfl rfl rfl rfl rfl rfl rfl rfl rfl rfl (by simp only [List.length_append, List.length_map, List.length_take, List.length_cons, List.length_nil]; unfold reachBytes; omega) (by simp only [List.length_append, List.length_map, List.length_take, List.length_cons, List.length_nil]; omega) ?_)
       refine uS ?_
       refine qb ?_
       refine uZ [0, 1, 2] [(7, 0), (1000001, 1000001), (1000002, 1000002), (1000003, 1000003)] ?_
       change SW _ _ _ ⟨18, [(0, .row 0), (1, .ptr 1000001 0), (2, .p (.rp (zy r)))], (0, .row 3 1 ([a, b, 2].map fun i => [pI i])) :: capO at_ 1000001 1000003 E⟩
       refine uD [1000002, 1000003] [1, 3, 5, 7, 9, 11, 13, 15, 16, 18, 21] ?_
       refine qx qa rfl rfl rfl (by simp) rfl ?_
       refine uT ?_
       refine qx qa rfl rfl rfl (by simp) rfl ?_
       refine uT ?_
       refine qx qa rfl rfl rfl (by simp) rfl ?_
       refine uT ?_
       refine qx qa rfl rfl rfl (by simp) rfl ?_
       refine uT ?_
       refine uo HE ?_
       refine uT ?_
       refine uw [(1000002, 1000000), (1000003, 1000001)] HN ?_
       refine uT ?_
       refine qY ?_
       refine uQ ?_
       exact uF [(1000001, 1000001), (1000002, 1000002), (18000, 0)]
 · simp at hl
set_option maxHeartbeats 4000000
def resE (E : List Rs) (l : List Int) : List Rs := l.map fun i => E.getD i.toNat noRs
def polF (p : Pol) (E : List Rs) (l : List Int) : Int × List Rs := endR E (zO p (l.getD 0 0) (resE E l.tail))
theorem joinR_len (p : Pol) (t : Int) (l : List Rs) : (zO p t l).obls.length ≤ oblN l + p.obls.length := by
 unfold zO
 split
 · exact Nat.zero_le _
 split
 · exact Nat.zero_le _
 split
 · exact Nat.zero_le _
 · show (wC _ _ l ++ jZ _ _).length ≤ _
   rw [List.length_append]
   have h1 := partsO_len p.alg (allM p.alg (l.map Rs.m)) l
   have h2 := jL p.obls (allM p.alg (l.map Rs.m))
   omega
theorem policy1_h (p : Pol) (hp : p.obls.length ≤ 500000) (at_ : List Atm) (E : List Rs) (hI : EK E) (hE : E.length ≤ 90000000) (a : Int) (l : List Int) (hl : l.length ≤ 1000) (hx : ∀ x ∈ l, 0 ≤ x ∧ x < E.length) (ho : oblN (resE E l) ≤ 500000) :
 qJ Tryz.prog 40 [.row 1000000, .ptr 1000001 0, .p (.rp (polP p))] ((1000000, .row 3 1 ((a :: l).map fun i => [pI i])) :: capO at_ 1000001 1000003 E) (.p (pI (polF p E (a :: l)).1)) (capO at_ 1000001 0 (polF p E (a :: l)).2) := by
 have lr : (l.map fun i => [pI i]).length = l.length := by simp
 have lE : (E.map rsP).length = E.length := by simp
 have hm : ∀ x ∈ resE E l, x.m ∈ mks := fun x h => by
  obtain ⟨i, hi, rfl⟩ := List.mem_map.1 h
  have := hx i hi
  have hk : i.toNat < E.length := by omega
  rw [List.getD_eq_getElem?_getD, List.getElem?_eq_getElem hk]
  exact (hI _ (List.getElem_mem hk)).1
 have HJ := join_h p a (resE E l) (by unfold resE; rw [List.length_map]; omega) hm ho hp
 have HN := end_h at_ E (by omega) hI (zO p a (resE E l)) ⟨joinR_mem hm, by have := joinR_len p a (resE E l); omega⟩
 change qJ _ _ _ (dgmO at_ 1000001 E) (.p (pI (polF p E (a :: l)).1)) (dgmO at_ 0 (polF p E (a :: l)).2) at HN
 generalize polF p E (a :: l) = q at *
 obtain ⟨id, set, alg, tg, rules, kids, obls⟩ := p
 generalize zO _ a (resE E l) = J at *
 refine qD (ts := [4]) Tryz.func40 (by kernel_rfl) rfl rfl rfl ?_
 refine SW.wk (zg (k := 1000000) rfl) ?_
 refine uA ?_
 refine uA ?_
 refine uR ?_
 refine qe qa rfl rfl (by simp; omega) rfl ?_
 rw [show ((((a :: l).map fun i => [pI i]).drop (Int.toNat 1)).take (Int.toNat (((a :: l).map fun i => [pI i]).length : Nat) - Int.toNat 1)) = l.map fun i => [pI i] from List.take_of_length_le (by simp)]
 refine uS ?_
 refine qb ?_
 refine uB ?_
 refine SW.wk (zp 5 900 37 2 rfl rfl) ?_
 refine uZ [0, 1, 2, 5, 9, 10, 11] [(900, 0), (1000001, 1000001), (1000002, 1000002), (1000003, 1000003)] ?_
 refine qw (fun m s => ∃ (k : Nat) (kk : Int), k ≤ l.length ∧ m = l.length - k ∧ kk = k ∧ s = ⟨34, [(0, .p (zJ (a :: l))), (1, .ptr 1000001 0), (2, .p (.rp (polP (.mk id set alg tg rules kids obls)))), (5, .row 0), (9, .p (zJ l)), (10, .p (pI (l.map fun i => [pI i]).length)), (11, .p (pI kk))], (0, .row 37 2 ((resE E (l.take k)).map rsP)) :: capO at_ 1000001 1000003 E⟩) l.length ⟨0, 0, Nat.zero_le _, rfl, rfl, rfl⟩ ?_
 rintro m s ⟨k, _, hk, rfl, rfl, rfl⟩
 refine uA ?_
 refine uC (fun hlt => ?_) (fun hlt => ?_)
 · refine qd ?_
   rw [lr] at hlt
   simp only [decide_eq_true_eq] at hlt
   have hlt' : k < l.length := by omega
   have hx1 := hx _ (List.getElem_mem hlt')
   have e9 : resE E (l.take (k + 1)) = resE E (l.take k) ++ [E.getD l[k].toNat noRs] := by
    unfold resE
    rw [List.take_succ_eq_append_getElem hlt', List.map_append]; rfl
   obtain ⟨x, hxx⟩ : ∃ x, x = l[k] := ⟨_, rfl⟩
   rw [← hxx] at hx1 e9
   have hk9 : x.toNat < E.length := by omega
   have e8 : E.getD x.toNat noRs = E[x.toNat] := by rw [List.getD_eq_getElem?_getD, List.getElem?_eq_getElem hk9]; rfl
   obtain ⟨y, hy⟩ : ∃ y, y = E[x.toNat] := ⟨_, rfl⟩
   rw [e8, ← hy] at e9
   have hres : (resE E (l.take k)).length ≤ 1000 := by unfold resE; rw [List.length_map, List.length_take]; omega
   refine uB ?_
   refine uR ?_
   refine qe qa rfl rfl (by rw [lr]; omega) rfl ?_
   rw [qm hlt', ← hxx]
   refine uS ?_
   refine qb ?_
   refine uR ?_
   refine qe qa rfl rfl (by rw [lE]; omega) rfl ?_
   refine uS ?_
   refine qe qa rfl (opR_loadE (x := rsP y) rfl rfl rfl rfl (by rw [List.getElem?_map, List.getElem?_eq_getElem hk9, ← hy]; rfl) rfl) (by rw [lE]; omega) rfl ?_
   refine uS ?_
   refine qy rfl (qg qa rfl rfl rfl rfl rfl rfl rfl rfl rfl rfl rfl rfl rfl rfl rfl rfl (by simp only [List.length_append, List.length_map, List.length_take, List.length_cons, List.length_nil]; unfold reachBytes; omega) (by simp only [List.length_append, List.length_map, List.length_take, List.length_cons, List.length_nil]; omega) ?_)
   refine uS ?_
   refine qb ?_
   refine uA ?_
   refine ⟨_, _, ?_, qh [0, 1, 2, 5, 9, 10, 11] [(24, 0), (1000001, 1000001), (1000002, 1000002), (1000003, 1000003)] rfl rfl, k + 1, _, hlt', rfl, qf hlt' (by omega), ?_⟩
   · omega
   · rw [e9, List.map_append]; rfl
 · refine qt ?_
   rw [lr] at hlt
   simp only [decide_eq_false_iff_not] at hlt
   have hkk : k = l.length := by omega
   subst hkk
   rw [List.take_length]
   refine SW.wk (zg (k := 0) rfl) ?_
   refine uD [1000002, 1000003] [1, 3, 5, 7, 9, 11, 12, 14, 17] ?_
   refine qx qa rfl rfl rfl (by simp) rfl ?_
   refine uT ?_
   refine uo HJ ?_
   refine uT ?_
   refine uw [(1000002, 1000000), (1000003, 1000001)] HN ?_
   refine uT ?_
   refine qY ?_
   refine uQ ?_
   exact uF [(1000001, 1000001), (1000002, 1000002), (34000, 0)]
def G0 (i : Int) : Prop := 0 ≤ i ∧ i ≤ 2
theorem PtV.mono {G G' : Int → Prop} {p : Pt} (h : PtV G p) (hG : ∀ i, G i → G' i) : PtV G' p := ⟨h.1, fun b hb j hj h0 => hG _ (h.2 b hb j hj h0)⟩
theorem WyV.mono {G G' : Int → Prop} {p : Pt} {w : Int} (h : WyV G p w) (hG : ∀ i, G i → G' i) : WyV G' p w := ⟨h.1, fun h0 => hG _ (h.2 h0)⟩
structure WovS {σ : Type} (I : σ → Prop) (Le : σ → σ → Prop) (L : σ → Int → Prop) (M : σ → List Int → Int → Prop) (ps : List Pt) (s : σ) (p : Pt) (s' : σ) : Prop where
 v : PtV (L s') p
 w : WyV (L s') p p.r
 st : I s'
 le : Le s s'
 ev : ∀ α : Int → Nat, (∀ a, α a < 3) → ∀ es, EvR α ps (ps.map Pt.r) es → ∃ e, Ev p.l α p.r e ∧ M s' (es.map fun x => -1 - x) (-1 - e)
theorem woven_sem {σ : Type} {Gs : List (Int → Prop)} {f : σ → List Int → Int × σ} {I : σ → Prop} {Le : σ → σ → Prop} {L : σ → Int → Prop} {M : σ → List Int → Int → Prop} {ps : List Pt} (hF : FSem Gs f I Le L M) (hV : RowV Gs ps (ps.map Pt.r)) {s : σ} (hI : I s) (h : (wayW ps f 66 ⟨[], [], 0, s⟩ (ps.map Pt.r)).2.1 = 0) :
 WovS I Le L M ps s ⟨2000, (wayW ps f 66 ⟨[], [], 0, s⟩ (ps.map Pt.r)).2.2.d, (wayW ps f 66 ⟨[], [], 0, s⟩ (ps.map Pt.r)).1⟩ (wayW ps f 66 ⟨[], [], 0, s⟩ (ps.map Pt.r)).2.2.st := by
 obtain ⟨⟨v, e, w⟩, q⟩ : ∃ r, wayW ps f 66 ⟨[], [], 0, s⟩ (ps.map Pt.r) = r := ⟨_, rfl⟩
 rw [q] at h ⊢
 simp only at h ⊢
 subst h
 obtain ⟨h1, h2, h3⟩ := way_sem hF 66 ⟨[], [], 0, s⟩ _ _ _ hV ⟨fun i hi => absurd hi (Nat.not_lt_zero i), hI, (fun b hb => nomatch hb), (fun p hp => nomatch hp)⟩ q
 exact ⟨⟨h1.d, h1.ends⟩, ⟨h3.lt, h3.leaf⟩, h1.st, h2.st, h3.ev⟩
structure PtT (p : Pt) (T : (Int → Nat) → Int) : Prop where
 g : PtG p
 v : PtV G0 p
 w : WyV G0 p p.r
 ev : ∀ α : Int → Nat, (∀ a, α a < 3) → Ev p.l α p.r (-1 - T α)
theorem findA_lt {l : List Atm} {a : Atm} (h : a ∈ l) : jU l a < l.length := by
 unfold jU; rw [if_pos (findA_mem.1 h)]; have := findA_mem.1 h; omega
theorem asked_mk {at_ : List Atm} {a : Atm} (h : a ∈ at_) (hn : at_.length ≤ 64) : zU 1 [] ⟨jU at_ a, -1, -2, -3⟩ = (0, 0, [⟨jU at_ a, -1, -2, -3⟩]) := by
 have h1 := findA_yes h
 have h2 := findA_lt h
 have e := mk_new (m := 1) (l := []) (x := ⟨jU at_ a, -1, -2, -3⟩) (by simp only; omega) (by rfl) (by simp) (by simp) (by simp)
 exact e
theorem askedT {at_ : List Atm} {a : Atm} (h : a ∈ at_) (hn : at_.length ≤ 64) : PtT (qaf at_ a) fun α => α (jU at_ a) := by
 have hg := askedG at_ a
 unfold qaf at hg ⊢
 rw [asked_mk h hn] at hg ⊢
 refine ⟨hg, ⟨hg.d, fun b hb j hj h0 => ?_⟩, ⟨by simp, fun h0 => absurd h0 (by simp)⟩, fun α hα => ?_⟩
 · rw [List.mem_singleton] at hb
   subst hb
   match j, hj with
   | 0, _ => show 0 ≤ -1 - (-1 : Int) ∧ -1 - (-1 : Int) ≤ 2; decide
   | 1, _ => show 0 ≤ -1 - (-2 : Int) ∧ -1 - (-2 : Int) ≤ 2; decide
   | 2, _ => show 0 ≤ -1 - (-3 : Int) ∧ -1 - (-3 : Int) ≤ 2; decide
 · refine .step (b := ⟨jU at_ a, -1, -2, -3⟩) rfl ?_
   have h3 := hα (jU at_ a)
   show Ev _ α ((⟨jU at_ a, -1, -2, -3⟩ : Br).to (α (jU at_ a))) _
   generalize α (jU at_ a) = j at *
   match j, h3 with
   | 0, _ => exact .leaf (by show (-1 : Int) < 0; decide)
   | 1, _ => exact .leaf (by show (-2 : Int) < 0; decide)
   | 2, _ => exact .leaf (by show (-3 : Int) < 0; decide)
theorem evR_map {β : Type} {α : Int → Nat} {g : β → Pt} {V : β → Int} : ∀ {xs : List β}, (∀ x ∈ xs, Ev (g x).l α (g x).r (-1 - V x)) → EvR α (xs.map g) ((xs.map g).map Pt.r) (xs.map fun x => -1 - V x)
 | [], _ => .nil
 | x :: xs, h => .cons (h x (by simp)) (evR_map fun y hy => h y (by simp [hy]))
theorem rowV_map {β : Type} {G : β → Int → Prop} {g : β → Pt} : ∀ {xs : List β}, (∀ x ∈ xs, PtV (G x) (g x) ∧ WyV (G x) (g x) (g x).r) → RowV (xs.map G) (xs.map g) ((xs.map g).map Pt.r)
 | [], _ => .nil
 | x :: xs, h => .cons (h x (by simp)).1 (h x (by simp)).2 (rowV_map fun y hy => h y (by simp [hy]))
theorem map_neg {β : Type} (V : β → Int) (xs : List β) : (xs.map fun x => -1 - V x).map (fun x => -1 - x) = xs.map V := by
 rw [List.map_map]
 refine List.map_congr_left fun x _ => ?_
 show -1 - (-1 - V x) = V x
 omega
theorem LV.all {G : Int → Prop} {Gs : List (Int → Prop)} (hG : ∀ H ∈ Gs, H = G) : ∀ {l : List Int}, LV Gs l → ∀ x ∈ l, G x := by
 intro l h
 induction h with
 | nil => intro x hx; cases hx
 | cons hx _ ih =>
   intro y hy
   rcases List.mem_cons.1 hy with rfl | hy
   · have e := hG _ List.mem_cons_self
     rw [e] at hx; exact hx
   · exact ih (fun H hH => hG H (by simp [hH])) y hy
theorem fsem_plain {fl : List Int → Int} (hfl : ∀ l : List Int, (∀ x ∈ l, G0 x) → G0 (fl l)) {Gs : List (Int → Prop)} (hG : ∀ H ∈ Gs, H = G0) : FSem Gs (jV fl) (fun _ => True) (fun _ _ => True) (fun _ i => G0 i) (fun _ l i => i = fl l) where
 now := fun s l _ hl => ⟨trivial, trivial, (hfl l (LV.all hG hl)).1, hfl l (LV.all hG hl), rfl⟩
 upM := fun _ _ _ _ h _ => h
 upL := fun _ _ _ h _ => h
 refl := fun _ => trivial
 trans := fun _ _ _ _ _ => trivial
theorem wovT {β : Type} {fl : List Int → Int} (hfl : ∀ l : List Int, (∀ x ∈ l, G0 x) → G0 (fl l)) (hvb : ∀ row : List Int, (∀ x ∈ row, VB x) → VB (-1 - fl (row.map fun x => -1 - x))) {g : β → Pt} {T : β → (Int → Nat) → Int} {xs : List β} (hn : xs.length ≤ 1000) (h : ∀ x ∈ xs, PtT (g x) (T x)) (h0 : (jg (xs.map g) fl).2.1 = 0) :
 PtT (wovenP (jg (xs.map g) fl)) fun α => fl (xs.map fun x => T x α) := by
 have hG : ∀ p ∈ xs.map g, PtG p := fun p hp => by obtain ⟨x, hx, rfl⟩ := List.mem_map.1 hp; exact (h x hx).g
 have hg := wovenG (by simpa using hn) hG hvb
 have hV := rowV_map (G := fun _ => G0) (g := g) (xs := xs) fun x hx => ⟨(h x hx).v, (h x hx).w⟩
 have S := woven_sem (fsem_plain hfl (Gs := xs.map fun _ => G0) fun H hH => by obtain ⟨_, _, rfl⟩ := List.mem_map.1 hH; rfl) hV (s := ()) trivial h0
 refine ⟨hg, S.v, S.w, fun α hα => ?_⟩
 obtain ⟨e, h1, h2⟩ := S.ev α hα _ (evR_map (V := fun x => T x α) fun x hx => (h x hx).ev α hα)
 rw [map_neg] at h2
 rw [← h2, show -1 - (-1 - e) = e by omega]
 exact h1
theorem foldl_min_pull : ∀ (l : List Int) (a b : Int), l.foldl min (min a b) = min a (l.foldl min b)
 | [], _, _ => rfl
 | x :: l, a, b => by rw [List.foldl_cons, List.foldl_cons, Int.min_assoc, foldl_min_pull l]
theorem foldl_max_pull : ∀ (l : List Int) (a b : Int), l.foldl max (max a b) = max a (l.foldl max b)
 | [], _, _ => rfl
 | x :: l, a, b => by rw [List.foldl_cons, List.foldl_cons, Int.max_assoc, foldl_max_pull l]
theorem least_fold (l : List Int) : wZ l = l.foldl min 2 := by
 cases l with
 | nil => rfl
 | cons x r =>
   show (r ++ [2]).foldl min x = r.foldl min (min 2 x)
   rw [List.foldl_append, foldl_min_pull]
   show min (r.foldl min x) 2 = _
   rw [Int.min_comm]
theorem great_fold (l : List Int) : greatL l = l.foldl max 0 := by
 cases l with
 | nil => rfl
 | cons x r =>
   show (r ++ [0]).foldl max x = r.foldl max (max 0 x)
   rw [List.foldl_append, foldl_max_pull]
   show max (r.foldl max x) 0 = _
   rw [Int.max_comm]
theorem least_nn (l : List Int) (h : ∀ x ∈ l, G0 x) : G0 (wZ l) := by
 rw [least_fold]
 rcases qas (f := min) (fun a b => by omega) l 2 with e | e
 · rw [e]; exact ⟨by decide, by decide⟩
 · exact h _ e
theorem great_nn (l : List Int) (h : ∀ x ∈ l, G0 x) : G0 (greatL l) := by
 rw [great_fold]
 rcases qas (f := max) (fun a b => by omega) l 0 with e | e
 · rw [e]; exact ⟨by decide, by decide⟩
 · exact h _ e
theorem seqPt_no {β : Type} {g : β → Pt × Int} : ∀ {l : List β}, (jM g l).2 = none → ∀ x ∈ l, (g x).2 = 0
 | [], _, x, hx => nomatch hx
 | y :: l, h, x, hx => by
   rw [jM] at h
   by_cases hy : (g y).2 ≠ 0
   · rw [if_pos hy] at h; cases h
   · rw [if_neg hy] at h
     rcases List.mem_cons.1 hx with rfl | hx
     · omega
     · exact seqPt_no h x hx
theorem seqPt_some {β : Type} {g : β → Pt × Int} : ∀ {l : List β} {pe : Pt × Int}, (jM g l).2 = some pe → pe.2 ≠ 0
 | [], _, h => nomatch h
 | y :: l, pe, h => by
   rw [jM] at h
   by_cases hy : (g y).2 ≠ 0
   · rw [if_pos hy] at h; cases h; exact hy
   · rw [if_neg hy] at h; exact seqPt_some h
theorem wvSeq_ok {β : Type} {fl : List Int → Int} {g : β → Pt × Int} {l : List β} (h : (wvSeq fl (jM g l)).2 = 0) : (∀ x ∈ l, (g x).2 = 0) ∧ wvSeq fl (jM g l) = wvP (jg (l.map fun x => (g x).1) fl) := by
 cases e : (jM g l).2 with
 | some pe => unfold wvSeq at h; rw [e] at h; exact absurd h (seqPt_some e)
 | none =>
   have h1 := seqPt_no e
   refine ⟨h1, ?_⟩
   rw [seqPt_ok h1]; rfl
def allV (at_ : List Atm) (α : Int → Nat) (y : List Mat) : Int := y.foldl (fun o m => min o (α (jU at_ ⟨m, []⟩) : Int)) 2
def anyV (at_ : List Atm) (α : Int → Nat) (x : List (List Mat)) : Int := x.foldl (fun o y => max o (allV at_ α y)) 0
def tarV (at_ : List Atm) (α : Int → Nat) (t : Tar) : Int := t.foldl (fun o x => min o (anyV at_ α x)) 2
theorem fold_map {β : Type} (op : Int → Int → Int) (V : β → Int) (l : List β) (a : Int) : (l.map V).foldl op a = l.foldl (fun o x => op o (V x)) a := List.foldl_map ..
theorem PtT.cong {p : Pt} {T T' : (Int → Nat) → Int} (h : PtT p T) (e : ∀ α, T α = T' α) : PtT p T' := by
 have : T = T' := funext e
 rw [← this]; exact h
section
variable {at_ : List Atm} (hn : at_.length ≤ 64)
include hn
theorem allT_ok {y : List Mat} (hl : y.length ≤ 1000) (hm : ∀ a ∈ allA y, a ∈ at_) (h0 : (wF at_ y).2 = 0) : PtT (wF at_ y).1 fun α => allV at_ α y :=
 (wovT least_nn (fun row hr => vb_least hr) hl (fun m hm' => askedT (hm _ (List.mem_map.2 ⟨m, hm', rfl⟩)) hn) h0).cong fun α => by rw [least_fold, fold_map]; rfl
theorem anyT_ok {x : List (List Mat)} (hl : x.length ≤ 1000 ∧ ∀ y ∈ x, y.length ≤ 1000) (hm : ∀ a ∈ anyA x, a ∈ at_) (h0 : (ju at_ x).2 = 0) : PtT (ju at_ x).1 fun α => anyV at_ α x := by
 obtain ⟨h1, h2⟩ := wvSeq_ok h0
 unfold ju at h0 ⊢
 rw [h2] at h0 ⊢
 refine (wovT great_nn (fun row hr => vb_great hr) hl.1 (fun y hy => allT_ok hn (hl.2 y hy) (fun a ha => hm a (List.mem_flatMap.2 ⟨y, hy, ha⟩)) (h1 y hy)) h0).cong fun α => ?_
 rw [great_fold, fold_map]; rfl
theorem tarT_ok {t : Tar} (hl : TarK t) (hm : ∀ a ∈ tarA t, a ∈ at_) (h0 : (zP at_ t).2 = 0) : PtT (zP at_ t).1 fun α => tarV at_ α t := by
 obtain ⟨h1, h2⟩ := wvSeq_ok h0
 unfold zP at h0 ⊢
 rw [h2] at h0 ⊢
 refine (wovT least_nn (fun row hr => vb_least hr) hl.1 (fun x hx => anyT_ok hn (hl.2 x hx) (fun a ha => hm a (List.mem_flatMap.2 ⟨x, hx, ha⟩)) (h1 x hx)) h0).cong fun α => ?_
 rw [least_fold, fold_map]; rfl
end
def Ext (E E' : List Rs) : Prop := ∃ y, E' = E ++ y
theorem Ext.refl (E : List Rs) : Ext E E := ⟨[], by simp⟩
theorem Ext.trans {a b c : List Rs} (h : Ext a b) (k : Ext b c) : Ext a c := by
 obtain ⟨y, rfl⟩ := h
 obtain ⟨z, rfl⟩ := k
 exact ⟨y ++ z, by rw [List.append_assoc]⟩
theorem Ext.get {E E' : List Rs} (h : Ext E E') {i : Nat} {x : Rs} (hx : E[i]? = some x) : E'[i]? = some x := by
 obtain ⟨y, rfl⟩ := h
 obtain ⟨hi, _⟩ := List.getElem?_eq_some_iff.1 hx
 rw [List.getElem?_append_left hi]; exact hx
def GE (n : Nat) (E : List Rs) (i : Int) : Prop := 0 ≤ i ∧ ∃ x, E[i.toNat]? = some x ∧ x.obls.length ≤ n
theorem GE.up {n : Nat} {E E' : List Rs} {i : Int} (h : GE n E i) (hx : Ext E E') : GE n E' i := by
 obtain ⟨h0, x, h1, h2⟩ := h
 exact ⟨h0, x, hx.get h1, h2⟩
theorem GE.lt {n : Nat} {E : List Rs} {i : Int} (h : GE n E i) : i < E.length := by
 obtain ⟨h0, x, h1, _⟩ := h
 obtain ⟨hi, _⟩ := List.getElem?_eq_some_iff.1 h1
 omega
structure PtS (E : List Rs) (n : Nat) (p : Pt) (R : (Int → Nat) → Rs) : Prop where
 v : PtV (GE n E) p
 w : WyV (GE n E) p p.r
 few : p.l.length ≤ 2000
 ev : ∀ α : Int → Nat, (∀ a, α a < 3) → ∃ i : Int, Ev p.l α p.r (-1 - i) ∧ 0 ≤ i ∧ E[i.toNat]? = some (R α)
theorem PtS.up {E E' : List Rs} {n : Nat} {p : Pt} {R : (Int → Nat) → Rs} (h : PtS E n p R) (hx : Ext E E') : PtS E' n p R :=
 ⟨h.v.mono fun i hi => hi.up hx, h.w.mono fun i hi => hi.up hx, h.few, fun α hα => by obtain ⟨i, h1, h2, h3⟩ := h.ev α hα; exact ⟨i, h1, h2, hx.get h3⟩⟩
theorem PtS.g {E : List Rs} {n : Nat} {p : Pt} {R : (Int → Nat) → Rs} (h : PtS E n p R) (hE : E.length ≤ 90000000) : PtG p := by
 refine ⟨h.v.1, h.few, ?_⟩
 have h1 := h.w.1
 have h2 := h.few
 by_cases h0 : p.r < 0
 · have h3 := (h.w.2 h0).lt
   exact ⟨by omega, by omega⟩
 · exact ⟨by omega, by omega⟩
theorem endR_GE {n : Nat} (E : List Rs) {x : Rs} (hx : x.obls.length ≤ n) : GE n (endR E x).2 (endR E x).1 := ⟨endR_ge E x, x, endR_at E x, hx⟩
theorem fsem_rul (r : Rul) (hr : r.obls.length ≤ 1000000) (Gs : List (Int → Prop)) : FSem Gs (rulF r) EK Ext (GE r.obls.length) (fun E l i => 0 ≤ i ∧ E[i.toNat]? = some (zE r ((l ++ [2]).getD 0 0) ((l ++ [2]).getD 1 0))) where
 now := fun E l hE _ => ⟨endR_ek hE (effectK r hr _ _), endR_ext E _, endR_ge E _, endR_GE E (effectS_len r _ _), endR_ge E _, endR_at E _⟩
 upM := fun _ _ _ _ h hx => ⟨h.1, hx.get h.2⟩
 upL := fun _ _ _ h hx => h.up hx
 refl := Ext.refl
 trans := fun _ _ _ h k => h.trans k
def rulPs (at_ : List Atm) (r : Rul) : List Pt := (zP at_ r.target).1 :: (if r.cond = [] then [] else [qaf at_ ⟨zeroM, r.cond⟩])
def wvE (r : Int × Int × Wv (List Rs)) : (Pt × Int) × List Rs := ((wovenQ r, r.2.1), r.2.2.st)
def qaH (at_ : List Atm) (E : List Rs) (r : Rul) : (Pt × Int) × List Rs := if (zP at_ r.target).2 ≠ 0 then (zP at_ r.target, E) else wvE (jq (rulPs at_ r) (rulF r) E)
def cndV (at_ : List Atm) (α : Int → Nat) (c : List Nod) : Int := if c = [] then 2 else α (jU at_ ⟨zeroM, c⟩)
def rulV (at_ : List Atm) (α : Int → Nat) (r : Rul) : Rs := zE r (tarV at_ α r.target) (cndV at_ α r.cond)
theorem wovenB_len {Gs : List (Int → Prop)} {I : List Rs → Prop} {f : List Rs → List Int → Int × List Rs} (hf : ∀ E l, I E → LV Gs l → I (f E l).2 ∧ (f E l).2.length ≤ E.length + 1) {ps : List Pt} {E : List Rs} (hp : PsOk ps (ps.map Pt.r)) (hV : RowV Gs ps (ps.map Pt.r)) (hI : I E) : (jq ps f E).2.2.st.length ≤ E.length + 6001 ∧ (jq ps f E).2.2.d.length ≤ 2000 := by
 have h1 := way_I hf 66 ⟨[], [], 0, E⟩ _ hV hI
 have h2 := wV hV.wf (f := f) 66 ⟨[], [], 0, E⟩ _ hp (row0 hV.wf) (Nat.zero_le _) (by show (0 : Int) ≤ 6000; omega)
 have h3 := h1.len
 have h4 := h2.hi
 have h5 := h2.d
 unfold jq
 simp only at h3 h4 h5 ⊢
 exact ⟨by omega, h5⟩
theorem rulT_ok {at_ : List Atm} (hn : at_.length ≤ 64) {r : Rul} (ht : TarK r.target) (hm : ∀ a ∈ rulA r, a ∈ at_) (h0 : (zP at_ r.target).2 = 0) : PtT (zP at_ r.target).1 (fun α => tarV at_ α r.target) ∧ (r.cond ≠ [] → PtT (qaf at_ ⟨zeroM, r.cond⟩) fun α => cndV at_ α r.cond) := by
 refine ⟨tarT_ok hn ht (fun a ha => hm a (List.mem_append_left _ ha)) h0, fun hc => ?_⟩
 refine (askedT (hm _ (List.mem_append_right _ (by unfold condA; rw [if_neg hc]; simp))) hn).cong fun α => ?_
 unfold cndV; rw [if_neg hc]
structure RulOk (at_ : List Atm) (r : Rul) : Prop where
 t : TarK r.target
 o : r.obls.length ≤ 1000000
 a : ∀ a ∈ rulA r, a ∈ at_
 c : r.cond.length ≤ 1000000
theorem rulPs_ok {at_ : List Atm} (hn : at_.length ≤ 64) {r : Rul} (hr : RulOk at_ r) (h0 : (zP at_ r.target).2 = 0) : ∃ Gs : List (Int → Prop), (Gs.length = 1 ∨ Gs.length = 2) ∧ RowV Gs (rulPs at_ r) ((rulPs at_ r).map Pt.r) ∧ PsOk (rulPs at_ r) ((rulPs at_ r).map Pt.r) := by
 obtain ⟨h1, h2⟩ := rulT_ok hn hr.t hr.a h0
 unfold rulPs
 by_cases hc : r.cond = []
 · rw [if_pos hc]
   exact ⟨[G0], .inl rfl, .cons h1.v h1.w .nil, psOk_of (by simp) fun p hp => by rw [List.mem_singleton.1 hp]; exact h1.g⟩
 · rw [if_neg hc]
   refine ⟨[G0, G0], .inr rfl, .cons h1.v h1.w (.cons (h2 hc).v (h2 hc).w .nil), psOk_of (by simp) fun p hp => ?_⟩
   rcases List.mem_cons.1 hp with rfl | hp
   · exact h1.g
   · rw [List.mem_singleton.1 hp]; exact (h2 hc).g
structure ItS (E : List Rs) (w n : Nat) (p : Pt) (E' : List Rs) (R : (Int → Nat) → Rs) : Prop where
 ek : EK E'
 ext : Ext E E'
 len : E'.length ≤ E.length + 6001 * w
 pt : PtS E' n p R
theorem rul_sem {at_ : List Atm} (hn : at_.length ≤ 64) {r : Rul} (hr : RulOk at_ r) {E : List Rs} (hE : EK E) (h0 : (qaH at_ E r).1.2 = 0) : ItS E 1 r.obls.length (qaH at_ E r).1.1 (qaH at_ E r).2 fun α => rulV at_ α r := by
 unfold qaH at h0 ⊢
 by_cases ht : (zP at_ r.target).2 ≠ 0
 · rw [if_pos ht] at h0; exact absurd h0 ht
 rw [if_neg ht] at h0 ⊢
 replace ht : (zP at_ r.target).2 = 0 := by omega
 obtain ⟨Gs, g1, g2, g3⟩ := rulPs_ok hn hr ht
 have hl := wovenB_len (I := EK) (f := rulF r) (fun E l hI _ => ⟨endR_ek hI (effectK r hr.o _ _), endR_len E _⟩) g3 g2 hE
 have S := woven_sem (fsem_rul r hr.o Gs) g2 hE h0
 refine ⟨S.st, S.le, by have := hl.1; show (jq (rulPs at_ r) (rulF r) E).2.2.st.length ≤ _; omega, S.v, S.w, hl.2, fun α hα => ?_⟩
 obtain ⟨h1, h2⟩ := rulT_ok hn hr.t hr.a ht
 have hev : ∃ es, EvR α (rulPs at_ r) ((rulPs at_ r).map Pt.r) es ∧ zE r ((es.map (fun x => -1 - x) ++ [2]).getD 0 0) ((es.map (fun x => -1 - x) ++ [2]).getD 1 0) = rulV at_ α r := by
  unfold rulPs
  by_cases hc : r.cond = []
  · rw [if_pos hc]
    refine ⟨[-1 - tarV at_ α r.target], .cons (h1.ev α hα) .nil, ?_⟩
    show zE r (-1 - (-1 - tarV at_ α r.target)) 2 = _
    unfold rulV cndV
    rw [if_pos hc, show -1 - (-1 - tarV at_ α r.target) = tarV at_ α r.target by omega]
  · rw [if_neg hc]
    refine ⟨[-1 - tarV at_ α r.target, -1 - cndV at_ α r.cond], .cons (h1.ev α hα) (.cons ((h2 hc).ev α hα) .nil), ?_⟩
    show zE r (-1 - (-1 - tarV at_ α r.target)) (-1 - (-1 - cndV at_ α r.cond)) = _
    unfold rulV
    rw [show -1 - (-1 - tarV at_ α r.target) = tarV at_ α r.target by omega, show -1 - (-1 - cndV at_ α r.cond) = cndV at_ α r.cond by omega]
 obtain ⟨es, e1, e2⟩ := hev
 obtain ⟨e, k1, k2, k3⟩ := S.ev α hα es e1
 rw [e2] at k3
 refine ⟨-1 - e, ?_, k2, k3⟩
 rw [show -1 - (-1 - e) = e by omega]; exact k1
structure PR where
 z : Bool
 p : Pt
 e : Int
 E : List Rs
def seqE {β : Type} (g : List Rs → β → PR) : List Rs → List β → List Pt × Int × List Rs
 | E, [] => ([], 0, E)
 | E, x :: l => if (g E x).e ≠ 0 then ([], (g E x).e, (g E x).E) else ((g E x).p :: (seqE g (g E x).E l).1, (seqE g (g E x).E l).2.1, (seqE g (g E x).E l).2.2)
theorem seqE_app {β : Type} {g : List Rs → β → PR} : ∀ {a b : List β} {E : List Rs}, (seqE g E a).2.1 = 0 → seqE g E (a ++ b) = ((seqE g E a).1 ++ (seqE g (seqE g E a).2.2 b).1, (seqE g (seqE g E a).2.2 b).2)
 | [], b, E, _ => rfl
 | x :: a, b, E, h => by
   rw [seqE] at h
   rw [List.cons_append, seqE, seqE]
   by_cases hx : (g E x).e ≠ 0
   · rw [if_pos hx] at h; exact absurd h hx
   · rw [if_neg hx] at h ⊢
     rw [if_neg hx, seqE_app h]; rfl
def zeroPt : Pt := ⟨0, [], 0⟩
def jD (at_ : List Atm) (pk : List Rs → Pol → PR) (E : List Rs) : Rul ⊕ Pol → PR
 | .inl r => ⟨false, (qaH at_ E r).1.1, (qaH at_ E r).1.2, (qaH at_ E r).2⟩
 | .inr k => pk E k
def ze (p : Pol) : List (Rul ⊕ Pol) := p.rules.map .inl ++ p.kids.map .inr
def polW (p : Pol) (t : Pt) (q : List Pt × Int × List Rs) : Int × Int × Wv (List Rs) := jq (t :: q.1) (polF p) q.2.2
def polPt (at_ : List Atm) : Nat → List Rs → Pol → PR
 | 0, E, _ => ⟨true, zeroPt, 99, E⟩
 | n + 1, E, p => if (zP at_ p.target).2 ≠ 0 then ⟨true, zeroPt, (zP at_ p.target).2, E⟩
   else if (seqE (jD at_ (polPt at_ n)) E (ze p)).2.1 ≠ 0 then ⟨true, zeroPt, (seqE (jD at_ (polPt at_ n)) E (ze p)).2.1, (seqE (jD at_ (polPt at_ n)) E (ze p)).2.2⟩
   else ⟨false, wovenQ (polW p (zP at_ p.target).1 (seqE (jD at_ (polPt at_ n)) E (ze p))), (polW p (zP at_ p.target).1 (seqE (jD at_ (polPt at_ n)) E (ze p))).2.1, (polW p (zP at_ p.target).1 (seqE (jD at_ (polPt at_ n)) E (ze p))).2.2.st⟩
def polV (at_ : List Atm) (α : Int → Nat) : Nat → Pol → Rs
 | 0, _ => noRs
 | n + 1, p => zO p (tarV at_ α p.target) (p.rules.map (rulV at_ α) ++ p.kids.map (polV at_ α n))
inductive PtL {β : Type} (E : List Rs) (sz : β → Nat) (R : β → (Int → Nat) → Rs) : List β → List Pt → Prop
 | nil : PtL E sz R [] []
 | cons {x : β} {l : List β} {p : Pt} {ps : List Pt} : PtS E (sz x) p (R x) → PtL E sz R l ps → PtL E sz R (x :: l) (p :: ps)
theorem PtL.up {β : Type} {E E' : List Rs} {sz : β → Nat} {R : β → (Int → Nat) → Rs} {l : List β} {ps : List Pt} (h : PtL E sz R l ps) (hx : Ext E E') : PtL E' sz R l ps := by
 induction h with
 | nil => exact .nil
 | cons h _ ih => exact .cons (h.up hx) ih
theorem seqE_sem {β : Type} {g : List Rs → β → PR} {sz wn : β → Nat} {R : β → (Int → Nat) → Rs} : ∀ {l : List β} {E : List Rs}, EK E → E.length + 6001 * qB wn l ≤ 70000000 → (∀ x ∈ l, ∀ E, EK E → E.length + 6001 * wn x ≤ 70000000 → (g E x).e = 0 → ItS E (wn x) (sz x) (g E x).p (g E x).E (R x)) → (seqE g E l).2.1 = 0 →
 EK (seqE g E l).2.2 ∧ Ext E (seqE g E l).2.2 ∧ (seqE g E l).2.2.length ≤ E.length + 6001 * qB wn l ∧ PtL (seqE g E l).2.2 sz R l (seqE g E l).1
 | [], E, hE, _, _, _ => ⟨hE, .refl E, Nat.le_refl _, .nil⟩
 | x :: l, E, hE, hl, hg, h0 => by
   have hs : qB wn (x :: l) = wn x + qB wn l := by simp [qB]
   rw [seqE] at h0 ⊢
   by_cases hx : (g E x).e ≠ 0
   · rw [if_pos hx] at h0; exact absurd h0 hx
   · rw [if_neg hx] at h0 ⊢
     have I := hg x (by simp) E hE (by rw [hs] at hl; omega) (by omega)
     have h1 := I.len
     obtain ⟨k1, k2, k3, k4⟩ := seqE_sem (l := l) (E := (g E x).E) I.ek (by rw [hs] at hl; omega) (fun y hy => hg y (by simp [hy])) h0
     exact ⟨k1, I.ext.trans k2, by show (seqE g (g E x).E l).2.2.length ≤ _; rw [hs]; omega, .cons (I.pt.up k2) k4⟩
def isz : Rul ⊕ Pol → Nat
 | .inl r => r.obls.length
 | .inr k => k.sz
def Pol.wn : Nat → Pol → Nat
 | 0, _ => 0
 | n + 1, p => p.rules.length + qB (Pol.wn n) p.kids + 1
def iwn (n : Nat) : Rul ⊕ Pol → Nat
 | .inl _ => 1
 | .inr k => k.wn n
def itemV (at_ : List Atm) (n : Nat) (s : Rul ⊕ Pol) (α : Int → Nat) : Rs := match s with
 | .inl r => rulV at_ α r
 | .inr k => polV at_ α n k
theorem sum_items (p : Pol) (f : Rul ⊕ Pol → Nat) : qB f (ze p) = qB (fun r => f (.inl r)) p.rules + qB (fun k => f (.inr k)) p.kids := by
 unfold ze qB
 rw [List.map_append, List.sum_append, List.map_map, List.map_map]; rfl
theorem isz_sum (p : Pol) : qB isz (ze p) + p.obls.length ≤ p.sz := by
 rw [sum_items, Pol.sz_eq]
 have h1 : qB (fun r => isz (.inl r)) p.rules ≤ qB rusz p.rules := sumBy_map_le (fun r => by show r.obls.length ≤ rusz r; unfold rusz osz; omega) p.rules
 have h2 : p.obls.length ≤ osz p.obls := by unfold osz; omega
 have h3 : qB (fun k => isz (.inr k)) p.kids = qB Pol.sz p.kids := rfl
 omega
theorem wn_sum (n : Nat) (p : Pol) : p.wn (n + 1) = qB (iwn n) (ze p) + 1 := by
 rw [sum_items]
 have h : qB (fun r : Rul => iwn n (.inl r)) p.rules = p.rules.length := sumBy_one p.rules
 show p.rules.length + qB (Pol.wn n) p.kids + 1 = _
 rw [h]; rfl
theorem wn_sz : ∀ (n : Nat) (p : Pol), p.wn n ≤ p.sz
 | 0, p => Nat.zero_le _
 | n + 1, p => by
   have h := sumBy_map_le (wn_sz n) p.kids
   have h2 := Pol.sz_eq p
   show p.rules.length + qB (Pol.wn n) p.kids + 1 ≤ _
   omega
theorem resE_ext {E E' : List Rs} (h : Ext E E') {l : List Int} (hl : ∀ x ∈ l, 0 ≤ x ∧ x < E.length) : resE E' l = resE E l := by
 unfold resE
 refine List.map_congr_left fun x hx => ?_
 have := hl x hx
 have hk : x.toNat < E.length := by omega
 rw [List.getD_eq_getElem?_getD, List.getD_eq_getElem?_getD, h.get (List.getElem?_eq_getElem hk), List.getElem?_eq_getElem hk]
theorem LV.ends {β : Type} {E : List Rs} {sz : β → Nat} : ∀ {l : List β} {is : List Int}, LV (l.map fun s => GE (sz s) E) is → (∀ x ∈ is, 0 ≤ x ∧ x < E.length) ∧ oblN (resE E is) ≤ qB sz l
 | [], is, h => by cases h; exact ⟨(fun x hx => nomatch hx), Nat.zero_le _⟩
 | y :: l, is, h => by
   cases h with
   | @cons _ _ x is hx h =>
     obtain ⟨h1, h2⟩ := LV.ends h
     have hlt := hx.lt
     obtain ⟨h0, r, h3, h4⟩ := hx
     refine ⟨fun z hz => ?_, ?_⟩
     · rcases List.mem_cons.1 hz with rfl | hz
       · exact ⟨h0, hlt⟩
       · exact h1 z hz
     · have e : resE E (x :: is) = r :: resE E is := by
        unfold resE
        rw [List.map_cons, List.getD_eq_getElem?_getD, h3]; rfl
       rw [e]
       have e1 : oblN (r :: resE E is) = r.obls.length + oblN (resE E is) := by simp [oblN, qB]
       have e2 : qB sz (y :: l) = sz y + qB sz l := by simp [qB]
       omega
def polM (p : Pol) (E0 E : List Rs) (l : List Int) (i : Int) : Prop := 0 ≤ i ∧ E[i.toNat]? = some (zO p (l.getD 0 0) (resE E0 l.tail))
def polI (E0 E : List Rs) : Prop := EK E ∧ Ext E0 E
def polG (p : Pol) (E0 : List Rs) : List (Int → Prop) := G0 :: (ze p).map fun s => GE (isz s) E0
theorem polG_l {p : Pol} (hp : p.sz ≤ 100000) {E0 E : List Rs} (hE : EK E0) (hx : Ext E0 E) {l : List Int} (h : LV (polG p E0) l) : ∃ a is, l = a :: is ∧ 0 ≤ a ∧ (∀ x ∈ is, 0 ≤ x ∧ x < E.length) ∧ resE E is = resE E0 is ∧ oblN (resE E is) ≤ 500000 ∧ RsK (zO p a (resE E is)) ∧ (zO p a (resE E is)).obls.length ≤ p.sz := by
 cases h with
 | @cons _ _ a is ha h =>
   obtain ⟨h1, h2⟩ := LV.ends h
   have h3 := isz_sum p
   have hr := resE_ext hx h1
   have hm : ∀ x ∈ resE E0 is, x.m ∈ mks := fun x hx => by
    obtain ⟨i, hi, rfl⟩ := List.mem_map.1 hx
    have := h1 i hi
    have hk : i.toNat < E0.length := by omega
    rw [List.getD_eq_getElem?_getD, List.getElem?_eq_getElem hk]
    exact (hE _ (List.getElem_mem hk)).1
   have hj := joinR_len p a (resE E0 is)
   refine ⟨a, is, rfl, ha.1, fun x hx' => ?_, hr, by rw [hr]; omega, by rw [hr]; exact ⟨joinR_mem hm, by omega⟩, by rw [hr]; omega⟩
   obtain ⟨y, rfl⟩ := hx
   have := h1 x hx'
   rw [List.length_append]; omega
theorem fsem_pol {p : Pol} (hp : p.sz ≤ 100000) {E0 : List Rs} (hE : EK E0) : FSem (polG p E0) (polF p) (polI E0) Ext (GE p.sz) (polM p E0) where
 now := fun E l hI hl => by
  obtain ⟨a, is, rfl, h1, h2, h3, h4, h5, h6⟩ := polG_l hp hE hI.2 hl
  show polI E0 (endR E (zO p a (resE E is))).2 ∧ Ext E (endR E (zO p a (resE E is))).2 ∧ 0 ≤ (endR E (zO p a (resE E is))).1 ∧ GE p.sz (endR E (zO p a (resE E is))).2 (endR E (zO p a (resE E is))).1 ∧ 0 ≤ (endR E (zO p a (resE E is))).1 ∧ (endR E (zO p a (resE E is))).2[(endR E (zO p a (resE E is))).1.toNat]? = some (zO p a (resE E0 is))
  rw [← h3]
  exact ⟨⟨endR_ek hI.1 h5, hI.2.trans (endR_ext _ _)⟩, endR_ext _ _, endR_ge _ _, endR_GE _ h6, endR_ge _ _, endR_at _ _⟩
 upM := fun _ _ _ _ h hx => ⟨h.1, hx.get h.2⟩
 upL := fun _ _ _ h hx => h.up hx
 refl := Ext.refl
 trans := fun _ _ _ h k => h.trans k
theorem PtL.row {β : Type} {E : List Rs} {sz : β → Nat} {R : β → (Int → Nat) → Rs} {l : List β} {ps : List Pt} (h : PtL E sz R l ps) : RowV (l.map fun s => GE (sz s) E) ps (ps.map Pt.r) := by
 induction h with
 | nil => exact .nil
 | cons h _ ih => exact .cons h.v h.w ih
theorem PtL.ev {β : Type} {E : List Rs} {sz : β → Nat} {R : β → (Int → Nat) → Rs} {l : List β} {ps : List Pt} (h : PtL E sz R l ps) {α : Int → Nat} (hα : ∀ a, α a < 3) : ∃ is : List Int, EvR α ps (ps.map Pt.r) (is.map fun i => -1 - i) ∧ resE E is = l.map fun x => R x α := by
 induction h with
 | nil => exact ⟨[], .nil, rfl⟩
 | cons h _ ih =>
   obtain ⟨is, h1, h2⟩ := ih
   obtain ⟨i, k1, k2, k3⟩ := h.ev α hα
   refine ⟨i :: is, .cons k1 h1, ?_⟩
   rw [List.map_cons, ← h2]
   unfold resE
   rw [List.map_cons, List.getD_eq_getElem?_getD, k3]; rfl
theorem PtL.len {β : Type} {E : List Rs} {sz : β → Nat} {R : β → (Int → Nat) → Rs} {l : List β} {ps : List Pt} (h : PtL E sz R l ps) : ps.length = l.length := by
 induction h with
 | nil => rfl
 | cons _ _ ih => rw [List.length_cons, List.length_cons, ih]
theorem PtL.g {β : Type} {E : List Rs} {sz : β → Nat} {R : β → (Int → Nat) → Rs} {l : List β} {ps : List Pt} (h : PtL E sz R l ps) (hE : E.length ≤ 90000000) : ∀ p ∈ ps, PtG p := by
 induction h with
 | nil => intro p hp; cases hp
 | cons h _ ih =>
   intro q hq
   rcases List.mem_cons.1 hq with rfl | hq
   · exact h.g hE
   · exact ih q hq
def PolK (at_ : List Atm) : Nat → Pol → Prop
 | 0, _ => False
 | n + 1, p => p.sz ≤ 10000 ∧ TarK p.target ∧ (∀ a ∈ tarA p.target, a ∈ at_) ∧ (ze p).length ≤ 900 ∧ (∀ r ∈ p.rules, RulOk at_ r) ∧ ∀ k ∈ p.kids, PolK at_ n k
theorem polPs_ok {at_ : List Atm} {p : Pol} {t : Pt} {T : (Int → Nat) → Int} (ht : PtT t T) {E : List Rs} {ps : List Pt} {R : Rul ⊕ Pol → (Int → Nat) → Rs} (hl : PtL E isz R (ze p) ps) (hE : E.length ≤ 70000000) (hn : (ze p).length ≤ 900) : RowV (polG p E) (t :: ps) ((t :: ps).map Pt.r) ∧ PsOk (t :: ps) ((t :: ps).map Pt.r) := by
 refine ⟨.cons ht.v ht.w hl.row, psOk_of (by rw [List.length_cons, hl.len]; omega) fun q hq => ?_⟩
 rcases List.mem_cons.1 hq with rfl | hq
 · exact ht.g
 · exact hl.g (by omega) q hq
theorem pol_sem {at_ : List Atm} (hn : at_.length ≤ 64) : ∀ (n : Nat) {p : Pol}, PolK at_ n p → ∀ {E : List Rs}, EK E → E.length + 6001 * p.wn n ≤ 70000000 → (polPt at_ n E p).e = 0 → ItS E (p.wn n) p.sz (polPt at_ n E p).p (polPt at_ n E p).E fun α => polV at_ α n p
 | 0, p, h, E, _, _, _ => h.elim
 | n + 1, p, h, E, hE, hl, h0 => by
   obtain ⟨hsz, h1, h2, h3, h4, h5⟩ := h
   rw [polPt] at h0 ⊢
   by_cases ht : (zP at_ p.target).2 ≠ 0
   · rw [if_pos ht] at h0; exact absurd h0 ht
   rw [if_neg ht] at h0 ⊢
   replace ht : (zP at_ p.target).2 = 0 := by omega
   have hT := tarT_ok hn h1 h2 ht
   by_cases hq : (seqE (jD at_ (polPt at_ n)) E (ze p)).2.1 ≠ 0
   · rw [if_pos hq] at h0; exact absurd h0 hq
   rw [if_neg hq] at h0 ⊢
   replace hq : (seqE (jD at_ (polPt at_ n)) E (ze p)).2.1 = 0 := by omega
   rw [wn_sum] at hl ⊢
   obtain ⟨k1, k2, k3, k4⟩ := seqE_sem (sz := isz) (wn := iwn n) (R := itemV at_ n) hE (by omega) (fun s hs E' hE' hl' he => by
    unfold ze at hs
    rcases List.mem_append.1 hs with hs | hs
    · obtain ⟨r, hr, rfl⟩ := List.mem_map.1 hs
      exact rul_sem hn (h4 r hr) hE' he
    · obtain ⟨k, hk, rfl⟩ := List.mem_map.1 hs
      exact pol_sem hn n (h5 k hk) hE' hl' he) hq
   generalize seqE (jD at_ (polPt at_ n)) E (ze p) = q at *
   obtain ⟨g1, g2⟩ := polPs_ok (at_ := at_) hT k4 (by omega) h3
   have hF := fsem_pol (p := p) (by omega) k1
   have hlen := wovenB_len (I := polI q.2.2) (f := polF p) (fun E' l hI hl => ⟨(hF.now E' l hI hl).1, endR_len _ _⟩) g2 g1 ⟨k1, .refl _⟩
   have S := woven_sem hF g1 ⟨k1, .refl _⟩ h0
   have hL : (jq ((zP at_ p.target).1 :: q.1) (polF p) q.2.2).2.2.st.length ≤ E.length + 6001 * (qB (iwn n) (ze p) + 1) := by
    refine Nat.le_trans hlen.1 ?_
    have e : 6001 * (qB (iwn n) (ze p) + 1) = 6001 * qB (iwn n) (ze p) + 6001 := Nat.mul_succ _ _
    rw [e, ← Nat.add_assoc]
    exact Nat.add_le_add_right k3 _
   refine ⟨S.st.1, k2.trans S.le, hL, S.v, S.w, hlen.2, fun α hα => ?_⟩
   obtain ⟨is, e1, e2⟩ := k4.ev hα
   obtain ⟨e, m1, m2, m3⟩ := S.ev α hα ((-1 - tarV at_ α p.target) :: is.map fun i => -1 - i) (.cons (hT.ev α hα) e1)
   refine ⟨-1 - e, by rw [show -1 - (-1 - e) = e by omega]; exact m1, m2, m3.trans ?_⟩
   have e3 : ((((-1 - tarV at_ α p.target) :: is.map fun i => -1 - i).map fun x => -1 - x)) = tarV at_ α p.target :: is := by
    rw [List.map_cons, List.map_map, show -1 - (-1 - tarV at_ α p.target) = tarV at_ α p.target by omega]
    congr 1
    refine (List.map_congr_left fun x _ => ?_).trans (List.map_id _)
    show -1 - (-1 - x) = x
    omega
   rw [e3]
   show some (zO p (tarV at_ α p.target) (resE q.2.2 is)) = some (zO p (tarV at_ α p.target) _)
   rw [e2]
   unfold ze
   rw [List.map_append, List.map_map, List.map_map]; rfl
set_option maxHeartbeats 4000000
theorem rul_fl (r : Rul) (hr : r.obls.length ≤ 1000000) (at_ : List Atm) {Gs : List (Int → Prop)} (hG : Gs.length = 1 ∨ Gs.length = 2) : FlB 64 (zy r) at_ Gs (rulF r) EK where
 call := fun E l hI hL hE _ => rule1_h r hr at_ E hI hE l (by rw [hL.len]; exact hG)
 keep := fun E l hI _ => ⟨endR_ek hI (effectK r hr _ _), endR_len E _, endR_ge E _, endR_le E _⟩
theorem rule_h (at_ : List Atm) (hat : AtOk at_) (r : Rul) (hr : RulOk at_ r) (E : List Rs) (hE : EK E) (hEl : E.length ≤ 80000000) : qJ Tryz.prog 38 [.ptr 1000000 0, .p (.agg (zy r))] (dgmO at_ 1000001 E) (.tup [.p (.agg (qaH at_ E r).1.1.pv), .p (pI (qaH at_ E r).1.2)]) (dgmO at_ 0 (qaH at_ E r).2) := by
 have HT := ctarget_h at_ hat E r.target hr.t
 have lc : (r.cond.map Nod.pv).length = r.cond.length := by simp
 have hps := rulPs_ok hat.few hr
 unfold qaH
 have e0 : rulPs at_ r = (zP at_ r.target).1 :: (if r.cond = [] then [] else [qaf at_ ⟨zeroM, r.cond⟩]) := rfl
 obtain ⟨ps, hps9⟩ : ∃ ps, ps = rulPs at_ r := ⟨_, rfl⟩
 rw [← hps9] at hps e0 ⊢
 generalize zP at_ r.target = T at *
 obtain ⟨tp, te⟩ := T
 simp only at HT hps e0 ⊢
 refine qz (T := TTab) qa Tryz.func38 (by kernel_rfl) rfl rfl rfl ?_
 refine uA ?_
 refine SW.wk (wk_frzB (k := 3) rfl rfl) ?_
 refine uR ?_
 refine uW [(1000000, 1000000), (1000001, 1000001)] HT ?_
 refine qb ?_
 refine uA ?_
 by_cases he : te = 0
 rotate_left
 · rw [if_pos he, show (te != 0) = true by simpa using he]
   refine uC (fun h6 => ?_) (fun h6 => ?_)
   · refine uA ?_
     refine uQ ?_
     exact ⟨Or.inr rfl, _, _, [(1000000, 1000000), (1000001, 0)], _, Wk.refl _, rfl, rfl, .refl _, rfl, rfl⟩
   · cases h6
 subst he
 rw [if_neg (by simp)]
 refine uC (fun h6 => ?_) (fun h6 => ?_)
 · cases h6
 refine qd ?_
 refine uA ?_
 refine uA ?_
 rw [lc]
 obtain ⟨Gs, g1, g2, g3⟩ := hps rfl
 have HW := wovenB_h (rul_fl r hr.o at_ g1) ps E g3 g2 hE hEl
 generalize jq ps (rulF r) E = q at *
 by_cases hc : r.cond = []
 · rw [if_pos hc] at e0
   subst e0
   rw [show decide ((r.cond.length : Int) > 0) = false by rw [hc]; rfl]
   refine uC (fun h7 => ?_) (fun h7 => ?_)
   · cases h7
   refine qd ?_
   refine SW.wk (zg (k := 21) rfl) ?_
   refine uR ?_
   refine uW [(2, 1000000), (1000000, 1000001), (1000001, 1000002)] HW ?_
   refine qb ?_
   refine uQ ?_
   exact ⟨Or.inr rfl, _, _, [(1000000, 1000000), (37000, 0)], _, Wk.refl _, rfl, rfl, .refl _, rfl, rfl⟩
 · rw [if_neg hc] at e0
   subst e0
   rw [show decide ((r.cond.length : Int) > 0) = true by have := List.length_pos_iff.2 hc; simp; omega]
   refine uC (fun h7 => ?_) (fun h7 => ?_)
   · refine uR ?_
     refine uW [(1000000, 1000000), (1000001, 1000001)] (asked_h at_ hat E ⟨zeroM, r.cond⟩ hr.c) ?_
     refine qy rfl (qg qa rfl rfl rfl rfl rfl rfl rfl rfl rfl rfl rfl rfl rfl rfl rfl rfl (by simp only [List.length_append, List.length_map, List.length_take, List.length_cons, List.length_nil]; unfold reachBytes; omega) (by simp only [List.length_append, List.length_map, List.length_take, List.length_cons, List.length_nil]; omega) ?_)
     refine uS ?_
     refine qb ?_
     refine SW.wk (zg (k := 33) rfl) ?_
     refine uR ?_
     refine uW [(2, 1000000), (1000000, 1000001), (1000001, 1000002)] HW ?_
     refine qb ?_
     refine uQ ?_
     exact ⟨Or.inr rfl, _, _, [(1000000, 1000000), (37000, 0)], _, Wk.refl _, rfl, rfl, .refl _, rfl, rfl⟩
   · cases h7
set_option maxHeartbeats 4000000
theorem seqE_step {β : Type} {g : List Rs → β → PR} {E : List Rs} {l : List β} {k : Nat} {x : β} (hx : l[k]? = some x) (h0 : (seqE g E (l.take k)).2.1 = 0) (he : (g (seqE g E (l.take k)).2.2 x).e = 0) : seqE g E (l.take (k + 1)) = ((seqE g E (l.take k)).1 ++ [(g (seqE g E (l.take k)).2.2 x).p], 0, (g (seqE g E (l.take k)).2.2 x).E) := by
 obtain ⟨hk, rfl⟩ := List.getElem?_eq_some_iff.1 hx
 rw [List.take_succ_eq_append_getElem hk, seqE_app h0]
 have e1 : seqE g (seqE g E (l.take k)).2.2 [l[k]] = ([(g (seqE g E (l.take k)).2.2 l[k]).p], 0, (g (seqE g E (l.take k)).2.2 l[k]).E) := by
  rw [seqE, if_neg (by rw [he]; simp)]; rfl
 rw [e1]
theorem seqE_err {β : Type} {g : List Rs → β → PR} {E : List Rs} {l : List β} {k : Nat} {x : β} (hx : l[k]? = some x) (h0 : (seqE g E (l.take k)).2.1 = 0) (he : (g (seqE g E (l.take k)).2.2 x).e ≠ 0) : (seqE g E l).2 = ((g (seqE g E (l.take k)).2.2 x).e, (g (seqE g E (l.take k)).2.2 x).E) := by
 obtain ⟨hk, rfl⟩ := List.getElem?_eq_some_iff.1 hx
 have e : l = l.take k ++ (l[k] :: l.drop (k + 1)) := by rw [← List.drop_eq_getElem_cons hk, List.take_append_drop]
 have e1 : seqE g E l = seqE g E (l.take k ++ (l[k] :: l.drop (k + 1))) := by rw [← e]
 rw [e1, seqE_app h0]
 show (seqE g (seqE g E (l.take k)).2.2 (l[k] :: l.drop (k + 1))).2 = _
 rw [seqE, if_pos he]
def prV (r : PR) : List PV := [bif r.z then .v (.pointer none) else dagP r.p.m r.p.l, bif r.z then pI 0 else pI r.p.r]
def PolHk (at_ : List Atm) (n : Nat) : Prop := ∀ (p : Pol), PolK at_ n p → ∀ E : List Rs, EK E → E.length + 6001 * p.wn n ≤ 70000000 → qJ Tryz.prog 21 [.ptr 1000000 0, .p (.agg (polP p))] (dgmO at_ 1000001 E) (.tup [.p (.agg (prV (polPt at_ n E p))), .p (pI (polPt at_ n E p).e)]) (dgmO at_ 0 (polPt at_ n E p).E)
theorem pol_fl (p : Pol) (hp : p.sz ≤ 10000) (hn : (ze p).length ≤ 900) (at_ : List Atm) {E0 : List Rs} (hE : EK E0) : FlB 40 (polP p) at_ (polG p E0) (polF p) (polI E0) where
 call := fun E l hI hL hEl hll => by
  obtain ⟨a, is, rfl, h1, h2, h3, h4, h5, h6⟩ := polG_l (by omega) hE hI.2 hL
  exact policy1_h p (by have := isz_sum p; omega) at_ E hI.1 hEl a is (by simp only [List.length_cons] at hll; omega) h2 h4
 keep := fun E l hI hL => ⟨((fsem_pol (by omega) hE).now E l hI hL).1, endR_len E _, endR_ge E _, endR_le E _⟩
structure AtK (at_ : List Atm) (n : Nat) (p : Pol) (E : List Rs) (s : Rul ⊕ Pol) (q : List Pt × Int × List Rs) : Prop where
 ek : EK q.2.2
 len : q.2.2.length + 6001 * iwn n s ≤ 70000000
theorem at_k {at_ : List Atm} (hn : at_.length ≤ 64) {n : Nat} {p : Pol} (h : PolK at_ (n + 1) p) {E : List Rs} (hE : EK E) (hl : E.length + 6001 * p.wn (n + 1) ≤ 70000000) {k : Nat} {s : Rul ⊕ Pol} (hs : (ze p)[k]? = some s) (h0 : (seqE (jD at_ (polPt at_ n)) E ((ze p).take k)).2.1 = 0) : AtK at_ n p E s (seqE (jD at_ (polPt at_ n)) E ((ze p).take k)) := by
 obtain ⟨hsz, h1, h2, h3, h4, h5⟩ := h
 rw [wn_sum] at hl
 obtain ⟨hk, rfl⟩ := List.getElem?_eq_some_iff.1 hs
 have hst := zk (f := iwn n) hk
 have htk := sumBy_take (iwn n) (ze p) (k + 1)
 obtain ⟨k1, k2, k3, k4⟩ := seqE_sem (sz := isz) (wn := iwn n) (R := itemV at_ n) (l := (ze p).take k) hE (by omega) (fun s hs E' hE' hl' he => by
  have hs := List.mem_of_mem_take hs
  unfold ze at hs
  rcases List.mem_append.1 hs with hs | hs
  · obtain ⟨r, hr, rfl⟩ := List.mem_map.1 hs
    exact rul_sem hn (h4 r hr) hE' he
  · obtain ⟨k, hk, rfl⟩ := List.mem_map.1 hs
    exact pol_sem hn n (h5 k hk) hE' hl' he) h0
 exact ⟨k1, by omega⟩
theorem seq_all {at_ : List Atm} (hn : at_.length ≤ 64) {n : Nat} {p : Pol} (h : PolK at_ (n + 1) p) {E : List Rs} (hE : EK E) (hl : E.length + 6001 * p.wn (n + 1) ≤ 70000000) (h0 : (seqE (jD at_ (polPt at_ n)) E (ze p)).2.1 = 0) : EK (seqE (jD at_ (polPt at_ n)) E (ze p)).2.2 ∧ (seqE (jD at_ (polPt at_ n)) E (ze p)).2.2.length ≤ 70000000 ∧ PtL (seqE (jD at_ (polPt at_ n)) E (ze p)).2.2 isz (itemV at_ n) (ze p) (seqE (jD at_ (polPt at_ n)) E (ze p)).1 := by
 obtain ⟨hsz, h1, h2, h3, h4, h5⟩ := h
 rw [wn_sum] at hl
 obtain ⟨k1, k2, k3, k4⟩ := seqE_sem (sz := isz) (wn := iwn n) (R := itemV at_ n) (l := ze p) hE (by omega) (fun s hs E' hE' hl' he => by
  unfold ze at hs
  rcases List.mem_append.1 hs with hs | hs
  · obtain ⟨r, hr, rfl⟩ := List.mem_map.1 hs
    exact rul_sem hn (h4 r hr) hE' he
  · obtain ⟨k, hk, rfl⟩ := List.mem_map.1 hs
    exact pol_sem hn n (h5 k hk) hE' hl' he) h0
 exact ⟨k1, by omega, k4⟩
theorem polPt_z {at_ : List Atm} {n : Nat} {E : List Rs} {p : Pol} (h : (polPt at_ n E p).e = 0) : prV (polPt at_ n E p) = (polPt at_ n E p).p.pv := by
 cases n with
 | zero => rw [polPt] at h; exact absurd h (show ¬ ((99 : Int) = 0) by decide)
 | succ n =>
   rw [polPt] at h ⊢
   by_cases ht : (zP at_ p.target).2 ≠ 0
   · rw [if_pos ht] at h; exact absurd h ht
   rw [if_neg ht] at h ⊢
   by_cases hq : (seqE (jD at_ (polPt at_ n)) E (ze p)).2.1 ≠ 0
   · rw [if_pos hq] at h; exact absurd h hq
   rw [if_neg hq]; rfl
theorem policy_step (at_ : List Atm) (hat : AtOk at_) (n : Nat) (IH : PolHk at_ n) : PolHk at_ (n + 1) := by
 intro p hp E hE hEl
 have HT := ctarget_h at_ hat E p.target hp.2.1
 have hTK := tarT_ok hat.few hp.2.1 hp.2.2.1
 have hpt : polPt at_ (n + 1) E p = _ := polPt.eq_2 at_ E p n
 have hK := fun k s => at_k hat.few (n := n) hp hE hEl (k := k) (s := s)
 have hall := seq_all hat.few hp hE hEl
 have hrul : ∀ r ∈ p.rules, RulOk at_ r := hp.2.2.2.2.1
 have hkid : ∀ k ∈ p.kids, PolK at_ n k := hp.2.2.2.2.2
 have hsz : p.sz ≤ 10000 := hp.1
 have hin : (ze p).length ≤ 900 := hp.2.2.2.1
 have hlen : (ze p).length = p.rules.length + p.kids.length := by unfold ze; simp
 have hiA : ∀ (k : Nat) (hk : k < p.rules.length), (ze p)[k]? = some (.inl p.rules[k]) := fun k hk => by
  unfold ze
  rw [List.getElem?_append_left (by simpa using hk), List.getElem?_map, List.getElem?_eq_getElem hk]; rfl
 have hiB : ∀ (k : Nat) (hk : k < p.kids.length), (ze p)[p.rules.length + k]? = some (.inr p.kids[k]) := fun k hk => by
  unfold ze
  rw [List.getElem?_append_right (by simp), List.length_map, Nat.add_sub_cancel_left, List.getElem?_map, List.getElem?_eq_getElem hk]; rfl
 have hfl := fun (E0 : List Rs) (h : EK E0) => pol_fl p hsz hin at_ h
 obtain ⟨its, hits⟩ : ∃ its, its = ze p := ⟨_, rfl⟩
 rw [← hits] at hpt hK hall hin hlen hiA hiB
 have hrow := fun (E0 : List Rs) (ps : List Pt) (t : Pt) (T : (Int → Nat) → Int) (h1 : PtT t T) (h2 : PtL E0 isz (itemV at_ n) its ps) (h3 : E0.length ≤ 70000000) => polPs_ok (at_ := at_) (p := p) h1 (hits ▸ h2) h3 (hits ▸ hin)
 generalize hg : jD at_ (polPt at_ n) = g at *
 obtain ⟨PT, hPT⟩ : ∃ PT, PT = polPt at_ (n + 1) E p := ⟨_, rfl⟩
 rw [← hPT] at hpt ⊢
 clear hPT
 generalize zP at_ p.target = T at *
 obtain ⟨tp, te⟩ := T
 obtain ⟨id, set, alg, tg, rules, kids, obls⟩ := p
 have lr : (rules.map fun r => zy r).length = rules.length := by simp
 have lk' : (kids.map polP).length = kids.length := by simp
 replace hrul : ∀ r ∈ rules, RulOk at_ r := hrul
 replace hkid : ∀ k ∈ kids, PolK at_ n k := hkid
 replace hlen : its.length = rules.length + kids.length := hlen
 replace hiA : ∀ (k : Nat) (hk : k < rules.length), its[k]? = some (.inl rules[k]) := hiA
 replace hiB : ∀ (k : Nat) (hk : k < kids.length), its[rules.length + k]? = some (.inr kids[k]) := hiB
 simp only at HT hpt hTK
 refine qz (T := TTab) qa Tryz.func21 (by kernel_rfl) rfl rfl rfl ?_
 refine uA ?_
 refine SW.wk (wk_frzB (k := 3) rfl rfl) ?_
 refine uR ?_
 refine uW [(1000000, 1000000), (1000001, 1000001)] HT ?_
 refine qb ?_
 refine uA ?_
 refine uA ?_
 refine uB ?_
 refine uZ [2, 3, 4, 7, 8, 9] [(2, 2), (4, 4), (19, 0), (1000000, 1000000), (1000001, 1)] ?_
 refine qw (fun m s => ∃ (k : Nat) (kk e : Int) (L : List (List PV)) (E' : List Rs), k ≤ its.length ∧ m = its.length - k ∧ kk = k ∧ L.length ≤ k + 1 ∧ ((e = 0 ∧ te = 0 ∧ (seqE g E (its.take k)).2.1 = 0 ∧ L = (tp :: (seqE g E (its.take k)).1).map Pt.pv ∧ E' = (seqE g E (its.take k)).2.2) ∨ (e ≠ 0 ∧ PT = ⟨true, zeroPt, e, E'⟩)) ∧
  s = ⟨77, [(2, .ptr 2 0), (3, .p (.rp (polP (.mk id set alg tg rules kids obls)))), (4, .ptr 4 0), (7, .p (pI e)), (8, .row 0), (9, .p (pI kk))], (2, .cells [.ptr 1000000 0]) :: (4, .cells [.p (.v (.pointer none)), .p (pI 0)]) :: (0, .row 58 2 L) :: dgmO at_ 1 E'⟩) its.length
  ⟨0, 0, te, _, E, Nat.zero_le _, rfl, rfl, Nat.le_refl _, by
   by_cases he : te = 0
   · exact .inl ⟨he, he, rfl, rfl, rfl⟩
   · exact .inr ⟨he, by rw [hpt, if_pos he]⟩, rfl⟩ ?_
 rintro m s ⟨k, _, e, L, E', hk, rfl, rfl, hL, hq, rfl⟩
 refine uR ?_
 rw [polPs_eq, lr, lk', show IntKind.i64.wrap ((rules.length : Int) + kids.length) = its.length by rw [IntWalk.i64_in _ (by omega), hlen]; omega]
 by_cases hkN : k < its.length
 rotate_left
 · rw [show decide ((k : Int) < its.length) = false by simp; omega]
   refine uS ?_
   refine qb ?_
   refine uC (fun hlt => ?_) (fun hlt => ?_)
   · cases hlt
   refine qt ?_
   by_cases he : e = 0
   · subst he
     rcases hq with ⟨_, rfl, q0, qL, qE⟩ | ⟨h, _⟩
     rotate_left
     · exact absurd rfl h
     replace hkN : k = its.length := by omega
     rw [hkN, List.take_length] at q0 qL qE
     obtain ⟨a1, a2, a3⟩ := hall q0
     refine uA ?_
     refine uC (fun h9 => ?_) (fun h9 => ?_)
     · cases h9
     refine qd ?_
     rw [if_neg (by simp), if_neg (by rw [q0]; simp)] at hpt
     obtain ⟨b1, b2⟩ := hrow _ _ _ _ (hTK rfl) a3 a2
     have HW := wovenB_h (at_ := at_) (hfl _ a1) (tp :: (seqE g E its).1) (seqE g E its).2.2 b2 b1 ⟨a1, .refl _⟩ (by omega)
     unfold polW at hpt
     rw [← qE] at hpt HW
     rw [hpt]
     generalize (jq (tp :: (seqE g E its).1) (polF (.mk id set alg tg rules kids obls)) E') = W at *
     unfold ptsP at HW
     rw [← qL] at HW
     refine SW.wk (zg (k := 0) rfl) ?_
     refine uR ?_
     refine uW [(2, 1000000), (1000000, 1000001), (1, 1000002)] HW ?_
     refine qb ?_
     refine uQ ?_
     exact ⟨Or.inr rfl, _, _, [(1000000, 1000000), (75000, 0)], _, Wk.refl _, rfl, rfl, .refl _, rfl, rfl⟩
   · rcases hq with ⟨h, _⟩ | ⟨_, hP⟩
     · exact absurd h he
     refine uA ?_
     rw [show (e != 0) = true by simpa using he, hP]
     refine uC (fun h9 => ?_) (fun h9 => ?_)
     · refine uA ?_
       refine uQ ?_
       exact ⟨Or.inr rfl, _, _, [(1000000, 1000000), (1, 0)], _, Wk.refl _, rfl, rfl, .refl _, rfl, rfl⟩
     · cases h9
 rw [show decide ((k : Int) < its.length) = true by simp; omega]
 refine uS ?_
 refine qb ?_
 refine uC (fun hlt => ?_) (fun hlt => ?_)
 rotate_left
 · refine qt ?_
   by_cases he : e = 0
   · subst he; cases hlt
   · rcases hq with ⟨h, _⟩ | ⟨_, hP⟩
     · exact absurd h he
     refine uA ?_
     rw [show (e != 0) = true by simpa using he, hP]
     refine uC (fun h9 => ?_) (fun h9 => ?_)
     · refine uA ?_
       refine uQ ?_
       exact ⟨Or.inr rfl, _, _, [(1000000, 1000000), (1, 0)], _, Wk.refl _, rfl, rfl, .refl _, rfl, rfl⟩
     · cases h9
 · refine qd ?_
   have he : e = 0 := by simpa using hlt
   subst he
   rcases hq with ⟨_, rfl, q0, qL, qE⟩ | ⟨h, _⟩
   rotate_left
   · exact absurd rfl h
   refine uB ?_
   refine uA ?_
   refine uA ?_
   rw [lr]
   by_cases hkr : k < rules.length
   · rw [show decide ((k : Int) < rules.length) = true by simp; omega]
     refine uC (fun h7 => ?_) (fun h7 => ?_)
     · have hi := hiA k hkr
       have K1 := hK k _ hi q0
       have HR := rule_h at_ hat rules[k] (hrul _ (List.getElem_mem hkr)) E' (qE ▸ K1.ek) (by rw [qE]; have := K1.len; omega)
       have hgx : g (seqE g E (its.take k)).2.2 (.inl rules[k]) = ⟨false, (qaH at_ E' rules[k]).1.1, (qaH at_ E' rules[k]).1.2, (qaH at_ E' rules[k]).2⟩ := by rw [← hg, hg, ← qE, ← hg]; rfl
       obtain ⟨x, hx⟩ : ∃ x, x = rules[k] := ⟨_, rfl⟩
       rw [← hx] at HR hgx hi
       refine uD [1000000, 1, 10] [1, 3, 5, 7, 9, 11, 12, 15, 17, 19, 20, 23] ?_
       refine qx qa rfl rfl rfl (by rw [lr]; omega) rfl ?_
       rw [qm hkr, ← hx]
       refine uT ?_
       generalize qaH at_ E' x = RR at *
       obtain ⟨⟨rp, re⟩, rE⟩ := RR
       simp only at HR hgx
       refine uw [(1000000, 1000000), (1, 1000001)] HR ?_
       refine uT ?_
       refine qY ?_
       refine uR ?_
       refine qy rfl (qg qa rfl rfl rfl rfl rfl rfl rfl rfl rfl rfl rfl rfl rfl rfl rfl rfl (by simp only [List.length_append, List.length_map, List.length_take, List.length_cons, List.length_nil]; unfold reachBytes; omega) (by simp only [List.length_append, List.length_map, List.length_take, List.length_cons, List.length_nil]; omega) ?_)
       refine uS ?_
       refine qb ?_
       refine uA ?_
       refine ⟨_, _, ?_, qh [2, 3, 4, 7, 8, 9] [(2, 2), (4, 4), (67, 0), (1000000, 1000000), (48000, 1)] rfl rfl, k + 1, _, _, _, _, by omega, rfl, qf (show k < its.length by omega) (by omega), by simp only [List.length_append, List.length_cons, List.length_nil]; omega, ?_, rfl⟩
       · omega
       · by_cases he : re = 0
         · refine .inl ⟨he, rfl, ?_⟩
           have hs := seqE_step hi q0 (by rw [hgx]; exact he)
           rw [hgx] at hs
           rw [hs]
           refine ⟨rfl, ?_, rfl⟩
           rw [qL]
           show _ ++ [rp.pv] = _
           simp
         · refine .inr ⟨he, ?_⟩
           have hs := seqE_err hi q0 (by rw [hgx]; exact he)
           rw [hgx] at hs
           rw [hpt, if_neg (by simp), hs, if_pos he]
     · cases h7
   · rw [show decide ((k : Int) < rules.length) = false by simp; omega]
     refine uC (fun h7 => ?_) (fun h7 => ?_)
     · cases h7
     obtain ⟨j, rfl⟩ : ∃ j, k = rules.length + j := ⟨k - rules.length, by omega⟩
     have hj : j < kids.length := by omega
     have hi := hiB j hj
     have K1 := hK _ _ hi q0
     have HR := IH kids[j] (hkid _ (List.getElem_mem hj)) E' (qE ▸ K1.ek) (by rw [qE]; exact K1.len)
     have hgx : g (seqE g E (its.take (rules.length + j))).2.2 (.inr kids[j]) = polPt at_ n E' kids[j] := by rw [← hg, hg, ← qE, ← hg]; rfl
     have hz : (polPt at_ n E' kids[j]).e = 0 → prV (polPt at_ n E' kids[j]) = (polPt at_ n E' kids[j]).p.pv := polPt_z
     obtain ⟨x, hx⟩ : ∃ x, x = kids[j] := ⟨_, rfl⟩
     rw [← hx] at HR hgx hi hz
     refine uD [1000000, 1, 10] [1, 3, 5, 7, 9, 11, 13, 15, 17, 19, 20, 23, 25, 27, 28, 31] ?_
     rw [polPs_eq, lr, show IntKind.i64.wrap ((rules.length + j : Nat) - (rules.length : Int)) = j by rw [IntWalk.i64_in _ (by omega)]; omega]
     refine uT ?_
     refine qx qa rfl rfl rfl (by rw [lk']; omega) rfl ?_
     rw [qm hj, ← hx, qG x]
     rw [qG x] at HR
     refine uT ?_
     generalize polPt at_ n E' x = RR at *
     obtain ⟨z, pp, pe, pE⟩ := RR
     cases z with
     | true =>
       refine uw [(1000000, 1000000), (1, 1000001)] HR ?_
       refine uT ?_
       refine qY ?_
       refine uR ?_
       refine qy rfl (qg qa rfl rfl rfl rfl rfl rfl rfl rfl rfl rfl rfl rfl rfl rfl rfl rfl (by simp only [List.length_append, List.length_map, List.length_take, List.length_cons, List.length_nil]; unfold reachBytes; omega) (by simp only [List.length_append, List.length_map, List.length_take, List.length_cons, List.length_nil]; omega) ?_)
       refine uS ?_
       refine qb ?_
       refine uA ?_
       refine ⟨_, _, ?_, qh [2, 3, 4, 7, 8, 9] [(2, 2), (4, 4), (67, 0), (1000000, 1000000), (62000, 1)] rfl rfl, rules.length + j + 1, _, _, _, _, by omega, rfl, qf (show rules.length + j < its.length by omega) (by omega), by simp only [List.length_append, List.length_cons, List.length_nil]; omega, ?_, rfl⟩
       · omega
       · by_cases he : pe = 0
         · refine .inl ⟨he, rfl, ?_⟩
           have hs := seqE_step hi q0 (by rw [hgx]; exact he)
           rw [hgx] at hs
           rw [hs]
           refine ⟨rfl, ?_, rfl⟩
           rw [qL]
           show _ ++ [prV ⟨true, pp, pe, pE⟩] = _; rw [hz he]
           simp
         · refine .inr ⟨he, ?_⟩
           have hs := seqE_err hi q0 (by rw [hgx]; exact he)
           rw [hgx] at hs
           rw [hpt, if_neg (by simp), hs, if_pos he]
     | false =>
       refine uw [(1000000, 1000000), (1, 1000001)] HR ?_
       refine uT ?_
       refine qY ?_
       refine uR ?_
       refine qy rfl (qg qa rfl rfl rfl rfl rfl rfl rfl rfl rfl rfl rfl rfl rfl rfl rfl rfl (by simp only [List.length_append, List.length_map, List.length_take, List.length_cons, List.length_nil]; unfold reachBytes; omega) (by simp only [List.length_append, List.length_map, List.length_take, List.length_cons, List.length_nil]; omega) ?_)
       refine uS ?_
       refine qb ?_
       refine uA ?_
       refine ⟨_, _, ?_, qh [2, 3, 4, 7, 8, 9] [(2, 2), (4, 4), (67, 0), (1000000, 1000000), (62000, 1)] rfl rfl, rules.length + j + 1, _, _, _, _, by omega, rfl, qf (show rules.length + j < its.length by omega) (by omega), by simp only [List.length_append, List.length_cons, List.length_nil]; omega, ?_, rfl⟩
       · omega
       · by_cases he : pe = 0
         · refine .inl ⟨he, rfl, ?_⟩
           have hs := seqE_step hi q0 (by rw [hgx]; exact he)
           rw [hgx] at hs
           rw [hs]
           refine ⟨rfl, ?_, rfl⟩
           rw [qL]
           show _ ++ [prV ⟨false, pp, pe, pE⟩] = _; rw [hz he]
           simp
         · refine .inr ⟨he, ?_⟩
           have hs := seqE_err hi q0 (by rw [hgx]; exact he)
           rw [hgx] at hs
           rw [hpt, if_neg (by simp), hs, if_pos he]
set_option maxHeartbeats 4000000
theorem HoldsR.cv2 {P : Program} {f : FuncId} {s : SV} {x x' : PV} {own : List (Nat × Box)} {R : SV → List (Nat × Box) → Prop} (h : HoldsR P f [s, .p x] own R) (hc : Cv x' x) : HoldsR P f [s, .p x'] own R :=
 ⟨h.1, fun w Sx γ vs hh hl hr => h.2 w Sx γ vs hh hl fun i t u ht hu => by
  match i, ht with
  | 0, ht => exact hr 0 t u ht hu
  | 1, ht =>
    simp only [List.getElem?_cons_succ, List.getElem?_cons_zero, Option.some.injEq] at ht
    subst ht
    exact .p ((hr 1 (.p x') u rfl hu).p_inv.cv hc)⟩
theorem moreA_bd {l : List Atm} {a : Atm} {n : Nat} (h : ∀ x ∈ l, x.c.length ≤ n) (ha : a.c.length ≤ n) : ∀ x ∈ moreA l a, x.c.length ≤ n := fun x hx => by
 rcases moreA_mem.1 hx with hx | rfl
 · exact h x hx
 · exact ha
theorem flat_split {α : Type} (f : α → List Atm) {l : List α} {k : Nat} (hk : k < l.length) : l.flatMap f = (l.take k).flatMap f ++ (f l[k] ++ (l.drop (k + 1)).flatMap f) := by
 rw [← List.flatMap_cons, ← List.flatMap_append, ← List.drop_eq_getElem_cons hk, List.take_append_drop]
theorem qah {α : Type} (f : α → List Atm) {l : List α} {k : Nat} (hk : k < l.length) : (l.take (k + 1)).flatMap f = (l.take k).flatMap f ++ f l[k] := by
 rw [List.take_succ_eq_append_getElem hk, List.flatMap_append]; simp
theorem flat_at {α : Type} (f : α → List Atm) {l : List α} {k : Nat} (hk : k < l.length) : ((l.take k).flatMap f).length + (f l[k]).length ≤ (l.flatMap f).length := by
 have := congrArg List.length (flat_split f hk)
 simp only [List.length_append] at this
 omega
theorem tarA_c {t : Tar} {x : Atm} (h : x ∈ tarA t) : x.c = [] := by
 obtain ⟨y, _, h⟩ := List.mem_flatMap.1 h
 obtain ⟨z, _, h⟩ := List.mem_flatMap.1 h
 obtain ⟨m, _, rfl⟩ := List.mem_map.1 h
 rfl
theorem addA_bd {l bs : List Atm} {n : Nat} (h : ∀ x ∈ l, x.c.length ≤ n) (hb : ∀ x ∈ bs, x.c.length ≤ n) : ∀ x ∈ addA l bs, x.c.length ≤ n := fun x hx => (addA_mem.1 hx).elim (h x) (hb x)
theorem rulA_c {r : Rul} {x : Atm} (h : x ∈ rulA r) : x.c.length ≤ r.cond.length := by
 rcases List.mem_append.1 h with h | h
 · rw [tarA_c h]; exact Nat.zero_le _
 · unfold condA at h
   split at h
   · cases h
   · rw [List.mem_singleton.1 h]; exact Nat.le_refl _
theorem polA_c : ∀ {n : Nat} {p : Pol} {x : Atm}, x ∈ polA n p → x.c.length ≤ p.sz
 | n + 1, p, x, h => by
   have e := Pol.sz_eq p
   rcases List.mem_append.1 h with h | h
   · rw [tarA_c h]; exact Nat.zero_le _
   · rcases List.mem_append.1 h with h | h
     · obtain ⟨r, hr, h⟩ := List.mem_flatMap.1 h
       have h1 := rulA_c h
       have h2 := wd (f := rusz) hr
       have h6 : rusz r = txt r.id + tsz r.target + r.cond.length + osz r.obls + qB nsz r.cond := rfl
       omega
     · obtain ⟨k, hk, h⟩ := List.mem_flatMap.1 h
       have h1 := polA_c h
       have h2 := wd (f := Pol.sz) hk
       omega
theorem ofTarget_h (t : Tar) (ht : TarSm t) (l : List Atm) (hl : ∀ x ∈ l, x.c.length ≤ 1000000) (hn : l.length + (tarA t).length ≤ 1000000) : qJ Tryz.prog 55 [.row 1000000, .p (tgtP t)] (rowA 1000000 l) (.row 0) (rowA 0 (addA l (tarA t))) := by
 have lt : (t.map fun x => [anyP x]).length = t.length := by simp
 have ht1 := ht.1
 refine qD (ts := [4]) Tryz.func55 (by kernel_rfl) rfl rfl rfl ?_
 refine uA ?_
 refine uA ?_
 refine uB ?_
 refine SW.wk (qh [0, 11, 12, 13] [(1000000, 0)] rfl rfl) ?_
 refine qw (fun m s => ∃ (k : Nat) (kk : Int) (L : List Atm), k ≤ t.length ∧ m = t.length - k ∧ kk = k ∧ L = addA l ((t.take k).flatMap anyA) ∧ s = ⟨37, [(0, .row 0), (11, .p (tgtP t)), (12, .p (pI (t.map fun x => [anyP x]).length)), (13, .p (pI kk))], rowA 0 L⟩) t.length ⟨0, 0, _, Nat.zero_le _, rfl, rfl, rfl, rfl⟩ ?_
 rintro m s ⟨k, _, L, hk, rfl, rfl, hL, rfl⟩
 refine uA ?_
 refine uC (fun hlt => ?_) (fun hlt => ?_)
 · refine qd ?_
   rw [lt] at hlt
   simp only [decide_eq_true_eq] at hlt
   have hlt' : k < t.length := by omega
   have hxl := ht.2 _ (List.getElem_mem hlt')
   have hA := flat_at anyA hlt'
   have hS := qah anyA hlt'
   obtain ⟨x, hx⟩ : ∃ x, x = t[k] := ⟨_, rfl⟩
   rw [← hx] at hxl hA hS
   have hx1 := hxl.1
   have hL1 := zH ((t.take k).flatMap anyA) l
   have hLb : ∀ x ∈ L, x.c.length ≤ 1000000 := by
    rw [hL]
    refine addA_bd hl fun y hy => ?_
    have : y ∈ tarA t := by
     obtain ⟨z, hz, hy⟩ := List.mem_flatMap.1 hy
     exact List.mem_flatMap.2 ⟨z, List.mem_of_mem_take hz, hy⟩
    rw [tarA_c this]; exact Nat.zero_le _
   rw [← hL] at hL1
   have lx : (x.map fun y => [wq y]).length = x.length := by simp
   refine uB ?_
   refine uR ?_
   refine qe qa rfl rfl (by rw [lt]; omega) rfl ?_
   rw [qm hlt', ← hx]
   refine uS ?_
   refine qb ?_
   refine uA ?_
   refine uB ?_
   refine uZ [0, 11, 12, 13, 17, 18, 19] [(0, 0)] ?_
   refine qw (fun m s => ∃ (j : Nat) (jj : Int) (M : List Atm), j ≤ x.length ∧ m = x.length - j ∧ jj = j ∧ M = addA L ((x.take j).flatMap allA) ∧ (∀ x ∈ M, x.c.length ≤ 1000000) ∧ s = ⟨37, [(0, .row 0), (11, .p (tgtP t)), (12, .p (pI (t.map fun x => [anyP x]).length)), (13, .p (pI k)), (17, .p (anyP x)), (18, .p (pI (x.map fun y => [wq y]).length)), (19, .p (pI jj))], rowA 0 M⟩) x.length ⟨0, 0, _, Nat.zero_le _, rfl, rfl, rfl, hLb, rfl⟩ ?_
   rintro m s ⟨j, _, M, hj, rfl, rfl, hM, hMb, rfl⟩
   refine uA ?_
   refine uC (fun hlj => ?_) (fun hlj => ?_)
   · refine qd ?_
     rw [lx] at hlj
     simp only [decide_eq_true_eq] at hlj
     have hlj' : j < x.length := by omega
     have hyl := hxl.2 _ (List.getElem_mem hlj')
     have hA2 := flat_at allA hlj'
     have hS2 := qah allA hlj'
     obtain ⟨y, hy⟩ : ∃ y, y = x[j] := ⟨_, rfl⟩
     rw [← hy] at hyl hA2 hS2
     have hM1 := zH ((x.take j).flatMap allA) L
     rw [← hM] at hM1
     have ly : (y.map Mat.pv).length = y.length := by simp
     have ly2 : (allA y).length = y.length := by unfold allA; simp
     refine uB ?_
     refine uR ?_
     refine qe qa rfl rfl (by rw [lx]; omega) rfl ?_
     rw [qm hlj', ← hy]
     refine uS ?_
     refine qb ?_
     refine uA ?_
     refine uB ?_
     refine uZ [0, 11, 12, 13, 17, 18, 19, 23, 24, 25] [(0, 0)] ?_
     refine qw (fun m s => ∃ (i : Nat) (ii : Int) (N : List Atm), i ≤ y.length ∧ m = y.length - i ∧ ii = i ∧ N = addA M (allA (y.take i)) ∧ (∀ x ∈ N, x.c.length ≤ 1000000) ∧ s = ⟨37, [(0, .row 0), (11, .p (tgtP t)), (12, .p (pI (t.map fun x => [anyP x]).length)), (13, .p (pI k)), (17, .p (anyP x)), (18, .p (pI (x.map fun y => [wq y]).length)), (19, .p (pI j)), (23, .p (wq y)), (24, .p (pI (y.map Mat.pv).length)), (25, .p (pI ii))], rowA 0 N⟩) y.length ⟨0, 0, _, Nat.zero_le _, rfl, rfl, rfl, hMb, rfl⟩ ?_
     rintro m s ⟨i, _, N, hi, rfl, rfl, hN, hNb, rfl⟩
     refine uA ?_
     refine uC (fun hli => ?_) (fun hli => ?_)
     · refine qd ?_
       rw [ly] at hli
       simp only [decide_eq_true_eq] at hli
       have hli' : i < y.length := by omega
       obtain ⟨z, hz⟩ : ∃ z, z = y[i] := ⟨_, rfl⟩
       have hN1 := zH (allA (y.take i)) M
       have ly3 : (allA (y.take i)).length = i := by unfold allA; simp; omega
       rw [← hN, ly3] at hN1
       have hta : (tarA t).length = (t.flatMap anyA).length := rfl
       have hxa : (anyA x).length = (x.flatMap allA).length := rfl
       have H := more_h N ⟨z, []⟩ (by omega) hNb (Nat.zero_le _)
       have H' : qJ Tryz.prog 56 [.row 1000000, .p (.agg (atmP z nilV))] (rowA 1000000 N) (.row 0) (rowA 0 (moreA N ⟨z, []⟩)) := HoldsR.cv2 H (CvL.agg (.cons (.refl _) (.cons (.refl _) (.cons (.refl _) (.cons (.refl _) (.cons (.refl _) (.cons (.refl _) (.cons (.refl _) (.cons (.nil 7) .nil)))))))))
       have hNb' := moreA_bd (a := ⟨z, []⟩) hNb (Nat.zero_le _)
       have hNs : moreA N ⟨z, []⟩ = addA M (allA (y.take (i + 1))) := by
        unfold allA
        rw [List.take_succ_eq_append_getElem hli', List.map_append, za, hN, ← hz]
        rfl
       refine uB ?_
       refine uR ?_
       refine qe qa rfl rfl (by rw [ly]; omega) rfl ?_
       rw [qm hli', ← hz]
       refine uS ?_
       refine qb ?_
       refine uR ?_
       refine uW [(0, 1000000)] H' ?_
       refine qb ?_
       refine uA ?_
       refine ⟨_, _, ?_, qh [0, 11, 12, 13, 17, 18, 19, 23, 24, 25] [(33000, 0)] rfl rfl, i + 1, _, _, hli', rfl, qf hli' (by omega), hNs, hNb', rfl⟩
       omega
     · refine qt ?_
       rw [ly] at hli
       simp only [decide_eq_false_iff_not] at hli
       have hii : i = y.length := by omega
       subst hii
       rw [List.take_length] at hN
       refine uA ?_
       refine ⟨_, _, ?_, qh [0, 11, 12, 13, 17, 18, 19] [(0, 0)] rfl rfl, j + 1, _, _, hlj', rfl, qf hlj' (by omega), ?_, hNb, rfl⟩
       · omega
       · rw [hN, hM, hS2, za]
   · refine qt ?_
     rw [lx] at hlj
     simp only [decide_eq_false_iff_not] at hlj
     have hjj : j = x.length := by omega
     subst hjj
     rw [List.take_length] at hM
     refine uA ?_
     refine ⟨_, _, ?_, qh [0, 11, 12, 13] [(0, 0)] rfl rfl, k + 1, _, _, hlt', rfl, qf hlt' (by omega), ?_, rfl⟩
     · omega
     · rw [hM, hL, hS, za]; rfl
 · refine qt ?_
   rw [lt] at hlt
   simp only [decide_eq_false_iff_not] at hlt
   have hkk : k = t.length := by omega
   subst hkk
   rw [List.take_length] at hL
   rw [hL]
   refine uA ?_
   refine uQ ?_
   exact uF [(0, 0)]
theorem sumBy_at {α : Type} (f : α → Nat) {l : List α} {k : Nat} (hk : k < l.length) : qB f (l.take k) + f l[k] ≤ qB f l := by
 have e : l = l.take k ++ (l[k] :: l.drop (k + 1)) := by rw [← List.drop_eq_getElem_cons hk, List.take_append_drop]
 have h : ∀ (a b : List α) (x : α), qB f (a ++ x :: b) = qB f a + (f x + qB f b) := fun a b x => by simp [qB]
 have h2 := h (l.take k) (l.drop (k + 1)) l[k]
 rw [← e] at h2
 omega
theorem rul_eq (L : List Atm) (r : Rul) : addA L (rulA r) = if r.cond = [] then addA L (tarA r.target) else moreA (addA L (tarA r.target)) ⟨zeroM, r.cond⟩ := by
 unfold rulA condA
 rw [za]
 split <;> rfl
def VarOk (n : Nat) : Prop := ∀ (p : Pol), PolF n p → p.sz ≤ 100000 → ∀ l : List Atm, (∀ x ∈ l, x.c.length ≤ 1000000) → l.length + p.sz ≤ 500000 → qJ Tryz.prog 29 [.row 1000000, .p (.agg (polP p))] (rowA 1000000 l) (.row 0) (rowA 0 (addA l (polA n p)))
theorem ofPolicy_step (n : Nat) (IH : VarOk n) : VarOk (n + 1) := by
 intro p hf hsz l hl hn
 have eS := Pol.sz_eq p
 obtain ⟨hT, hrn, hkn, _, hrs, hks⟩ := sz_big hsz (Nat.le_refl _)
 have eP : polA (n + 1) p = tarA p.target ++ (p.rules.flatMap rulA ++ p.kids.flatMap (polA n)) := rfl
 have hTl := tarA_len p.target
 have hRl := jx rulA rusz rulA_len p.rules
 have hkf := hf.2.2
 rw [eP, za, za, qG]
 clear eP
 obtain ⟨id, set, al, tg, rules, ks, obls⟩ := p
 simp only [Pol.id, Pol.set, Pol.alg, Pol.target, Pol.rules, Pol.kids, Pol.obls] at *
 have lr : ((rules.map zy).length) = rules.length := by simp
 have lk : ((ks.map polP).length) = ks.length := by simp
 refine qD (ts := [4]) Tryz.func29 (by kernel_rfl) rfl rfl rfl ?_
 refine uA ?_
 refine uR ?_
 refine uW [(1000000, 1000000)] (ofTarget_h tg hT l hl (by omega)) ?_
 refine qb ?_
 have hMb : ∀ x ∈ addA l (tarA tg), x.c.length ≤ 1000000 := addA_bd hl fun x hx => by rw [tarA_c hx]; exact Nat.zero_le _
 have hMl := zH (tarA tg) l
 obtain ⟨M, hM⟩ : ∃ M, M = addA l (tarA tg) := ⟨_, rfl⟩
 rw [← hM] at hMb hMl
 rw [← hM]
 refine uA ?_
 refine uB ?_
 refine uZ [0, 3, 14, 15, 16] [(3, 3), (13000, 0)] ?_
 refine qw (fun m s => ∃ (k : Nat) (kk : Int) (L : List Atm), k ≤ rules.length ∧ m = rules.length - k ∧ kk = k ∧ L = addA M ((rules.take k).flatMap rulA) ∧ (∀ x ∈ L, x.c.length ≤ 1000000) ∧ s = ⟨46, [(0, .row 0), (3, .ptr 3 0), (14, .p (.sl 5 (rules.map zy))), (15, .p (pI (rules.map zy).length)), (16, .p (pI kk))], (3, .cells [.p (pS id), .p (pB set), .p (pI al), .p (tgtP tg), .p (.sl 5 (rules.map zy)), .p (.sl 7 (ks.map polP)), .p (jc obls)]) :: rowA 0 L⟩) rules.length ⟨0, 0, _, Nat.zero_le _, rfl, rfl, rfl, hMb, rfl⟩ ?_
 rintro m s ⟨k, _, L, hk, rfl, rfl, hL, hLb, rfl⟩
 refine uA ?_
 refine uC (fun hlt => ?_) (fun hlt => ?_)
 · refine qd ?_
   rw [lr] at hlt
   simp only [decide_eq_true_eq] at hlt
   have hlt' : k < rules.length := by omega
   have hr := hrs _ (List.getElem_mem hlt')
   have hA := flat_at rulA hlt'
   have hS := qah rulA hlt'
   have hL1 := zH ((rules.take k).flatMap rulA) M
   rw [← hL] at hL1
   obtain ⟨r, hx⟩ : ∃ r, r = rules[k] := ⟨_, rfl⟩
   rw [← hx] at hr hA hS
   have hrl : (rulA r).length = (tarA r.target).length + (condA r.cond).length := by unfold rulA; rw [List.length_append]
   have hrc := hr.2.1
   have hE := rul_eq L r
   have hHT := ofTarget_h r.target hr.1 L hLb (by omega)
   have hTb : ∀ x ∈ addA L (tarA r.target), x.c.length ≤ 1000000 := addA_bd hLb fun x hx => by rw [tarA_c hx]; exact Nat.zero_le _
   have hTl2 := zH (tarA r.target) L
   have hLs : addA M ((rules.take (k + 1)).flatMap rulA) = addA L (rulA r) := by rw [hS, za, hL]
   obtain ⟨rid, rdeny, rtg, rc, ro⟩ := r
   simp only at hE hHT hTb hTl2 hrc hrl
   have lc : ((rc.map Nod.pv).length) = rc.length := by simp
   refine uB ?_
   refine uR ?_
   refine qe qa rfl rfl (by rw [lr]; omega) rfl ?_
   rw [qm hlt', ← hx]
   refine uS ?_
   refine qb ?_
   refine uR ?_
   refine uW [(0, 1000000)] hHT ?_
   refine qb ?_
   refine uA ?_
   rw [lc]
   refine uC (fun hq => ?_) (fun hq => ?_)
   · have hne : rc ≠ [] := by intro e; subst e; simp at hq
     rw [if_neg hne] at hE
     have hMo := more_h (addA L (tarA rtg)) ⟨zeroM, rc⟩ (by omega) hTb (by show rc.length ≤ 1000000; omega)
     have hMob := moreA_bd (a := ⟨zeroM, rc⟩) hTb (by show rc.length ≤ 1000000; omega)
     refine uR ?_
     refine uW [(24000, 1000000)] hMo ?_
     refine qb ?_
     refine uA ?_
     refine ⟨_, _, ?_, qh [0, 3, 14, 15, 16] [(3, 3), (33000, 0)] rfl rfl, k + 1, _, _, hlt', rfl, qf hlt' (by omega), ?_, hMob, rfl⟩
     · omega
     · rw [hLs, hE]
   · have he : rc = [] := by
      refine List.length_eq_zero_iff.1 ?_
      have : ¬ ((rc.length : Int) > 0) := by simpa using hq
      omega
     rw [if_pos he] at hE
     refine qd ?_
     refine uA ?_
     refine ⟨_, _, ?_, qh [0, 3, 14, 15, 16] [(3, 3), (24000, 0)] rfl rfl, k + 1, _, _, hlt', rfl, qf hlt' (by omega), ?_, hTb, rfl⟩
     · omega
     · rw [hLs, hE]
 · refine qt ?_
   rw [lr] at hlt
   simp only [decide_eq_false_iff_not] at hlt
   have hkk : k = rules.length := by omega
   subst hkk
   rw [List.take_length] at hL
   have hL1 := zH (rules.flatMap rulA) M
   rw [← hL] at hL1
   rw [← hL]
   refine uA ?_
   refine uB ?_
   refine uZ [0, 3, 35, 36, 37] [(3, 3), (0, 0)] ?_
   refine qw (fun m s => ∃ (k : Nat) (kk : Int) (N : List Atm), k ≤ ks.length ∧ m = ks.length - k ∧ kk = k ∧ N = addA L ((ks.take k).flatMap (polA n)) ∧ (∀ x ∈ N, x.c.length ≤ 1000000) ∧ s = ⟨46, [(0, .row 0), (3, .ptr 3 0), (35, .p (.sl 7 (ks.map polP))), (36, .p (pI (ks.map polP).length)), (37, .p (pI kk))], (3, .cells [.p (pS id), .p (pB set), .p (pI al), .p (tgtP tg), .p (.sl 5 (rules.map zy)), .p (.sl 7 (ks.map polP)), .p (jc obls)]) :: rowA 0 N⟩) ks.length ⟨0, 0, _, Nat.zero_le _, rfl, rfl, rfl, hLb, rfl⟩ ?_
   rintro m s ⟨k, _, N, hk, rfl, rfl, hN, hNb, rfl⟩
   refine uA ?_
   refine uC (fun hlt => ?_) (fun hlt => ?_)
   · refine qd ?_
     rw [lk] at hlt
     simp only [decide_eq_true_eq] at hlt
     have hlt' : k < ks.length := by omega
     have hN1 := zH ((ks.take k).flatMap (polA n)) L
     rw [← hN] at hN1
     have hfl := jx (polA n) Pol.sz (polA_len n) (ks.take k)
     have hsa := sumBy_at Pol.sz hlt'
     have hS := qah (polA n) hlt'
     have hksz := hks _ (List.getElem_mem hlt')
     have hkp := hkf _ (List.getElem_mem hlt')
     obtain ⟨q, hq⟩ : ∃ q, q = ks[k] := ⟨_, rfl⟩
     rw [← hq] at hsa hS hksz hkp
     have H := IH q hkp (by omega) N hNb (by omega)
     have hNs : addA N (polA n q) = addA L ((ks.take (k + 1)).flatMap (polA n)) := by rw [hS, za, hN]
     have hNb2 : ∀ x ∈ addA N (polA n q), x.c.length ≤ 1000000 := addA_bd hNb fun x hx => by have := polA_c hx; omega
     rw [qG] at H
     refine uB ?_
     refine uR ?_
     refine qe qa rfl rfl (by rw [lk]; omega) rfl ?_
     rw [qm hlt', ← hq, qG]
     refine uS ?_
     refine qb ?_
     refine uR ?_
     refine uW [(0, 1000000)] H ?_
     refine qb ?_
     refine uA ?_
     refine ⟨_, _, ?_, qh [0, 3, 35, 36, 37] [(3, 3), (44000, 0)] rfl rfl, k + 1, _, _, hlt', rfl, qf hlt' (by omega), hNs, hNb2, rfl⟩
     omega
   · refine qt ?_
     rw [lk] at hlt
     simp only [decide_eq_false_iff_not] at hlt
     have hkk : k = ks.length := by omega
     subst hkk
     rw [List.take_length] at hN
     rw [← hN]
     refine uA ?_
     refine uQ ?_
     exact uF [(0, 0)]
theorem ofPolicy_all : ∀ n, VarOk n
 | 0 => fun _ h => h.elim
 | n + 1 => ofPolicy_step n (ofPolicy_all n)
theorem nil_bd : ∀ x ∈ ([] : List Atm), x.c.length ≤ 1000000 := fun x hx => (nomatch hx)
theorem ofNil_h (n : Nat) (p : Pol) (hf : PolF (n + 1) p) (hsz : p.sz ≤ 100000) : Holds Tryz.prog 29 [nilV, .agg (polP p)] (.row 0) (rowA 0 (addA [] (polA (n + 1) p))) := by
 have IH := ofPolicy_all n
 have hn : ([] : List Atm).length + p.sz ≤ 500000 := by simp only [List.length_nil]; omega
 have eS := Pol.sz_eq p
 obtain ⟨hT, hrn, hkn, _, hrs, hks⟩ := sz_big hsz (Nat.le_refl _)
 have eP : polA (n + 1) p = tarA p.target ++ (p.rules.flatMap rulA ++ p.kids.flatMap (polA n)) := rfl
 have hTl := tarA_len p.target
 have hRl := jx rulA rusz rulA_len p.rules
 have hkf := hf.2.2
 rw [eP, za, za, qG]
 clear eP
 obtain ⟨id, set, al, tg, rules, ks, obls⟩ := p
 simp only [Pol.id, Pol.set, Pol.alg, Pol.target, Pol.rules, Pol.kids, Pol.obls] at *
 have lr : ((rules.map zy).length) = rules.length := by simp
 have lk : ((ks.map polP).length) = ks.length := by simp
 refine qo (ts := [4]) Tryz.func29 (by kernel_rfl) rfl rfl rfl ?_
 refine SW.wk (zp 0 0 81 8 rfl rfl) ?_
 refine uA ?_
 refine uR ?_
 refine uW [(0, 1000000)] (ofTarget_h tg hT ([] : List Atm) nil_bd (by omega)) ?_
 refine qb ?_
 have hMb : ∀ x ∈ addA ([] : List Atm) (tarA tg), x.c.length ≤ 1000000 := addA_bd nil_bd fun x hx => by rw [tarA_c hx]; exact Nat.zero_le _
 have hMl := zH (tarA tg) ([] : List Atm)
 obtain ⟨M, hM⟩ : ∃ M, M = addA ([] : List Atm) (tarA tg) := ⟨_, rfl⟩
 rw [← hM] at hMb hMl
 rw [← hM]
 refine uA ?_
 refine uB ?_
 refine uZ [0, 3, 14, 15, 16] [(3, 3), (13000, 0)] ?_
 refine qw (fun m s => ∃ (k : Nat) (kk : Int) (L : List Atm), k ≤ rules.length ∧ m = rules.length - k ∧ kk = k ∧ L = addA M ((rules.take k).flatMap rulA) ∧ (∀ x ∈ L, x.c.length ≤ 1000000) ∧ s = ⟨46, [(0, .row 0), (3, .ptr 3 0), (14, .p (.sl 5 (rules.map zy))), (15, .p (pI (rules.map zy).length)), (16, .p (pI kk))], (3, .cells [.p (pS id), .p (pB set), .p (pI al), .p (tgtP tg), .p (.sl 5 (rules.map zy)), .p (.sl 7 (ks.map polP)), .p (jc obls)]) :: rowA 0 L⟩) rules.length ⟨0, 0, _, Nat.zero_le _, rfl, rfl, rfl, hMb, rfl⟩ ?_
 rintro m s ⟨k, _, L, hk, rfl, rfl, hL, hLb, rfl⟩
 refine uA ?_
 refine uC (fun hlt => ?_) (fun hlt => ?_)
 · refine qd ?_
   rw [lr] at hlt
   simp only [decide_eq_true_eq] at hlt
   have hlt' : k < rules.length := by omega
   have hr := hrs _ (List.getElem_mem hlt')
   have hA := flat_at rulA hlt'
   have hS := qah rulA hlt'
   have hL1 := zH ((rules.take k).flatMap rulA) M
   rw [← hL] at hL1
   obtain ⟨r, hx⟩ : ∃ r, r = rules[k] := ⟨_, rfl⟩
   rw [← hx] at hr hA hS
   have hrl : (rulA r).length = (tarA r.target).length + (condA r.cond).length := by unfold rulA; rw [List.length_append]
   have hrc := hr.2.1
   have hE := rul_eq L r
   have hHT := ofTarget_h r.target hr.1 L hLb (by omega)
   have hTb : ∀ x ∈ addA L (tarA r.target), x.c.length ≤ 1000000 := addA_bd hLb fun x hx => by rw [tarA_c hx]; exact Nat.zero_le _
   have hTl2 := zH (tarA r.target) L
   have hLs : addA M ((rules.take (k + 1)).flatMap rulA) = addA L (rulA r) := by rw [hS, za, hL]
   obtain ⟨rid, rdeny, rtg, rc, ro⟩ := r
   simp only at hE hHT hTb hTl2 hrc hrl
   have lc : ((rc.map Nod.pv).length) = rc.length := by simp
   refine uB ?_
   refine uR ?_
   refine qe qa rfl rfl (by rw [lr]; omega) rfl ?_
   rw [qm hlt', ← hx]
   refine uS ?_
   refine qb ?_
   refine uR ?_
   refine uW [(0, 1000000)] hHT ?_
   refine qb ?_
   refine uA ?_
   rw [lc]
   refine uC (fun hq => ?_) (fun hq => ?_)
   · have hne : rc ≠ [] := by intro e; subst e; simp at hq
     rw [if_neg hne] at hE
     have hMo := more_h (addA L (tarA rtg)) ⟨zeroM, rc⟩ (by omega) hTb (by show rc.length ≤ 1000000; omega)
     have hMob := moreA_bd (a := ⟨zeroM, rc⟩) hTb (by show rc.length ≤ 1000000; omega)
     refine uR ?_
     refine uW [(24000, 1000000)] hMo ?_
     refine qb ?_
     refine uA ?_
     refine ⟨_, _, ?_, qh [0, 3, 14, 15, 16] [(3, 3), (33000, 0)] rfl rfl, k + 1, _, _, hlt', rfl, qf hlt' (by omega), ?_, hMob, rfl⟩
     · omega
     · rw [hLs, hE]
   · have he : rc = [] := by
      refine List.length_eq_zero_iff.1 ?_
      have : ¬ ((rc.length : Int) > 0) := by simpa using hq
      omega
     rw [if_pos he] at hE
     refine qd ?_
     refine uA ?_
     refine ⟨_, _, ?_, qh [0, 3, 14, 15, 16] [(3, 3), (24000, 0)] rfl rfl, k + 1, _, _, hlt', rfl, qf hlt' (by omega), ?_, hTb, rfl⟩
     · omega
     · rw [hLs, hE]
 · refine qt ?_
   rw [lr] at hlt
   simp only [decide_eq_false_iff_not] at hlt
   have hkk : k = rules.length := by omega
   subst hkk
   rw [List.take_length] at hL
   have hL1 := zH (rules.flatMap rulA) M
   rw [← hL] at hL1
   rw [← hL]
   refine uA ?_
   refine uB ?_
   refine uZ [0, 3, 35, 36, 37] [(3, 3), (0, 0)] ?_
   refine qw (fun m s => ∃ (k : Nat) (kk : Int) (N : List Atm), k ≤ ks.length ∧ m = ks.length - k ∧ kk = k ∧ N = addA L ((ks.take k).flatMap (polA n)) ∧ (∀ x ∈ N, x.c.length ≤ 1000000) ∧ s = ⟨46, [(0, .row 0), (3, .ptr 3 0), (35, .p (.sl 7 (ks.map polP))), (36, .p (pI (ks.map polP).length)), (37, .p (pI kk))], (3, .cells [.p (pS id), .p (pB set), .p (pI al), .p (tgtP tg), .p (.sl 5 (rules.map zy)), .p (.sl 7 (ks.map polP)), .p (jc obls)]) :: rowA 0 N⟩) ks.length ⟨0, 0, _, Nat.zero_le _, rfl, rfl, rfl, hLb, rfl⟩ ?_
   rintro m s ⟨k, _, N, hk, rfl, rfl, hN, hNb, rfl⟩
   refine uA ?_
   refine uC (fun hlt => ?_) (fun hlt => ?_)
   · refine qd ?_
     rw [lk] at hlt
     simp only [decide_eq_true_eq] at hlt
     have hlt' : k < ks.length := by omega
     have hN1 := zH ((ks.take k).flatMap (polA n)) L
     rw [← hN] at hN1
     have hfl := jx (polA n) Pol.sz (polA_len n) (ks.take k)
     have hsa := sumBy_at Pol.sz hlt'
     have hS := qah (polA n) hlt'
     have hksz := hks _ (List.getElem_mem hlt')
     have hkp := hkf _ (List.getElem_mem hlt')
     obtain ⟨q, hq⟩ : ∃ q, q = ks[k] := ⟨_, rfl⟩
     rw [← hq] at hsa hS hksz hkp
     have H := IH q hkp (by omega) N hNb (by omega)
     have hNs : addA N (polA n q) = addA L ((ks.take (k + 1)).flatMap (polA n)) := by rw [hS, za, hN]
     have hNb2 : ∀ x ∈ addA N (polA n q), x.c.length ≤ 1000000 := addA_bd hNb fun x hx => by have := polA_c hx; omega
     rw [qG] at H
     refine uB ?_
     refine uR ?_
     refine qe qa rfl rfl (by rw [lk]; omega) rfl ?_
     rw [qm hlt', ← hq, qG]
     refine uS ?_
     refine qb ?_
     refine uR ?_
     refine uW [(0, 1000000)] H ?_
     refine qb ?_
     refine uA ?_
     refine ⟨_, _, ?_, qh [0, 3, 35, 36, 37] [(3, 3), (44000, 0)] rfl rfl, k + 1, _, _, hlt', rfl, qf hlt' (by omega), hNs, hNb2, rfl⟩
     omega
   · refine qt ?_
     rw [lk] at hlt
     simp only [decide_eq_false_iff_not] at hlt
     have hkk : k = ks.length := by omega
     subst hkk
     rw [List.take_length] at hN
     rw [← hN]
     refine uA ?_
     refine uQ ?_
     exact uF [(0, 0)]
set_option maxHeartbeats 4000000
theorem polFV_up : ∀ {n : Nat} {p : Pol}, PolF n p → PolF (n + 1) p
 | n + 1, p, h => ⟨h.1, h.2.1, fun k hk => polFV_up (h.2.2 k hk)⟩
theorem polFV_add {n : Nat} {p : Pol} (h : PolF n p) : ∀ m, PolF (n + m) p
 | 0 => h
 | m + 1 => polFV_up (polFV_add h m)
theorem right_polA {p : Pol} (h : zj p = 0) (n : Nat) : polA (n + 4) p = polA 4 p := polA_dp (right_dp h) (by omega)
def qM (p : Pol) : List Atm := addA [] (polA 4 p)
theorem of_many {n : Nat} (p : Pol) (hf : PolF n p) (hsz : p.sz ≤ 100000) (h : zj p = 0) (hl : 64 < (qM p).length) : Holds Tryz.prog 13 [.agg (polP p)] (.tup [.p nilV, .p (pI 6)]) [] := by
 have HR := right_h p (qaE 4 hf)
 have HO := ofNil_h (n + 3) p (polFV_add hf 4) hsz
 rw [right_polA h] at HO
 change Holds _ _ _ _ (rowA 0 (qM p)) at HO
 rw [h] at HR
 have la : ((qM p).map Atm.pv).length = (qM p).length := by simp
 generalize qM p = L at *
 rw [qG] at HR HO ⊢
 refine qo (ts := [2,3]) Tryz.func13 (by kernel_rfl) rfl rfl rfl ?_
 refine uA ?_
 refine uR ?_
 refine uK HR ?_
 refine qb ?_
 refine uC (fun hc => ?_) (fun hc => ?_)
 · cases hc
 refine qd ?_
 refine uR ?_
 refine uO HO ?_
 refine qb ?_
 refine uA ?_
 rw [la]
 rw [show decide ((L.length : Int) > 64) = true by simp; omega]
 refine uC (fun hd => ?_) (fun hd => ?_)
 · refine uA ?_
   refine uQ ?_
   exact uF []
 · cases hd
theorem of_ok {n : Nat} (p : Pol) (hf : PolF n p) (hsz : p.sz ≤ 100000) (h : zj p = 0) (hl : (qM p).length ≤ 64) : Holds Tryz.prog 13 [.agg (polP p)] (.tup [.row 0, .p (pI 0)]) (rowA 0 (qM p)) := by
 have HR := right_h p (qaE 4 hf)
 have HO := ofNil_h (n + 3) p (polFV_add hf 4) hsz
 rw [right_polA h] at HO
 change Holds _ _ _ _ (rowA 0 (qM p)) at HO
 rw [h] at HR
 have la : ((qM p).map Atm.pv).length = (qM p).length := by simp
 generalize qM p = L at *
 rw [qG] at HR HO ⊢
 refine qo (ts := [2,3]) Tryz.func13 (by kernel_rfl) rfl rfl rfl ?_
 refine uA ?_
 refine uR ?_
 refine uK HR ?_
 refine qb ?_
 refine uC (fun hc => ?_) (fun hc => ?_)
 · cases hc
 refine qd ?_
 refine uR ?_
 refine uO HO ?_
 refine qb ?_
 refine uA ?_
 rw [la]
 rw [show decide ((L.length : Int) > 64) = false by simp; omega]
 refine uC (fun hd => ?_) (fun hd => ?_)
 · cases hd
 · refine qd ?_
   refine uA ?_
   refine uQ ?_
   exact uF [(10000, 0)]
theorem atoms_c {p : Pol} : ∀ x ∈ qM p, x.c.length ≤ p.sz := fun x hx => polA_c ((addA_mem.1 hx).elim (fun h => (nomatch h)) id)
theorem firstE_ev {β : Type} {f : β → Int} : ∀ {l : List β}, firstE f l = 0 → ∀ x ∈ l, f x = 0
 | [], _, x, hx => nomatch hx
 | y :: l, h, x, hx => by
   rw [firstE] at h
   by_cases hy : f y = 0
   · rw [if_pos hy] at h
     rcases List.mem_cons.1 hx with rfl | hx
     · exact hy
     · exact firstE_ev h x hx
   · rw [if_neg hy] at h; exact absurd h hy
theorem manyS_ok {n : Nat} (h : manyS n = 0) : n ≤ 8 := by
 unfold manyS at h
 split at h
 · omega
 · split at h
   · omega
   · omega
theorem tarK_of {t : Tar} (h : zF t = 0) : TarK t := by
 unfold zF at h
 split at h
 · omega
 refine ⟨by omega, fun x hx => ?_⟩
 have h1 := firstE_ev h x hx
 unfold anyOfS at h1
 by_cases hm : manyS x.length = 0
 · rw [if_pos hm] at h1
   have h2 := manyS_ok hm
   refine ⟨by omega, fun y hy => ?_⟩
   have h3 := firstE_ev h1 y hy
   unfold allOfS at h3
   by_cases hm2 : manyS y.length = 0
   · have h2 := manyS_ok hm2; omega
   · rw [if_neg hm2] at h3; exact absurd h3 hm2
 · rw [if_neg hm] at h1; exact absurd h1 hm
theorem headE_ok {p : Pol} (h : headE p = 0) : zF p.target = 0 ∧ p.rules.length ≤ 16 ∧ p.kids.length ≤ 16 := by
 unfold headE at h
 split at h
 · omega
 by_cases ht : zF p.target = 0
 · rw [if_pos ht] at h
   by_cases ho : oblsS p.obls = 0
   · rw [if_pos ho] at h
     split at h
     · omega
     · rename_i hl; exact ⟨ht, by omega, by omega⟩
   · rw [if_neg ho] at h; exact absurd h ho
 · rw [if_neg ht] at h; exact absurd h ht
theorem right_rule {p : Pol} (h : zj p = 0) : ∀ r ∈ p.rules, ruleE r = 0 := by
 obtain ⟨h1, h2, h3⟩ := wX h
 refine seqS_each (Q := fun r => ruleE r = 0) (fun w r hr => ?_) h2
 unfold zu at hr
 split at hr
 · simp only at hr
   split at hr
   · omega
   · exact hr
 · simp only at hr; omega
theorem ruleE_t {r : Rul} (h : ruleE r = 0) : zF r.target = 0 := by
 unfold ruleE at h
 by_cases ht : zF r.target = 0
 · exact ht
 · rw [if_neg ht] at h; exact absurd h ht
theorem polK_of {at_ : List Atm} : ∀ (n : Nat) {p : Pol}, Dp n p → zj p = 0 → p.sz ≤ 10000 → (∀ a ∈ polA n p, a ∈ at_) → PolK at_ n p
 | 0, p, h, _, _, _ => h.elim
 | n + 1, p, hd, h, hs, ha => by
   obtain ⟨_, _, hh, _⟩ := right_name h
   obtain ⟨h1, h2, h3⟩ := headE_ok hh
   have hsz := Pol.sz_eq p
   refine ⟨hs, tarK_of h1, fun a h => ha a (by rw [polA]; exact List.mem_append_left _ h), by unfold ze; rw [List.length_append, List.length_map, List.length_map]; omega, fun r hr => ?_, fun k hk => ?_⟩
   · have h4 := wd (f := rusz) hr
     have h5 : rusz r = txt r.id + tsz r.target + r.cond.length + osz r.obls + qB nsz r.cond := rfl
     have h6 : r.obls.length ≤ osz r.obls := by unfold osz; omega
     exact ⟨tarK_of (ruleE_t (right_rule h r hr)), by omega, fun a h => ha a (by rw [polA]; exact List.mem_append_right _ (List.mem_append_left _ (List.mem_flatMap.2 ⟨r, hr, h⟩))), by omega⟩
   · have h4 := wd (f := Pol.sz) hk
     exact polK_of n (hd k hk) (right_kids h k hk) (by omega) fun a h => ha a (by rw [polA]; exact List.mem_append_right _ (List.mem_append_right _ (List.mem_flatMap.2 ⟨k, hk, h⟩)))
theorem polK_right {p : Pol} (h : zj p = 0) (hs : p.sz ≤ 10000) : PolK (qM p) 4 p := polK_of 4 (right_dp h) h hs fun a ha => addA_mem.2 (.inr ha)
theorem atOk_right {p : Pol} (hs : p.sz ≤ 10000) (hl : (qM p).length ≤ 64) : AtOk (qM p) := ⟨hl, fun x hx => by have := atoms_c x hx; omega⟩
theorem policy_all (at_ : List Atm) (hat : AtOk at_) : ∀ n, PolHk at_ n
 | 0 => fun p hp => hp.elim
 | n + 1 => policy_step at_ hat n (policy_all at_ hat n)
end Go.Proofs.YtkkbdgijfkocnaaGreatDoor
