/-
  Shades: calls that are handed what the caller made, and may change it; maps; rows cut short.
-/
import Derived.Test.YtjpcchipejmocaaShade4
namespace Go.Proofs.Ytjpcchipejmocaa
set_option linter.unusedVariables false
set_option linter.unusedSimpArgs false
open Go.RowKit

/-- at the beginning of a call to which these things are handed -/
def baseOf (w : World) (γ : Nat → Value) (own : List (Nat × Box)) : Base := ⟨w, fun b => b < w.heap.size ∧ ∀ i bx, lk i own = some bx → blkOf (γ i) ≠ some b, fun i => if i < 1000000 then none else hp γ own i⟩
/-- as Holds, but things of the caller's own are handed in: they may be changed, and some of them come back -/
def HoldsR (P : Program) (f : FuncId) (args : List SV) (own : List (Nat × Box)) (R : SV → List (Nat × Box) → Prop) : Prop := Callable P f ∧
  ∀ (w : World) (Sx : Nat → Prop) (γ : Nat → Value) (vs : List Value), HeapOk (baseOf w γ own) Sx γ own w → vs.length = args.length → (∀ (i : Nat) (s : SV) (u : Value), args[i]? = some s → vs[i]? = some u → RelS (okO Sx γ own) (hp γ own) w s u) →
    Calls P f vs.toArray w fun e w' => ∃ v γ' r own', R r own' ∧ e = .returned v ∧ BelowB (baseOf w γ own) w' ∧ HeapOk (baseOf w γ own) Sx γ' own' w' ∧ RelS (okO Sx γ' own') (hp γ' own') w' r v
def HoldsW (P : Program) (f : FuncId) (args : List SV) (own : List (Nat × Box)) (r : SV) (own' : List (Nat × Box)) : Prop := HoldsR P f args own fun r' o' => r' = r ∧ o' = own'
theorem holdsR_of {P : Program} {f : FuncId} {fn : Func} {c : Code} {args : List SV} {own : List (Nat × Box)} {R : SV → List (Nat × Box) → Prop} {ts : List Tmp} (hf : P.funcs[f]? = some fn) (hname : (fn.name == "runtime.NumGoroutine") = false) (hb : fn.body = some c)
    (hres : fn.results = (ts.map ResultVar.tmp).toArray) (hn : (Nat.ble args.length fn.ntmps && Nat.ble fn.ntmps 900) = true) (h : SW P c (FinR ts R) ⟨fn.ntmps, argFrS 0 args, own⟩) : HoldsR P f args own R := by
  refine ⟨⟨fn, hf, hname, by rw [hb]; rfl⟩, fun w Sx γ vs hh hl hr => ?_⟩
  exact body_run hf hb hres hn h ⟨Below.refl _ w, fun _ _ => rfl⟩ hh hl hr
theorem holdsW_of {P : Program} {f : FuncId} {fn : Func} {c : Code} {args : List SV} {own : List (Nat × Box)} {r : SV} {own' : List (Nat × Box)} {ts : List Tmp} (hf : P.funcs[f]? = some fn) (hname : (fn.name == "runtime.NumGoroutine") = false) (hb : fn.body = some c)
    (hres : fn.results = (ts.map ResultVar.tmp).toArray) (hn : (Nat.ble args.length fn.ntmps && Nat.ble fn.ntmps 900) = true) (h : SW P c (Fin ts r own') ⟨fn.ntmps, argFrS 0 args, own⟩) : HoldsW P f args own r own' :=
  holdsR_of hf hname hb hres hn (h.mono fun e s q => q.toR)

/-! ### A part of what the call owns -/
/-- what the callee is to leave alone: what the caller leaves alone, and what of its own is not handed in -/
def restX (Sx : Nat → Prop) (γ : Nat → Value) (own : List (Nat × Box)) (ρ : List (Nat × Nat)) (b : Nat) : Prop := Sx b ∨ ∃ i bx, lk i own = some bx ∧ lk i ρ = none ∧ blkOf (γ i) = some b
theorem heap_sub {B : Base} {Sx : Nat → Prop} {γ : Nat → Value} {own own' : List (Nat × Box)} {w : World} {ρ : List (Nat × Nat)} (h : HeapOk B Sx γ own w) (hbel : BelowB B w) (ho : ownR ρ own ρ = some own') (hd : (dist (ρ.map (·.1)) && dist (ρ.map (·.2))) = true) :
    ∃ γ', HeapOk (baseOf w γ' own') (restX Sx γ own ρ) γ' own' w ∧ (∀ i m, lk i ρ = some m → γ' m = γ i ∧ (lk i own).isSome = true ∧ (lk m own').isSome = true) ∧ (∀ m bx, lk m own' = some bx → ∃ i by_, lk i ρ = some m ∧ lk i own = some by_ ∧ γ' m = γ i) ∧
      ∀ s u s', RelS (okO Sx γ own) (hp γ own) w s u → s.mapR ρ = some s' → RelS (okO (restX Sx γ own ρ) γ' own') (hp γ' own') w s' u := by
  simp only [Bool.and_eq_true] at hd
  have hd2 : dist ((swp ρ).map (·.1)) = true := by
    have : (swp ρ).map (·.1) = ρ.map (·.2) := by unfold swp; rw [List.map_map]; rfl
    rw [this]; exact hd.2
  have there : ∀ {i m}, lk i ρ = some m → lk m (swp ρ) = some i := fun hi => lk_of_mem hd2 (List.mem_map.2 ⟨_, lk_mem hi, rfl⟩)
  have back : ∀ {i m}, lk m (swp ρ) = some i → lk i ρ = some m := fun hm => by
    obtain ⟨⟨a, b⟩, h1, h2⟩ := List.mem_map.1 (lk_mem hm)
    cases h2
    exact lk_of_mem hd.1 h1
  let γ' : Nat → Value := fun m => match lk m (swp ρ) with | some i => γ i | none => .nilIface
  have g1 : ∀ {m bx'}, lk m own' = some bx' → ∃ i bx, lk m (swp ρ) = some i ∧ lk i own = some bx ∧ bx.mapR ρ = some bx' ∧ γ' m = γ i := fun {m bx'} hm => by
    cases hs : lk m (swp ρ) with
    | none => rw [(ownR_get ho m).2 hs] at hm; cases hm
    | some i =>
      obtain ⟨bx, b2, k1, k2, k3⟩ := (ownR_get ho m).1 i hs
      rw [hm] at k3
      cases k3
      exact ⟨i, bx, rfl, k1, k2, by show (match lk m (swp ρ) with | some i => γ i | none => .nilIface) = γ i; rw [hs]⟩
  have g2 : ∀ {i m}, lk i ρ = some m → hp γ' own' m = hp γ own i := fun {i m} hi => by
    have hs := there hi
    obtain ⟨bx, b2, k1, k2, k3⟩ := (ownR_get ho m).1 i hs
    rw [hp_some k1, hp_some k3]
    show some (match lk m (swp ρ) with | some i => γ i | none => .nilIface) = _
    rw [hs]
  have okc : ∀ b, okO Sx γ own b → okO (restX Sx γ own ρ) γ' own' b := fun b hok => ⟨fun hx => by
    rcases hx with hx | ⟨i, bx, h1, _, h2⟩
    · exact hok.1 hx
    · exact hok.2 i bx h1 h2, fun m bx hm hb => by
    obtain ⟨i, by_, _, k1, _, k2⟩ := g1 hm
    rw [k2] at hb; exact hok.2 i by_ k1 hb⟩
  have keep : ∀ s u s', RelS (okO Sx γ own) (hp γ own) w s u → s.mapR ρ = some s' → RelS (okO (restX Sx γ own ρ) γ' own') (hp γ' own') w s' u := fun s u s' hr hs => hr.mapR (fun b _ => okc b) (fun i m hi => g2 hi) hs
  have nk : ∀ {m bx' b}, lk m own' = some bx' → blkOf (γ' m) = some b → ¬ (baseOf w γ' own').kp b := fun {m bx' b} hm hb hk => hk.2 m bx' hm hb
  refine ⟨γ', ⟨fun m bx' hm => ?_, fun m n bm bn b hm hn hbm hbn => ?_, ⟨fun b hb => ?_, fun b hb => hb.1, fun i bx g hi hg => ?_, fun i hi => if_pos hi, fun g us hg => ?_⟩⟩, fun i m hi => ?_, fun m bx hm => ?_, keep⟩
  · obtain ⟨i, bx, k0, k1, k2, k3⟩ := g1 hm
    cases h.box i bx k1 with
    | @mp es ens clock b hg hB hh hl hr =>
      simp only [Box.mapR, Option.some.injEq] at k2
      subst k2
      exact .mp (by rw [k3]; exact hg) (nk hm (by rw [k3, hg]; rfl)) hh hl fun k x en hs hu => ⟨(hr k x en hs hu).1, (hr k x en hs hu).2.weak fun b _ h => okc b h⟩
    | @row e z l hr he hl hk =>
      simp only [Box.mapR, Option.some.injEq] at k2
      subst k2
      refine .row ?_ he hl (fun b hb => nk hm hb)
      rw [k3]
      refine hr.keep2 good_PV (Nat.le_refl _) (fun _ _ => rfl) fun b _ hok hne => ⟨rfl, fun hx => ?_, fun n bn hn hnm hb => ?_⟩
      · rcases hx with hx | ⟨j, bj, h1, h3, h2⟩
        · exact hok.1 hx
        · refine hok.2 j bj h1 (fun e => ?_) h2
          subst e
          rw [back k0] at h3; cases h3
      · obtain ⟨j, bj, q0, q1, q2, q3⟩ := g1 hn
        rw [q3] at hb
        refine hok.2 j bj q1 (fun e => hnm ?_) hb
        subst e
        have a1 := back k0
        have a2 := back q0
        rw [a1] at a2; cases a2; rfl
    | @cells cs us ty b hg hB hh hl hr h1 =>
      have k2' : (match mapRs ρ cs with | some l => some (Box.cells l) | none => none) = some bx' := k2
      clear k2
      split at k2'
      · rename_i l hl'
        simp only [Option.some.injEq] at k2'
        subst k2'
        obtain ⟨q1, q2⟩ := mapRs_get hl'
        refine .cells (by rw [k3]; exact hg) (nk hm (by rw [k3, hg]; rfl)) hh (by omega) (fun j s u hs hu => ?_) h1
        obtain ⟨s0, p1, p2⟩ := q2 j s hs
        exact keep s0 u s (hr j s0 u p1 hu) p2
      · cases k2'
  · obtain ⟨i, bi, k0, k1, _, k3⟩ := g1 hm
    obtain ⟨j, bj, q0, q1, _, q3⟩ := g1 hn
    rw [k3] at hbm; rw [q3] at hbn
    have e := h.inj i j _ _ b k1 q1 hbm hbn
    subst e
    have a1 := back k0
    have a2 := back q0
    rw [a1] at a2; cases a2; rfl
  · refine ⟨?_, fun m bx hm hmb => ?_⟩
    · rcases hb with hb | ⟨i, bx, h1, _, h2⟩
      · exact h.sx.lt b (h.sx.sub b hb)
      · exact (h.blk h1 h2).2
    · obtain ⟨i, by_, k0, k1, _, k3⟩ := g1 hm
      rw [k3] at hmb
      rcases hb with hb | ⟨j, bj, h1, h3, h2⟩
      · exact h.nsx k1 hmb hb
      · have e := h.inj i j _ _ b k1 h1 hmb h2
        subst e
        rw [back k0] at h3; cases h3
  · have hg' : (if i < 1000000 then none else hp γ' own' i) = some g := hg
    split at hg'
    · cases hg'
    · rw [hp_some hi] at hg'; cases hg'; rfl
  · obtain ⟨q1, q2, q3⟩ := h.sx.gl g us hg
    obtain ⟨ty, m, q3⟩ := q3
    refine ⟨⟨h.sx.lt g q1, fun i bx hi hb => ?_⟩, fun hx => ?_, ty, m, (hbel.2 g q1).trans q3⟩
    · obtain ⟨i0, by_, _, k1, _, k3⟩ := g1 hi
      rw [k3] at hb
      exact blk_kp h k1 hb q1
    · rcases hx with hx | ⟨i, bx, r1, _, r2⟩
      · exact q2 hx
      · exact blk_kp h r1 r2 q1
  · have hs := there hi
    obtain ⟨bx, b2, k1, k2, k3⟩ := (ownR_get ho m).1 i hs
    refine ⟨?_, by rw [k1]; rfl, by rw [k3]; rfl⟩
    show (match lk m (swp ρ) with | some i => γ i | none => .nilIface) = _
    rw [hs]
  · obtain ⟨i, by_, k0, k1, _, k3⟩ := g1 hm
    exact ⟨i, by_, back k0, k1, k3⟩

/-! ### A call that is handed what the caller owns -/
def argWs (st : St) (ρ : List (Nat × Nat)) : List Operand → Option (List SV)
  | [] => some []
  | x :: r => match evS st x with
    | some s => match s.mapR ρ with
      | some s' => match argWs st ρ r with
        | some l => some (s' :: l)
        | none => none
      | none => none
    | none => none
def newN (dst : Option Tmp) (m : Nat) : Nat := match dst with
  | some d => 1000 * (d + 1) + m
  | none => 999000 + m
def sgm (ρ : List (Nat × Nat)) (dst : Option Tmp) (own' : List (Nat × Box)) : List (Nat × Nat) := own'.map fun p => (p.1, match lk p.1 (swp ρ) with | some i => i | none => newN dst p.1)
def lost (ρ : List (Nat × Nat)) (own' : List (Nat × Box)) : List Nat := (ρ.filter fun p => (lk p.2 own').isNone).map (·.1)
def kls (L : List Nat) (s : SV) : SV := bif L.all (fun i => s.noRef i) then s else .junk
def klsB (L : List Nat) : Box → Box
  | .cells cs => .cells (cs.map (kls L))
  | b => b
def restO (ρ : List (Nat × Nat)) (L : List Nat) : List (Nat × Box) → List (Nat × Box)
  | [] => []
  | (i, b) :: r => bif (lk i ρ).isNone then (i, klsB L b) :: restO ρ L r else restO ρ L r
theorem lk_restO (ρ : List (Nat × Nat)) (L : List Nat) (i : Nat) : ∀ own : List (Nat × Box), lk i (restO ρ L own) = if (lk i ρ).isNone then (lk i own).map (klsB L) else none
  | [] => by simp [restO, lk]
  | (j, b) :: r => by
    rw [restO]
    cases hj : (lk j ρ).isNone with
    | true =>
      rw [cond_true, lk_cons, lk_restO ρ L i r, lk_cons]
      by_cases e : i = j
      · subst e; simp [hj]
      · rw [if_neg e, if_neg e]
    | false =>
      rw [cond_false, lk_restO ρ L i r, lk_cons]
      by_cases e : i = j
      · subst e; rw [hj]; simp
      · rw [if_neg e]
def St.back (st : St) (ρ : List (Nat × Nat)) (dst : Option Tmp) (r : SV) (own' : List (Nat × Box)) : Option St := match r.mapR (sgm ρ dst own') with
  | some r' => match ownR (sgm ρ dst own') own' (sgm ρ dst own') with
    | some o => some (St.put ⟨st.n, st.fr.map (fun p => (p.1, kls (lost ρ own') p.2)), o ++ restO ρ (lost ρ own') st.own⟩ dst r')
    | none => none
  | none => none
def backOk (st : St) (ρ : List (Nat × Nat)) (dst : Option Tmp) (own' : List (Nat × Box)) : Bool :=
  own'.all (fun p => (lk p.1 (swp ρ)).isSome || ((lk (newN dst p.1) st.own).isNone && Nat.blt p.1 1000)) && (dist ((sgm ρ dst own').map (·.1)) && dist ((sgm ρ dst own').map (·.2)))
theorem lk_sgm {ρ : List (Nat × Nat)} {dst : Option Tmp} : ∀ {own' : List (Nat × Box)} (m : Nat), lk m (sgm ρ dst own') = (lk m own').map fun _ => (match lk m (swp ρ) with | some i => i | none => newN dst m)
  | [], m => rfl
  | (k, b) :: r, m => by
    have := lk_sgm (ρ := ρ) (dst := dst) (own' := r) m
    unfold sgm at this ⊢
    rw [List.map_cons, lk_cons, this, lk_cons]
    by_cases e : m = k
    · subst e; rw [if_pos rfl, if_pos rfl]; rfl
    · rw [if_neg e, if_neg e]
theorem kls_all {L : List Nat} {s : SV} {i : Nat} (h : (kls L s).noRef i = false) : kls L s = s ∧ s.noRef i = false ∧ i ∉ L := by
  unfold kls at h ⊢
  cases hL : L.all (fun i => s.noRef i) with
  | false => rw [hL] at h; cases h
  | true =>
    rw [hL] at h
    refine ⟨rfl, h, fun hi => ?_⟩
    rw [cond_true, List.all_eq_true.1 hL i hi] at h; cases h
theorem RelS.kls {ok : Nat → Prop} {H : Nat → Option Value} {w : World} {s : SV} {u : Value} (L : List Nat) (h : RelS ok H w s u) : RelS ok H w (kls L s) u := by
  unfold Proofs.Ytjpcchipejmocaa.kls
  cases L.all (fun i => s.noRef i) with
  | false => exact .junk
  | true => exact h
def fnOf : SV → Option (FuncId × List SV)
  | .p (.fn f caps) => some (f, caps.map .p)
  | .fn f caps => some (f, caps)
  | _ => none
section
variable {P : Program} {st : St}
theorem argWs_get {ρ : List (Nat × Nat)} : ∀ {xs : List Operand} {l : List SV}, argWs st ρ xs = some l → l.length = xs.length ∧ ∀ (i : Nat) (s' : SV), l[i]? = some s' → ∃ x s, xs[i]? = some x ∧ evS st x = some s ∧ s.mapR ρ = some s'
  | [], l, h => by simp only [argWs, Option.some.injEq] at h; subst h; simp
  | x :: xs, l, h => by
    unfold argWs at h
    split at h
    · rename_i s hs
      split at h
      · rename_i s' hs'
        split at h
        · rename_i l' hl
          simp only [Option.some.injEq] at h
          subst h
          obtain ⟨h1, h2⟩ := argWs_get hl
          refine ⟨by simp [h1], fun i y hy => ?_⟩
          cases i with
          | zero => simp at hy; subst hy; exact ⟨x, s, rfl, hs, hs'⟩
          | succ i => obtain ⟨z, t, q1, q2, q3⟩ := h2 i y (by simpa using hy); exact ⟨z, t, by simpa using q1, q2, q3⟩
        · cases h
      · cases h
    · cases h
theorem act_call_RS {o : Oper} {cl : Call} {fo : Operand} {f : FuncId} {sf : SV} {caps caps' : List SV} (ρ : List (Nat × Nat)) {args : List SV} {own : List (Nat × Box)} {R : SV → List (Nat × Box) → Prop} (ho : o.op = .call cl) (hcl : cl.callee = .value fo) (hfo : evS st fo = some sf) (hcf : fnOf sf = some (f, caps)) (hcaps : mapRs ρ caps = some caps')
    (hown : ownR ρ st.own ρ = some own) (hρ : ((dist (ρ.map (·.1)) && dist (ρ.map (·.2))) && ρ.all (fun p => Nat.ble 1000000 p.2)) = true) (hargs : argWs st ρ cl.args.toList = some args)
    (H : HoldsR P f (args ++ caps') own R) (hd : dstOk st o.dst = true) {Q : St → Prop} (h : ∀ r own', R r own' → ∃ st', st.back ρ o.dst r own' = some st' ∧ backOk st ρ o.dst own' = true ∧ Q st') : ActOk P (ρ.map (·.1)) o st Q := by
  intro w0 Sx γ a w QQ hI
  obtain ⟨⟨fn, hfn, hname, hbody⟩, H⟩ := H
  simp only [Bool.and_eq_true] at hρ
  obtain ⟨hρd, hρ2⟩ := hρ
  obtain ⟨γ0, s1, s2, s3, s4⟩ := heap_sub hI.heap hI.below hown (by simpa using hρd)
  have hd1 : dist (ρ.map (·.1)) = true := hρd.1
  have hd2 : dist ((swp ρ).map (·.1)) = true := by
    have : (swp ρ).map (·.1) = ρ.map (·.2) := by unfold swp; rw [List.map_map]; rfl
    rw [this]; exact hρd.2
  have there : ∀ {i m}, lk i ρ = some m → lk m (swp ρ) = some i := fun hi => lk_of_mem hd2 (List.mem_map.2 ⟨_, lk_mem hi, rfl⟩)
  have back : ∀ {i m}, lk m (swp ρ) = some i → lk i ρ = some m := fun hm => by
    obtain ⟨⟨a, b⟩, h1, h2⟩ := List.mem_map.1 (lk_mem hm)
    cases h2
    exact lk_of_mem hd1 h1
  obtain ⟨a1, a2⟩ := argWs_get hargs
  have hfs : ∃ us : List Value, a.eval fo = .func (.func f) #[] us.toArray ∧ us.length = caps.length ∧ ∀ (i : Nat) (s : SV) (u : Value), caps[i]? = some s → us[i]? = some u → RelS (okO Sx γ st.own) (hp γ st.own) w s u := by
    have hf := evS_ok hI hfo
    cases sf with
    | p x =>
      cases x with
      | fn g cs =>
        simp only [fnOf, Option.some.injEq, Prod.mk.injEq] at hcf
        obtain ⟨rfl, rfl⟩ := hcf
        generalize a.eval fo = u at hf
        have hf := hf.p_inv
        cases hf with
        | @fn _ _ us hl hr =>
          refine ⟨us, rfl, by simpa using hl, fun i s u hs hu => ?_⟩
          rw [List.getElem?_map] at hs
          obtain ⟨x, hx, rfl⟩ := Option.map_eq_some_iff.1 hs
          exact .p (hr i x u hx hu)
      | _ => cases hcf
    | fn g cs =>
      simp only [fnOf, Option.some.injEq, Prod.mk.injEq] at hcf
      obtain ⟨rfl, rfl⟩ := hcf
      generalize a.eval fo = u at hf
      cases hf with
      | @fn _ _ us hl hr => exact ⟨us, rfl, hl, hr⟩
    | _ => cases hcf
  obtain ⟨us, hfv, hl, hr⟩ := hfs
  obtain ⟨c1, c2⟩ := mapRs_get hcaps
  have okc : ∀ b, okO Sx γ st.own b → okO (restX Sx γ st.own ρ) γ0 own b := fun b hok => ⟨fun hx => by
    rcases hx with hx | ⟨i, bx, h1, _, h2⟩
    · exact hok.1 hx
    · exact hok.2 i bx h1 h2, fun m bx hm hb => by
    obtain ⟨i, by_, _, k1, k2⟩ := s3 m bx hm
    rw [k2] at hb; exact hok.2 i by_ k1 hb⟩
  have hc := H w (restX Sx γ st.own ρ) γ0 (cl.args.toList.map a.eval ++ us) s1 (by simp only [List.length_append, List.length_map]; omega) fun i s v hs hv => by
    by_cases hi : i < args.length
    · rw [List.getElem?_append_left hi] at hs
      rw [List.getElem?_append_left (by rw [List.length_map, ← a1]; exact hi), List.getElem?_map] at hv
      obtain ⟨x, s0, q1, q2, q3⟩ := a2 i s hs
      rw [q1] at hv
      cases hv
      exact s4 _ _ _ (evS_ok hI q2) q3
    · rw [List.getElem?_append_right (by omega)] at hs
      rw [List.getElem?_append_right (by rw [List.length_map, ← a1]; omega), List.length_map, ← a1] at hv
      obtain ⟨s0, q1, q2⟩ := c2 _ s hs
      exact s4 _ _ _ (hr _ s0 v q1 hv) q2
  unfold Oper.wp
  have hrun : (execOp a.eval o).run P w = .ok (.enter f (cl.args.toList.map a.eval ++ us).toArray) w := by
    have e : (cl.args.toList.map a.eval ++ us).toArray = cl.args.map a.eval ++ us.toArray := by
      apply Array.toList_inj.1; simp
    rw [e]
    have := run_enter hfn hname hbody (cl.args.map a.eval ++ us.toArray) w
    simp only [execOp, ho, resolve, hcl, hfv, Deferred.ofValue, Sem.run_bind, Sem.run_pure, Result.andThen_ok, invoke, Array.empty_append, this]
  rw [hrun, Oper.upon_enter]
  refine hc.mono fun e w' he => ?_
  obtain ⟨v, γ', r, own', hR, rfl, hbel, hh, hrel⟩ := he
  obtain ⟨st', hst', hbk, hQ⟩ := h r own' hR
  unfold backOk at hbk
  simp only [Bool.and_eq_true] at hbk
  obtain ⟨hnew, hσd⟩ := hbk
  generalize hσ : sgm ρ o.dst own' = σ at *
  generalize hL : lost ρ own' = L at *
  have hsz : w.heap.size ≤ w'.heap.size := hbel.1.size
  -- the numbers
  have lkσ : ∀ m, lk m σ = (lk m own').map fun _ => (match lk m (swp ρ) with | some i => i | none => newN o.dst m) := fun m => by rw [← hσ]; exact lk_sgm m
  have newid : ∀ {m bx}, lk m own' = some bx → lk m (swp ρ) = none → lk (newN o.dst m) st.own = none ∧ newN o.dst m < 1000000 := fun {m bx} hm hs => by
    have h1 := List.all_eq_true.1 hnew _ (lk_mem hm)
    simp only [hs, Option.isSome_none, Bool.false_or, Bool.and_eq_true] at h1
    refine ⟨Option.isNone_iff_eq_none.1 h1.1, ?_⟩
    have h2 : m < 1000 := by simpa [Nat.blt, Nat.lt_iff_add_one_le] using h1.2
    cases hdd : o.dst with
    | none => show 999000 + m < 1000000; omega
    | some d =>
      rw [hdd] at hd
      have h3 : d < st.n := by simpa [dstOk, Nat.blt, Nat.lt_iff_add_one_le] using hd
      have := hI.size.2
      have h4 : ∀ d : Nat, d < st.n → 1000 * (d + 1) + m < 1000000 := fun d h => by omega
      exact h4 d h3
  have hσ2 : dist ((swp σ).map (·.1)) = true := by
    have : (swp σ).map (·.1) = σ.map (·.2) := by unfold swp; rw [List.map_map]; rfl
    rw [this]; exact hσd.2
  have thereσ : ∀ {m i}, lk m σ = some i → lk i (swp σ) = some m := fun hi => lk_of_mem hσ2 (List.mem_map.2 ⟨_, lk_mem hi, rfl⟩)
  have backσ : ∀ {m i}, lk i (swp σ) = some m → lk m σ = some i := fun hm => by
    obtain ⟨⟨a, b⟩, h1, h2⟩ := List.mem_map.1 (lk_mem hm)
    cases h2
    exact lk_of_mem hσd.1 h1
  have γfix : ∀ {m i bx}, lk i ρ = some m → lk m own' = some bx → γ' m = γ i := fun {m i bx} hi hm => by
    obtain ⟨k1, k2, k3⟩ := s2 i m hi
    obtain ⟨by_, k4⟩ := Option.isSome_iff_exists.1 k3
    have hbig : ¬ m < 1000000 := by
      have := List.all_eq_true.1 hρ2 _ (lk_mem hi)
      have := Nat.le_of_ble_eq_true this
      omega
    have := hh.sx.fix m bx (γ0 m) hm (by show (if m < 1000000 then none else hp γ0 own m) = _; rw [if_neg hbig, hp_some k4])
    rw [this, k1]
  unfold St.back at hst'
  rw [hσ, hL] at hst'
  split at hst'
  · rename_i r' hr'
    split at hst'
    · rename_i oo hoo
      simp only [Option.some.injEq] at hst'
      subst hst'
      let γ2 : Nat → Value := fun i => match lk i (swp σ) with | some m => γ' m | none => γ i
      have γ2n : ∀ {i m}, lk i (swp σ) = some m → γ2 i = γ' m := fun {i m} hi => by
        show (match lk i (swp σ) with | some m => γ' m | none => γ i) = _
        rw [hi]
      have γ2o : ∀ {i}, lk i (swp σ) = none → γ2 i = γ i := fun {i} hi => by
        show (match lk i (swp σ) with | some m => γ' m | none => γ i) = _
        rw [hi]
      have inoo : ∀ {i bx}, lk i oo = some bx → ∃ m bm, lk i (swp σ) = some m ∧ lk m own' = some bm ∧ bm.mapR σ = some bx ∧ γ2 i = γ' m := fun {i bx} hi => by
        cases hs : lk i (swp σ) with
        | none => rw [(ownR_get hoo i).2 hs] at hi; cases hi
        | some m =>
          obtain ⟨bm, b2, k1, k2, k3⟩ := (ownR_get hoo i).1 m hs
          rw [hi] at k3
          cases k3
          exact ⟨m, bm, rfl, k1, k2, γ2n hs⟩
      have σnot : ∀ {i}, (lk i st.own).isSome = true → lk i ρ = none → lk i (swp σ) = none := fun {i} hi hiρ => by
        cases hs : lk i (swp σ) with
        | none => rfl
        | some m =>
          have h1 := backσ hs
          rw [lkσ] at h1
          obtain ⟨bm, h2, h3⟩ := Option.map_eq_some_iff.1 h1
          cases hm : lk m (swp ρ) with
          | some j => rw [hm] at h3; simp only at h3; subst h3; rw [back hm] at hiρ; cases hiρ
          | none =>
            rw [hm] at h3
            simp only at h3
            obtain ⟨h4, _⟩ := newid h2 hm
            rw [h3] at h4; rw [h4] at hi; cases hi
      have lk2 : ∀ i, lk i (oo ++ restO ρ L st.own) = match lk i oo with | some x => some x | none => lk i (restO ρ L st.own) := fun i => by rw [lk_append]; cases lk i oo <;> rfl
      have split : ∀ {i bx}, lk i (oo ++ restO ρ L st.own) = some bx → (∃ m bm, lk i (swp σ) = some m ∧ lk m own' = some bm ∧ bm.mapR σ = some bx ∧ γ2 i = γ' m) ∨ (lk i ρ = none ∧ ∃ b0, lk i st.own = some b0 ∧ bx = klsB L b0 ∧ γ2 i = γ i) := fun {i bx} hi => by
        rw [lk2] at hi
        cases h1 : lk i oo with
        | some x => rw [h1] at hi; cases hi; exact Or.inl (inoo h1)
        | none =>
          rw [h1] at hi
          simp only [lk_restO] at hi
          split at hi
          · rename_i hn
            obtain ⟨b0, h2, rfl⟩ := Option.map_eq_some_iff.1 hi
            have hn' := Option.isNone_iff_eq_none.1 hn
            exact Or.inr ⟨hn', b0, h2, rfl, γ2o (σnot (by rw [h2]; rfl) hn')⟩
          · cases hi
      have livN : ∀ {m i}, lk m σ = some i → ∃ bx bm, lk i (oo ++ restO ρ L st.own) = some bx ∧ γ2 i = γ' m ∧ lk m own' = some bm := fun {m i} hm => by
        obtain ⟨bm, b2, k1, k2, k3⟩ := (ownR_get hoo i).1 m (thereσ hm)
        exact ⟨b2, bm, by rw [lk2, k3], γ2n (thereσ hm), k1⟩
      have livO : ∀ {i}, (lk i st.own).isSome = true → i ∉ L → (lk i (oo ++ restO ρ L st.own)).isSome = true ∧ γ2 i = γ i := fun {i} hi hiL => by
        cases hρi : lk i ρ with
        | none =>
          obtain ⟨b0, h0⟩ := Option.isSome_iff_exists.1 hi
          have hno := σnot hi hρi
          refine ⟨?_, γ2o hno⟩
          rw [lk2, (ownR_get hoo i).2 hno, lk_restO, hρi, h0]; rfl
        | some m =>
          cases hm : lk m own' with
          | none =>
            refine absurd ?_ hiL
            rw [← hL]
            exact List.mem_map.2 ⟨(i, m), List.mem_filter.2 ⟨lk_mem hρi, by simp [hm]⟩, rfl⟩
          | some bm =>
            have h1 : lk m σ = some i := by rw [lkσ, hm, there hρi]; rfl
            obtain ⟨bx, _, h2, h3, _⟩ := livN h1
            exact ⟨by rw [h2]; rfl, by rw [h3, γfix hρi hm]⟩
      -- the blocks
      have kpsub : ∀ {b}, w0.kp b → (baseOf w γ0 own).kp b := fun {b} hb => ⟨hI.heap.sx.lt b hb, fun m bx hm hmb => by
        obtain ⟨i, by_, _, k1, k2⟩ := s3 m bx hm
        rw [k2] at hmb
        exact (hI.heap.blk k1 hmb).1 hb⟩
      have kprest : ∀ {i bx b}, lk i st.own = some bx → lk i ρ = none → blkOf (γ i) = some b → (baseOf w γ0 own).kp b := fun {i bx b} hi hiρ hb => ⟨(hI.heap.blk hi hb).2, fun m bm hm hmb => by
        obtain ⟨j, by_, k0, k1, k2⟩ := s3 m bm hm
        rw [k2] at hmb
        have e := hI.heap.inj i j _ _ b hi k1 hb hmb
        subst e
        rw [hiρ] at k0; cases k0⟩
      have kpok : ∀ {b}, b < w.heap.size → okO Sx γ st.own b → (baseOf w γ0 own).kp b := fun {b} hb hok => ⟨hb, fun m bm hm hmb => by
        obtain ⟨j, by_, _, k1, k2⟩ := s3 m bm hm
        rw [k2] at hmb
        exact hok.2 j by_ k1 hmb⟩
      have newblk : ∀ {m bm b}, lk m own' = some bm → blkOf (γ' m) = some b → w.heap.size ≤ b ∨ ∃ i bi, lk i st.own = some bi ∧ (lk i ρ).isSome = true ∧ blkOf (γ i) = some b := fun {m bm b} hm hb => by
        have h1 := (hh.blk hm hb).1
        rcases Nat.lt_or_ge b w.heap.size with hlt | hge
        · refine Or.inr (Classical.byContradiction fun hno => h1 ⟨hlt, fun n bn hn hnb => hno ?_⟩)
          obtain ⟨j, by_, k0, k1, k2⟩ := s3 n bn hn
          rw [k2] at hnb
          exact ⟨j, by_, k1, by rw [k0]; rfl, hnb⟩
        · exact Or.inl hge
      have ok_new : ∀ b, okO (restX Sx γ st.own ρ) γ' own' b → okO Sx γ2 (oo ++ restO ρ L st.own) b := fun b hok => ⟨fun hs => hok.1 (Or.inl hs), fun i bx hi hib => by
        rcases split hi with ⟨m, bm, _, h2, _, h3⟩ | ⟨h1, b0, h2, _, h3⟩
        · rw [h3] at hib; exact hok.2 m bm h2 hib
        · rw [h3] at hib; exact hok.1 (Or.inr ⟨i, b0, h2, h1, hib⟩)⟩
      have ok_old : ∀ b, b < w.heap.size → okO Sx γ st.own b → w'.heap[b]? = w.heap[b]? ∧ okO Sx γ2 (oo ++ restO ρ L st.own) b := fun b hlt hok => ⟨hbel.2 b (kpok hlt hok), hok.1, fun i bx hi hib => by
        rcases split hi with ⟨m, bm, _, h2, _, h3⟩ | ⟨h1, b0, h2, _, h3⟩
        · rw [h3] at hib
          rcases newblk h2 hib with h | ⟨j, bj, q1, _, q2⟩
          · omega
          · exact hok.2 j bj q1 q2
        · rw [h3] at hib; exact hok.2 i b0 h2 hib⟩
      have hp_new : ∀ m i, lk m σ = some i → hp γ2 (oo ++ restO ρ L st.own) i = hp γ' own' m := fun m i hm => by
        obtain ⟨bx, bm, h1, h2, h3⟩ := livN hm
        rw [hp_some h1, hp_some h3, h2]
      have keepS : ∀ {s : SV} {u : Value}, RelS (okO Sx γ st.own) (hp γ st.own) w s u → RelS (okO Sx γ2 (oo ++ restO ρ L st.own)) (hp γ2 (oo ++ restO ρ L st.own)) w' (kls L s) u := fun {s u} hrs => by
        refine (hrs.kls L).keep2 hsz ok_old fun i hi => ?_
        obtain ⟨e, hn, hiL⟩ := kls_all hi
        cases hl : lk i st.own with
        | none => rw [hrs.live (hp_none hl)] at hn; cases hn
        | some bx =>
          obtain ⟨q1, q2⟩ := livO (i := i) (by rw [hl]; rfl) hiL
          obtain ⟨by_, q3⟩ := Option.isSome_iff_exists.1 q1
          rw [hp_some hl, hp_some q3, q2]
      have hst2 : Stays w0 Sx γ2 (oo ++ restO ρ L st.own) w' := hI.heap.sx.keep hsz fun i bx hi => by
        rcases split hi with ⟨m, bm, h1, h2, _, h3⟩ | ⟨h1, b0, h2, _, h3⟩
        · have h4 := backσ h1
          rw [lkσ, h2] at h4
          cases hm : lk m (swp ρ) with
          | some j =>
            rw [hm] at h4
            cases h4
            exact Or.inr ⟨by rw [h3, γfix (back hm) h2], (s2 _ _ (back hm)).2.1⟩
          | none =>
            rw [hm] at h4
            cases h4
            exact Or.inl (newid h2 hm).2
        · exact Or.inr ⟨h3, by rw [h2]; rfl⟩
      have hheap : HeapOk w0 Sx γ2 (oo ++ restO ρ L st.own) w' := by
        refine ⟨fun i bx hi => ?_, fun i j bi bj b hi hj hib hjb => ?_, hst2⟩
        · rcases split hi with ⟨m, bm, h1, h2, h4, h3⟩ | ⟨h1, b0, h2, rfl, h3⟩
          · cases hh.box m bm h2 with
            | @mp es ens clock b hg hB hhb hl hr =>
              simp only [Box.mapR, Option.some.injEq] at h4
              subst h4
              exact .mp (by rw [h3]; exact hg) (fun hk => hB (kpsub hk)) hhb hl fun k x en hs hu => ⟨(hr k x en hs hu).1, (hr k x en hs hu).2.weak fun b _ h => ok_new b h⟩
            | @row e z l hr he hl hk =>
              simp only [Box.mapR, Option.some.injEq] at h4
              subst h4
              refine .row ?_ he hl (fun b hb hkb => by rw [h3] at hb; exact hk b hb (kpsub hkb))
              rw [h3]
              refine hr.keep2 good_PV (Nat.le_refl _) (fun _ _ => rfl) fun b _ hok _ => ⟨rfl, fun hs => hok.1 (Or.inl hs), fun j bj hj hji hjb => ?_⟩
              rcases split hj with ⟨n, bn, q1, q2, _, q3⟩ | ⟨q1, c0, q2, _, q3⟩
              · rw [q3] at hjb
                refine hok.2 n bn q2 (fun e => hji ?_) hjb
                subst e
                have e1 := backσ h1
                rw [backσ q1] at e1
                cases e1; rfl
              · rw [q3] at hjb; exact hok.1 (Or.inr ⟨j, c0, q2, q1, hjb⟩)
            | @cells cs us ty b hg hB hhb hl hr h5 =>
              have h4' : (match mapRs σ cs with | some l => some (Box.cells l) | none => none) = some bx := h4
              clear h4
              split at h4'
              · rename_i l hl'
                simp only [Option.some.injEq] at h4'
                subst h4'
                obtain ⟨q1, q2⟩ := mapRs_get hl'
                refine .cells (by rw [h3]; exact hg) (fun hk => hB (kpsub hk)) hhb (by omega) (fun j s u hs hu => ?_) h5
                obtain ⟨s0, p1, p2⟩ := q2 j s hs
                exact (hr j s0 u p1 hu).mapR (fun b _ h => ok_new b h) hp_new p2
              · cases h4'
          · have hkb : ∀ {b}, blkOf (γ i) = some b → w'.heap[b]? = w.heap[b]? := fun hb => hbel.2 _ (kprest h2 h1 hb)
            cases hI.heap.box i b0 h2 with
            | @mp es ens clock b hg hB hhb hl hr =>
              exact .mp (by rw [h3]; exact hg) hB (by rw [hkb (by rw [hg]; rfl)]; exact hhb) hl fun k x en hs hu => ⟨(hr k x en hs hu).1, (hr k x en hs hu).2.keep2 hsz ok_old⟩
            | @row e z l hr he hl hk =>
              refine .row ?_ he hl (by rw [h3]; exact hk)
              rw [h3]
              have hoi : (γ i).ownBlock = blkOf (γ i) := by obtain ⟨A', c', hv', _⟩ := hr.shape; rw [hv', blkOf_slice]
              refine hr.keep2 good_PV hsz (fun b hb => hkb (by rw [← hoi]; exact hb)) fun b hlt hok hne => ?_
              have hok2 : okO Sx γ st.own b := ⟨hok.1, fun j bj hj hjb => by
                by_cases e : j = i
                · subst e; exact hne (by rw [hoi, hjb])
                · exact hok.2 j bj hj e hjb⟩
              refine ⟨(ok_old b hlt hok2).1, hok.1, fun j bj hj _ hjb => (ok_old b hlt hok2).2.2 j bj hj hjb⟩
            | @cells cs us ty b hg hB hhb hl hr h5 =>
              show BoxOk _ _ _ _ _ _ (.cells (cs.map (kls L)))
              refine .cells (by rw [h3]; exact hg) hB (by rw [hkb (by rw [hg]; rfl)]; exact hhb) (by rw [List.length_map]; exact hl) (fun j s u hs hu => ?_) h5
              rw [List.getElem?_map] at hs
              obtain ⟨s0, p1, rfl⟩ := Option.map_eq_some_iff.1 hs
              exact keepS (hr j s0 u p1 hu)
        · rcases split hi with ⟨m, bm, h1, h2, _, h3⟩ | ⟨h1, b0, h2, _, h3⟩
          · rcases split hj with ⟨n, bn, q1, q2, _, q3⟩ | ⟨q1, c0, q2, _, q3⟩
            · rw [h3] at hib; rw [q3] at hjb
              have e := hh.inj m n _ _ b h2 q2 hib hjb
              subst e
              have e1 := backσ h1
              rw [backσ q1] at e1
              cases e1; rfl
            · rw [h3] at hib; rw [q3] at hjb
              exact absurd (kprest q2 q1 hjb) (hh.blk h2 hib).1
          · rcases split hj with ⟨n, bn, q1, q2, _, q3⟩ | ⟨q1, c0, q2, _, q3⟩
            · rw [h3] at hib; rw [q3] at hjb
              exact absurd (kprest h2 h1 hib) (hh.blk q2 hjb).1
            · rw [h3] at hib; rw [q3] at hjb
              exact hI.heap.inj i j _ _ b h2 q2 hib hjb
      have hS : Sim w0 Sx γ2 ⟨st.n, st.fr.map (fun p => (p.1, kls L p.2)), oo ++ restO ρ L st.own⟩ a w' := ⟨hI.below.step (hbel.1.mono (Nat.zero_le _)) fun b hb => hbel.2 b (kpsub hb), hI.size, hI.defers, fun t s ht => by
        have ht' : (lk t st.fr).map (kls L) = some s := by rw [← lk_map]; exact ht
        obtain ⟨s0, p1, rfl⟩ := Option.map_eq_some_iff.1 ht'
        exact keepS (hI.fr t s0 p1), hheap⟩
      refine ⟨γ2, _, hQ, hS.put hd (hrel.mapR (fun b _ h => ok_new b h) hp_new hr'), ⟨hsz, fun b hlt hv => hbel.2 b ⟨hlt, fun m bx hm hmb => ?_⟩⟩, fun K hK b hlt hv => ?_⟩
      · obtain ⟨i, by_, k0, k1, k2⟩ := s3 m bx hm
        rw [k2] at hmb
        exact hv i by_ k1 (List.elem_eq_true_of_mem (List.mem_map.2 ⟨(i, m), lk_mem k0, rfl⟩)) hmb
      · rw [put_own]
        intro i bx hi hiK hib
        rcases split hi with ⟨m, bm, _, h2, _, h3⟩ | ⟨_, b0, h2, _, h3⟩
        · rw [h3] at hib
          rcases newblk h2 hib with hge | ⟨j, bj, q1, q2, q3⟩
          · omega
          · obtain ⟨n, q4⟩ := Option.isSome_iff_exists.1 q2
            exact hv j bj q1 (List.elem_eq_true_of_mem (hK j (List.mem_map.2 ⟨(j, n), lk_mem q4, rfl⟩))) q3
        · rw [h3] at hib; exact hv i b0 h2 hiK hib
    · cases hst'
  · cases hst'
theorem mapRs_p (ρ : List (Nat × Nat)) : ∀ l : List PV, mapRs ρ (l.map .p) = some (l.map .p)
  | [] => rfl
  | x :: r => by
    have := mapRs_p ρ r
    simp only [List.map_cons, mapRs, SV.mapR, this]
theorem act_call_R {o : Oper} {cl : Call} {fo : Operand} {f : FuncId} {caps : List PV} (ρ : List (Nat × Nat)) {args : List SV} {own : List (Nat × Box)} {R : SV → List (Nat × Box) → Prop} (ho : o.op = .call cl) (hcl : cl.callee = .value fo) (hfo : evS st fo = some (.p (.fn f caps)))
    (hown : ownR ρ st.own ρ = some own) (hρ : ((dist (ρ.map (·.1)) && dist (ρ.map (·.2))) && ρ.all (fun p => Nat.ble 1000000 p.2)) = true) (hargs : argWs st ρ cl.args.toList = some args)
    (H : HoldsR P f (args ++ caps.map .p) own R) (hd : dstOk st o.dst = true) {Q : St → Prop} (h : ∀ r own', R r own' → ∃ st', st.back ρ o.dst r own' = some st' ∧ backOk st ρ o.dst own' = true ∧ Q st') : ActOk P (ρ.map (·.1)) o st Q :=
  act_call_RS ρ ho hcl hfo rfl (mapRs_p ρ caps) hown hρ hargs H hd h
theorem act_call_W {o : Oper} {cl : Call} {fo : Operand} {f : FuncId} {caps : List PV} (ρ : List (Nat × Nat)) {args : List SV} {own : List (Nat × Box)} {r : SV} {own' : List (Nat × Box)} (ho : o.op = .call cl) (hcl : cl.callee = .value fo) (hfo : evS st fo = some (.p (.fn f caps)))
    (hown : ownR ρ st.own ρ = some own) (hρ : ((dist (ρ.map (·.1)) && dist (ρ.map (·.2))) && ρ.all (fun p => Nat.ble 1000000 p.2)) = true) (hargs : argWs st ρ cl.args.toList = some args)
    (H : HoldsW P f (args ++ caps.map .p) own r own') (hd : dstOk st o.dst = true) {st' : St} (hb : st.back ρ o.dst r own' = some st') (hk : backOk st ρ o.dst own' = true) {Q : St → Prop} (h : Q st') : ActOk P (ρ.map (·.1)) o st Q :=
  act_call_R ρ ho hcl hfo hown hρ hargs H hd fun r' o' ⟨hr, ho'⟩ => by subst hr; subst ho'; exact ⟨st', hb, hk, h⟩
end

/-! ### Maps -/
section
variable {P : Program} {T : TT} (hT : TypesOk P T) {st : St}
theorem act_makeMap {o : Oper} {t : TypeId} (ho : o.op = .makeMap t none) {d : Nat} (hdst : o.dst = some d) (hd : lk d st.own = none) (hn : Nat.blt d st.n = true) {Q : St → Prop} (h : Q ⟨st.n, (d, .row d) :: st.fr, (d, .mp []) :: st.own⟩) : ActOk P [] o st Q := by
  intro w0 Sx γ a w QQ hI
  have hw : Below w.heap.size w (w.alloc (.map #[] 0)) := (Below.refl _ w).alloc (Nat.le_refl _) _
  have hbx : BoxOk w0 Sx (upd γ d (.map (some w.heap.size))) ((d, .mp []) :: st.own) (w.alloc (.map #[] 0)) d (.mp []) :=
    .mp (ens := []) (clock := 0) (b := w.heap.size) (if_pos rfl) (fun hk => by have := hI.heap.sx.lt _ hk; omega) (heap_alloc_new w _) rfl (fun j x e hs => by simp at hs)
  have key := hI.addBox hw hd hn (s := .row d) (v := .map (some w.heap.size)) (g := .map (some w.heap.size)) (fun b hb => by simp only [blkOf, Option.some.injEq] at hb; omega) hbx (.row (by unfold hp; rw [lk_cons, if_pos rfl]; simp [upd]))
  unfold Oper.wp
  have : (execOp a.eval o).run P w = .ok (.value (.map (some w.heap.size))) (w.alloc (.map #[] 0)) := by
    simp [execOp, ho, Instr.makeMap]
  rw [this, Oper.upon_value, hdst]
  exact ⟨_, _, h, key.1, key.2.1, key.2.2⟩
/-- one of the call's own things changed in its place -/
theorem Sim.setBox {w0 : Base} {Sx : Nat → Prop} {γ : Nat → Value} {a : Act} {w w' : World} (hI : Sim w0 Sx γ st a w) {j : Nat} {bx bx' : Box} (hj : lk j st.own = some bx) {b : Nat} (hblk : blkOf (γ j) = some b) (hw : Below 0 w w') (hother : ∀ k, k ≠ b → w'.heap[k]? = w.heap[k]?)
    (hbx : ∀ own', own' = setB j bx' st.own → (∀ c, okO Sx γ own' c ↔ okO Sx γ st.own c) → (∀ {s : SV} {u : Value}, RelS (okO Sx γ st.own) (hp γ st.own) w s u → RelS (okO Sx γ own') (hp γ own') w' s u) → BoxOk w0 Sx γ own' w' j bx') :
    Sim w0 Sx γ ⟨st.n, st.fr, setB j bx' st.own⟩ a w' ∧ SameOn (vis [j] γ st.own) w w' ∧ ∀ K : List Nat, (∀ i ∈ [j], i ∈ K) → ∀ c, c < w.heap.size → vis K γ st.own c → vis K γ (setB j bx' st.own) c := by
  have lk' : ∀ i, lk i (setB j bx' st.own) = if i = j then some bx' else lk i st.own := fun i => by
    rw [lk_setB, hj]; rfl
  have hsome : ∀ i, (lk i (setB j bx' st.own)).isSome = (lk i st.own).isSome := fun i => by
    rw [lk']; split
    · rename_i e; subst e; rw [hj]; rfl
    · rfl
  generalize hown' : setB j bx' st.own = own' at *
  have hp' : ∀ i, hp γ own' i = hp γ st.own i := fun i => by
    have := hsome i
    unfold hp
    cases h2 : lk i own' <;> cases h3 : lk i st.own <;> rw [h2, h3] at this <;> first | rfl | cases this
  have okc : ∀ c, okO Sx γ own' c ↔ okO Sx γ st.own c := fun c => by
    refine and_congr Iff.rfl ⟨fun hk i bx hi => ?_, fun hk i bx hi => ?_⟩
    · have := hsome i; rw [hi] at this
      obtain ⟨by_, h3⟩ := Option.isSome_iff_exists.1 this
      exact hk i by_ h3
    · have := hsome i; rw [hi] at this
      obtain ⟨by_, h3⟩ := Option.isSome_iff_exists.1 this.symm
      exact hk i by_ h3
  have okb : ∀ i c, okBut Sx γ own' i c ↔ okBut Sx γ st.own i c := fun i c => by
    refine and_congr Iff.rfl ⟨fun hk k bx hi => ?_, fun hk k bx hi => ?_⟩
    · have := hsome k; rw [hi] at this
      obtain ⟨by_, h3⟩ := Option.isSome_iff_exists.1 this
      exact hk k by_ h3
    · have := hsome k; rw [hi] at this
      obtain ⟨by_, h3⟩ := Option.isSome_iff_exists.1 this.symm
      exact hk k by_ h3
  have keepS : ∀ {s : SV} {u : Value}, RelS (okO Sx γ st.own) (hp γ st.own) w s u → RelS (okO Sx γ own') (hp γ own') w' s u := fun h => by
    refine h.keep2 hw.size (fun c hc hok => ⟨hother c fun e => ?_, (okc c).2 hok⟩) fun i _ => hp' i
    subst e; exact hok.2 j _ hj hblk
  have hbj := hbx own' rfl okc keepS
  refine ⟨⟨hI.below.step hw fun k hk => hother k fun e => by subst e; exact (hI.heap.blk hj hblk).1 hk, hI.size, hI.defers, fun t s ht => keepS (hI.fr t s ht), ⟨fun i bx hi => ?_, fun i k bi bk c hi hk hbi hbk => ?_, hI.heap.sx.keep hw.size fun i bx hi => Or.inr ⟨rfl, by rw [← hsome i, hi]; rfl⟩⟩⟩, ⟨hw.size, fun c hc hv => hother c fun e => ?_⟩, fun K _ c hc hv i bx hi hK => ?_⟩
  · rw [lk'] at hi
    by_cases e : i = j
    · subst e
      rw [if_pos rfl] at hi
      cases hi
      exact hbj
    · rw [if_neg e] at hi
      cases hI.heap.box i bx hi with
      | @row e' esz l hr' he hm hk' =>
        refine .row (hr'.keep2 good_PV hw.size (fun c hc => hother c fun ec => ?_) fun c hc hok hne => ⟨hother c fun ec => ?_, (okb i c).2 hok⟩) he hm hk'
        · subst ec
          have : blkOf (γ i) = some c := by
            rcases hr' with ⟨css, h1', _⟩
            rcases h1'.2 with ⟨hv, _⟩ | ⟨g, cap, cur, hv, _⟩
            · rw [hv] at hc; cases hc
            · rw [hv] at hc ⊢; exact hc
          exact e (hI.heap.inj i j _ _ c hi hj this hblk)
        · subst ec; exact hok.2 j _ hj (fun e2 => e e2.symm) hblk
      | @cells cs2 us2 ty2 b2 hg2 hB2 hh2 hl2 hr2 hone2 =>
        have hne : b2 ≠ b := fun eb => e (hI.heap.inj i j _ _ b hi hj (by rw [hg2, ← eb]; rfl) hblk)
        exact .cells hg2 hB2 (by rw [hother b2 hne]; exact hh2) hl2 (fun k s u hs hu => keepS (hr2 k s u hs hu)) hone2
      | @mp es ens clock b2 hg2 hB2 hh2 hl2 hr2 =>
        have hne : b2 ≠ b := fun eb => e (hI.heap.inj i j _ _ b hi hj (by rw [hg2, ← eb]; rfl) hblk)
        exact .mp hg2 hB2 (by rw [hother b2 hne]; exact hh2) hl2 fun k x en hs hu => ⟨(hr2 k x en hs hu).1, (hr2 k x en hs hu).2.keep2 hw.size fun c hc hok => ⟨hother c fun ec => by subst ec; exact hok.2 j _ hj hblk, (okc c).2 hok⟩⟩
  · have h2 := hsome i; rw [hi] at h2
    have h3 := hsome k; rw [hk] at h3
    obtain ⟨x1, h4⟩ := Option.isSome_iff_exists.1 h2.symm
    obtain ⟨x2, h5⟩ := Option.isSome_iff_exists.1 h3.symm
    exact hI.heap.inj i k _ _ c h4 h5 hbi hbk
  · subst e; exact hv j _ hj (by simp) hblk
  · have h2 := hsome i; rw [hi] at h2
    obtain ⟨x1, h4⟩ := Option.isSome_iff_exists.1 h2.symm
    exact hv i x1 h4 hK
include hT in
/-- a key that was not there -/
theorem act_mapUpdate {o : Oper} {t kt et : TypeId} {m k x : Operand} (ho : o.op = .mapUpdate t m k x) (hdst : o.dst = none) {ti ki : TyI} (ht : lk t T = some ti) (hte : ti.d = .mp kt et) (hk : lk kt T = some ki) {j : Nat} (hm : evS st m = some (.row j)) {es : List (Value × PV)} (hj : lk j st.own = some (.mp es))
    {kv : Value} (hkv : evS st k = some (.p (.v kv))) (hd : kdOk ki.d kv = true) (hall : es.all (fun x => kdOk ki.d x.1) = true) (hno : mfind kv es = none) {p : PV} (hx : evS st x = some (.p p)) {Q : St → Prop} (h : Q ⟨st.n, st.fr, setB j (.mp (es ++ [(kv, p)])) st.own⟩) : ActOk P [j] o st Q := by
  intro w0 Sx γ a w QQ hI
  have hu := (hT t ti ht).und
  rw [hte] at hu
  simp only [UndOk] at hu
  obtain ⟨td, q1, q2⟩ := kd_und (hT kt _ hk).und hd
  cases hI.heap.box j _ hj with
  | @mp _ ens clock b hg hB hh hl hr =>
  have hkv' := (evS_ok hI hkv).v_inv
  have hxv := (evS_ok hI hx).p_inv
  have hmv : a.eval m = .map (some b) := by
    have := evS_ok hI hm
    generalize a.eval m = u at this ⊢
    cases this with
    | row h0 => rw [hp_some hj, hg] at h0; cases h0; rfl
  have hfind : Instr.findNow td kv ens 0 = some none := by
    rcases findNow_mfind q2 hd (es := es) (ens := ens) 0 hl (fun j x e h1 h2 => (hr j x e h1 h2).1) hall with ⟨_, h2⟩ | ⟨n, x, e, h1, _⟩
    · exact h2
    · rw [hno] at h1; cases h1
  have hlt : b < w.heap.size := lt_of_block hh
  have run : (execOp a.eval o).run P w = .ok .skip { w with heap := w.heap.setIfInBounds b (.map (ens ++ [(⟨kv, a.eval x, clock⟩ : MapEntry)]).toArray (clock + 1)) } := by
    simp [execOp, ho, hmv, hkv', Instr.mapUpdate, run_underlying hu, MapKept.run_getObj_map hh, MapKept.run_checkKey q1 (q2 _ hd), MapKept.run_findKey q1 hfind, MapKept.run_setObj_map _ hh, Result.andThen]
  have hset := MapKept.heap_set (o' := .map (ens ++ [(⟨kv, a.eval x, clock⟩ : MapEntry)]).toArray (clock + 1)) hh
  have key := Sim.setBox (w' := { w with heap := w.heap.setIfInBounds b (.map (ens ++ [(⟨kv, a.eval x, clock⟩ : MapEntry)]).toArray (clock + 1)) }) (bx' := .mp (es ++ [(kv, p)])) hI hj (b := b) (by rw [hg]; rfl) ⟨rfl, rfl, rfl, by simp, fun k hk => absurd hk (Nat.not_lt_zero _)⟩ hset.2 fun own' _ hok hkeep => by
    refine .mp (ens := ens ++ [(⟨kv, a.eval x, clock⟩ : MapEntry)]) (clock := clock + 1) hg hB hset.1 (by simp [hl]) fun i y e hs hu' => ?_
    have up : ∀ {y : PV} {u : Value}, RelP (okO Sx γ st.own) w y u → RelP (okO Sx γ own') { w with heap := w.heap.setIfInBounds b (.map (ens ++ [(⟨kv, a.eval x, clock⟩ : MapEntry)]).toArray (clock + 1)) } y u := fun h => (hkeep (.p h)).p_inv
    by_cases hi : i < es.length
    · rw [List.getElem?_append_left hi] at hs
      rw [List.getElem?_append_left (by omega)] at hu'
      exact ⟨(hr i y e hs hu').1, up (hr i y e hs hu').2⟩
    · rw [List.getElem?_append_right (by omega)] at hs
      rw [List.getElem?_append_right (by omega), hl] at hu'
      cases hii : i - es.length with
      | zero =>
        rw [hii] at hs hu'
        simp at hs hu'
        subst hs; subst hu'
        exact ⟨rfl, up hxv⟩
      | succ n => rw [hii] at hs; simp at hs
  unfold Oper.wp
  rw [run, Oper.upon_skip, hdst]
  exact ⟨γ, _, h, key.1, key.2.1, key.2.2⟩

/-! ### A row cut short -/
theorem flat_take {α : Type} {size : Nat} {f : α → List Value} (hf : ∀ x, (f x).length = size) : ∀ (l : List α) (k : Nat), k ≤ l.length → (l.take k).flatMap f = (l.flatMap f).take (k * size)
  | l, 0, _ => by simp
  | [], k + 1, h => by simp at h
  | x :: l, k + 1, h => by
    have ih := flat_take hf l k (by simpa using h)
    have e1 : (f x).take ((k + 1) * size) = f x := List.take_of_length_le (by rw [hf x, Nat.succ_mul]; omega)
    have e2 : (k + 1) * size - (f x).length = k * size := by rw [hf x, Nat.succ_mul]; omega
    rw [List.take_succ_cons, List.flatMap_cons, List.flatMap_cons, ih, List.take_append, e1, e2]
theorem RowO.take {R : RF (List PV)} {size : Nat} {ok : Nat → Prop} {w : World} {e : TypeId} {A : Option Addr} {n c k : Nat} {l : List (List PV)} (h : RowO R size ok w 0 e (.slice A n c) l) (hk : k ≤ l.length) : RowO R size ok w 0 e (.slice A k c) (l.take k) := by
  obtain ⟨css, h1, h2, h3⟩ := h
  have hok : okR ok (.slice A k c) = okR ok (.slice A n c) := by
    cases A <;> rfl
  refine ⟨css.take k, ⟨?_, ?_⟩, by simp [h2], fun i a b => ?_⟩
  · rw [flat_len (fun x : Cel size => x.2.1)]
  · rcases h1.2 with ⟨hv, h0⟩ | ⟨g, cap, cur, hv, hb, hg, hnc, hcm, hcs, htk⟩
    · cases hv
      refine Or.inl ⟨?_, by simp; omega⟩
      have : k = 0 := by omega
      rw [this]
    · cases hv
      refine Or.inr ⟨g, c, cur, by simp; omega, hb, hg, by simp; omega, hcm, hcs, ?_⟩
      have e1 : (css.take k).length = k := by simp; omega
      rw [e1]
      have e2 : (css.take k).flatMap Subtype.val = (css.flatMap Subtype.val).take (k * size) := flat_take (fun x : Cel size => x.2.1) css k (by omega)
      rw [e2, ← htk, List.take_take]
      congr 1
      have := Nat.mul_le_mul_right size (show k ≤ css.length by omega)
      omega
  · rw [hok]
    have := h3 i (by simp at a; omega) (by simp at b; omega)
    simpa using this
end
section
variable {P : Program} {st : St}
/-- a view from the row's beginning, taken as the row: whoever else held the row holds it no more -/
theorem ActOk.shrink {o : Oper} {Q : St → Prop} (t : Tmp) {j z k : Nat} {e : TypeId} {l : List (List PV)} (d : Nat) (ht : lk t st.fr = some (.view j z 0 k)) (hj : lk j st.own = some (.row e z l)) (hd : lk d st.own = none) (hn : Nat.blt d 1000000 = true)
    (h : ActOk P [d] o ⟨st.n, (t, .row d) :: killF j st.fr, (d, .row e z (l.take k)) :: killO j st.own⟩ Q) : ActOk P [j] o st Q := by
  intro w0 Sx γ a w QQ hI
  have hdj : d ≠ j := fun e => by subst e; rw [hj] at hd; cases hd
  have hlt : d < 1000000 := by simpa [Nat.blt, Nat.lt_iff_add_one_le] using hn
  have hv := hI.fr t _ ht
  generalize hu : a.tmps.getD t undef = u at hv
  cases hI.heap.box j _ hj with
  | row hrow hel hml hkj =>
  obtain ⟨A0, c0, hsh, hlc, _⟩ := hrow.shape
  have hub : ∃ c, u = .slice A0 k c ∧ k ≤ l.length ∧ c = c0 := by
    cases hv with
    | @view _ _ _ _ n c A A' hg h1 h2 h3 h4 =>
      rw [hp_some hj, hsh] at hg
      cases hg
      refine ⟨c0, ?_, h2, rfl⟩
      rw [h4 (Or.inr rfl), Nat.zero_mul]
      cases A0 with
      | none => rfl
      | some ad => simp [Addr.add]
  obtain ⟨c, rfl, hkl, rfl⟩ := hub
  have hublk : ∀ b, blkOf (.slice A0 k c) = some b → blkOf (γ j) = some b := fun b hb => by rw [hsh]; cases A0 <;> first | exact hb | cases hb
  generalize hown' : ((d, Box.row e z (l.take k)) :: killO j st.own) = own' at *
  have lk' : ∀ i, lk i own' = if i = d then some (.row e z (l.take k)) else if i = j then none else (lk i st.own).map (klB j) := fun i => by
    rw [← hown', lk_cons, lk_killO]
  have hud : upd γ d (.slice A0 k c) d = .slice A0 k c := if_pos rfl
  have huo : ∀ i, i ≠ d → upd γ d (.slice A0 k c) i = γ i := fun i hi => if_neg hi
  have old : ∀ {i bx}, lk i own' = some bx → i ≠ d → i ≠ j ∧ ∃ by_, lk i st.own = some by_ ∧ bx = klB j by_ := fun {i bx} hi hid => by
    rw [lk', if_neg hid] at hi
    by_cases e : i = j
    · rw [if_pos e] at hi; cases hi
    · rw [if_neg e] at hi
      cases h2 : lk i st.own with
      | none => rw [h2] at hi; cases hi
      | some by_ => rw [h2] at hi; cases hi; exact ⟨e, by_, rfl, rfl⟩
  have okn : ∀ b, okO Sx γ st.own b → okO Sx (upd γ d (.slice A0 k c)) own' b := fun b hok => ⟨hok.1, fun i bx hi hib => by
    by_cases e : i = d
    · subst e; rw [hud] at hib; exact hok.2 j _ hj (hublk b hib)
    · obtain ⟨_, by_, h2, _⟩ := old hi e
      rw [huo i e] at hib; exact hok.2 i by_ h2 hib⟩
  have keepS : ∀ {s : SV} {u : Value}, RelS (okO Sx γ st.own) (hp γ st.own) w s u → RelS (okO Sx (upd γ d (.slice A0 k c)) own') (hp (upd γ d (.slice A0 k c)) own') w (kl j s) u := fun {s u} h => by
    have h1 := h.kl j
    refine h1.keep2 (Nat.le_refl _) (fun b _ hok => ⟨rfl, okn b hok⟩) fun i hi => ?_
    have hij : i ≠ j := fun e => by subst e; rw [noRef_kl] at hi; cases hi
    have hs := noRef_kl_other hi
    cases h2 : lk i st.own with
    | none => rw [h.live (hp_none h2)] at hs; cases hs.1
    | some by_ =>
      have hid : i ≠ d := fun e => by subst e; rw [hd] at h2; cases h2
      rw [hp_some h2, hp_some (bx := klB j by_) (by rw [lk', if_neg hid, if_neg hij, h2]; rfl), huo i hid]
  have hS : Sim w0 Sx (upd γ d (.slice A0 k c)) ⟨st.n, (t, .row d) :: killF j st.fr, own'⟩ a w := by
    refine ⟨hI.below, hI.size, hI.defers, fun t' s ht' => ?_, fun i bx hi => ?_, fun i m bi bm b hi hm hbi hbm => ?_, hI.heap.sx.keep (Nat.le_refl _) fun i bx hi => ?_⟩
    · have ht2 : (if t' = t then some (SV.row d) else lk t' (killF j st.fr)) = some s := by rw [← lk_cons]; exact ht'
      by_cases e1 : t' = t
      · rw [if_pos e1] at ht2
        cases ht2
        subst e1
        rw [hu]
        exact .row (by rw [hp_some (bx := .row e z (l.take k)) (by rw [lk', if_pos rfl]), hud])
      · rw [if_neg e1] at ht2
        have ht3 : (lk t' st.fr).map (kl j) = some s := by rw [← lk_killF]; exact ht2
        obtain ⟨s0, p1, rfl⟩ := Option.map_eq_some_iff.1 ht3
        exact keepS (hI.fr t' s0 p1)
    · by_cases e1 : i = d
      · subst e1
        rw [lk', if_pos rfl] at hi
        cases hi
        refine .row ?_ (fun x hx => hel x (List.mem_of_mem_take hx)) (by simp; omega) (fun b hb => by rw [hud] at hb; exact hkj b (hublk b hb))
        rw [hud]
        rw [hsh] at hrow
        refine (hrow.take hkl).keep2 good_PV (Nat.le_refl _) (fun _ _ => rfl) fun b _ hok _ => ⟨rfl, hok.1, fun m bm hm hmd hmb => ?_⟩
        obtain ⟨h1, by_, h2, _⟩ := old hm hmd
        rw [huo m hmd] at hmb
        exact hok.2 m by_ h2 h1 hmb
      · obtain ⟨hij, by_, h2, rfl⟩ := old hi e1
        cases hI.heap.box i by_ h2 with
        | @row e' esz' l' hr' he' hm' hk' =>
          show BoxOk _ _ _ _ _ _ (.row e' esz' l')
          refine .row ?_ he' hm' (by rw [huo i e1]; exact hk')
          rw [huo i e1]
          refine hr'.keep2 good_PV (Nat.le_refl _) (fun _ _ => rfl) fun b _ hok _ => ⟨rfl, hok.1, fun m bm hm hmi hmb => ?_⟩
          by_cases e2 : m = d
          · subst e2
            rw [hud] at hmb
            exact hok.2 j _ hj (Ne.symm hij) (hublk b hmb)
          · obtain ⟨_, b2, h3, _⟩ := old hm e2
            rw [huo m e2] at hmb
            exact hok.2 m b2 h3 hmi hmb
        | @cells cs2 us2 ty2 b2 hg2 hB2 hh2 hl2 hr2 hone2 =>
          show BoxOk _ _ _ _ _ _ (.cells (cs2.map (kl j)))
          refine .cells (by rw [huo i e1]; exact hg2) hB2 hh2 (by rw [List.length_map]; exact hl2) (fun m s u hs hu => ?_) hone2
          rw [List.getElem?_map] at hs
          obtain ⟨s0, p1, rfl⟩ := Option.map_eq_some_iff.1 hs
          exact keepS (hr2 m s0 u p1 hu)
        | @mp es ens clock b2 hg2 hB2 hh2 hl2 hr2 =>
          show BoxOk _ _ _ _ _ _ (.mp es)
          exact .mp (by rw [huo i e1]; exact hg2) hB2 hh2 hl2 fun m x en hs hu => ⟨(hr2 m x en hs hu).1, (hr2 m x en hs hu).2.weak fun b _ h => okn b h⟩
    · by_cases e1 : i = d
      · by_cases e2 : m = d
        · rw [e1, e2]
        · obtain ⟨q1, b0, q2, _⟩ := old hm e2
          subst e1
          rw [hud] at hbi
          rw [huo m e2] at hbm
          exact absurd (hI.heap.inj m j _ _ b q2 hj hbm (hublk b hbi)) q1
      · obtain ⟨p1, c1, p2, _⟩ := old hi e1
        rw [huo i e1] at hbi
        by_cases e2 : m = d
        · subst e2
          rw [hud] at hbm
          exact absurd (hI.heap.inj i j _ _ b p2 hj hbi (hublk b hbm)) p1
        · obtain ⟨q1, b0, q2, _⟩ := old hm e2
          rw [huo m e2] at hbm
          exact hI.heap.inj i m _ _ b p2 q2 hbi hbm
    · by_cases e1 : i = d
      · exact Or.inl (by omega)
      · obtain ⟨_, by_, h2, _⟩ := old hi e1
        exact Or.inr ⟨huo i e1, by rw [h2]; rfl⟩
  have visd : ∀ {K : List Nat} {b : Nat}, j ∈ K → vis K γ st.own b → vis (d :: K) (upd γ d (.slice A0 k c)) own' b := fun {K b} hjK hv i bx hi hK hib => by
    by_cases e1 : i = d
    · subst e1; rw [hud] at hib; exact hv j _ hj (List.elem_eq_true_of_mem hjK) (hublk b hib)
    · obtain ⟨_, by_, h2, _⟩ := old hi e1
      rw [huo i e1] at hib
      refine hv i by_ h2 ?_ hib
      have hm := List.mem_of_elem_eq_true hK
      rcases List.mem_cons.1 hm with e2 | hm
      · exact absurd e2 e1
      · exact List.elem_eq_true_of_mem hm
  have := h w0 Sx _ a w QQ hS
  refine Oper.wp_mono (fun a' w' hq => ?_) this
  obtain ⟨γ', st', h1, h2, h3, h4⟩ := hq
  refine ⟨γ', st', h1, h2, ⟨h3.size, fun b hb hv => h3.block b hb ?_⟩, fun K hK b hb hv => ?_⟩
  · have := visd (K := [j]) (by simp) hv
    intro i bx hi hK hib
    refine this i bx hi ?_ hib
    have hm := List.mem_of_elem_eq_true hK
    simp only [List.mem_singleton] at hm
    exact List.elem_eq_true_of_mem (by simp [hm])
  · have := h4 (d :: K) (by simp) b hb (visd (hK j (by simp)) hv)
    exact fun i bx hi hiK hib => this i bx hi (List.elem_eq_true_of_mem (List.mem_cons_of_mem _ (List.mem_of_elem_eq_true hiK))) hib
end
end Go.Proofs.Ytjpcchipejmocaa
