/-
  Shades: from bodies to contracts; types; regions that draw, regions with guards; contracts with several results.
-/
import Derived.Test.YtjpcchipejmocaaShade3
namespace Go.Proofs.Ytjpcchipejmocaa
set_option linter.unusedVariables false
set_option linter.unusedSimpArgs false
open Go.RowKit

def argFr : Nat → List PV → List (Nat × SV)
  | _, [] => []
  | k, x :: r => (k, .p x) :: argFr (k + 1) r
theorem argFr_get : ∀ {k : Nat} {args : List PV} {t : Nat} {s : SV}, lk t (argFr k args) = some s → k ≤ t ∧ ∃ x, args[t - k]? = some x ∧ s = .p x
  | k, [], t, s, h => by cases h
  | k, x :: r, t, s, h => by
    unfold argFr at h
    rw [lk_cons] at h
    by_cases e : t = k
    · rw [if_pos e] at h
      cases h
      subst e
      exact ⟨Nat.le_refl _, x, by simp, rfl⟩
    · rw [if_neg e] at h
      obtain ⟨h1, y, h2, h3⟩ := argFr_get h
      refine ⟨by omega, y, ?_, h3⟩
      rw [show t - k = (t - (k + 1)) + 1 by omega, List.getElem?_cons_succ]
      exact h2
def lks (st : St) : List Tmp → Option (List SV)
  | [] => some []
  | t :: r => match lk t st.fr with
    | some s => match lks st r with
      | some l => some (s :: l)
      | none => none
    | none => none
def resS (st : St) : List Tmp → Option SV
  | [t] => lk t st.fr
  | ts => match lks st ts with
    | some l => some (.tup l)
    | none => none
theorem lks_get {st : St} : ∀ {ts : List Tmp} {l : List SV}, lks st ts = some l → l.length = ts.length ∧ ∀ (i : Nat) (s : SV), l[i]? = some s → ∃ t, ts[i]? = some t ∧ lk t st.fr = some s
  | [], l, h => by simp only [lks, Option.some.injEq] at h; subst h; simp
  | t :: ts, l, h => by
    unfold lks at h
    split at h
    · rename_i s hs
      split at h
      · rename_i l' hl
        simp only [Option.some.injEq] at h
        subst h
        obtain ⟨h1, h2⟩ := lks_get hl
        refine ⟨by simp [h1], fun i x hx => ?_⟩
        cases i with
        | zero => simp at hx; subst hx; exact ⟨t, rfl, hs⟩
        | succ i => obtain ⟨u, g1, g2⟩ := h2 i x (by simpa using hx); exact ⟨u, by simpa using g1, g2⟩
      · cases h
    · cases h
theorem run_mapT {P : Program} {w : World} {f : ResultVar → Sem Value} {g : Tmp → Value} (hf : ∀ t, (f (.tmp t)).run P w = .ok (g t) w) : ∀ ts : List Tmp, ((ts.map ResultVar.tmp).mapM f).run P w = .ok (ts.map g) w
  | [] => by simp
  | t :: ts => by
    rw [List.map_cons, List.mapM_cons]
    simp only [Sem.run_bind, hf, Result.andThen_ok, run_mapT hf ts, Sem.run_pure, List.map_cons]
def resV (tmps : Array Value) : List Tmp → Value
  | [t] => tmps.getD t undef
  | ts => .tuple (ts.map fun t => tmps.getD t undef).toArray
theorem run_results {P : Program} {fn : Func} {tmps : Array Value} {w : World} {ts : List Tmp} (h : fn.results = (ts.map ResultVar.tmp).toArray) : (results fn tmps).run P w = .ok (resV tmps ts) w := by
  unfold results
  rw [h]
  rw [Sem.run_bind, List.mapM_toArray, Sem.run_map, run_mapT (g := fun t => tmps.getD t undef) (by intro t; rfl) ts]
  simp only [Result.andThen_ok, Sem.run_pure]
  match ts with
  | [] => rfl
  | [t] => rfl
  | _ :: _ :: _ => simp [resV]
def Fin (ts : List Tmp) (r : SV) (own' : List (Nat × Box)) (e : SEx) (st : St) : Prop := (e = .normal ∨ e = .ret) ∧ ∃ st' s ρ, Wk st st' ∧ resS st' ts = some s ∧ s.mapR ρ = some r ∧ ownR ρ st'.own ρ = some own' ∧ renOk ρ = true
def FinR (ts : List Tmp) (R : SV → List (Nat × Box) → Prop) (e : SEx) (st : St) : Prop := (e = .normal ∨ e = .ret) ∧ ∃ st' s ρ r own', Wk st st' ∧ resS st' ts = some s ∧ s.mapR ρ = some r ∧ ownR ρ st'.own ρ = some own' ∧ renOk ρ = true ∧ R r own'
theorem Fin.toR {ts : List Tmp} {r : SV} {own' : List (Nat × Box)} {e : SEx} {st : St} (h : Fin ts r own' e st) : FinR ts (fun r' o' => r' = r ∧ o' = own') e st := by
  obtain ⟨he, st', s, ρ, h1, h2, h3, h4, h5⟩ := h
  exact ⟨he, st', s, ρ, r, own', h1, h2, h3, h4, h5, rfl, rfl⟩
def argFrS : Nat → List SV → List (Nat × SV)
  | _, [] => []
  | k, x :: r => (k, x) :: argFrS (k + 1) r
theorem argFrS_get : ∀ {k : Nat} {args : List SV} {t : Nat} {s : SV}, lk t (argFrS k args) = some s → k ≤ t ∧ args[t - k]? = some s
  | k, [], t, s, h => by cases h
  | k, x :: r, t, s, h => by
    unfold argFrS at h
    rw [lk_cons] at h
    by_cases e : t = k
    · rw [if_pos e] at h
      cases h
      subst e
      exact ⟨Nat.le_refl _, by simp⟩
    · rw [if_neg e] at h
      obtain ⟨h1, h2⟩ := argFrS_get h
      refine ⟨by omega, ?_⟩
      rw [show t - k = (t - (k + 1)) + 1 by omega, List.getElem?_cons_succ]
      exact h2
theorem argFrS_p : ∀ (k : Nat) (args : List PV), argFrS k (args.map .p) = argFr k args
  | _, [] => rfl
  | k, x :: r => by rw [List.map_cons, argFrS, argFr, argFrS_p]
theorem body_run {P : Program} {f : FuncId} {fn : Func} {c : Code} {args : List SV} {own : List (Nat × Box)} {R : SV → List (Nat × Box) → Prop} {ts : List Tmp} (hf : P.funcs[f]? = some fn) (hb : fn.body = some c)
    (hres : fn.results = (ts.map ResultVar.tmp).toArray) (hn : (Nat.ble args.length fn.ntmps && Nat.ble fn.ntmps 900) = true) (h : SW P c (FinR ts R) ⟨fn.ntmps, argFrS 0 args, own⟩)
    {W : Base} {Sx : Nat → Prop} {γ : Nat → Value} {w : World} {vs : List Value} (hW : BelowB W w) (hh : HeapOk W Sx γ own w) (hl : vs.length = args.length) (hr : ∀ (i : Nat) (s : SV) (u : Value), args[i]? = some s → vs[i]? = some u → RelS (okO Sx γ own) (hp γ own) w s u) :
    Calls P f vs.toArray w fun e w' => ∃ v γ' r own', R r own' ∧ e = .returned v ∧ BelowB W w' ∧ HeapOk W Sx γ' own' w' ∧ RelS (okO Sx γ' own') (hp γ' own') w' r v := by
  simp only [Bool.and_eq_true] at hn
  have hn' : args.length ≤ fn.ntmps := Nat.le_of_ble_eq_true hn.1
  have hn2 : fn.ntmps ≤ 900 := Nat.le_of_ble_eq_true hn.2
  refine calls_of_wp hf hb ?_
  have hget : ∀ t, t < args.length → (vs.toArray ++ Array.replicate (fn.ntmps - vs.toArray.size) undef).getD t undef = vs[t]?.getD undef := fun t ht => by
    have : t < vs.length := by omega
    have h2 : (vs.toArray ++ Array.replicate (fn.ntmps - vs.toArray.size) undef)[t]? = vs[t]? := by
      rw [Array.getElem?_append_left (by simpa using this)]; simp
    rw [Array.getD_eq_getD_getElem?, h2]
  have hI : Sim W Sx γ ⟨fn.ntmps, argFrS 0 args, own⟩ ⟨vs.toArray ++ Array.replicate (fn.ntmps - vs.toArray.size) undef, []⟩ w := by
    refine ⟨hW, ⟨by simp; omega, hn2⟩, rfl, fun t s ht => ?_, hh⟩
    obtain ⟨_, hx⟩ := argFrS_get ht
    simp only [Nat.sub_zero] at hx
    have hlt : t < args.length := (List.getElem?_eq_some_iff.1 hx).1
    have hv : vs[t]? = some (vs[t]'(by omega)) := List.getElem?_eq_getElem (by omega)
    show RelS _ _ _ _ ((vs.toArray ++ Array.replicate (fn.ntmps - vs.toArray.size) undef).getD t undef)
    rw [hget t hlt, hv]
    exact hr t s _ hx hv
  refine h W Sx _ _ w _ hI fun e st' γ' a' w' hI' hq => ?_
  obtain ⟨he, st2, s, ρ, r, own', hwk, h1, h2, h3, h4, hR⟩ := hq
  obtain ⟨γ2, hI2⟩ := hwk W Sx γ' a' w' hI'
  obtain ⟨γ3, k1, k2⟩ := heap_mapR hI2.heap h3 h4
  have key : ∃ v, (results fn a'.tmps).run P w' = .ok v w' ∧ RelS (okO Sx γ2 st2.own) (hp γ2 st2.own) w' s v := by
    refine ⟨_, run_results hres, ?_⟩
    unfold resS at h1
    split at h1
    · rename_i t
      exact hI2.fr t s h1
    · rename_i hne
      split at h1
      · rename_i l hl
        simp only [Option.some.injEq] at h1
        subst h1
        obtain ⟨q1, q2⟩ := lks_get hl
        have e1 : resV a'.tmps ts = .tuple (ts.map fun t => a'.tmps.getD t undef).toArray := by
          match ts, hne with
          | [], _ => rfl
          | [t], hne => exact (hne t rfl).elim
          | _ :: _ :: _, _ => rfl
        rw [e1]
        refine .tup (by simp [q1]) fun i s u hs hu => ?_
        obtain ⟨t, g1, g2⟩ := q2 i s hs
        rw [List.getElem?_map, g1] at hu
        cases hu
        exact hI2.fr t s g2
      · cases h1
  obtain ⟨v, k3, k4⟩ := key
  have fin : a'.defers = [] ∧ ∃ v, (results fn a'.tmps).run P w' = .ok v w' ∧ ∃ v' γ r own', R r own' ∧ Ending.returned v = .returned v' ∧ BelowB W w' ∧ HeapOk W Sx γ own' w' ∧ RelS (okO Sx γ own') (hp γ own') w' r v' :=
    ⟨hI2.defers, v, k3, v, γ3, r, own', hR, rfl, hI2.below, k1, k2 s v r k4 h2⟩
  rcases he with rfl | rfl
  · exact fin
  · exact fin
theorem heap_nil {w : World} {Sx : Nat → Prop} (hSx : EnOk w Sx) (γ : Nat → Value) : HeapOk (entry w) Sx γ [] w :=
  ⟨fun i bx hi => (by cases hi), fun i j bx by_ b hi => (by cases hi), ⟨hSx.1, fun b h => h, fun i bx g hi => (by cases hi), fun _ _ => rfl, hSx.2⟩⟩
theorem belowB_entry {w w' : World} : BelowB (entry w) w' ↔ Below w.heap.size w w' := by
  refine ⟨fun h => ⟨h.1.os, h.1.tape, h.1.output, h.1.size, fun k hk => h.2 k hk⟩, fun h => ⟨h.mono (Nat.zero_le _), fun b hb => h.block b hb⟩⟩
theorem holds_of {P : Program} {f : FuncId} {fn : Func} {c : Code} {args : List PV} {r : SV} {own' : List (Nat × Box)} {ts : List Tmp} (hf : P.funcs[f]? = some fn) (hname : (fn.name == "runtime.NumGoroutine") = false) (hb : fn.body = some c)
    (hres : fn.results = (ts.map ResultVar.tmp).toArray) (hn : (Nat.ble args.length fn.ntmps && Nat.ble fn.ntmps 900) = true) (h : SW P c (Fin ts r own') ⟨fn.ntmps, argFr 0 args, []⟩) : Holds P f args r own' := by
  refine ⟨⟨fn, hf, hname, by rw [hb]; rfl⟩, fun w Sx vs hSx hl hr => ?_⟩
  rw [← argFrS_p] at h
  refine (body_run (args := args.map .p) hf hb hres (by simpa using hn) (h.mono fun e s q => q.toR) (belowB_entry.2 (Below.refl _ w)) (heap_nil hSx fun _ => .nilIface) (by simpa using hl) fun i s u hs hu => ?_).mono fun e w' he => ?_
  · rw [List.getElem?_map] at hs
    obtain ⟨x, hx, rfl⟩ := Option.map_eq_some_iff.1 hs
    exact .p ((hr i x u hx hu).weak fun b _ hok => ⟨hok, fun i bx hi => by cases hi⟩)
  · obtain ⟨v, γ', r', o', ⟨rfl, rfl⟩, h1, h2, h3, h4⟩ := he
    exact ⟨v, γ', h1, belowB_entry.1 h2, h3, h4⟩

/-! ### Typed lists -/
theorem heap_nil' {W : Base} {w : World} {Sx : Nat → Prop} {γ γ' : Nat → Value} {own : List (Nat × Box)} (h : Stays W Sx γ own w) : HeapOk W Sx γ' [] w :=
  ⟨fun i bx hi => (by cases hi), fun i j bx by_ b hi => (by cases hi), h.keep (Nat.le_refl _) fun i bx hi => by cases hi⟩
theorem Holds.row_sl {P : Program} {f : FuncId} {args : List PV} {e : TypeId} {z : Nat} {l : List (List PV)} (h : Holds P f args (.row 0) [(0, .row e z l)]) : Holds P f args (.p (.sl z l)) [] := by
  refine ⟨h.1, fun w Sx vs hSx hl hr => (h.2 w Sx vs hSx hl hr).mono fun en w' he => ?_⟩
  obtain ⟨v, γ, rfl, h1, h2, h3⟩ := he
  refine ⟨v, γ, rfl, h1, heap_nil' h2.sx, .p ?_⟩
  have hI : Sim (entry w) Sx γ ⟨1, [(0, .row 0)], [(0, .row e z l)]⟩ ⟨#[v], []⟩ w' := by
    refine ⟨belowB_entry.2 h1, ⟨rfl, show 1 ≤ 900 by omega⟩, rfl, fun t s ht => ?_, h2⟩
    rw [lk_cons] at ht
    by_cases e : t = 0
    · subst e; rw [if_pos rfl] at ht; cases ht; exact h3
    · rw [if_neg e] at ht; cases ht
  obtain ⟨γ', hI'⟩ := wk_frz (k := 0) (e := e) (z := z) (l := l) rfl (entry w) Sx γ _ w' hI
  have := (hI'.fr 0 (.p (.sl z l)) rfl).p_inv
  exact this.weak fun b _ hok => ⟨hok.1, fun i bx hi => by cases hi⟩

theorem typesOk_nil {P : Program} : TypesOk P [] := fun t i h => by cases h
theorem typesOk_cons {P : Program} {T : TT} {t : TypeId} {i : TyI} (h : TyOk P t i) (hT : TypesOk P T) : TypesOk P ((t, i) :: T) := fun u j hj => by
  rw [lk_cons] at hj
  by_cases e : u = t
  · rw [if_pos e] at hj; cases hj; subst e; exact h
  · rw [if_neg e] at hj; exact hT u j hj
def infoB (P : Program) (t : TypeId) : Option (Nat × Nat × Option (List Value)) := (P.info? t).map fun i => (i.size, i.bytes, i.zero.map (·.cells.toList))
theorem info_of {P : Program} {t : TypeId} {n b : Nat} {z : List Value} (h : infoB P t = some (n, b, some z)) : ∃ info zv, P.info? t = some info ∧ info.size = n ∧ info.bytes = b ∧ info.zero = some zv ∧ zv.cells.toList = z := by
  unfold infoB at h
  cases hi : P.info? t with
  | none => rw [hi] at h; cases h
  | some info =>
    rw [hi] at h
    simp only [Option.map_some, Option.some.injEq, Prod.mk.injEq, Option.map_eq_some_iff] at h
    obtain ⟨h1, h2, zv, h3, h4⟩ := h
    exact ⟨info, zv, rfl, h1, h2, h3, h4⟩
def fieldsB (P : Program) (t : TypeId) : Option (List (Nat × TypeId)) := match P.underlying t with
  | some (.struct fs) => some (fs.toList.map fun f => (f.offset, f.type))
  | _ => none
theorem fields_of {P : Program} {t : TypeId} {fs : List (Nat × TypeId)} (h : fieldsB P t = some fs) : UndOk P t (.st fs) := by
  unfold fieldsB at h
  split at h
  · rename_i fields hu
    exact ⟨fields, hu, by simpa using h⟩
  · cases h
def isPtrB (P : Program) (t : TypeId) : Bool := match P.underlying t with | some (.pointer _) => true | _ => false
theorem ptr_of {P : Program} {t : TypeId} (h : isPtrB P t = true) : UndOk P t .ptr := by
  unfold isPtrB at h
  split at h
  · rename_i e hu; exact ⟨e, hu⟩
  · cases h

def isIfcB (P : Program) (t : TypeId) : Bool := match P.underlying t with
  | some (.interface _) => true
  | _ => false
theorem ifc_of {P : Program} {t : TypeId} (h : isIfcB P t = true) : UndOk P t .ifc := by
  unfold isIfcB at h
  split at h
  · rename_i m hu; exact ⟨m, hu⟩
  · cases h
/-! ### Sameness -/
def vOf (agg : Bool) (xs : List PV) : Value := match agg with
  | true => .agg (xs.map unv).toArray
  | false => match xs with
    | x :: _ => unv x
    | [] => .nilIface
def EqT (P : Program) (d : Nat) (t : TypeId) (agg : Bool) (z : List Value) : Prop := ∀ (xs ys : List PV) (b : Bool) (w : World), eqL xs ys = some b → typedL xs z = true → (Op.equalIn d t (vOf agg xs) (vOf agg ys)).run P w = .ok b w
theorem eqC_int {n : Int} {y : PV} {b : Bool} (h : eqC (.v (.int .i64 n)) y = some b) : ∃ s', y = .v (.int .i64 s') ∧ b = (n == s') := by
  unfold eqC at h
  split at h <;> first | (cases h; done) | (rename_i h1 h2; cases h1; cases h; exact ⟨_, rfl, rfl⟩) | (rename_i h1; cases h1; cases h; exact ⟨_, rfl, rfl⟩) | (rename_i h1; cases h1; done)
theorem eqC_str {s : ByteArray} {y : PV} {b : Bool} (h : eqC (.v (.string s)) y = some b) : ∃ s', y = .v (.string s') ∧ b = (s.toList == s'.toList) := by
  unfold eqC at h
  split at h <;> first | (cases h; done) | (rename_i h1 h2; cases h1; cases h; exact ⟨_, rfl, rfl⟩) | (rename_i h1; cases h1; cases h; exact ⟨_, rfl, rfl⟩) | (rename_i h1; cases h1; done)
theorem eqC_bool {s : Bool} {y : PV} {b : Bool} (h : eqC (.v (.bool s)) y = some b) : ∃ s', y = .v (.bool s') ∧ b = (s == s') := by
  unfold eqC at h
  split at h <;> first | (cases h; done) | (rename_i h1 h2; cases h1; cases h; exact ⟨_, rfl, rfl⟩) | (rename_i h1; cases h1; cases h; exact ⟨_, rfl, rfl⟩) | (rename_i h1; cases h1; done)
theorem eqL_one {x : PV} {ys : List PV} {b : Bool} (h : eqL [x] ys = some b) : ∃ y, ys = [y] ∧ eqC x y = some b := by
  match ys with
  | [] => simp [eqL] at h
  | [y] =>
    refine ⟨y, rfl, ?_⟩
    unfold eqL at h
    split at h
    · rename_i a ha
      simp only [eqL, Option.some.injEq, Bool.and_true] at h
      rw [ha, h]
    · cases h
  | y :: y2 :: ys =>
    unfold eqL at h
    split at h
    · simp [eqL] at h
    · cases h
theorem eqL_append : ∀ {x1 ys x2 : List PV} {b : Bool}, eqL (x1 ++ x2) ys = some b → ∃ b1 b2, eqL x1 (ys.take x1.length) = some b1 ∧ eqL x2 (ys.drop x1.length) = some b2 ∧ b = (b1 && b2)
  | [], ys, x2, b, h => ⟨true, b, by simp [eqL], by simpa using h, rfl⟩
  | x :: x1, ys, x2, b, h => by
    match ys with
    | [] => simp [eqL] at h
    | y :: ys =>
      rw [List.cons_append] at h
      unfold eqL at h
      split at h
      · rename_i a ha
        split at h
        · rename_i r hr
          simp only [Option.some.injEq] at h
          subst h
          obtain ⟨b1, b2, h1, h2, rfl⟩ := eqL_append hr
          refine ⟨a && b1, b2, ?_, by simpa using h2, by rw [Bool.and_assoc]⟩
          simp only [List.length_cons, List.take_succ_cons, eqL, ha, h1]
        · cases h
      · cases h
theorem typedL_append : ∀ {z1 : List Value} {xs : List PV} {z2 : List Value}, typedL xs (z1 ++ z2) = true → typedL (xs.take z1.length) z1 = true ∧ typedL (xs.drop z1.length) z2 = true ∧ z1.length ≤ xs.length
  | [], xs, z2, h => ⟨by simp [typedL], by simpa using h, Nat.zero_le _⟩
  | z :: z1, xs, z2, h => by
    match xs with
    | [] => simp [typedL] at h
    | x :: xs =>
      rw [List.cons_append] at h
      unfold typedL at h
      split at h <;> first | (cases h; done) | skip
      all_goals
        first
          | (rename_i h1 h2; cases h1; cases h2; obtain ⟨g1, g2, g3⟩ := typedL_append h; exact ⟨by simpa [typedL] using g1, by simpa using g2, by simp; omega⟩)
          | (rename_i h1 h2; cases h1; done)
theorem typedL_len : ∀ {z : List Value} {xs : List PV}, typedL xs z = true → xs.length = z.length := fun {z xs} h => by
  have := typedL_append (z1 := z) (z2 := []) (xs := xs) (by simpa using h)
  obtain ⟨_, h2, h3⟩ := this
  match hx : xs.drop z.length with
  | [] => have := congrArg List.length hx; simp at this; omega
  | x :: r => rw [hx] at h2; simp [typedL] at h2
theorem eqL_len : ∀ {xs ys : List PV} {b : Bool}, eqL xs ys = some b → ys.length = xs.length
  | [], [], _, _ => rfl
  | [], _ :: _, _, h => by simp [eqL] at h
  | _ :: _, [], _, h => by simp [eqL] at h
  | x :: xs, y :: ys, b, h => by
    unfold eqL at h
    split at h
    · split at h
      · rename_i r hr; simp [eqL_len hr]
      · cases h
    · cases h
theorem typed_one {xs : List PV} {z : Value} (h : typedL xs [z] = true) : ∃ x, xs = [x] ∧ typedL [x] [z] = true := by
  have hl := typedL_len h
  match xs, hl with
  | [x], _ => exact ⟨x, rfl, h⟩
theorem typed_int {x : PV} {n : Int} (h : typedL [x] [.int .i64 n] = true) : ∃ a, x = .v (.int .i64 a) := by
  unfold typedL at h
  split at h <;> first | (cases h; done) | (rename_i h1 h2; cases h1; cases h2; exact ⟨_, rfl⟩) | (rename_i h1 h2; cases h1; done) | (rename_i h1 h2; cases h2; done)
theorem typed_str {x : PV} {n : ByteArray} (h : typedL [x] [.string n] = true) : ∃ a, x = .v (.string a) := by
  unfold typedL at h
  split at h <;> first | (cases h; done) | (rename_i h1 h2; cases h1; cases h2; exact ⟨_, rfl⟩) | (rename_i h1 h2; cases h1; done) | (rename_i h1 h2; cases h2; done)
theorem typed_bool {x : PV} {n : Bool} (h : typedL [x] [.bool n] = true) : ∃ a, x = .v (.bool a) := by
  unfold typedL at h
  split at h <;> first | (cases h; done) | (rename_i h1 h2; cases h1; cases h2; exact ⟨_, rfl⟩) | (rename_i h1 h2; cases h1; done) | (rename_i h1 h2; cases h2; done)
theorem eqt_int {P : Program} {t : TypeId} (d : Nat) (n : Int) (h : P.underlying t = some (.int .i64)) : EqT P (d + 1) t false [.int .i64 n] := by
  intro xs ys b w he ht
  obtain ⟨x, rfl, hx⟩ := typed_one ht
  obtain ⟨a, rfl⟩ := typed_int hx
  obtain ⟨y, rfl, hy⟩ := eqL_one he
  obtain ⟨c, rfl, rfl⟩ := eqC_int hy
  exact run_equalIn_int w d t .i64 .i64 a c h
theorem eqt_str {P : Program} {t : TypeId} (d : Nat) (n : ByteArray) (h : P.underlying t = some .string) : EqT P (d + 1) t false [.string n] := by
  intro xs ys b w he ht
  obtain ⟨x, rfl, hx⟩ := typed_one ht
  obtain ⟨a, rfl⟩ := typed_str hx
  obtain ⟨y, rfl, hy⟩ := eqL_one he
  obtain ⟨c, rfl, rfl⟩ := eqC_str hy
  exact run_equalIn_string w d t a c h
theorem eqt_bool {P : Program} {t : TypeId} (d : Nat) (n : Bool) (h : P.underlying t = some .bool) : EqT P (d + 1) t false [.bool n] := by
  intro xs ys b w he ht
  obtain ⟨x, rfl, hx⟩ := typed_one ht
  obtain ⟨a, rfl⟩ := typed_bool hx
  obtain ⟨y, rfl, hy⟩ := eqL_one he
  obtain ⟨c, rfl, rfl⟩ := eqC_bool hy
  exact run_equalIn_bool' w d t a c h
/-- the fields from an offset on -/
inductive EqFs (P : Program) (d : Nat) : Nat → List Field → List Value → Prop
  | nil {off : Nat} : EqFs P d off [] []
  | cons {off : Nat} {f : Field} {fs : List Field} {i : TyI} {z : List Value} (hoff : f.offset = off) (hn : f.name ≠ "_") (hi : TyOk P f.type i) (hz : i.zero.length = i.size) (ha : i.d.agg = false → i.size = 1) (he : EqT P d f.type i.d.agg i.zero) (h : EqFs P d (off + i.size) fs z) : EqFs P d off (f :: fs) (i.zero ++ z)
theorem eqFs_run {P : Program} {d : Nat} (w : World) : ∀ {off : Nat} {fs : List Field} {z : List Value}, EqFs P d off fs z → ∀ (xs ys : List PV) (b : Bool), ys.length = xs.length → eqL (xs.drop off) (ys.drop off) = some b → typedL (xs.drop off) z = true →
    (Op.eqFields d (xs.map unv).toArray (ys.map unv).toArray fs).run P w = .ok b w := by
  intro off fs z h
  induction h with
  | @nil off =>
    intro xs ys b hl he ht
    have h0 := typedL_len ht
    have h1 : xs.drop off = [] := List.eq_nil_of_length_eq_zero h0
    rw [h1] at he
    have h2 : ys.drop off = [] := List.eq_nil_of_length_eq_zero (by have := eqL_len he; simpa using this)
    rw [h2] at he
    simp only [eqL, Option.some.injEq] at he
    subst he
    rfl
  | @cons off f fs i z hoff hn hi hz ha hE h ih =>
    intro xs ys b hl he ht
    obtain ⟨t1, t2, t3⟩ := typedL_append ht
    rw [hz] at t1 t2 t3
    have hx : xs.drop off = (xs.drop off).take i.size ++ (xs.drop off).drop i.size := (List.take_append_drop _ _).symm
    rw [hx] at he
    obtain ⟨b1, b2, e1, e2, rfl⟩ := eqL_append he
    have hlen : ((xs.drop off).take i.size).length = i.size := by simp only [List.length_take]; omega
    rw [hlen] at e1 e2
    have key := hE _ _ b1 w e1 t1
    have part_ok : ∀ zs : List PV, i.size ≤ (zs.drop off).length → (part f.type (zs.map unv).toArray f.offset).run P w = .ok (vOf i.d.agg ((zs.drop off).take i.size)) w := fun zs hzl => by
      refine run_partT hi (fun hg => ?_) (fun hg => ?_) w
      · rw [hg, hoff]
        exact ⟨by simp only [vOf, List.map_take, List.map_drop], by simpa using hzl⟩
      · rw [hg, hoff]
        have h1 := ha hg
        rw [h1] at hzl ⊢
        cases hd : zs.drop off with
        | nil => rw [hd] at hzl; simp at hzl
        | cons q r => rw [← List.map_drop, hd]; rfl
    simp only [Op.eqFields]
    rw [if_pos hn]
    rw [Sem.run_bind, part_ok xs t3]
    simp only [Result.andThen_ok]
    rw [Sem.run_bind, part_ok ys (by simp only [List.length_drop] at t3 ⊢; omega)]
    simp only [Result.andThen_ok]
    rw [Sem.run_bind, key]
    simp only [Result.andThen_ok]
    have ih' := ih xs ys b2 hl (by rw [← List.drop_drop, ← List.drop_drop]; exact e2) (by rw [← List.drop_drop]; exact t2)
    cases b1 with
    | false => simp
    | true => simpa using ih'
theorem eqt_struct {P : Program} {t : TypeId} {d : Nat} {fields : Array Field} {z : List Value} (hu : P.underlying t = some (.struct fields)) (hs : P.stoodInHeld t = false) (h : EqFs P d 0 fields.toList z) : EqT P (d + 1) t true z := by
  intro xs ys b w he ht
  have hf : P.fieldsOf t = fields := by unfold Program.fieldsOf; rw [hu]
  show (Op.equalIn (d + 1) t (.agg (xs.map unv).toArray) (.agg (ys.map unv).toArray)).run P w = _
  rw [run_equalIn_struct w d t _ _ (by rw [hf]; exact hu) hs, hf]
  exact eqFs_run w h xs ys b (eqL_len he) (by simpa using he) (by simpa using ht)

section
variable {P : Program} {ops : Array Oper} {md : Region.Mode} {Q : Exit → Act → World → Prop}
def wpMoveS (P : Program) (ops : Array Oper) (Q : Exit → Act → World → Prop) : (World → Prop) → List (Nat × Bool) → Act → World → Prop
  | _, [], a, w => Q .normal a w
  | S, (i, true) :: r, a, w => S w ∧ ∃ o v, ops[i]? = some o ∧ YieldsIf P ops S o v a ∧ wpMoveS P ops Q S r (a.put o.dst v) w
  | S, (i, false) :: r, a, w => wpOp P ops Q i (fun a' w' => ∃ S' : World → Prop, (∀ x, S' x → S x) ∧ S' w' ∧ wpMoveS P ops Q S' r a' w') a w
theorem anyH_of_moveS (hs : Region.noSelect ops = true) (hQ : ∀ c a d v w, Q (.panic c) (a.put d v) w → Q (.panic c) a w) : ∀ (r : List (Nat × Bool)) (S : World → Prop) (ls : Array Bool) (a : Act) (w : World),
    orderB md ops r ls = true → wpMoveS P ops Q S r a w → wpAnyH P md ops Q S r.length ls a w
  | [], S, ls, a, w, hB, h => ⟨by simpa [orderB] using hB, h⟩
  | (i, true) :: r, S, ls, a, w, hB, h => by
    obtain ⟨hS, o, v, ho, hy, hr⟩ := h
    simp only [orderB, if_true, Bool.and_eq_true] at hB
    exact wpAnyH_take ho hs hB.1.1 hB.1.2 (fun c a w h => hQ c a _ _ w h) hy hS (anyH_of_moveS hs hQ r S _ _ w hB.2 hr)
  | (i, false) :: r, S, ls, a, w, hB, h => by
    simp only [orderB, Bool.false_eq_true, if_false, Bool.and_eq_true, beq_iff_eq] at hB
    refine wpAnyH_all hB.1 (by simp) fun j hj => ?_
    obtain rfl : j = i := by simpa using hj
    exact wpOp_mono (fun a' w' h' => by
      obtain ⟨S', h1, h2, h3⟩ := h'
      exact ⟨h1 _ h2, wpAnyH_weak h1 _ _ _ _ (anyH_of_moveS hs hQ r S' _ _ _ hB.2 h3)⟩) h
end
def SWM (P : Program) (ops : List Oper) (K : List Nat) (order : List (Nat × Bool)) (Q : St → Prop) (st : St) : Prop := ∀ (w0 : Base) (Sx : Nat → Prop) (γ : Nat → Value) (a : Act) (w : World) (QQ : Exit → Act → World → Prop), Sim w0 Sx γ st a w →
  (∀ st' γ' a' w', Sim w0 Sx γ' st' a' w' → Q st' → QQ .normal a' w') → wpMoveS P ops.toArray (NoPanic QQ) (fun x => SameOn (vis K γ st.own) w x) order a w
theorem SameOn.refl (p : Nat → Prop) (w : World) : SameOn p w w := ⟨Nat.le_refl _, fun _ _ _ => rfl⟩
theorem put_own (st : St) (dst : Option Tmp) (s : SV) : (st.put dst s).own = st.own := by cases dst <;> rfl
theorem Sim.drew {w0 : Base} {Sx : Nat → Prop} {γ : Nat → Value} {st : St} {a : Act} {w : World} (h : Sim w0 Sx γ st a w) : Sim w0 Sx γ st a w.drew := by
  have keep : ∀ {s : SV} {u : Value}, RelS (okO Sx γ st.own) (hp γ st.own) w s u → RelS (okO Sx γ st.own) (hp γ st.own) w.drew s u := fun {s u} hr =>
    RelS.keep2 (w := w) (w' := w.drew) (Nat.le_refl w.heap.size) (fun b _ hok => ⟨rfl, hok⟩) hr fun _ _ => rfl
  refine ⟨⟨h.below.1.drew, h.below.2⟩, h.size, h.defers, fun t s ht => keep (h.fr t s ht), fun i bx hi => ?_, h.heap.inj, h.heap.sx.grow (Nat.le_refl _)⟩
  cases h.heap.box i bx hi with
  | row hr he hm hk => exact .row (RowO.keep2 (w := w) (w' := w.drew) good_PV hr (Nat.le_refl w.heap.size) (fun _ _ => rfl) fun b _ hok _ => ⟨rfl, hok⟩) he hm hk
  | mp hg hB hh hl hr => exact .mp hg hB hh hl fun k x en hs hu => ⟨(hr k x en hs hu).1, RelP.keep2 (w := w) (w' := w.drew) (Nat.le_refl w.heap.size) (fun b _ hok => ⟨rfl, hok⟩) (hr k x en hs hu).2⟩
  | cells hg hB hh hl hr h1 => exact .cells hg hB hh hl (fun j s u hs hu => keep (hr j s u hs hu)) h1
section
variable {P : Program} {T : TT} (hT : TypesOk P T) {ops : List Oper} {K : List Nat} {st : St} {Q : St → Prop} {i : Nat} {r : List (Nat × Bool)} {o : Oper}
theorem swm_nil (h : Q st) : SWM P ops K [] Q st := fun _ _ γ a w _ hI hQ => hQ st γ a w hI h
include hT in
theorem swm_read {b : Bool} {c : Prop} {s : SV} (hi : nthO ops i = some o) (hw : wantS ops st o = some true) (hr : opR T (bif b then K else []) st o.op = some (c, s)) (hc : c) (hd : dstOk st o.dst = true) (h : SWM P ops K r Q (st.put o.dst s)) : SWM P ops K ((i, b) :: r) Q st := fun w0 Sx γ a w QQ hI hQ => by
  have hrest := fun v (hv : RelS (okO Sx γ st.own) (hp γ st.own) w s v) => h w0 Sx γ _ w QQ (hI.put (dst := o.dst) hd hv) hQ
  simp only [put_own] at hrest
  cases b with
  | true =>
    obtain ⟨v, h1, h2⟩ := opR_ok hT hI (K := K) hr hc
    exact ⟨SameOn.refl _ _, o, v, (nthO_get ops i).trans hi, Or.inl ⟨wantS_ok hI hw, h2⟩, hrest v h1⟩
  | false =>
    obtain ⟨v, h1, h2⟩ := opR_ok hT hI (K := []) hr hc
    unfold wpMoveS wpOp
    rw [(nthO_get ops i).trans hi]
    simp only [wantS_ok hI hw, if_true]
    refine Or.inl ?_
    unfold Oper.wp
    rw [h2 w (SameOn.refl _ _)]
    exact ⟨_, fun x hx => hx, SameOn.refl _ _, hrest v h1⟩
theorem swm_skip {b : Bool} (hi : nthO ops i = some o) (hw : wantS ops st o = some false) (hd : dstOk st o.dst = true) (h : SWM P ops K r Q (st.put o.dst (.tup []))) : SWM P ops K ((i, b) :: r) Q st := fun w0 Sx γ a w QQ hI hQ => by
  have hrest := h w0 Sx γ _ w QQ (hI.skip hd) hQ
  simp only [put_own] at hrest
  cases b with
  | true => exact ⟨SameOn.refl _ _, o, undef, (nthO_get ops i).trans hi, Or.inr ⟨wantS_ok hI hw, rfl⟩, hrest⟩
  | false =>
    unfold wpMoveS wpOp
    rw [(nthO_get ops i).trans hi]
    simp only [wantS_ok hI hw, Bool.false_eq_true, if_false]
    exact ⟨_, fun x hx => hx, SameOn.refl _ _, hrest⟩
theorem swm_act {Ws : List Nat} (hi : nthO ops i = some o) (hw : wantS ops st o = some true) (hK : Ws.all (fun j => K.contains j) = true) (h : ActOk P Ws o st (SWM P ops K r Q)) : SWM P ops K ((i, false) :: r) Q st := fun w0 Sx γ a w QQ hI hQ => by
  have hsub : ∀ j ∈ Ws, j ∈ K := fun j hj => by simpa using List.all_eq_true.1 hK j hj
  unfold wpMoveS wpOp
  rw [(nthO_get ops i).trans hi]
  simp only [wantS_ok hI hw, if_true]
  refine Or.inl ?_
  have := h w0 Sx γ a w (NoPanic QQ) hI
  have mono : ∀ {a' w'}, (∃ γ' st', SWM P ops K r Q st' ∧ Sim w0 Sx γ' st' a' w' ∧ SameOn (vis Ws γ st.own) w w' ∧ ∀ K : List Nat, (∀ i ∈ Ws, i ∈ K) → ∀ b, b < w.heap.size → vis K γ st.own b → vis K γ' st'.own b) →
      ∃ S' : World → Prop, (∀ x, S' x → SameOn (vis K γ st.own) w x) ∧ S' w' ∧ wpMoveS P ops.toArray (NoPanic QQ) S' r a' w' := fun {a' w'} ⟨γ', st', h1, h2, h3, h4⟩ =>
    ⟨fun x => SameOn (vis K γ' st'.own) w' x, fun x hx => ⟨Nat.le_trans h3.size hx.size, fun b hb hv => by
      have e1 := h3.block b hb (fun j bx hj hjW hjb => hv j bx hj (by simpa using hsub j (by simpa using hjW)) hjb)
      have e2 := hx.block b (Nat.lt_of_lt_of_le hb h3.size) (h4 K hsub b hb hv)
      exact e2.trans e1⟩, SameOn.refl _ _, h1 w0 Sx γ' a' w' QQ h2 hQ⟩
  unfold Oper.wp at this ⊢
  generalize (execOp a.eval o).run P w = res at *
  cases res with
  | ok n w' =>
    cases n <;> simp only [Oper.upon] at this ⊢ <;> first
      | exact mono this
      | exact this
      | exact Calls.mono this (fun e w'' he => by cases e <;> first | exact mono he | exact he)
      | exact Rows.mono this (fun _ _ he => mono he)
  | halt x w' => cases x <;> simp only [Oper.upon] at this ⊢ <;> exact this
theorem sw_region_draw {id : Nat} {l : List Oper} {QS : SEx → St → Prop} (K : List Nat) (order : List (Nat × Bool)) (hm : P.follows .mixedOrders = true) (hs : Region.noSelect l.toArray = true)
    (hB : (orderB .any l.toArray order (Array.replicate l.toArray.size false) && order.length == l.toArray.size) = true) (h : SWM P l K order (QS .normal) st) : SW P (.region id l.toArray true) QS st := fun w0 Sx γ a w QQ hI hQ => by
  simp only [Bool.and_eq_true, beq_iff_eq] at hB
  refine wp_region_noPanic (wp_region_held (S := fun x => SameOn (vis K γ st.own) w.drew x) hm ?_)
  have h1 := h w0 Sx γ a w.drew QQ hI.drew fun s' γ' a' w' hI' hq => hQ .normal s' γ' a' w' hI' hq
  have := anyH_of_moveS (md := .any) hs (fun _ _ _ _ _ h => h) order _ (Array.replicate l.toArray.size false) a w.drew hB.1 h1
  rw [hB.2] at this
  exact this
end

theorem Sim.grow {w0 : Base} {Sx : Nat → Prop} {γ : Nat → Value} {st : St} {a : Act} {w w' : World} (hI : Sim w0 Sx γ st a w) (hb : Below w.heap.size w w') : Sim w0 Sx γ st a w' := by
  refine ⟨hI.below.grow hI.heap.sx hb, hI.size, hI.defers, fun t s ht => (hI.fr t s ht).keep2 hb.size (fun b hlt hok => ⟨hb.block b hlt, hok⟩) fun _ _ => rfl, ⟨fun i bx hi => ?_, hI.heap.inj, hI.heap.sx.grow hb.size⟩⟩
  cases hI.heap.box i bx hi with
  | mp hg hB hh hl hr => exact .mp hg hB (by rw [hb.block _ (lt_of_block hh)]; exact hh) hl fun k x en hs hu => ⟨(hr k x en hs hu).1, (hr k x en hs hu).2.keep2 hb.size fun b hlt hok => ⟨hb.block b hlt, hok⟩⟩
  | @row e esz l hr he hm hk =>
    have hblk : ∀ b, (γ i).ownBlock = some b → b < w.heap.size := fun b hb => by
      obtain ⟨css, h1, _⟩ := hr
      exact (h1.lt b hb).2
    exact .row (hr.keep2 good_PV hb.size (fun b hb' => hb.block b (hblk b hb')) fun b hlt hok _ => ⟨hb.block b hlt, hok⟩) he hm hk
  | cells hg hB hh hl hr h1 => exact .cells hg hB (by rw [hb.block _ (lt_of_block hh)]; exact hh) hl (fun j s u hs hu => (hr j s u hs hu).keep2 hb.size (fun b hlt hok => ⟨hb.block b hlt, hok⟩) fun _ _ => rfl) h1
theorem call_enter {P : Program} {st : St} {w0 : Base} {Sx : Nat → Prop} {γ : Nat → Value} {a : Act} {w : World} (hI : Sim w0 Sx γ st a w) {o : Oper} {cl : Call} {fo : Operand} {f : FuncId} {caps : List PV} {ps : List PV} {ids : List Nat} {r : SV} {own' : List (Nat × Box)}
    (ho : o.op = .call cl) (hcl : cl.callee = .value fo) (hfo : evS st fo = some (.p (.fn f caps))) (hargs : argPs st cl.args.toList = some (ps, ids)) (H : Holds P f (ps ++ caps) r own') :
    ∃ args, (execOp a.eval o).run P w = .ok (.enter f args) w ∧ Calls P f args w fun e w' => ∃ v γ1, e = .returned v ∧ Below w.heap.size w w' ∧ HeapOk (entry w) (lentX Sx γ st.own ids) γ1 own' w' ∧ RelS (okO (lentX Sx γ st.own ids) γ1 own') (hp γ1 own') w' r v := by
  obtain ⟨⟨fn, hfn, hname, hbody⟩, H⟩ := H
  obtain ⟨k1, k2⟩ := argPs_ok hI hargs
  have hf := (evS_ok hI hfo).p_inv
  generalize hfv : a.eval fo = u at hf
  cases hf with
  | @fn _ _ us hl hr =>
  have hlt := lentX_en hI ids
  have hc := H w (lentX Sx γ st.own ids) (cl.args.toList.map a.eval ++ us) hlt (by simp only [List.length_append, List.length_map]; omega) fun i s v hs hv => by
    by_cases hi : i < ps.length
    · rw [List.getElem?_append_left hi] at hs
      rw [List.getElem?_append_left (by rw [List.length_map, k1]; exact hi)] at hv
      exact k2 i s v hs hv
    · rw [List.getElem?_append_right (by omega)] at hs
      rw [List.getElem?_append_right (by rw [List.length_map, k1]; omega), List.length_map, k1] at hv
      exact (hr _ s v hs hv).weak fun b _ hok hl => by
        rcases hl with hl | ⟨i, bx, h1, _, h2⟩
        · exact hok.1 hl
        · exact hok.2 i bx h1 h2
  refine ⟨_, ?_, hc⟩
  have e : (cl.args.toList.map a.eval ++ us).toArray = cl.args.map a.eval ++ us.toArray := by
    apply Array.toList_inj.1; simp
  rw [e]
  have := run_enter hfn hname hbody (cl.args.map a.eval ++ us.toArray) w
  simp only [execOp, ho, resolve, hcl, hfv, Deferred.ofValue, Sem.run_bind, Sem.run_pure, Result.andThen_ok, invoke, Array.empty_append, this]
/-- the value of what leads nowhere -/
def valP : PV → Value
  | .v x => x
  | .agg cs => .agg (cs.map unv).toArray
  | _ => .nilIface
def valS : SV → Value
  | .p x => valP x
  | .tup cs => .tuple (cs.map fun c => match c with | .p x => valP x | _ => .nilIface).toArray
  | _ => .nilIface
theorem valP_ok {ok : Nat → Prop} {w : World} {x : PV} {u : Value} (h : RelP ok w x u) (hf : flatP x = true) : u = valP x := by
  cases h with
  | v h => rfl
  | @agg cs us hl h =>
    show Value.agg us.toArray = .agg (cs.map unv).toArray
    congr 2
    refine List.ext_getElem? fun i => ?_
    by_cases hi : i < cs.length
    · have h1 : cs[i]? = some cs[i] := List.getElem?_eq_getElem hi
      have h2 : us[i]? = some (us[i]'(by omega)) := List.getElem?_eq_getElem (by omega)
      have h3 := h i _ _ h1 h2
      have h4 := List.all_eq_true.1 hf cs[i] (List.getElem_mem hi)
      rw [List.getElem?_map, h1, h2]
      generalize cs[i] = c at h3 h4
      cases c with
      | v x => cases h3; rfl
      | _ => cases h4
    · rw [List.getElem?_eq_none (by omega), List.getElem?_map, List.getElem?_eq_none (by omega)]; rfl
  | sl => cases hf
  | rp => cases hf
  | fn => cases hf
theorem valS_ok {ok : Nat → Prop} {H : Nat → Option Value} {w : World} {x : SV} {u : Value} (h : RelS ok H w x u) (hf : flatS x = true) : u = valS x := by
  cases h with
  | p h => exact valP_ok h hf
  | @tup cs us hl h =>
    show Value.tuple us.toArray = .tuple _
    congr 2
    refine List.ext_getElem? fun i => ?_
    by_cases hi : i < cs.length
    · have h1 : cs[i]? = some cs[i] := List.getElem?_eq_getElem hi
      have h2 : us[i]? = some (us[i]'(by omega)) := List.getElem?_eq_getElem (by omega)
      have h3 := h i _ _ h1 h2
      have h4 := List.all_eq_true.1 hf cs[i] (List.getElem_mem hi)
      rw [List.getElem?_map, h1, h2]
      generalize cs[i] = c at h3 h4
      cases c with
      | p x => cases h3 with | p h => rw [valP_ok h h4]; rfl
      | _ => cases h4
    · rw [List.getElem?_eq_none (by omega), List.getElem?_map, List.getElem?_eq_none (by omega)]; rfl
  | _ => cases hf

def SWS (P : Program) (ops : List Oper) (l : List Oper) (Q : St → Prop) (st : St) : Prop := ∀ (w0 : Base) (Sx : Nat → Prop) (γ : Nat → Value) (a : Act) (w : World) (Qs : Act → Prop), Sim w0 Sx γ st a w →
  (∀ st' a', Sim w0 Sx γ st' a' w → Q st' → Qs a') → wpSpec P ops.toArray (fun x => ∃ d, x = ext w d) Qs l a
def jk : List Oper → List (Nat × SV) → List (Nat × SV)
  | [], fr => fr
  | o :: l, fr => match o.guard, o.dst with
    | some _, some d => (d, .junk) :: jk l fr
    | _, _ => jk l fr
theorem lk_jk (t : Nat) : ∀ (l : List Oper) (fr : List (Nat × SV)) (s : SV), lk t (jk l fr) = some s → (s = .junk) ∨ (lk t fr = some s ∧ ¬ ∃ o ∈ l, o.dst = some t ∧ o.guard.isSome = true)
  | [], fr, s, h => Or.inr ⟨h, by simp⟩
  | o :: l, fr, s, h => by
    unfold jk at h
    split at h
    · rename_i g d hg hd
      rw [lk_cons] at h
      by_cases e : t = d
      · rw [if_pos e] at h; cases h; exact Or.inl rfl
      · rw [if_neg e] at h
        rcases lk_jk t l fr s h with h | ⟨h1, h2⟩
        · exact Or.inl h
        · refine Or.inr ⟨h1, ?_⟩
          rintro ⟨q, hq, h3, h4⟩
          rcases List.mem_cons.1 hq with rfl | hq
          · rw [hd] at h3; exact e (Option.some.inj h3).symm
          · exact h2 ⟨q, hq, h3, h4⟩
    · rename_i hn
      rcases lk_jk t l fr s h with h | ⟨h1, h2⟩
      · exact Or.inl h
      · refine Or.inr ⟨h1, ?_⟩
        rintro ⟨q, hq, h3, h4⟩
        rcases List.mem_cons.1 hq with rfl | hq
        · obtain ⟨g, hg⟩ := Option.isSome_iff_exists.1 h4
          exact hn g t hg h3
        · exact h2 ⟨q, hq, h3, h4⟩
def St.jk (st : St) (l : List Oper) : St := ⟨st.n, Proofs.Ytjpcchipejmocaa.jk l st.fr, st.own⟩
theorem Sim.jk {w0 : Base} {Sx : Nat → Prop} {γ : Nat → Value} {st : St} {a : Act} {w : World} (h : Sim w0 Sx γ st a w) (us : Nat → Value) (l : List Oper) : Sim w0 Sx γ (st.jk l) (junk us l a) w := by
  obtain ⟨j1, j2⟩ := junk_size us l a
  refine ⟨h.below, ⟨j1.trans h.size.1, h.size.2⟩, j2.trans h.defers, fun t s ht => ?_, h.heap⟩
  rcases lk_jk t l st.fr s ht with rfl | ⟨h1, h2⟩
  · exact .junk
  · rw [junk_getD us t l a (fun _ _ => Or.inr trivial), if_neg (fun h => h2 h.1)]
    exact h.fr t s h1
section
variable {P : Program} {T : TT} (hT : TypesOk P T) {ops : List Oper} {st : St} {Q : St → Prop} {o : Oper} {rest : List Oper}
theorem sws_nil (h : Q st) : SWS P ops [] Q st := fun _ _ _ a _ _ hI hQ => hQ st a hI h
include hT in
theorem sws_read {c : Prop} {s : SV} (hr : opR T [] st o.op = some (c, s)) (hc : c) (hd : dstOk st o.dst = true) (h : SWS P ops rest Q (st.put o.dst s)) : SWS P ops (o :: rest) Q st := fun w0 Sx γ a w Qs hI hQ => by
  obtain ⟨v, h1, h2⟩ := opR_ok hT hI (K := []) hr hc
  refine ⟨v, fun _ x hx => ?_, h w0 Sx γ _ w Qs (hI.put hd h1) hQ⟩
  obtain ⟨d, rfl⟩ := hx
  unfold Oper.quietAt
  have hb := ext_below w d
  rw [h2 _ ⟨hb.size, fun b hb' _ => hb.block b hb'⟩]
  exact ⟨rfl, rfl⟩
theorem sws_call {cl : Call} {fo : Operand} {f : FuncId} {caps : List PV} {ps : List PV} {ids : List Nat} {r : SV} (ho : o.op = .call cl) (hcl : cl.callee = .value fo) (hfo : evS st fo = some (.p (.fn f caps))) (hargs : argPs st cl.args.toList = some (ps, ids))
    (H : Holds P f (ps ++ caps) r []) (hd : dstOk st o.dst = true) (hfl : flatS r = true) (h : SWS P ops rest Q (st.put o.dst r)) : SWS P ops (o :: rest) Q st := fun w0 Sx γ a w Qs hI hQ => by
  have hrel : ∀ x, Below w.heap.size w x → ∃ args, (execOp a.eval o).run P x = .ok (.enter f args) x ∧ Calls P f args x (fun e w'' => e = .returned (valS r) ∧ Below x.heap.size x w'' ∧ RelS (okO Sx γ st.own) (hp γ st.own) w r (valS r)) := fun x hx => by
    obtain ⟨args, g1, g2⟩ := call_enter (hI.grow hx) ho hcl hfo hargs H
    refine ⟨args, g1, g2.mono fun e w' he => ?_⟩
    obtain ⟨v, γ1, rfl, h1, _, h3⟩ := he
    have hv := valS_ok h3 hfl
    subst hv
    exact ⟨rfl, h1, h3.flat hfl⟩
  have hr : RelS (okO Sx γ st.own) (hp γ st.own) w r (valS r) := by
    obtain ⟨args, g1, g2⟩ := hrel w (Below.refl _ _)
    obtain ⟨e, w', fr, hR, _⟩ := g2 []
    exact hR.2.2
  refine ⟨valS r, fun _ x hx => ?_, h w0 Sx γ _ w Qs (hI.put hd hr) hQ⟩
  obtain ⟨d, rfl⟩ := hx
  obtain ⟨args, g1, g2⟩ := hrel _ (ext_below w d)
  unfold Oper.quietAt
  rw [g1]
  exact ⟨rfl, g2.mono fun e w'' he => ⟨he.1, ext_ext he.2.1⟩⟩
theorem sw_region_spec {id : Nat} {l : List Oper} {QS : SEx → St → Prop} (hS : specB l.toArray = true) (h : SWS P l l (fun s => QS .normal (s.jk l)) st) : SW P (.region id l.toArray false) QS st := fun w0 Sx γ a w QQ hI hQ =>
  wp_spec_ext hS (h w0 Sx γ a w _ hI fun st' a' hI' hq us w' hb => hQ .normal _ γ _ w' ((hI'.grow hb).jk us l) hq)
theorem sw_region_spec_draw {id : Nat} {l : List Oper} {QS : SEx → St → Prop} (hm : P.follows .mixedOrders = true) (hB : Region.lexB .any l.toArray = true) (hS : specB l.toArray = true) (h : SWS P l l (fun s => QS .normal (s.jk l)) st) : SW P (.region id l.toArray true) QS st := fun w0 Sx γ a w QQ hI hQ =>
  wp_spec_draw hm hB hS (h w0 Sx γ a w _ hI fun st' a' hI' hq us w' hb => hQ .normal _ γ _ w' ((hI'.grow hb).jk us l) hq)
end

theorem flat_setC {z : Nat} {css : List (Cel z)} {k off : Nat} (hk : k < css.length) {vs : List Value} (hf : off + vs.length ≤ z) {c' : Cel z} (hc : c'.val = css[k].val.take off ++ vs ++ css[k].val.drop (off + vs.length)) :
    (css.set k c').flatMap Subtype.val = (css.flatMap Subtype.val).take (k * z + off) ++ vs ++ (css.flatMap Subtype.val).drop (k * z + off + vs.length) := by
  have e1 : css = css.take k ++ css[k] :: css.drop (k + 1) := by rw [List.getElem_cons_drop, List.take_append_drop]
  have e2 : css.set k c' = css.take k ++ c' :: css.drop (k + 1) := by rw [List.set_eq_take_append_cons_drop, if_pos hk]
  have l1 : ((css.take k).flatMap Subtype.val).length = k * z := by rw [flat_len (fun x : Cel z => x.2.1), List.length_take, Nat.min_eq_left (by omega)]
  have e3 : css.flatMap Subtype.val = (css.take k).flatMap Subtype.val ++ (css[k].val ++ (css.drop (k + 1)).flatMap Subtype.val) := by
    conv => lhs; rw [e1]
    rw [List.flatMap_append, List.flatMap_cons]
  rw [e2, List.flatMap_append, List.flatMap_cons, hc, e3]
  generalize hA : (css.take k).flatMap Subtype.val = A at *
  generalize hC : (css.drop (k + 1)).flatMap Subtype.val = C at *
  have hB : css[k].val.length = z := css[k].2.1
  generalize css[k].val = B at *
  rw [show k * z + off + vs.length = A.length + (off + vs.length) by omega, show k * z + off = A.length + off by omega, List.take_length_add_append, List.drop_length_add_append,
    List.take_append_of_le_length (by omega), List.drop_append_of_le_length (by omega)]
  simp only [List.append_assoc]
section
variable {P : Program} {T : TT} (hT : TypesOk P T) {st : St}
include hT
theorem act_store_elem {o : Oper} {t : TypeId} {ad x : Operand} (ho : o.op = .store t ad x) (hdst : o.dst = none) {ti : TyI} (ht : lk t T = some ti) {j z k off : Nat} (had : evS st ad = some (.eptr j z k off)) {e : TypeId} {l : List (List PV)} (hj : lk j st.own = some (.row e z l)) (hk : k < l.length)
    {s : SV} (hx : evS st x = some s) {xs : List PV} (hxs : cellsP s = some xs) (h1 : xs.all oneP = true) (hlen : Nat.beq xs.length ti.size = true) (hfit : Nat.ble (off + xs.length) z = true)
    {Q : St → Prop} (h : Q ⟨st.n, st.fr, setB j (.row e z (l.set k ((l.getD k []).take off ++ xs ++ (l.getD k []).drop (off + xs.length)))) st.own⟩) : ActOk P [j] o st Q := by
  intro w0 Sx γ a w QQ hI
  have hlen' : xs.length = ti.size := Nat.eq_of_beq_eq_true hlen
  have hfit' : off + xs.length ≤ z := Nat.le_of_ble_eq_true hfit
  cases hI.heap.box j _ hj with
  | row hr he hm hkj =>
  obtain ⟨css, g1, g2, g3⟩ := hr
  rcases g1.2 with ⟨hv', h0⟩ | ⟨b, cap, cur, hv', hB, hh, hnc, hcm, hcs, htake⟩
  · omega
  have hblk : blkOf (γ j) = some b := by rw [hv']; rfl
  have hadv := (evS_ok hI had).eptr_inv (hp_some hj) hblk
  obtain ⟨c1, c2⟩ := cellsP_ok (evS_ok hI hx) hxs h1
  generalize hvs : (a.eval x).cells.toList = vs at c1 c2
  have hvl : vs.length = xs.length := c1.1
  have hkz : k * z + z ≤ css.length * z := by
    have := Nat.mul_le_mul_right z (show k + 1 ≤ css.length by omega)
    rw [Nat.succ_mul] at this; exact this
  have hcapz : css.length * z ≤ cap * z := Nat.mul_le_mul_right z hnc
  have hst := run_storeCells_at P b (k * z + off) e vs 0 cur w hh (by omega) c2
  simp only [Nat.add_zero] at hst
  let cur' := cur.toList.take (k * z + off) ++ vs ++ cur.toList.drop (k * z + off + vs.length)
  have run : (execOp a.eval o).run P w = .ok .skip (w.setRow b cur'.toArray) := by
    have hsz := (hT t ti ht).size w
    have hcs : (a.eval x).cells.size = ti.size := by rw [← Array.length_toList, hvs, hvl, hlen']
    simp only [execOp, ho, Instr.storeAt, hadv, Instr.sureAddr, storeVar, Sem.run_bind, Sem.run_pure, Result.andThen_ok, hsz, hcs, hvs]
    simp [hst, cur']
  have hbl : b < w.heap.size := lt_of_block hh
  have hother : ∀ k, k ≠ b → (w.setRow b cur'.toArray).heap[k]? = w.heap[k]? := fun k hk => setRow_other w b k _ hk
  generalize hl' : l.set k ((l.getD k []).take off ++ xs ++ (l.getD k []).drop (off + xs.length)) = l' at h
  have lk' : ∀ i, lk i (setB j (.row e z l') st.own) = if i = j then some (.row e z l') else lk i st.own := fun i => by
    rw [lk_setB, hj]; rfl
  have hsome : ∀ i, (lk i (setB j (.row e z l') st.own)).isSome = (lk i st.own).isSome := fun i => by
    rw [lk']; split
    · rename_i e; subst e; rw [hj]; rfl
    · rfl
  generalize hown' : setB j (.row e z l') st.own = own' at *
  have hp' : ∀ i, hp γ own' i = hp γ st.own i := fun i => by
    have := hsome i
    unfold hp
    cases h2 : lk i own' <;> cases h3 : lk i st.own <;> rw [h2, h3] at this <;> first | rfl | cases this
  have okc : ∀ c, okO Sx γ own' c ↔ okO Sx γ st.own c := fun c => by
    refine and_congr Iff.rfl ⟨fun hk i bx hi => ?_, fun hk i bx hi => ?_⟩
    · have := hsome i; rw [hi] at this
      obtain ⟨by_, h3⟩ := Option.isSome_iff_exists.1 this
      exact hk i by_ h3
    · have := hsome i; rw [hi] at this
      obtain ⟨by_, h3⟩ := Option.isSome_iff_exists.1 this.symm
      exact hk i by_ h3
  have okb : ∀ i c, okBut Sx γ own' i c ↔ okBut Sx γ st.own i c := fun i c => by
    refine and_congr Iff.rfl ⟨fun hk k bx hi => ?_, fun hk k bx hi => ?_⟩
    · have := hsome k; rw [hi] at this
      obtain ⟨by_, h3⟩ := Option.isSome_iff_exists.1 this
      exact hk k by_ h3
    · have := hsome k; rw [hi] at this
      obtain ⟨by_, h3⟩ := Option.isSome_iff_exists.1 this.symm
      exact hk k by_ h3
  have keepS : ∀ {s : SV} {u : Value}, RelS (okO Sx γ st.own) (hp γ st.own) w s u → RelS (okO Sx γ own') (hp γ own') (w.setRow b cur'.toArray) s u := fun h => by
    refine h.keep2 (by simp) (fun c hc hok => ⟨hother c fun e => ?_, (okc c).2 hok⟩) fun i _ => hp' i
    subst e; exact hok.2 j _ hj hblk
  have okRR : ∀ c, okR (okBut Sx γ st.own j) (γ j) c → okR (okBut Sx γ own' j) (γ j) c := fun c h => ⟨(okb j c).2 h.1, h.2⟩
  have hne_of : ∀ c, okR (okBut Sx γ st.own j) (γ j) c → c ≠ b := fun c h e => by
    subst e
    refine h.2 ?_
    rw [hv']; rfl
  have keepR : ∀ {cs : List Value} {y : List PV}, rPV (okR (okBut Sx γ st.own j) (γ j)) w cs y → rPV (okR (okBut Sx γ own' j) (γ j)) (w.setRow b cur'.toArray) cs y := fun {cs y} h => by
    refine good_PV.weak _ _ _ _ _ (fun c _ => okRR c) (good_PV.keep _ w _ _ _ ⟨by simp, fun c hc hok => hother c (hne_of c hok)⟩ h)
  have hkc : k < css.length := by omega
  have hck : css[k].val.length = z := css[k].2.1
  have hgd : l.getD k [] = l[k] := by simp [hk]
  -- the new element
  have hnew : ∃ c' : Cel z, c'.val = css[k].val.take off ++ vs ++ css[k].val.drop (off + vs.length) := ⟨⟨_, by simp only [List.length_append, List.length_take, List.length_drop]; omega, fun u hu => by
    simp only [List.mem_append] at hu
    rcases hu with (hu | hu) | hu
    · exact css[k].2.2 u (List.mem_of_mem_take hu)
    · exact c2 u hu
    · exact css[k].2.2 u (List.mem_of_mem_drop hu)⟩, rfl⟩
  obtain ⟨c', hc'⟩ := hnew
  have hflat := flat_setC hkc (by omega : off + vs.length ≤ z) hc'
  have hlen2 : l'.length = l.length := by rw [← hl']; simp
  have hrow' : RowO rPV z (okBut Sx γ own' j) (w.setRow b cur'.toArray) 0 e (γ j) l' := by
    refine ⟨css.set k c', ⟨by rw [flat_len (fun x : Cel z => x.2.1)], Or.inr ⟨b, cap, cur'.toArray, by rw [hv', List.length_set], hB, setRow_heap w b _ _ e _ hh, by rw [List.length_set]; exact hnc, hcm, ?_, ?_⟩⟩, by rw [List.length_set, hlen2, g2], fun i a1 a2 => ?_⟩
    · simp only [cur', List.size_toArray, List.length_append, List.length_take, List.length_drop, Array.length_toList]; omega
    · rw [List.length_set, hflat, ← htake]
      show (cur.toList.take (k * z + off) ++ vs ++ cur.toList.drop (k * z + off + vs.length)).take (css.length * z) = _
      have hA : (cur.toList.take (k * z + off)).length = k * z + off := by simp only [List.length_take, Array.length_toList]; omega
      rw [List.take_append, List.take_of_length_le (by simp only [List.length_append, hA]; omega), List.length_append, hA, List.take_take, Nat.min_eq_left (by omega), List.drop_take]
    · simp only [List.length_set] at a1
      by_cases hik : i = k
      · subst hik
        have hx1 : (css.set i c')[i]'(by simpa using a1) = c' := by simp
        have hx2 : l'[i] = l[i].take off ++ xs ++ l[i].drop (off + xs.length) := by
          have : l'[i]? = some (l[i].take off ++ xs ++ l[i].drop (off + xs.length)) := by rw [← hl', List.getElem?_set_self hk, hgd]
          rw [List.getElem?_eq_getElem a2] at this
          exact Option.some.inj this
        rw [hx1, hx2, hc']
        have old := g3 i hkc hk
        have ol : l[i].length = z := (he _ (List.getElem_mem hk)).1
        refine keepR ⟨by simp only [List.length_append, List.length_take, List.length_drop]; omega, fun m s u hs hu => ?_⟩
        have hxr : ∀ (m : Nat) (s : PV) (u : Value), xs[m]? = some s → vs[m]? = some u → RelP (okR (okBut Sx γ st.own j) (γ j)) w s u := fun m s u hs hu => (c1.2 m s u hs hu).weak fun c _ hok => ⟨⟨hok.1, fun q bx hq _ hb => hok.2 q bx hq hb⟩, fun hb => hok.2 j _ hj (by rw [hblk]; rw [hv'] at hb; exact hb.symm)⟩
        have ln : (css[i].val.take off ++ vs).length = (l[i].take off ++ xs).length := by simp only [List.length_append, List.length_take]; omega
        by_cases hk1 : m < (l[i].take off ++ xs).length
        · rw [List.getElem?_append_left hk1] at hs
          rw [List.getElem?_append_left (by rw [ln]; exact hk1)] at hu
          have l2 : (css[i].val.take off).length = (l[i].take off).length := by simp only [List.length_take]; omega
          by_cases hk2 : m < (l[i].take off).length
          · rw [List.getElem?_append_left hk2] at hs
            rw [List.getElem?_append_left (by rw [l2]; exact hk2)] at hu
            rw [List.getElem?_take] at hs hu
            split at hs
            · rename_i hlt; rw [if_pos hlt] at hu; exact old.2 m s u hs hu
            · cases hs
          · rw [List.getElem?_append_right (by omega)] at hs
            rw [List.getElem?_append_right (by omega), l2] at hu
            exact hxr _ s u hs hu
        · rw [List.getElem?_append_right (by omega)] at hs
          rw [List.getElem?_append_right (by omega), ln] at hu
          rw [List.getElem?_drop] at hs hu
          rw [hvl] at hu
          exact old.2 _ s u hs hu
      · have hx1 : (css.set k c')[i]'(by simpa using a1) = css[i] := by simp [List.getElem_set, Ne.symm hik]
        have hx2 : l'[i] = l[i]'(by omega) := by
          have : l'[i]? = l[i]? := by rw [← hl', List.getElem?_set_ne (Ne.symm hik)]
          rw [List.getElem?_eq_getElem a2, List.getElem?_eq_getElem (by omega)] at this
          exact Option.some.inj this
        rw [hx1, hx2]
        exact keepR (g3 i a1 (by omega))
  have he' : ∀ y ∈ l', y.length = z ∧ ∀ s ∈ y, oneP s = true := fun y hy => by
    rw [← hl'] at hy
    rcases List.mem_or_eq_of_mem_set hy with hy | rfl
    · exact he y hy
    · rw [hgd]
      obtain ⟨q1, q2⟩ := he _ (List.getElem_mem hk)
      refine ⟨by simp only [List.length_append, List.length_take, List.length_drop]; omega, fun s hs => ?_⟩
      simp only [List.mem_append] at hs
      rcases hs with (hs | hs) | hs
      · exact q2 s (List.mem_of_mem_take hs)
      · exact List.all_eq_true.1 h1 s hs
      · exact q2 s (List.mem_of_mem_drop hs)
  unfold Oper.wp
  rw [run, Oper.upon_skip, hdst]
  refine ⟨γ, _, h, ⟨?_, hI.size, hI.defers, fun t s ht => keepS (hI.fr t s ht), ⟨fun i bx hi => ?_, fun i k bi bk c hi hk hbi hbk => ?_, hI.heap.sx.keep (by simp) fun i bx hi => Or.inr ⟨rfl, by rw [← hsome i, hi]; rfl⟩⟩⟩, ⟨by simp, fun c hc hv => hother c fun e => ?_⟩, fun K _ c hc hv i bx hi hK => ?_⟩
  · refine hI.below.step ⟨rfl, rfl, rfl, by simp, fun k hk => absurd hk (Nat.not_lt_zero _)⟩ fun k hk => hother k fun e => by subst e; exact hkj _ hblk hk
  · rw [lk'] at hi
    by_cases e : i = j
    · subst e
      rw [if_pos rfl] at hi
      cases hi
      exact .row hrow' he' (by rw [hlen2]; exact hm) hkj
    · rw [if_neg e] at hi
      cases hI.heap.box i bx hi with
      | @mp es ens clock b2 hg2 hB2 hh2 hl2 hr2 =>
        have hne : b2 ≠ b := fun eb => e (hI.heap.inj i j _ _ b hi hj (by rw [hg2, ← eb]; rfl) hblk)
        exact .mp hg2 hB2 (by rw [hother b2 hne]; exact hh2) hl2 fun k x en hs hu => ⟨(hr2 k x en hs hu).1, (hr2 k x en hs hu).2.keep2 (by simp) fun c hc hok => ⟨hother c fun ec => by subst ec; exact hok.2 j _ hj hblk, (okc c).2 hok⟩⟩
      | @row e' esz l2 hr' he2 hm2 hk2 =>
        refine .row (hr'.keep2 good_PV (by simp) (fun c hc => hother c fun ec => ?_) fun c hc hok hne => ⟨hother c fun ec => ?_, (okb i c).2 hok⟩) he2 hm2 hk2
        · subst ec
          have : blkOf (γ i) = some c := by
            rcases hr' with ⟨css, h1', _⟩
            rcases h1'.2 with ⟨hv, _⟩ | ⟨g, cap, cur, hv, _⟩
            · rw [hv] at hc; cases hc
            · rw [hv] at hc ⊢; exact hc
          exact e (hI.heap.inj i j _ _ c hi hj this hblk)
        · subst ec; exact hok.2 j _ hj (fun e2 => e e2.symm) hblk
      | @cells cs2 us2 ty2 b2 hg2 hB2 hh2 hl2 hr2 hone2 =>
        have hne : b2 ≠ b := fun eb => e (hI.heap.inj i j _ _ b hi hj (by rw [hg2, ← eb]; rfl) hblk)
        exact .cells hg2 hB2 (by rw [hother b2 hne]; exact hh2) hl2 (fun k s u hs hu => keepS (hr2 k s u hs hu)) hone2
  · have h2 := hsome i; rw [hi] at h2
    have h3 := hsome k; rw [hk] at h3
    obtain ⟨x1, h4⟩ := Option.isSome_iff_exists.1 h2.symm
    obtain ⟨x2, h5⟩ := Option.isSome_iff_exists.1 h3.symm
    exact hI.heap.inj i k _ _ c h4 h5 hbi hbk
  · subst e; exact hv j _ hj (by simp) hblk
  · have h2 := hsome i; rw [hi] at h2
    obtain ⟨x1, h4⟩ := Option.isSome_iff_exists.1 h2.symm
    exact hv i x1 h4 hK
end

/-- as Holds, the result one of R's, and it leads nowhere -/
def HoldsE (P : Program) (f : FuncId) (args : List PV) (R : SV → Prop) : Prop := Callable P f ∧
  ∀ (w : World) (Sx : Nat → Prop) (vs : List Value), EnOk w Sx → vs.length = args.length → (∀ (i : Nat) (s : PV) (u : Value), args[i]? = some s → vs[i]? = some u → RelP (fun b => ¬ Sx b) w s u) →
    Calls P f vs.toArray w fun e w' => ∃ r v, R r ∧ flatS r = true ∧ e = .returned v ∧ Below w.heap.size w w' ∧ RelS (fun _ => True) (fun _ => none) w' r v
theorem flat_plain {ok : Nat → Prop} {H : Nat → Option Value} {w : World} {r : SV} {v : Value} (h : RelS ok H w r v) (hf : flatS r = true) {ok' : Nat → Prop} {H' : Nat → Option Value} {w' : World} : RelS ok' H' w' r v := h.flat hf
/-- a contract from a walk over real frames -/
theorem Holds.of_calls {P : Program} {f : FuncId} {fn : Func} {args : List PV} {r : SV} (hf : P.funcs[f]? = some fn) (hname : (fn.name == "runtime.NumGoroutine") = false) (hb : fn.body.isNone = false)
    (h : ∀ (w : World) (vs : List Value), vs.length = args.length → (∀ (i : Nat) (s : PV) (u : Value), args[i]? = some s → vs[i]? = some u → RelP (fun _ => True) w s u) →
      Calls P f vs.toArray w fun e w' => e = .returned (valS r) ∧ Below w.heap.size w w') (hfl : flatS r = true) (hr : ∀ w, RelS (fun _ => True) (fun _ => none) w r (valS r)) : Holds P f args r [] := by
  refine ⟨⟨fn, hf, hname, hb⟩, fun w Sx vs hSx hl hrel => ?_⟩
  refine (h w vs hl fun i s u a b => (hrel i s u a b).weak fun _ _ _ => trivial).mono fun e w' he => ?_
  exact ⟨valS r, fun _ => .nilIface, he.1, he.2, heap_nil' ((heap_nil hSx fun _ => .nilIface).sx.grow he.2.size), (hr w').flat hfl⟩
/-- the same, the world's package-level variables as the table says -/
theorem Holds.of_callsG {P : Program} {f : FuncId} {fn : Func} {args : List PV} {r : SV} (hf : P.funcs[f]? = some fn) (hname : (fn.name == "runtime.NumGoroutine") = false) (hb : fn.body.isNone = false)
    (h : ∀ (w : World) (vs : List Value), (∀ g us, lk g GTab = some us → ∃ ty m, w.heap[g]? = some (.cells us.toArray ty m)) → vs.length = args.length → (∀ (i : Nat) (s : PV) (u : Value), args[i]? = some s → vs[i]? = some u → RelP (fun _ => True) w s u) →
      Calls P f vs.toArray w fun e w' => e = .returned (valS r) ∧ Below w.heap.size w w') (hfl : flatS r = true) (hr : ∀ w, RelS (fun _ => True) (fun _ => none) w r (valS r)) : Holds P f args r [] := by
  refine ⟨⟨fn, hf, hname, hb⟩, fun w Sx vs hSx hl hrel => ?_⟩
  refine (h w vs (fun g us hg => (hSx.2 g us hg).2.2) hl fun i s u a b => (hrel i s u a b).weak fun _ _ _ => trivial).mono fun e w' he => ?_
  exact ⟨valS r, fun _ => .nilIface, he.1, he.2, heap_nil' ((heap_nil hSx fun _ => .nilIface).sx.grow he.2.size), (hr w').flat hfl⟩
theorem HoldsE.of_calls {P : Program} {f : FuncId} {fn : Func} {args : List PV} {R : SV → Prop} (hf : P.funcs[f]? = some fn) (hname : (fn.name == "runtime.NumGoroutine") = false) (hb : fn.body.isNone = false)
    (h : ∀ (w : World) (vs : List Value), vs.length = args.length → (∀ (i : Nat) (s : PV) (u : Value), args[i]? = some s → vs[i]? = some u → RelP (fun _ => True) w s u) →
      Calls P f vs.toArray w fun e w' => ∃ r, R r ∧ flatS r = true ∧ e = .returned (valS r) ∧ Below w.heap.size w w' ∧ RelS (fun _ => True) (fun _ => none) w' r (valS r)) : HoldsE P f args R := by
  refine ⟨⟨fn, hf, hname, hb⟩, fun w Sx vs hSx hl hrel => ?_⟩
  refine (h w vs hl fun i s u a b => (hrel i s u a b).weak fun _ _ _ => trivial).mono fun e w' ⟨r, h1, h2, h3, h4, h5⟩ => ⟨r, _, h1, h2, h3, h4, h5⟩
section
variable {P : Program} {st : St}
theorem act_call_E {o : Oper} {cl : Call} {fo : Operand} {f : FuncId} {caps : List PV} {ps : List PV} {ids : List Nat} {R : SV → Prop} (ho : o.op = .call cl) (hcl : cl.callee = .value fo) (hfo : evS st fo = some (.p (.fn f caps))) (hargs : argPs st cl.args.toList = some (ps, ids))
    (H : HoldsE P f (ps ++ caps) R) (hd : dstOk st o.dst = true) {Q : St → Prop} (h : ∀ r, R r → Q (st.put o.dst r)) : ActOk P [] o st Q := by
  intro w0 Sx γ a w QQ hI
  obtain ⟨⟨fn, hfn, hname, hbody⟩, H⟩ := H
  obtain ⟨k1, k2⟩ := argPs_ok hI hargs
  have hf := (evS_ok hI hfo).p_inv
  generalize hfv : a.eval fo = u at hf
  cases hf with
  | @fn _ _ us hl hr =>
  have hlt := lentX_en hI ids
  have hc := H w (lentX Sx γ st.own ids) (cl.args.toList.map a.eval ++ us) hlt (by simp only [List.length_append, List.length_map]; omega) fun i s v hs hv => by
    by_cases hi : i < ps.length
    · rw [List.getElem?_append_left hi] at hs
      rw [List.getElem?_append_left (by rw [List.length_map, k1]; exact hi)] at hv
      exact k2 i s v hs hv
    · rw [List.getElem?_append_right (by omega)] at hs
      rw [List.getElem?_append_right (by rw [List.length_map, k1]; omega), List.length_map, k1] at hv
      exact (hr _ s v hs hv).weak fun b _ hok hl => by
        rcases hl with hl | ⟨i, bx, h1, _, h2⟩
        · exact hok.1 hl
        · exact hok.2 i bx h1 h2
  unfold Oper.wp
  have hrun : (execOp a.eval o).run P w = .ok (.enter f (cl.args.toList.map a.eval ++ us).toArray) w := by
    have e : (cl.args.toList.map a.eval ++ us).toArray = cl.args.map a.eval ++ us.toArray := by
      apply Array.toList_inj.1; simp
    rw [e]
    have := run_enter hfn hname hbody (cl.args.map a.eval ++ us.toArray) w
    simp only [execOp, ho, resolve, hcl, hfv, Deferred.ofValue, Sem.run_bind, Sem.run_pure, Result.andThen_ok, invoke, Array.empty_append, this]
  rw [hrun, Oper.upon_enter]
  refine hc.mono fun e w' he => ?_
  obtain ⟨r, v, hR, hfl, rfl, hb, hr⟩ := he
  have hI' := hI.grow hb
  exact ⟨γ, _, h r hR, hI'.put hd (hr.flat hfl), ⟨hb.size, fun b hlt _ => hb.block b hlt⟩, fun K _ b _ hv => by rw [put_own]; exact hv⟩
end

/-! ### Lists of typed things -/
theorem slat_typed {α : Type} {R : Rp α} {f : α → List PV} {z : Nat} {ok : Nat → Prop} {w : World} {A : Option Addr} {l : List α} (h : SlAtA ok (rPV ok) z w A (l.map f)) (hf : ∀ x ∈ l, ∀ cs, rPV ok w cs (f x) → R w cs x) : SlAt R z w A l := fun hl => by
  obtain ⟨b, o, hA, _, hlt, hc⟩ := h (by simpa using hl)
  refine ⟨b, o, hA, hlt, fun i hi => ?_⟩
  obtain ⟨cs, h1, h2, h3⟩ := hc i (by simpa using hi)
  exact ⟨cs, h1, h2, hf _ (List.getElem_mem hi) cs (by simpa using h3)⟩
theorem slat_plain {α : Type} {R : Rp α} {f : α → List PV} {z : Nat} {w : World} {A : Option Addr} {l : List α} (h : SlAt R z w A l) (hf : ∀ x ∈ l, ∀ cs, R w cs x → rPV (fun _ => True) w cs (f x)) : SlAtA (fun _ => True) (rPV fun _ => True) z w A (l.map f) := fun hl => by
  obtain ⟨b, o, hA, hlt, hc⟩ := h (by simpa using hl)
  refine ⟨b, o, hA, trivial, hlt, fun i hi => ?_⟩
  have hi' : i < l.length := by simpa using hi
  obtain ⟨cs, h1, h2, h3⟩ := hc i hi'
  exact ⟨cs, h1, h2, by simpa using hf _ (List.getElem_mem hi') cs h3⟩
/-- a slice that came in -/
theorem rel_sl {α : Type} {R : Rp α} {f : α → List PV} {z : Nat} {w : World} {A : Option Addr} {l : List α} {c : Nat} (h : SlAt R z w A l) (hl : l.length ≤ c) (hc : l.length ≤ reachBytes ∧ c ≤ maxLen) (hz : ∀ x, (f x).length = z ∧ (f x).all oneP = true) (hf : ∀ x ∈ l, ∀ cs, R w cs x → rPV (fun _ => True) w cs (f x)) :
    RelP (fun _ => True) w (.sl z (l.map f)) (.slice A l.length c) := by
  have := RelP.of_slat (ok := fun _ => True) (w := w) (esz := z) (l := l.map f) (A := A) (c := c) (by simpa using hl) (by simpa using hc) (fun e he => by
    obtain ⟨x, _, rfl⟩ := List.mem_map.1 he
    exact ⟨(hz x).1, fun s hs => List.all_eq_true.1 (hz x).2 s hs⟩) (slat_plain h hf)
  rwa [List.length_map] at this
theorem sl_typed {α : Type} {R : Rp α} {f : α → List PV} {z : Nat} {ok : Nat → Prop} {w : World} {u : Value} {l : List α} (h : RelP ok w (.sl z (l.map f)) u) (hf : ∀ x ∈ l, ∀ cs, rPV ok w cs (f x) → R w cs x) :
    ∃ A c, u = .slice A l.length c ∧ l.length ≤ c ∧ (l.length ≤ reachBytes ∧ c ≤ maxLen) ∧ SlAt R z w A l := by
  obtain ⟨A, c, h1, h2, h3, _, h5⟩ := h.slat
  rw [List.length_map] at h1 h2 h3
  exact ⟨A, c, h1, h2, h3, slat_typed h5 hf⟩
/-- cells that are plain values -/
theorem rPV_plain {ok : Nat → Prop} {w : World} : ∀ {xs : List Value} {cs : List Value}, rPV ok w cs (xs.map PV.v) → cs = xs := fun {xs cs} h => by
  refine List.ext_getElem? fun i => ?_
  have hl : cs.length = xs.length := by simpa using h.1
  by_cases hi : i < xs.length
  · have h1 : (xs.map PV.v)[i]? = some (.v xs[i]) := by simp [hi]
    have h2 : cs[i]? = some (cs[i]'(by omega)) := List.getElem?_eq_getElem (by omega)
    have h3 := h.2 i _ _ h1 h2
    rw [h2, List.getElem?_eq_getElem hi]
    exact congrArg some (RelS.v_inv (H := fun _ => none) (.p h3))
  · rw [List.getElem?_eq_none (by omega), List.getElem?_eq_none (by omega)]
theorem plain_rPV {ok : Nat → Prop} {w : World} {xs : List Value} (h : ∀ x ∈ xs, plain x = true) : rPV ok w xs (xs.map PV.v) := by
  refine ⟨by simp, fun j s u hs hu => ?_⟩
  rw [List.getElem?_map, hu] at hs
  cases hs
  exact .v (h u (List.mem_of_getElem? hu))

theorem getD_map {α β : Type} {f : α → List β} {l : List α} {k : Nat} (h : k < l.length) : (l.map f).getD (Int.toNat (k : Int)) [] = f l[k] := by simp [h]
theorem foldl_take_succ {α β : Type} (f : β → α → β) (b : β) (l : List α) (k : Nat) (h : k < l.length) : (l.take (k + 1)).foldl f b = f ((l.take k).foldl f b) l[k] := by
  rw [List.take_succ_eq_append_getElem h, List.foldl_append]; rfl
theorem run_equalIn_nil {P : Program} (w : World) (d : Nat) (t e : TypeId) (A : Option Addr) (n c : Nat) (h : P.underlying t = some (.slice e)) : (Op.equalIn (d + 1) t (.slice A n c) (.slice none 0 0)).run P w = .ok A.isNone w := by
  cases A <;> simp [Op.equalIn, run_underlying h]
theorem fin_b {ts : List Tmp} {st : St} {b b' : Bool} (h : resS st ts = some (.p (.v (.bool b)))) (hb : b = b') : Fin ts (.p (.v (.bool b'))) [] .ret st := by
  subst hb; exact ⟨Or.inr rfl, st, _, [], Wk.refl _, h, rfl, rfl, rfl⟩
theorem fin_i {ts : List Tmp} {st : St} {k : IntKind} {b b' : Int} (h : resS st ts = some (.p (.v (.int k b)))) (hb : b = b') : Fin ts (.p (.v (.int k b'))) [] .ret st := by
  subst hb; exact ⟨Or.inr rfl, st, _, [], Wk.refl _, h, rfl, rfl, rfl⟩
theorem wrap_succ {k n : Nat} (h : k < n) (hn : n ≤ 4611686018427387904) : IntKind.i64.wrap ((k : Int) + 1) = ((k + 1 : Nat) : Int) := IntWalk.i64_in _ (by omega)
/-- a load out of an element of the call's own row, the element named -/
theorem opR_elem {T : TT} {K : List Nat} {st : St} {o : Op} {t : TypeId} {ad : Operand} (ho : o = .load t ad) {i : TyI} (ht : lk t T = some i) {j z k off : Nat} (had : evS st ad = some (.eptr j z k off)) (hK : K.contains j = false) {e : TypeId} {l : List (List PV)} (hj : lk j st.own = some (.row e z l))
    {el : List PV} (he : l.getD k [] = el) {s : PV} (hs : takeT i (el.drop off) = some s) : opR T K st o = some (k < l.length, .p s) := by
  subst ho
  show rLoad T K st t (evS st ad) = _
  unfold rLoad
  rw [ht, had]
  simp only [hK, hj, beq_self', cond_true, he, hs]
section
variable {P : Program} {T : TT} (hT : TypesOk P T) {st : St}
include hT
/-- a slice held against nil: nil has no elements -/
theorem act_nilcmp {o : Oper} {t t' : TypeId} {x y : Operand} (ho : o.op = .binOp .eql t x y t') {ti : TyI} {e : TypeId} (ht : lk t T = some ti) (hte : ti.d = .sl e) {z : Nat} {l : List (List PV)} (hx : evS st x = some (.p (.sl z l))) (hy : evS st y = some (.p (.v (.slice none 0 0))))
    (hd : dstOk st o.dst = true) {Q : St → Prop} (h : ∀ b : Bool, (b = true → l = []) → Q (st.put o.dst (.p (.v (.bool b))))) : ActOk P [] o st Q := by
  intro w0 Sx γ a w QQ hI
  have hu := (hT t ti ht).und
  rw [hte] at hu
  simp only [UndOk] at hu
  obtain ⟨A, c, hv, hlc, hm, he, hsl⟩ := (evS_ok hI hx).p_inv.slat
  have hyv := (evS_ok hI hy).v_inv
  have hrun : (execOp a.eval o).run P w = .ok (.value (.bool A.isNone)) w := by
    simp only [execOp, ho, hv, hyv]
    refine run_v ?_
    have h1 : (eqGuard .eql t x y (.slice A l.length c) (.slice none 0 0)).run P w = .ok () w := rfl
    rw [Sem.run_bind, h1]
    simp only [Result.andThen_ok]
    simp [binOp, Op.equal, Op.maxDepth, run_equalIn_nil w 9999 t e A l.length c hu]
  unfold Oper.wp
  rw [hrun, Oper.upon_value]
  refine ⟨γ, _, h A.isNone (fun hA => ?_), hI.put hd (.p (.v rfl)), ⟨Nat.le_refl _, fun _ _ _ => rfl⟩, fun K _ b _ hb => by rw [put_own]; exact hb⟩
  cases A with
  | some A => cases hA
  | none =>
    rcases Nat.eq_zero_or_pos l.length with h0 | h0
    · exact List.eq_nil_of_length_eq_zero h0
    · obtain ⟨b, o, hA', _⟩ := hsl h0; cases hA'
end
end Go.Proofs.Ytjpcchipejmocaa
