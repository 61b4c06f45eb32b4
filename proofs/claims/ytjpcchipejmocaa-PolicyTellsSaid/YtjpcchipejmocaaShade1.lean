/-
  Shades: what the slots of a call hold, said without addresses: plain trees, and rows and boxes of the call's own under small numbers; the operations that only read.
-/
import Derived.Test.YtjpcchipejmocaaRowo
import Derived.Test.YtjpcchipejmocaaMove
import Derived.MapKept
import Derived.Test.YtjpcchipejmocaaGlob
namespace Go.Proofs.Ytjpcchipejmocaa
set_option linter.unusedVariables false
set_option linter.unusedSimpArgs false
open Go.RowKit

/-- plain trees: a slice is the list of its elements, each the list of its cells; nothing in them is written any more -/
inductive PV where
  | v (x : Value)
  | agg (cs : List PV)
  | sl (esz : Nat) (l : List (List PV))
  | rp (cs : List PV)
  | fn (f : FuncId) (caps : List PV)
  deriving Inhabited

def plain : Value → Bool
  | .bool _ | .int _ _ | .string _ | .pointer none | .nilFunc | .nilIface | .float _ _ | .complex _ _ _ | .slice none 0 0 | .map none => true
  | _ => false
theorem plain_one {x : Value} (h : plain x = true) : x.oneCell' = true := by
  cases x <;> first | rfl | (simp [plain] at h; done)

def oneP : PV → Bool
  | .agg _ => false
  | _ => true
inductive RelP (ok : Nat → Prop) (w : World) : PV → Value → Prop
  | v {x : Value} (h : plain x = true) : RelP ok w (.v x) x
  | agg {cs : List PV} {us : List Value} (hl : us.length = cs.length) (h : ∀ (i : Nat) (s : PV) (u : Value), cs[i]? = some s → us[i]? = some u → RelP ok w s u) : RelP ok w (.agg cs) (.agg us.toArray)
  | sl {esz : Nat} {l : List (List PV)} {A : Option Addr} {c : Nat} (hc : l.length ≤ c) (hm : l.length ≤ reachBytes ∧ c ≤ maxLen) (he : ∀ e ∈ l, e.length = esz ∧ ∀ s ∈ e, oneP s = true)
      (hA : 0 < l.length → ∃ b o, A = some ⟨b, o, none⟩ ∧ ok b ∧ b < w.heap.size)
      (hx : ∀ (b o i j : Nat), A = some ⟨b, o, none⟩ → i < l.length → j < esz → ∃ u, w.cell? ⟨b, o + i * esz + j, none⟩ = some u)
      (h : ∀ (b o i j : Nat) (e : List PV) (s : PV) (u : Value), A = some ⟨b, o, none⟩ → l[i]? = some e → e[j]? = some s → w.cell? ⟨b, o + i * esz + j, none⟩ = some u → RelP ok w s u) : RelP ok w (.sl esz l) (.slice A l.length c)
  | rp {cs : List PV} {b o : Nat} (hok : ok b) (hlt : b < w.heap.size) (hx : ∀ (j : Nat), j < cs.length → ∃ u, w.cell? ⟨b, o + j, none⟩ = some u)
      (h : ∀ (j : Nat) (s : PV) (u : Value), cs[j]? = some s → w.cell? ⟨b, o + j, none⟩ = some u → RelP ok w s u) : RelP ok w (.rp cs) (.pointer (some ⟨b, o, none⟩))
  | fn {f : FuncId} {caps : List PV} {us : List Value} (hl : us.length = caps.length) (h : ∀ (i : Nat) (s : PV) (u : Value), caps[i]? = some s → us[i]? = some u → RelP ok w s u) : RelP ok w (.fn f caps) (.func (.func f) #[] us.toArray)

theorem RelP.keep {ok : Nat → Prop} {w w' : World} (hs : SameOn ok w w') {s : PV} {u : Value} (h : RelP ok w s u) : RelP ok w' s u := by
  induction h with
  | v h => exact .v h
  | agg hl h ih => exact .agg hl ih
  | @sl esz l A c hc hm he hA hx h ih =>
    have hcell : ∀ b o k, A = some ⟨b, o, none⟩ → 0 < l.length → w'.cell? ⟨b, k, none⟩ = w.cell? ⟨b, k, none⟩ := fun b o k hAb hl => by
      obtain ⟨b', o', e, hok, hlt⟩ := hA hl
      rw [hAb] at e
      simp only [Option.some.injEq, Addr.mk.injEq] at e
      obtain ⟨rfl, _⟩ := e
      exact World.cell?_of_block (w := w) (a := ⟨b, k, none⟩) (hs.block b hlt hok)
    refine .sl hc hm he (fun hl => ?_) (fun b o i j hAb hi hj => ?_) (fun b o i j e s u hAb hi hj hu => ?_)
    · obtain ⟨b, o, e, hok, hlt⟩ := hA hl
      exact ⟨b, o, e, hok, Nat.lt_of_lt_of_le hlt hs.size⟩
    · rw [hcell b o _ hAb (by omega)]; exact hx b o i j hAb hi hj
    · have hi' : i < l.length := (List.getElem?_eq_some_iff.1 hi).1
      rw [hcell b o _ hAb (by omega)] at hu
      exact ih b o i j e s u hAb hi hj hu
  | @rp cs b o hok hlt hx h ih =>
    have hcell : ∀ k, w'.cell? ⟨b, k, none⟩ = w.cell? ⟨b, k, none⟩ := fun k => World.cell?_of_block (w := w) (a := ⟨b, k, none⟩) (hs.block b hlt hok)
    refine .rp hok (Nat.lt_of_lt_of_le hlt hs.size) (fun j hj => ?_) (fun j s u hj hu => ?_)
    · rw [hcell]; exact hx j hj
    · rw [hcell] at hu; exact ih j s u hj hu
  | fn hl h ih => exact .fn hl ih
theorem RelP.weak {ok ok' : Nat → Prop} {w : World} (hk : ∀ b, b < w.heap.size → ok b → ok' b) {s : PV} {u : Value} (h : RelP ok w s u) : RelP ok' w s u := by
  induction h with
  | v h => exact .v h
  | agg hl h ih => exact .agg hl ih
  | sl hc hm he hA hx h ih =>
    refine .sl hc hm he (fun hl => ?_) hx ih
    obtain ⟨b, o, e, hok, hlt⟩ := hA hl
    exact ⟨b, o, e, hk _ hlt hok, hlt⟩
  | rp hok hlt hx h ih => exact .rp (hk _ hlt hok) hlt hx ih
  | fn hl h ih => exact .fn hl ih

theorem RelP.one {ok : Nat → Prop} {w : World} {s : PV} {u : Value} (h : RelP ok w s u) : u.oneCell' = oneP s := by
  cases h with
  | v h => rw [plain_one h]; rfl
  | agg => rfl
  | sl => rfl
  | rp => rfl
  | fn => rfl
/-- the cells of an element -/
def rPV : RF (List PV) := fun ok w cs x => cs.length = x.length ∧ ∀ (j : Nat) (s : PV) (u : Value), x[j]? = some s → cs[j]? = some u → RelP ok w s u
theorem good_PV : Good rPV :=
  ⟨fun _ _ _ _ _ hs h => ⟨h.1, fun j s u a b => (h.2 j s u a b).keep hs⟩, fun _ _ _ _ _ hk h => ⟨h.1, fun j s u a b => (h.2 j s u a b).weak hk⟩⟩
theorem RelP.slat {ok : Nat → Prop} {w : World} {esz : Nat} {l : List (List PV)} {u : Value} (h : RelP ok w (.sl esz l) u) :
    ∃ A c, u = .slice A l.length c ∧ l.length ≤ c ∧ (l.length ≤ reachBytes ∧ c ≤ maxLen) ∧ (∀ e ∈ l, e.length = esz ∧ ∀ s ∈ e, oneP s = true) ∧ SlAtA ok (rPV ok) esz w A l := by
  cases h with
  | @sl _ _ A c hc hm he hA hx h =>
    refine ⟨A, c, rfl, hc, hm, he, fun hl => ?_⟩
    obtain ⟨b, o, rfl, hok, hlt⟩ := hA hl
    refine ⟨b, o, rfl, hok, hlt, fun i hi => ?_⟩
    have hex : ∀ j : Nat, ∃ u, j < esz → w.cell? ⟨b, o + i * esz + j, none⟩ = some u := fun j => by
      by_cases hj : j < esz
      · obtain ⟨u, hu⟩ := hx b o i j rfl hi hj; exact ⟨u, fun _ => hu⟩
      · exact ⟨.nilIface, fun h => absurd h hj⟩
    obtain ⟨f, hf⟩ := Classical.axiomOfChoice hex
    have hel : l[i].length = esz := (he _ (List.getElem_mem hi)).1
    refine ⟨(List.range esz).map f, by simp, fun j u hj => ?_, by simp [hel], fun j s u hs hu => ?_⟩
    · have hj' : j < esz := by have := (List.getElem?_eq_some_iff.1 hj).1; simpa using this
      simp [hj'] at hj
      rw [← hj]; exact hf j hj'
    · have hj' : j < esz := by have := (List.getElem?_eq_some_iff.1 hu).1; simpa using this
      simp [hj'] at hu
      exact h b o i j l[i] s u rfl (List.getElem?_eq_getElem hi) hs (by rw [← hu]; exact hf j hj')
theorem RelP.of_slat {ok : Nat → Prop} {w : World} {esz : Nat} {l : List (List PV)} {A : Option Addr} {c : Nat} (hc : l.length ≤ c) (hm : l.length ≤ reachBytes ∧ c ≤ maxLen) (he : ∀ e ∈ l, e.length = esz ∧ ∀ s ∈ e, oneP s = true)
    (h : SlAtA ok (rPV ok) esz w A l) : RelP ok w (.sl esz l) (.slice A l.length c) := by
  have key : ∀ b o i, A = some ⟨b, o, none⟩ → (hi : i < l.length) → ∃ cs : List Value, cs.length = esz ∧ CellsAt w b (o + i * esz) cs ∧ rPV ok w cs l[i] := fun b o i hA hi => by
    obtain ⟨b', o', hA', _, _, hx⟩ := h (by omega)
    rw [hA] at hA'
    simp only [Option.some.injEq, Addr.mk.injEq] at hA'
    obtain ⟨rfl, rfl, _⟩ := hA'
    exact hx i hi
  refine .sl hc hm he (fun hl => ?_) (fun b o i j hA hi hj => ?_) (fun b o i j e s u hA hi hj hu => ?_)
  · obtain ⟨b, o, hA, hok, hlt, _⟩ := h hl
    exact ⟨b, o, hA, hok, hlt⟩
  · obtain ⟨cs, h1, h2, _⟩ := key b o i hA hi
    exact ⟨cs[j]'(by omega), h2 j _ (List.getElem?_eq_getElem _)⟩
  · obtain ⟨hi', rfl⟩ := List.getElem?_eq_some_iff.1 hi
    obtain ⟨cs, h1, h2, h3⟩ := key b o i hA hi'
    have hjl : j < cs.length := by rw [h3.1]; exact (List.getElem?_eq_some_iff.1 hj).1
    have h4 := h2 j _ (List.getElem?_eq_getElem hjl)
    rw [hu] at h4
    exact h3.2 j s u hj (by rw [List.getElem?_eq_getElem hjl]; exact h4.symm)

/-! ### Slots; rows and boxes of the call's own -/
inductive SV where
  | p (x : PV)
  | agg (cs : List SV)
  | tup (cs : List SV)
  | fn (f : FuncId) (caps : List SV)
  | row (i : Nat)
  | ptr (i off : Nat)
  | eptr (i z idx off : Nat)
  | view (i z lo hi : Nat)
  | junk
  deriving Inhabited
inductive Box where
  | row (e : TypeId) (esz : Nat) (l : List (List PV))
  | cells (cs : List SV)
  | mp (es : List (Value × PV))
  deriving Inhabited
def lk {α : Type} (t : Nat) : List (Nat × α) → Option α
  | [] => none
  | (u, s) :: r => bif Nat.beq t u then some s else lk t r
def del {α : Type} (t : Nat) : List (Nat × α) → List (Nat × α)
  | [] => []
  | (u, s) :: r => bif Nat.beq t u then del t r else (u, s) :: del t r
theorem beq_no {t u : Nat} (h : t ≠ u) : Nat.beq t u = false := by
  cases h' : Nat.beq t u with
  | false => rfl
  | true => exact absurd (Nat.eq_of_beq_eq_true h') h
theorem beq_self' (t : Nat) : Nat.beq t t = true := by simp
theorem lk_cons {α : Type} (t u : Nat) (s : α) (r : List (Nat × α)) : lk t ((u, s) :: r) = if t = u then some s else lk t r := by
  rw [lk]
  by_cases h : t = u
  · subst h; simp
  · rw [beq_no h, if_neg h]; rfl
theorem lk_del {α : Type} (t u : Nat) : ∀ r : List (Nat × α), lk t (del u r) = if t = u then none else lk t r
  | [] => by simp [del, lk]
  | (k, s) :: r => by
    have ih := lk_del t u r
    rw [del]
    by_cases h : u = k
    · subst h
      rw [beq_self', cond_true, ih, lk_cons]
      split <;> simp_all
    · rw [beq_no h, cond_false, lk_cons, lk_cons, ih]
      by_cases h1 : t = k
      · have : t ≠ u := fun e => h (e ▸ h1)
        rw [if_pos h1, if_neg this, if_pos h1]
      · rw [if_neg h1, if_neg h1]

def blkOf : Value → Option Nat
  | .pointer (some a) => some a.block
  | .slice (some a) _ _ => some a.block
  | .map (some r) => some r
  | _ => none
theorem blkOf_slice {A : Option Addr} {n c : Nat} : blkOf (.slice A n c) = (Value.slice A n c).ownBlock := by cases A <;> rfl

inductive RelS (ok : Nat → Prop) (H : Nat → Option Value) (w : World) : SV → Value → Prop
  | p {x : PV} {u : Value} (h : RelP ok w x u) : RelS ok H w (.p x) u
  | agg {cs : List SV} {us : List Value} (hl : us.length = cs.length) (h : ∀ (i : Nat) (s : SV) (u : Value), cs[i]? = some s → us[i]? = some u → RelS ok H w s u) : RelS ok H w (.agg cs) (.agg us.toArray)
  | tup {cs : List SV} {us : List Value} (hl : us.length = cs.length) (h : ∀ (i : Nat) (s : SV) (u : Value), cs[i]? = some s → us[i]? = some u → RelS ok H w s u) : RelS ok H w (.tup cs) (.tuple us.toArray)
  | fn {f : FuncId} {caps : List SV} {us : List Value} (hl : us.length = caps.length) (h : ∀ (i : Nat) (s : SV) (u : Value), caps[i]? = some s → us[i]? = some u → RelS ok H w s u) : RelS ok H w (.fn f caps) (.func (.func f) #[] us.toArray)
  | row {i : Nat} {u : Value} (h : H i = some u) : RelS ok H w (.row i) u
  | junk {u : Value} : RelS ok H w .junk u
  | ptr {i off b : Nat} {g : Value} (h : H i = some g) (hb : blkOf g = some b) : RelS ok H w (.ptr i off) (.pointer (some ⟨b, off, none⟩))
  | eptr {i z idx off b : Nat} {g : Value} (h : H i = some g) (hb : blkOf g = some b) : RelS ok H w (.eptr i z idx off) (.pointer (some ⟨b, idx * z + off, none⟩))
  | view {i z lo hi n c : Nat} {A A' : Option Addr} (h : H i = some (.slice A n c)) (hl : lo ≤ hi) (hn : hi ≤ n) (hc : n ≤ c) (hA : lo < c ∨ lo = 0 → A' = A.map (·.add (lo * z))) : RelS ok H w (.view i z lo hi) (.slice A' (hi - lo) (c - lo))

mutual
def SV.noRef (d : Nat) : SV → Bool
  | .p _ => true
  | .agg cs => noRefs d cs
  | .tup cs => noRefs d cs
  | .fn _ cs => noRefs d cs
  | .row i => !(Nat.beq i d)
  | .ptr i _ => !(Nat.beq i d)
  | .eptr i _ _ _ => !(Nat.beq i d)
  | .view i _ _ _ => !(Nat.beq i d)
  | .junk => true
def noRefs (d : Nat) : List SV → Bool
  | [] => true
  | s :: r => s.noRef d && noRefs d r
end
theorem noRefs_at {d : Nat} : ∀ {cs : List SV} (_ : noRefs d cs = true) {i : Nat} {s : SV}, cs[i]? = some s → s.noRef d = true
  | [], _, i, s, h => by simp at h
  | c :: cs, hn, i, s, h => by
    simp only [noRefs, Bool.and_eq_true] at hn
    cases i with
    | zero => simp at h; subst h; exact hn.1
    | succ i => exact noRefs_at hn.2 (by simpa using h)
theorem RelS.keep {ok ok' : Nat → Prop} {H H' : Nat → Option Value} {w w' : World} (hs : SameOn ok w w') (hk : ∀ b, b < w'.heap.size → ok b → ok' b) {s : SV} {u : Value}
    (h : RelS ok H w s u) : (∀ i, s.noRef i = false → H' i = H i) → RelS ok' H' w' s u := by
  induction h with
  | p h => exact fun _ => .p ((h.keep hs).weak hk)
  | agg hl h ih =>
    refine fun hH => .agg hl fun i s u a b => ih i s u a b fun j hj => hH j ?_
    cases hn : (SV.agg _).noRef j with
    | false => rfl
    | true => have := noRefs_at (by simpa [SV.noRef] using hn) a; rw [this] at hj; cases hj
  | tup hl h ih =>
    refine fun hH => .tup hl fun i s u a b => ih i s u a b fun j hj => hH j ?_
    cases hn : (SV.tup _).noRef j with
    | false => rfl
    | true => have := noRefs_at (by simpa [SV.noRef] using hn) a; rw [this] at hj; cases hj
  | fn hl h ih =>
    refine fun hH => .fn hl fun i s u a b => ih i s u a b fun j hj => hH j ?_
    cases hn : (SV.fn _ _).noRef j with
    | false => rfl
    | true => have := noRefs_at (by simpa [SV.noRef] using hn) a; rw [this] at hj; cases hj
  | junk => exact fun _ => .junk
  | @row i u h => exact fun hH => .row (by rw [hH i (by simp [SV.noRef])]; exact h)
  | @ptr i off b g h hb => exact fun hH => .ptr (by rw [hH i (by simp [SV.noRef])]; exact h) hb
  | @eptr i z idx off b g h hb => exact fun hH => .eptr (by rw [hH i (by simp [SV.noRef])]; exact h) hb
  | @view i z lo hi n c A A' h h1 h2 h3 h4 => exact fun hH => .view (by rw [hH i (by simp [SV.noRef])]; exact h) h1 h2 h3 h4

inductive Ty where
  | int (k : IntKind)
  | bool
  | str
  | sl (e : TypeId)
  | st (fs : List (Nat × TypeId))
  | arr (n : Nat) (e : TypeId)
  | ptr
  | fn
  | mp (k e : TypeId)
  | ifc
  | flt
  | cpx
def Ty.agg : Ty → Bool
  | .st _ => true
  | .arr _ _ => true
  | _ => false
structure TyI where
  size : Nat
  bytes : Nat
  d : Ty
  zero : List Value
  eq : Bool := false
def eqC : PV → PV → Option Bool
  | .v (.int .i64 a), .v (.int .i64 b) => some (a == b)
  | .v (.string a), .v (.string b) => some (a.toList == b.toList)
  | .v (.bool a), .v (.bool b) => some (a == b)
  | _, _ => none
def eqL : List PV → List PV → Option Bool
  | [], [] => some true
  | x :: xs, y :: ys => match eqC x y with
    | some a => match eqL xs ys with
      | some b => some (a && b)
      | none => none
    | none => none
  | _, _ => none
/-- cells of the kinds of others -/
def typedL : List PV → List Value → Bool
  | [], [] => true
  | .v (.int .i64 _) :: xs, .int .i64 _ :: zs => typedL xs zs
  | .v (.string _) :: xs, .string _ :: zs => typedL xs zs
  | .v (.bool _) :: xs, .bool _ :: zs => typedL xs zs
  | _, _ => false
def unv : PV → Value
  | .v x => x
  | _ => .nilIface
def UndOk (P : Program) (t : TypeId) : Ty → Prop
  | .int k => P.underlying t = some (.int k)
  | .bool => P.underlying t = some .bool
  | .str => P.underlying t = some .string
  | .sl e => P.underlying t = some (.slice e)
  | .st fs => ∃ fields, P.underlying t = some (.struct fields) ∧ fields.toList.map (fun f => (f.offset, f.type)) = fs
  | .arr n e => P.underlying t = some (.array n e)
  | .ptr => ∃ e, P.underlying t = some (.pointer e)
  | .fn => ∃ a b c, P.underlying t = some (.func a b c)
  | .mp k e => P.underlying t = some (.map k e)
  | .ifc => ∃ m, P.underlying t = some (.interface m)
  | .flt => P.underlying t = some (.float .f64)
  | .cpx => P.underlying t = some (.complex .f64)
structure TyOk (P : Program) (t : TypeId) (i : TyI) : Prop where
  info : ∃ info zv, P.info? t = some info ∧ info.size = i.size ∧ info.bytes = i.bytes ∧ info.zero = some zv ∧ zv.cells.toList = i.zero
  und : UndOk P t i.d
  eqs : i.eq = true → P.eqGuardType P.depth t = false ∧ ∀ (xs ys : List PV) (b : Bool) (w : World), eqL xs ys = some b → typedL xs i.zero = true → (Op.equalIn 10000 t (.agg (xs.map unv).toArray) (.agg (ys.map unv).toArray)).run P w = .ok b w
def TypesOk (P : Program) (T : List (TypeId × TyI)) : Prop := ∀ t i, lk t T = some i → TyOk P t i
section
variable {P : Program} {t : TypeId} {i : TyI} (h : TyOk P t i) (w : World)
include h
theorem TyOk.size : (sizeOf t).run P w = .ok i.size w := by
  obtain ⟨info, zv, h1, h2, _⟩ := h.info
  simp [sizeOf, typeInfo, h1, h2]
theorem TyOk.isAgg : (isAgg t).run P w = .ok i.d.agg w := by
  have hu := h.und
  cases hd : i.d <;> rw [hd] at hu <;> simp only [UndOk] at hu
  case st fs => obtain ⟨f, hu, _⟩ := hu; simp [Go.isAgg, run_underlying hu, Ty.agg]
  case ptr => obtain ⟨e, hu⟩ := hu; simp [Go.isAgg, run_underlying hu, Ty.agg]
  case ifc => obtain ⟨e, hu⟩ := hu; simp [Go.isAgg, run_underlying hu, Ty.agg]
  case fn => obtain ⟨a, b, c, hu⟩ := hu; simp [Go.isAgg, run_underlying hu, Ty.agg]
  all_goals simp [Go.isAgg, run_underlying hu, Ty.agg]
end

structure St where
  n : Nat
  fr : List (Nat × SV)
  own : List (Nat × Box)

/-- where the call's own things lie -/
def hp (γ : Nat → Value) (own : List (Nat × Box)) (i : Nat) : Option Value := match lk i own with
  | some _ => some (γ i)
  | none => none
def okO (Sx : Nat → Prop) (γ : Nat → Value) (own : List (Nat × Box)) (b : Nat) : Prop := ¬ Sx b ∧ ∀ i bx, lk i own = some bx → blkOf (γ i) ≠ some b
/-- the blocks that the rest of a region leaves alone: all but those of the numbers in K -/
def vis (K : List Nat) (γ : Nat → Value) (own : List (Nat × Box)) (b : Nat) : Prop := ∀ i bx, lk i own = some bx → K.contains i = true → blkOf (γ i) ≠ some b
def okBut (Sx : Nat → Prop) (γ : Nat → Value) (own : List (Nat × Box)) (i : Nat) (b : Nat) : Prop := ¬ Sx b ∧ ∀ j bx, lk j own = some bx → j ≠ i → blkOf (γ j) ≠ some b
/-- what a call may lean on: the world at its entry, the blocks that stay as they were, where the things lie that it was handed -/
structure Base where
  w : World
  kp : Nat → Prop
  fx : Nat → Option Value
def BelowB (W : Base) (w : World) : Prop := Below 0 W.w w ∧ ∀ b, W.kp b → w.heap[b]? = W.w.heap[b]?
/-- the package-level variables of the table hold what the table says, and stay -/
def GlOk (W : Base) (Sx : Nat → Prop) : Prop := ∀ g us, lk g GTab = some us → W.kp g ∧ ¬ Sx g ∧ ∃ ty m, W.w.heap[g]? = some (.cells us.toArray ty m)
structure Stays (W : Base) (Sx : Nat → Prop) (γ : Nat → Value) (own : List (Nat × Box)) (w : World) : Prop where
  sub : ∀ b, Sx b → W.kp b
  lt : ∀ b, W.kp b → b < w.heap.size
  fix : ∀ i bx g, lk i own = some bx → W.fx i = some g → γ i = g
  low : ∀ i, i < 1000000 → W.fx i = none
  gl : GlOk W Sx
inductive BoxOk (W : Base) (Sx : Nat → Prop) (γ : Nat → Value) (own : List (Nat × Box)) (w : World) (i : Nat) : Box → Prop
  | row {e : TypeId} {esz : Nat} {l : List (List PV)} (h : RowO rPV esz (okBut Sx γ own i) w 0 e (γ i) l) (he : ∀ x ∈ l, x.length = esz ∧ ∀ s ∈ x, oneP s = true) (hm : l.length ≤ reachBytes) (hk : ∀ b, blkOf (γ i) = some b → ¬ W.kp b) : BoxOk W Sx γ own w i (.row e esz l)
  | cells {cs : List SV} {us : List Value} {ty : TypeId} {b : Nat} (hg : γ i = .pointer (some ⟨b, 0, none⟩)) (hB : ¬ W.kp b) (hh : w.heap[b]? = some (.cells us.toArray ty (0, 0))) (hl : us.length = cs.length)
      (h : ∀ (j : Nat) (s : SV) (u : Value), cs[j]? = some s → us[j]? = some u → RelS (okO Sx γ own) (hp γ own) w s u) (h1 : ∀ u ∈ us, u.oneCell' = true) : BoxOk W Sx γ own w i (.cells cs)
  | mp {es : List (Value × PV)} {ens : List MapEntry} {clock b : Nat} (hg : γ i = .map (some b)) (hB : ¬ W.kp b) (hh : w.heap[b]? = some (.map ens.toArray clock)) (hl : ens.length = es.length)
      (h : ∀ (j : Nat) (x : Value × PV) (e : MapEntry), es[j]? = some x → ens[j]? = some e → e.key = x.1 ∧ RelP (okO Sx γ own) w x.2 e.val) : BoxOk W Sx γ own w i (.mp es)
structure HeapOk (W : Base) (Sx : Nat → Prop) (γ : Nat → Value) (own : List (Nat × Box)) (w : World) : Prop where
  box : ∀ i bx, lk i own = some bx → BoxOk W Sx γ own w i bx
  inj : ∀ i j bx by_ b, lk i own = some bx → lk j own = some by_ → blkOf (γ i) = some b → blkOf (γ j) = some b → i = j
  sx : Stays W Sx γ own w
structure Sim (W : Base) (Sx : Nat → Prop) (γ : Nat → Value) (st : St) (a : Act) (w : World) : Prop where
  below : BelowB W w
  size : a.tmps.size = st.n ∧ st.n ≤ 900
  defers : a.defers = []
  fr : ∀ t s, lk t st.fr = some s → RelS (okO Sx γ st.own) (hp γ st.own) w s (a.tmps.getD t undef)
  heap : HeapOk W Sx γ st.own w

/-! ### What a box's block is -/
theorem HeapOk.blk {W : Base} {Sx : Nat → Prop} {γ : Nat → Value} {own : List (Nat × Box)} {w : World} (h : HeapOk W Sx γ own w) {i : Nat} {bx : Box} (hi : lk i own = some bx) {b : Nat} (hb : blkOf (γ i) = some b) : ¬ W.kp b ∧ b < w.heap.size := by
  cases h.box i bx hi with
  | @row e esz l hr he hm hk =>
    obtain ⟨css, h1, _, _⟩ := hr
    have : (γ i).ownBlock = some b := by
      rcases h1.2 with ⟨hv, _⟩ | ⟨g, cap, cur, hv, _⟩
      · rw [hv] at hb; cases hb
      · rw [hv] at hb ⊢; exact hb
    exact ⟨hk b hb, (h1.lt b this).2⟩
  | cells hg hB hh hl _ =>
    rw [hg] at hb
    simp only [blkOf, Option.some.injEq] at hb
    subst hb
    exact ⟨hB, lt_of_block hh⟩
  | mp hg hB hh hl _ =>
    rw [hg] at hb
    simp only [blkOf, Option.some.injEq] at hb
    subst hb
    exact ⟨hB, lt_of_block hh⟩
theorem blk_kp {W : Base} {Sx : Nat → Prop} {γ : Nat → Value} {own : List (Nat × Box)} {w : World} (h : HeapOk W Sx γ own w) {i : Nat} {bx : Box} (hi : lk i own = some bx) {b : Nat} (hb : blkOf (γ i) = some b) (hk : W.kp b) : False := (h.blk hi hb).1 hk
theorem HeapOk.nsx {W : Base} {Sx : Nat → Prop} {γ : Nat → Value} {own : List (Nat × Box)} {w : World} (h : HeapOk W Sx γ own w) {i : Nat} {bx : Box} (hi : lk i own = some bx) {b : Nat} (hb : blkOf (γ i) = some b) : ¬ Sx b := fun hs => (h.blk hi hb).1 (h.sx.sub b hs)
theorem Stays.keep {W : Base} {Sx : Nat → Prop} {γ γ' : Nat → Value} {own own' : List (Nat × Box)} {w w' : World} (h : Stays W Sx γ own w) (hs : w.heap.size ≤ w'.heap.size) (hk : ∀ i bx, lk i own' = some bx → i < 1000000 ∨ γ' i = γ i ∧ (lk i own).isSome = true) : Stays W Sx γ' own' w' :=
  ⟨h.sub, fun b hb => Nat.lt_of_lt_of_le (h.lt b hb) hs, fun i bx g hi hg => by
    rcases hk i bx hi with hlt | ⟨e, hs⟩
    · rw [h.low i hlt] at hg; cases hg
    · obtain ⟨by_, h2⟩ := Option.isSome_iff_exists.1 hs
      rw [e]; exact h.fix i by_ g h2 hg, h.low, h.gl⟩
theorem Stays.grow {W : Base} {Sx : Nat → Prop} {γ : Nat → Value} {own : List (Nat × Box)} {w w' : World} (h : Stays W Sx γ own w) (hs : w.heap.size ≤ w'.heap.size) : Stays W Sx γ own w' := h.keep hs fun i bx hi => Or.inr ⟨rfl, by rw [hi]; rfl⟩
theorem BelowB.step {W : Base} {w w' : World} (h : BelowB W w) (h1 : Below 0 w w') (h2 : ∀ b, W.kp b → w'.heap[b]? = w.heap[b]?) : BelowB W w' := ⟨h.1.trans h1, fun b hb => (h2 b hb).trans (h.2 b hb)⟩
theorem BelowB.grow {W : Base} {Sx : Nat → Prop} {γ : Nat → Value} {own : List (Nat × Box)} {w w' : World} (h : BelowB W w) (hs : Stays W Sx γ own w) (hb : Below w.heap.size w w') : BelowB W w' := h.step (hb.mono (Nat.zero_le _)) fun b hk => hb.block b (hs.lt b hk)
theorem SameOn.weak {p q : Nat → Prop} {w w' : World} (h : SameOn p w w') (hk : ∀ b, b < w.heap.size → q b → p b) : SameOn q w w' := ⟨h.size, fun b hb hq => h.block b hb (hk b hb hq)⟩
theorem okO_vis {Sx : Nat → Prop} {γ : Nat → Value} {own : List (Nat × Box)} {K : List Nat} {b : Nat} (h : okO Sx γ own b) : vis K γ own b := fun i bx hi _ => h.2 i bx hi

/-! ### Reading -/
def isP : SV → Option PV
  | .p x => some x
  | _ => none
def pures : List SV → Option (List PV)
  | [] => some []
  | .p x :: r => match pures r with
    | some l => some (x :: l)
    | none => none
  | _ :: _ => none
def mkAgg (cs : List SV) : SV := match pures cs with
  | some l => .p (.agg l)
  | none => .agg cs
theorem pures_get : ∀ {cs : List SV} {l : List PV}, pures cs = some l → l.length = cs.length ∧ ∀ i : Nat, cs[i]? = (l[i]?).map SV.p
  | [], l, h => by simp [pures] at h; subst h; simp
  | .p x :: r, l, h => by
    unfold pures at h
    split at h
    · rename_i l' hl'
      simp only [Option.some.injEq] at h
      subst h
      obtain ⟨h1, h2⟩ := pures_get hl'
      refine ⟨by simp [h1], fun i => ?_⟩
      cases i with
      | zero => simp
      | succ i => simpa using h2 i
    · cases h
  | .agg _ :: _, l, h => by simp [pures] at h
  | .tup _ :: _, l, h => by simp [pures] at h
  | .fn _ _ :: _, l, h => by simp [pures] at h
  | .row _ :: _, l, h => by simp [pures] at h
  | .ptr _ _ :: _, l, h => by simp [pures] at h
  | .junk :: _, l, h => by simp [pures] at h
  | .view _ _ _ _ :: _, l, h => by simp [pures] at h
  | .eptr _ _ _ _ :: _, l, h => by simp [pures] at h
theorem RelS.p_inv {ok : Nat → Prop} {H : Nat → Option Value} {w : World} {x : PV} {u : Value} (h : RelS ok H w (.p x) u) : RelP ok w x u := by cases h; assumption
theorem RelS.v_inv {ok : Nat → Prop} {H : Nat → Option Value} {w : World} {x u : Value} (h : RelS ok H w (.p (.v x)) u) : u = x := by cases h; rename_i h; cases h; rfl
theorem relS_mkAgg {ok : Nat → Prop} {H : Nat → Option Value} {w : World} {cs : List SV} {us : List Value} (hl : us.length = cs.length) (h : ∀ (i : Nat) (s : SV) (u : Value), cs[i]? = some s → us[i]? = some u → RelS ok H w s u) :
    RelS ok H w (mkAgg cs) (.agg us.toArray) := by
  unfold mkAgg
  split
  · rename_i l hp
    obtain ⟨h1, h2⟩ := pures_get hp
    exact .p (.agg (by omega) fun i s u hi hu => (h i (.p s) u (by rw [h2, hi]; rfl) hu).p_inv)
  · exact .agg hl h

def evS (st : St) : Operand → Option SV
  | .tmp t => lk t st.fr
  | .const (.agg cs) => bif cs.toList.all plain then some (.p (.agg (cs.toList.map .v))) else none
  | .const v => bif plain v then some (.p (.v v)) else none
  | .func f => some (.p (.fn f []))
  | .global g => match lk g GTab with
    | some us => bif us.all plain then some (.p (.rp (us.map .v))) else none
    | none => none
theorem evS_ok {w0 : Base} {Sx : Nat → Prop} {γ : Nat → Value} {st : St} {a : Act} {w : World} (hI : Sim w0 Sx γ st a w) {x : Operand} {s : SV} (h : evS st x = some s) :
    RelS (okO Sx γ st.own) (hp γ st.own) w s (a.eval x) := by
  cases x with
  | tmp t => exact hI.fr t s h
  | const v =>
    have gen : ∀ v, (bif plain v then some (SV.p (.v v)) else none) = some s → RelS (okO Sx γ st.own) (hp γ st.own) w s v := fun v h => by
      cases hp : plain v with
      | false => rw [hp] at h; cases h
      | true => rw [hp] at h; simp only [cond_true, Option.some.injEq] at h; subst h; exact .p (.v hp)
    cases v with
    | agg cs =>
      have h : (bif cs.toList.all plain then some (SV.p (.agg (cs.toList.map .v))) else none) = some s := h
      cases hp : cs.toList.all plain with
      | false => rw [hp] at h; cases h
      | true =>
        rw [hp] at h
        simp only [cond_true, Option.some.injEq] at h
        subst h
        refine .p ?_
        show RelP _ _ _ (.agg cs)
        have e : cs = cs.toList.toArray := by simp
        rw [e]
        refine .agg (by simp) fun i s u hi hu => ?_
        simp at hi hu
        rw [hu] at hi
        simp at hi
        subst hi
        refine .v ?_
        have hm : u ∈ cs.toList := by
          have := Array.mem_of_getElem? hu
          simpa using this
        exact List.all_eq_true.1 hp u hm
    | _ => exact gen _ h
  | func f => simp only [evS, Option.some.injEq] at h; subst h; exact .p (.fn rfl fun i s u hi _ => by simp at hi)
  | global g =>
    simp only [evS] at h
    split at h
    · rename_i us hus
      cases hp : us.all plain with
      | false => rw [hp] at h; cases h
      | true =>
        rw [hp] at h
        simp only [cond_true, Option.some.injEq] at h
        subst h
        obtain ⟨h1, h2, h3⟩ := hI.heap.sx.gl g us hus
        obtain ⟨ty, m, h3⟩ := h3
        have hcell : ∀ k, w.cell? ⟨g, k, none⟩ = us[k]? := fun k => by
          rw [World.cell?_of_block (w := w0.w) (a := ⟨g, k, none⟩) (hI.below.2 g h1)]
          unfold World.cell?
          rw [h3]; simp
        refine .p (.rp ⟨h2, fun i bx hi hb => ?_⟩ (hI.heap.sx.lt g h1) (fun j hj => ?_) fun j s u hs hu => ?_)
        · exact blk_kp hI.heap hi hb h1
        · rw [List.length_map] at hj
          exact ⟨_, by rw [hcell, Nat.zero_add]; exact List.getElem?_eq_getElem hj⟩
        · rw [List.getElem?_map] at hs
          obtain ⟨x, hx, rfl⟩ := Option.map_eq_some_iff.1 hs
          rw [hcell, Nat.zero_add, hx] at hu
          cases hu
          exact .v (List.all_eq_true.1 hp _ (List.mem_of_getElem? hx))
    · cases h

theorem hp_none {γ : Nat → Value} {own : List (Nat × Box)} {d : Nat} (h : lk d own = none) : hp γ own d = none := by unfold hp; rw [h]
theorem hp_some {γ : Nat → Value} {own : List (Nat × Box)} {d : Nat} {bx : Box} (h : lk d own = some bx) : hp γ own d = some (γ d) := by unfold hp; rw [h]

def oneS : SV → Bool
  | .p x => oneP x
  | .agg _ => false
  | .tup _ => false
  | .junk => false
  | _ => true
def cellsOf : SV → Option (List SV)
  | .p (.agg ps) => some (ps.map .p)
  | .agg cs => some cs
  | .tup _ => none
  | .junk => none
  | s => some [s]
theorem RelS.one {ok : Nat → Prop} {H : Nat → Option Value} (hH : ∀ i u, H i = some u → u.oneCell' = true) {w : World} {s : SV} {u : Value} (h : RelS ok H w s u) (h1 : oneS s = true) : u.oneCell' = true := by
  cases h with
  | p h => rw [h.one]; exact h1
  | agg => cases h1
  | tup => cases h1
  | fn => rfl
  | junk => cases h1
  | row h => exact hH _ _ h
  | ptr => rfl
  | eptr => rfl
  | view => rfl
theorem cellsOf_ok {ok : Nat → Prop} {H : Nat → Option Value} (hH : ∀ i u, H i = some u → u.oneCell' = true) {w : World} {s : SV} {u : Value} (h : RelS ok H w s u) {cs : List SV} (hc : cellsOf s = some cs) :
    u.cells.toList.length = cs.length ∧ ∀ (i : Nat) (s : SV) (v : Value), cs[i]? = some s → u.cells.toList[i]? = some v → RelS ok H w s v := by
  have lone : ∀ {s : SV} {u : Value}, RelS ok H w s u → u.oneCell' = true → some [s] = some cs → u.cells.toList.length = cs.length ∧ ∀ (i : Nat) (s : SV) (v : Value), cs[i]? = some s → u.cells.toList[i]? = some v → RelS ok H w s v := by
    intro s u h h1 hc
    cases hc
    have : u.cells = #[u] := by cases u <;> first | rfl | cases h1
    rw [this]
    refine ⟨rfl, fun i s v a b => ?_⟩
    cases i with
    | zero => simp at a b; subst a; subst b; exact h
    | succ i => simp at a
  cases h with
  | @p x u h =>
    cases x with
    | agg ps =>
      simp only [cellsOf, Option.some.injEq] at hc
      subst hc
      cases h with
      | @agg _ us hl h =>
        simp only [Value.cells]
        refine ⟨by simp [hl], fun i s v a b => ?_⟩
        rw [List.getElem?_map] at a
        cases hp : ps[i]? with
        | none => rw [hp] at a; cases a
        | some x => rw [hp] at a; cases a; exact .p (h i x v hp b)
    | v x => exact lone (.p h) (by rw [h.one]; rfl) hc
    | sl _ _ => exact lone (.p h) (by rw [h.one]; rfl) hc
    | rp _ => exact lone (.p h) (by rw [h.one]; rfl) hc
    | fn _ _ => exact lone (.p h) (by rw [h.one]; rfl) hc
  | agg hl h => simp only [cellsOf, Option.some.injEq] at hc; subst hc; exact ⟨by simpa [Value.cells] using hl, by simpa [Value.cells] using h⟩
  | tup => cases hc
  | fn hl h => exact lone (.fn hl h) rfl hc
  | junk => cases hc
  | row h => exact lone (.row h) (hH _ _ h) hc
  | ptr h hb => exact lone (.ptr h hb) rfl hc
  | eptr h hb => exact lone (.eptr h hb) rfl hc
  | view h h1 h2 h3 h4 => exact lone (.view h h1 h2 h3 h4) rfl hc
theorem HeapOk.one {B : Base} {Sx : Nat → Prop} {γ : Nat → Value} {own : List (Nat × Box)} {w : World} (h : HeapOk B Sx γ own w) : ∀ i u, hp γ own i = some u → u.oneCell' = true := by
  intro i u hu
  cases hi : lk i own with
  | none => rw [hp_none hi] at hu; cases hu
  | some bx =>
    rw [hp_some hi] at hu
    cases hu
    cases h.box i bx hi with
    | row hr => obtain ⟨A, c, hv, _⟩ := hr.shape; rw [hv]; rfl
    | cells hg => rw [hg]; rfl
    | mp hg => rw [hg]; rfl

def binV (op : BinOp) : Value → Value → Option (Prop × Value)
  | .int k a, .int k' b => match op with
    | .shl => some (0 ≤ b, .int k (k.wrap (a * 2 ^ (min b.toNat k.bits))))
    | .shr => some (0 ≤ b, .int k (a.fdiv (2 ^ (min b.toNat k.bits))))
    | op => if k = k' then match op with
      | .add => some (True, .int k (k.wrap (a + b)))
      | .sub => some (True, .int k (k.wrap (a - b)))
      | .mul => some (True, .int k (k.wrap (a * b)))
      | .quo => some (b ≠ 0, .int k (k.wrap (a.tdiv b)))
      | .rem => some (b ≠ 0, .int k (a.tmod b))
      | .and => some (True, .int k (k.wrap (BitVec.ofInt k.bits a &&& BitVec.ofInt k.bits b).toNat))
      | .or => some (True, .int k (k.wrap (BitVec.ofInt k.bits a ||| BitVec.ofInt k.bits b).toNat))
      | .xor => some (True, .int k (k.wrap (BitVec.ofInt k.bits a ^^^ BitVec.ofInt k.bits b).toNat))
      | .andNot => some (True, .int k (k.wrap (BitVec.ofInt k.bits a &&& ~~~(BitVec.ofInt k.bits b)).toNat))
      | .eql => some (True, .bool (a == b))
      | .neq => some (True, .bool (a != b))
      | .lss => some (True, .bool (a < b))
      | .leq => some (True, .bool (a ≤ b))
      | .gtr => some (True, .bool (a > b))
      | .geq => some (True, .bool (a ≥ b))
      | _ => none
      else none
  | .string a, .string b => match op with
    | .add => some (((a.size + b.size : Nat) : Int) ≤ IntKind.i64.max, .string (a ++ b))
    | .eql => some (True, .bool (a.toList == b.toList))
    | .neq => some (True, .bool (!(a.toList == b.toList)))
    | .lss => some (True, .bool (Op.bytesLess a.toList b.toList))
    | .leq => some (True, .bool (Op.bytesLess a.toList b.toList || a.toList == b.toList))
    | .gtr => some (True, .bool (!(Op.bytesLess a.toList b.toList || a.toList == b.toList)))
    | .geq => some (True, .bool (!(Op.bytesLess a.toList b.toList)))
    | _ => none
  | .float k a, .float k' b => if k = k' then match op with
    | .eql => some (True, .bool (k.format.order a b == some .eq))
    | .neq => some (True, .bool (k.format.order a b != some .eq))
    | .lss => some (True, .bool (k.format.order a b == some .lt))
    | .leq => some (True, .bool (k.format.order a b == some .lt || k.format.order a b == some .eq))
    | .gtr => some (True, .bool (k.format.order a b == some .gt))
    | .geq => some (True, .bool (k.format.order a b == some .gt || k.format.order a b == some .eq))
    | _ => none
    else none
  | .complex k a b, .complex k' c d => if k = k' then match op with
    | .eql => some (True, .bool (k.format.order a c == some .eq && k.format.order b d == some .eq))
    | .neq => some (True, .bool (!(k.format.order a c == some .eq && k.format.order b d == some .eq)))
    | _ => none
    else none
  | _, _ => none
/-- two Bools -/
def boolV (op : BinOp) (a b : Bool) : Option Bool := match op with
  | .eql => some (a == b)
  | .neq => some (!(a == b))
  | _ => none

section
variable {P : Program} {x : World}
theorem run_v {s : Sem Value} {v : Value} (h : s.run P x = .ok v x) : (do pure (.value (← s)) : Sem Next).run P x = .ok (.value v) x := by rw [Sem.run_bind, h]; rfl
theorem binV_ok {op : BinOp} {t : TypeId} {a b v : Value} {c : Prop} (h : binV op a b = some (c, v)) (hc : c) : plain v = true ∧ (binOp op t a b).run P x = .ok v x := by
  unfold binV at h
  split at h
  · rename_i k a k' b
    split at h
    · simp only [Option.some.injEq, Prod.mk.injEq] at h
      obtain ⟨rfl, rfl⟩ := h
      refine ⟨rfl, ?_⟩
      simp only [binOp, Op.shift]
      rw [if_neg (by omega)]; rfl
    · simp only [Option.some.injEq, Prod.mk.injEq] at h
      obtain ⟨rfl, rfl⟩ := h
      refine ⟨rfl, ?_⟩
      simp only [binOp, Op.shift]
      rw [if_neg (by omega)]; rfl
    · rename_i op hl hr
      split at h
      · rename_i hk
        subst hk
        split at h
        all_goals first
          | (cases h; done)
          | (simp only [Option.some.injEq, Prod.mk.injEq] at h
             obtain ⟨rfl, rfl⟩ := h
             refine ⟨rfl, ?_⟩
             simp [binOp, Op.intArith, Op.intBits, Op.intCmp]
             done)
          | (simp only [Option.some.injEq, Prod.mk.injEq] at h
             obtain ⟨rfl, rfl⟩ := h
             refine ⟨rfl, ?_⟩
             simp only [binOp, Op.intDiv, ne_eq, not_true_eq_false, if_false]
             rw [if_neg hc]; rfl)
      · cases h
  · split at h
    · simp only [Option.some.injEq, Prod.mk.injEq] at h
      obtain ⟨rfl, rfl⟩ := h
      refine ⟨rfl, ?_⟩
      simp only [binOp, Op.stringOp]
      rw [if_neg (by omega)]; rfl
    all_goals first
      | (cases h; done)
      | (simp only [Option.some.injEq, Prod.mk.injEq] at h
         obtain ⟨rfl, rfl⟩ := h
         exact ⟨rfl, rfl⟩)
  · split at h
    · rename_i hk
      subst hk
      split at h
      all_goals first
        | (cases h; done)
        | (simp only [Option.some.injEq, Prod.mk.injEq] at h
           obtain ⟨rfl, rfl⟩ := h
           refine ⟨rfl, ?_⟩
           simp [binOp, Op.floatCmp]
           done)
    · cases h
  · split at h
    · rename_i hk
      subst hk
      split at h
      all_goals first
        | (cases h; done)
        | (simp only [Option.some.injEq, Prod.mk.injEq] at h
           obtain ⟨rfl, rfl⟩ := h
           refine ⟨rfl, ?_⟩
           simp [binOp, Op.complexOp, Op.Complex.cmp, Op.floatCmp, asBool]
           done)
    · cases h
  · cases h
theorem boolV_ok {op : BinOp} {t : TypeId} {a b v : Bool} (h : boolV op a b = some v) (ht : P.underlying t = some .bool) : (binOp op t (.bool a) (.bool b)).run P x = .ok (.bool v) x := by
  unfold boolV at h
  split at h
  · cases h
    simp [binOp, Op.equal, Op.maxDepth, run_equalIn_bool' x 9999 t a b ht]
  · cases h
    simp [binOp, Op.equal, Op.maxDepth, run_equalIn_bool' x 9999 t a b ht]
  · cases h
theorem eqGuard_plain {op : BinOp} {t : TypeId} {p q : Operand} {a b : Value} (ha : plain a = true) (hb : plain b = true) (hn : a ≠ .nilIface) : (eqGuard op t p q a b).run P x = .ok () x := by
  cases a <;> simp [plain] at ha <;> first | (cases op <;> rfl) | exact absurd rfl hn
end

def unS (op : UnOp) : Value → Option Value
  | .int k n => match op with
    | .neg => some (.int k (k.wrap (0 - n)))
    | .xor => some (.int k (k.wrap (BitVec.ofInt k.bits (if k.signed then -1 else k.max) ^^^ BitVec.ofInt k.bits n).toNat))
    | _ => none
  | .bool b => match op with
    | .not => some (.bool !b)
    | _ => none
  | _ => none
theorem unS_ok {P : Program} {x : World} {op : UnOp} {a v : Value} (h : unS op a = some v) : plain v = true ∧ (Op.unary op a).run P x = .ok v x := by
  unfold unS at h
  split at h <;> first | (cases h; done) | (split at h <;> first | (cases h; done) | (cases h; exact ⟨rfl, rfl⟩))

def byteAt (s : ByteArray) (i : Nat) : Int := (s.data.getD i 0).toNat
def yes (s : SV) : Option (Prop × SV) := some (True, s)
def ofV : Option (Prop × Value) → Option (Prop × SV)
  | some (c, v) => some (c, .p (.v v))
  | none => none

abbrev TT := List (TypeId × TyI)
def rPick (c a b : Option SV) : Option (Prop × SV) := match c with
  | some (.p (.v (.bool c))) => match a, b with
    | some (.p (.v (.bool x))), some (.p (.v (.bool y))) => yes (.p (.v (.bool (bif c then x else y))))
    | a, b => match c with
      | true => match a with | some s => yes s | none => none
      | false => match b with | some s => yes s | none => none
  | _ => none
def rBin (T : TT) (op : BinOp) (t : TypeId) (a b : Option SV) : Option (Prop × SV) := match a, b with
  | some (.p (.v (.bool a))), some (.p (.v (.bool b))) => match lk t T with
    | some ⟨_, _, .bool, _, _⟩ => match boolV op a b with
      | some v => yes (.p (.v (.bool v)))
      | none => none
    | _ => none
  | some (.p (.v a)), some (.p (.v b)) => ofV (binV op a b)
  | some (.p (.agg xs)), some (.p (.agg ys)) => match lk t T with
    | some ⟨_, _, _, z, true⟩ => match eqL xs ys with
      | some r => match op with
        | .eql => some (typedL xs z = true, .p (.v (.bool r)))
        | .neq => some (typedL xs z = true, .p (.v (.bool !r)))
        | _ => none
      | none => none
    | _ => none
  | _, _ => none
def rConv (T : TT) (src dst : TypeId) (a : Option SV) : Option (Prop × SV) := match lk src T, lk dst T, a with
  | some ⟨_, _, .int _, _, _⟩, some ⟨_, _, .int k, _, _⟩, some (.p (.v (.int _ n))) => yes (.p (.v (.int k (k.wrap n))))
  | some ⟨_, _, .str, _, _⟩, some ⟨_, _, .str, _, _⟩, some (.p (.v (.string s))) => yes (.p (.v (.string s)))
  | some ⟨_, _, .cpx, _, _⟩, some ⟨_, _, .cpx, _, _⟩, some (.p (.v (.complex .f64 x y))) => yes (.p (.v (.complex .f64 x y)))
  | _, _, _ => none
/-- one value out of cells that begin with it -/
def takeT (i : TyI) (cs : List PV) : Option PV := match i.d.agg with
  | true => bif Nat.ble i.size cs.length then some (.agg (cs.take i.size)) else none
  | false => match cs with
    | c :: _ => some c
    | [] => none
def takeS (i : TyI) (cs : List SV) : Option SV := match i.d.agg with
  | true => bif Nat.ble i.size cs.length then some (mkAgg (cs.take i.size)) else none
  | false => match cs with
    | c :: _ => some c
    | [] => none
def rField (T : TT) (t : TypeId) (a : Option SV) (f : Nat) : Option (Prop × SV) := match lk t T with
  | some ⟨_, _, .st fs, _, _⟩ => match fs[f]? with
    | some (off, ft) => match lk ft T with
      | some i => match a with
        | some (.p (.agg cs)) => match takeT i (cs.drop off) with
          | some s => yes (.p s)
          | none => none
        | some (.agg cs) => match takeS i (cs.drop off) with
          | some s => yes s
          | none => none
        | _ => none
      | none => none
    | none => none
  | _ => none
def rFieldAddr (T : TT) (t : TypeId) (a : Option SV) (f : Nat) : Option (Prop × SV) := match lk t T with
  | some ⟨_, _, .st fs, _, _⟩ => match fs[f]? with
    | some (off, ft) => match lk ft T with
      | some i => bif Nat.beq i.size 0 then none else match a with
        | some (.p (.rp cs)) => yes (.p (.rp (cs.drop off)))
        | some (.ptr j o) => yes (.ptr j (o + off))
        | some (.eptr j z k o) => yes (.eptr j z k (o + off))
        | _ => none
      | none => none
    | none => none
  | _ => none
def rIndexAddr (T : TT) (st : St) (t : TypeId) (a i : Option SV) : Option (Prop × SV) := match lk t T with
  | some ⟨_, _, .sl e, _, _⟩ => match lk e T with
    | some ei => match a, i with
      | some (.p (.sl z l)), some (.p (.v (.int _ n))) => bif Nat.beq z ei.size then some (0 ≤ n ∧ n < l.length, .p (.rp (l.getD n.toNat []))) else none
      | some (.row j), some (.p (.v (.int _ n))) => match lk j st.own with
        | some (.row _ z l) => bif Nat.beq z ei.size then some (0 ≤ n ∧ n < l.length, .eptr j z n.toNat 0) else none
        | _ => none
      | some (.view j z lo hi), some (.p (.v (.int _ n))) => bif Nat.beq z ei.size then some (0 ≤ n ∧ n < (hi - lo : Nat), .eptr j z (lo + n.toNat) 0) else none
      | _, _ => none
    | none => none
  | some ⟨_, _, .arr len e, _, _⟩ => match lk e T with
    | some ei => match a, i with
      | some (.p (.rp cs)), some (.p (.v (.int _ n))) => some (0 ≤ n ∧ n < len, .p (.rp (cs.drop (n.toNat * ei.size))))
      | some (.ptr j o), some (.p (.v (.int _ n))) => some (0 ≤ n ∧ n < len, .ptr j (o + n.toNat * ei.size))
      | _, _ => none
    | none => none
  | _ => none
def rIndex (T : TT) (t : TypeId) (a i : Option SV) : Option (Prop × SV) := match lk t T with
  | some ⟨_, _, .str, _, _⟩ => match a, i with
    | some (.p (.v (.string s))), some (.p (.v (.int _ n))) => some (0 ≤ n ∧ n < s.size, .p (.v (.int .u8 (byteAt s n.toNat))))
    | _, _ => none
  | some ⟨_, _, .arr len e, _, _⟩ => match lk e T with
    | some ei => match a, i with
      | some (.p (.agg cs)), some (.p (.v (.int _ n))) => match takeT ei (cs.drop (n.toNat * ei.size)) with
        | some s => some (0 ≤ n ∧ n < len, .p s)
        | none => none
      | _, _ => none
    | none => none
  | _ => none
def intS (st : St) (o : Operand) : Option Int := match evS st o with
  | some (.p (.v (.int _ n))) => some n
  | _ => none
def ends (st : St) (n : Nat) : Option Operand → Option Operand → Option (Int × Int)
  | none, none => some (0, (n : Int))
  | some l, none => match intS st l with
    | some l => some (l, (n : Int))
    | none => none
  | none, some h => match intS st h with
    | some h => some (0, h)
    | none => none
  | some l, some h => match intS st l with
    | some l => match intS st h with
      | some h => some (l, h)
      | none => none
    | none => none
def rSlice (T : TT) (st : St) (t : TypeId) (a : Option SV) (lo hi mx : Option Operand) : Option (Prop × SV) := match mx with
  | some _ => none
  | none => match lk t T with
    | some ⟨_, _, .str, _, _⟩ => match a with
      | some (.p (.v (.string s))) => match ends st s.size lo hi with
        | some (l, h) => some (0 ≤ l ∧ l ≤ h ∧ h ≤ s.size, .p (.v (.string (s.extract l.toNat h.toNat))))
        | none => none
      | _ => none
    | some ⟨_, _, .sl e, _, _⟩ => match lk e T with
      | some ei => match a with
        | some (.p (.sl z xs)) => bif Nat.beq z ei.size then match ends st xs.length lo hi with
          | some (l, h) => some (0 ≤ l ∧ l ≤ h ∧ h ≤ xs.length, .p (.sl z ((xs.drop l.toNat).take (h.toNat - l.toNat))))
          | none => none
          else none
        | some (.row j) => match lk j st.own with
          | some (.row _ z xs) => bif Nat.beq z ei.size then match ends st xs.length lo hi with
            | some (l, h) => some (0 ≤ l ∧ l ≤ h ∧ h ≤ xs.length, .view j z l.toNat h.toNat)
            | none => none
            else none
          | _ => none
        | some (.view j z lo0 hi0) => bif Nat.beq z ei.size then match ends st (hi0 - lo0) lo hi with
            | some (l, h) => some (0 ≤ l ∧ l ≤ h ∧ h ≤ (hi0 - lo0 : Nat), .view j z (lo0 + l.toNat) (lo0 + h.toNat))
            | none => none
            else none
        | _ => none
      | none => none
    | _ => none
def rLoad (T : TT) (K : List Nat) (st : St) (t : TypeId) (a : Option SV) : Option (Prop × SV) := match lk t T with
  | some i => match a with
    | some (.p (.rp cs)) => match takeT i cs with
      | some s => yes (.p s)
      | none => none
    | some (.ptr j o) => match K.contains j with
      | true => none
      | false => match lk j st.own with
        | some (.cells cs) => match takeS i (cs.drop o) with
          | some s => yes s
          | none => none
        | _ => none
    | some (.eptr j z k o) => match K.contains j with
      | true => none
      | false => match lk j st.own with
        | some (.row _ z' l) => bif Nat.beq z z' then (match takeT i ((l.getD k []).drop o) with
          | some s => some (k < l.length, .p s)
          | none => none) else none
        | _ => none
    | _ => none
  | none => none
def rLen (T : TT) (st : St) (t : TypeId) (a : Option SV) : Option (Prop × SV) := match lk t T with
  | some ⟨_, _, .str, _, _⟩ => match a with
    | some (.p (.v (.string s))) => yes (.p (.v (.int .i64 s.size)))
    | _ => none
  | some ⟨_, _, .sl _, _, _⟩ => match a with
    | some (.p (.sl _ l)) => yes (.p (.v (.int .i64 l.length)))
    | some (.p (.v (.slice none 0 0))) => yes (.p (.v (.int .i64 0)))
    | some (.row j) => match lk j st.own with
      | some (.row _ _ l) => yes (.p (.v (.int .i64 l.length)))
      | _ => none
    | some (.view _ _ lo hi) => yes (.p (.v (.int .i64 (hi - lo : Nat))))
    | _ => none
  | _ => none
def evs (st : St) : List Operand → Option (List SV)
  | [] => some []
  | x :: r => match evS st x, evs st r with
    | some s, some l => some (s :: l)
    | _, _ => none
/-- a key of a map -/
def kdOk : Ty → Value → Bool
  | .str, .string _ => true
  | .int k, .int k' _ => decide (k' = k)
  | _, _ => false
def keyEq : Value → Value → Bool
  | .string a, .string b => decide (a = b)
  | .int j a, .int k b => decide (j = k ∧ a = b)
  | _, _ => false
def mfind (k : Value) : List (Value × PV) → Option PV
  | [] => none
  | (k', p) :: r => bif keyEq k k' then some p else mfind k r
def rLookup (T : TT) (K : List Nat) (st : St) (t : TypeId) (m k : Option SV) : Option (Prop × SV) := match lk t T with
  | some ⟨_, _, .mp kt et, _, _⟩ => match lk kt T, lk et T with
    | some ki, some ei => match m, k with
      | some (.row j), some (.p (.v kv)) => match K.contains j with
        | true => none
        | false => match lk j st.own with
          | some (.mp es) => bif kdOk ki.d kv then some (es.all (fun x => kdOk ki.d x.1) = true, .tup [match mfind kv es with | some p => .p p | none => (match ei.zero with | [] => .p (.agg []) | _ => .junk), .p (.v (.bool (mfind kv es).isSome))]) else none
          | _ => none
      | _, _ => none
    | _, _ => none
  | _ => none
/-- a struct by its parts -/
def rParts (T : TT) (st : St) (fs : List (Nat × TypeId)) : List (Nat × Operand) → List SV → Option (List SV)
  | [], zs => some zs
  | (i, x) :: r, zs => match fs[i]? with
    | some (off, ft) => match lk ft T with
      | some fi => match evS st x with
        | some s => match cellsOf s with
          | some xs => bif Nat.beq xs.length fi.size && Nat.ble (off + xs.length) zs.length then rParts T st fs r (zs.take off ++ xs ++ zs.drop (off + xs.length)) else none
          | none => none
        | none => none
      | none => none
    | none => none
def rBuild (T : TT) (st : St) (t : TypeId) (parts : List (Nat × Operand)) : Option (Prop × SV) := match lk t T with
  | some ⟨_, _, .st fs, z, _⟩ => bif z.all plain && fs.all (fun f => (lk f.2 T).isSome) then (match rParts T st fs parts (z.map fun v => .p (.v v)) with
    | some zs => yes (mkAgg zs)
    | none => none) else none
  | _ => none
def maxF (k : FloatKind) (x y : Nat) : Option Nat := match k.format.order x y with
  | none => none
  | some .lt => some y
  | some .gt => some x
  | some .eq => some (if (k.decode x).neg then y else x)
def rMinMax (mn : Bool) (a b : Option SV) : Option (Prop × SV) := match a, b with
  | some (.p (.v (.float k x))), some (.p (.v (.float _ y))) => match mn, maxF k x y with
    | false, some r => yes (.p (.v (.float k r)))
    | _, _ => none
  | some (.p (.v (.int k x))), some (.p (.v (.int _ y))) => yes (.p (.v (.int k (match mn with | true => if y < x then y else x | false => if x < y then y else x))))
  | _, _ => none
def rReal : Option SV → Option (Prop × SV)
  | some (.p (.v (.complex k x _))) => yes (.p (.v (.float k x)))
  | _ => none
def rImag : Option SV → Option (Prop × SV)
  | some (.p (.v (.complex k _ y))) => yes (.p (.v (.float k y)))
  | _ => none
def rCplx : Option SV → Option SV → Option (Prop × SV)
  | some (.p (.v (.float .f64 x))), some (.p (.v (.float .f64 y))) => yes (.p (.v (.complex .f64 x y)))
  | _, _ => none
def opR (T : TT) (K : List Nat) (st : St) (o : Op) : Option (Prop × SV) := match o with
  | .move x => match evS st x with | some s => yes s | none => none
  | .assign x => match evS st x with | some s => yes s | none => none
  | .pick c a b => rPick (evS st c) (evS st a) (evS st b)
  | .binOp op t x y _ => rBin T op t (evS st x) (evS st y)
  | .unOp op _ x => match evS st x with
    | some (.p (.v v)) => match unS op v with
      | some v => yes (.p (.v v))
      | none => none
    | _ => none
  | .convert s d x => rConv T s d (evS st x)
  | .field t x f => rField T t (evS st x) f
  | .fieldAddr t x f => rFieldAddr T t (evS st x) f
  | .indexAddr t x i => rIndexAddr T st t (evS st x) (evS st i)
  | .index t x i => rIndex T t (evS st x) (evS st i)
  | .slice t x lo hi mx => rSlice T st t (evS st x) lo hi mx
  | .load t a => rLoad T K st t (evS st a)
  | .extract x n => match evS st x with
    | some (.tup cs) => match cs[n]? with
      | some s => yes s
      | none => none
    | _ => none
  | .makeFunc (.func f) first caps => match first.size with
    | 0 => match evs st caps.toList with
      | some l => match pures l with
        | some ps => yes (.p (.fn f ps))
        | none => yes (.fn f l)
      | none => none
    | _ => none
  | .call c => match c.callee with
    | .builtin .len => match c.args.toList, c.argTypes.toList with
      | [x], [t] => rLen T st t (evS st x)
      | _, _ => none
    | .builtin .min => match c.args.toList with
      | [x, y] => rMinMax true (evS st x) (evS st y)
      | _ => none
    | .builtin .max => match c.args.toList with
      | [x, y] => rMinMax false (evS st x) (evS st y)
      | _ => none
    | .builtin .real => match c.args.toList with
      | [x] => rReal (evS st x)
      | _ => none
    | .builtin .imag => match c.args.toList with
      | [x] => rImag (evS st x)
      | _ => none
    | .builtin .complex => match c.args.toList with
      | [x, y] => rCplx (evS st x) (evS st y)
      | _ => none
    | _ => none
  | .lookup t m k true => rLookup T K st t (evS st m) (evS st k)
  | .build t parts => rBuild T st t parts.toList
  | .nilCheck x => match evS st x with
    | some (.ptr j o) => yes (.ptr j o)
    | some (.eptr j z k o) => yes (.eptr j z k o)
    | some (.p (.rp cs)) => yes (.p (.rp cs))
    | _ => none
  | _ => none

theorem addr_add2 (a : Addr) (m n z : Nat) : (a.add (m * z)).add (n * z) = a.add ((m + n) * z) := by
  rw [Nat.add_mul]
  generalize m * z = x
  generalize n * z = y
  unfold Addr.add
  by_cases hx : x = 0
  · subst hx; simp
  · by_cases hy : y = 0
    · subst hy; simp
    · rw [if_neg hx, if_neg hy, if_neg (by omega)]
      simp [Nat.add_assoc]
theorem add_none (b o n : Nat) : (⟨b, o, none⟩ : Addr).add n = ⟨b, o + n, none⟩ := by
  unfold Addr.add; split
  · simp [*]
  · rfl
section
variable {P : Program} {T : TT} (hT : TypesOk P T) {K : List Nat} {w0 : Base} {Sx : Nat → Prop} {γ : Nat → Value} {st : St} {a : Act} {w : World} (hI : Sim w0 Sx γ st a w)
/-- a reading comes to a value, in every world that agrees where the region does not write -/
def Rd (P : Program) (K : List Nat) (Sx : Nat → Prop) (γ : Nat → Value) (st : St) (w : World) (sem : Sem Value) (s : SV) : Prop :=
  ∃ v, RelS (okO Sx γ st.own) (hp γ st.own) w s v ∧ ∀ x, SameOn (vis K γ st.own) w x → sem.run P x = .ok v x
theorem rd_now {sem : Sem Value} {s : SV} {v : Value} (h : RelS (okO Sx γ st.own) (hp γ st.own) w s v) (h2 : ∀ x, sem.run P x = .ok v x) : Rd P K Sx γ st w sem s := ⟨v, h, fun x _ => h2 x⟩

theorem takeT_list {ok : Nat → Prop} {t : TypeId} {i : TyI} (hi : TyOk P t i) {cs : List PV} {us : List Value} {s : PV} (h : takeT i cs = some s) (hl : us.length = cs.length)
    (hr : ∀ (j : Nat) (s : PV) (u : Value), cs[j]? = some s → us[j]? = some u → RelP ok w s u) :
    ∃ v, RelP ok w s v ∧ (i.d.agg = true → v = .agg (us.take i.size).toArray ∧ i.size ≤ us.length) ∧ (i.d.agg = false → us[0]? = some v) := by
  unfold takeT at h
  split at h
  · rename_i hg
    cases hb : Nat.ble i.size cs.length with
    | false => rw [hb] at h; cases h
    | true =>
      rw [hb] at h
      simp only [cond_true, Option.some.injEq] at h
      subst h
      have hle : i.size ≤ cs.length := Nat.le_of_ble_eq_true hb
      refine ⟨_, .agg (us := us.take i.size) (by simp; omega) (fun j s u hj hu => ?_), fun _ => ⟨rfl, by omega⟩, (fun h => by rw [hg] at h; cases h)⟩
      rw [List.getElem?_take] at hj hu
      split at hj
      · rename_i hlt
        rw [if_pos hlt] at hu
        exact hr j s u hj hu
      · cases hj
  · rename_i hg
    split at h
    · rename_i c r
      simp only [Option.some.injEq] at h
      subst h
      cases us with
      | nil => simp at hl
      | cons u us =>
        refine ⟨u, hr 0 _ u rfl rfl, (fun h => by rw [hg] at h; cases h), fun _ => rfl⟩
    · cases h
theorem takeS_list {ok : Nat → Prop} {H : Nat → Option Value} {t : TypeId} {i : TyI} (hi : TyOk P t i) {cs : List SV} {us : List Value} {s : SV} (h : takeS i cs = some s) (hl : us.length = cs.length)
    (hr : ∀ (j : Nat) (s : SV) (u : Value), cs[j]? = some s → us[j]? = some u → RelS ok H w s u) :
    ∃ v, RelS ok H w s v ∧ (i.d.agg = true → v = .agg (us.take i.size).toArray ∧ i.size ≤ us.length) ∧ (i.d.agg = false → us[0]? = some v) := by
  unfold takeS at h
  split at h
  · rename_i hg
    cases hb : Nat.ble i.size cs.length with
    | false => rw [hb] at h; cases h
    | true =>
      rw [hb] at h
      simp only [cond_true, Option.some.injEq] at h
      subst h
      have hle : i.size ≤ cs.length := Nat.le_of_ble_eq_true hb
      refine ⟨_, relS_mkAgg (us := us.take i.size) (by simp; omega) (fun j s u hj hu => ?_), fun _ => ⟨rfl, by omega⟩, (fun h => by rw [hg] at h; cases h)⟩
      rw [List.getElem?_take] at hj hu
      split at hj
      · rename_i hlt
        rw [if_pos hlt] at hu
        exact hr j s u hj hu
      · cases hj
  · rename_i hg
    split at h
    · rename_i c r
      simp only [Option.some.injEq] at h
      subst h
      cases us with
      | nil => simp at hl
      | cons u us =>
        refine ⟨u, hr 0 _ u rfl rfl, (fun h => by rw [hg] at h; cases h), fun _ => rfl⟩
    · cases h
/-- the cells behind a pointer to what is not written -/
theorem RelP.rp_cells {ok : Nat → Prop} {cs : List PV} {u : Value} (h : RelP ok w (.rp cs) u) : ∃ b o us, u = .pointer (some ⟨b, o, none⟩) ∧ ok b ∧ b < w.heap.size ∧ us.length = cs.length ∧ CellsAt w b o us ∧
    ∀ (j : Nat) (s : PV) (u : Value), cs[j]? = some s → us[j]? = some u → RelP ok w s u := by
  cases h with
  | @rp cs b o hok hlt hx h =>
    have hex : ∀ j : Nat, ∃ u, j < cs.length → w.cell? ⟨b, o + j, none⟩ = some u := fun j => by
      by_cases hj : j < cs.length
      · obtain ⟨u, hu⟩ := hx j hj; exact ⟨u, fun _ => hu⟩
      · exact ⟨.nilIface, fun h => absurd h hj⟩
    obtain ⟨f, hf⟩ := Classical.axiomOfChoice hex
    refine ⟨b, o, (List.range cs.length).map f, rfl, hok, hlt, by simp, fun j u hj => ?_, fun j s u hs hu => ?_⟩
    · have hj' : j < cs.length := by have := (List.getElem?_eq_some_iff.1 hj).1; simpa using this
      simp [hj'] at hj
      rw [← hj]; exact hf j hj'
    · have hj' : j < cs.length := (List.getElem?_eq_some_iff.1 hs).1
      simp [hj'] at hu
      exact h j s u hs (by rw [← hu]; exact hf j hj')
theorem load_at {t : TypeId} {i : TyI} (hi : TyOk P t i) {b o : Nat} {us : List Value} {v : Value} (hc : CellsAt w b o us) (h1 : i.d.agg = true → v = .agg (us.take i.size).toArray ∧ i.size ≤ us.length) (h2 : i.d.agg = false → us[0]? = some v)
    {x : World} (hx : ∀ k, x.cell? ⟨b, k, none⟩ = w.cell? ⟨b, k, none⟩) : (Instr.loadAt t (.pointer (some ⟨b, o, none⟩))).run P x = .ok v x := by
  simp only [Instr.loadAt, Instr.sureAddr, Sem.run_bind, Sem.run_pure, Result.andThen_ok, loadVar, hi.isAgg x]
  cases hg : i.d.agg with
  | true =>
    obtain ⟨rfl, hle⟩ := h1 hg
    simp only [if_true, Sem.run_bind, hi.size x, Result.andThen_ok]
    have := run_loadCells_list (P := P) x ⟨b, o, none⟩ (us.take i.size) (fun j v hj => by
      rw [add_none, hx]
      rw [List.getElem?_take] at hj
      split at hj
      · exact hc j v hj
      · cases hj)
    rw [List.length_take, Nat.min_eq_left hle] at this
    rw [this]
    rfl
  | false =>
    have h3 := hc 0 v (h2 hg)
    simp only [Bool.false_eq_true, if_false, load, Sem.run]
    rw [hx, ← Nat.add_zero o, h3]
/-- an element of a row of the call's own -/
theorem row_elem {B : Base} (h : HeapOk B Sx γ st.own w) {j : Nat} {e : TypeId} {z : Nat} {l : List (List PV)} (hj : lk j st.own = some (.row e z l)) {k : Nat} (hk : k < l.length) :
    ∃ b cs, blkOf (γ j) = some b ∧ b < w.heap.size ∧ CellsAt w b (k * z) cs ∧ cs.length = z ∧ rPV (okO Sx γ st.own) w cs l[k] := by
  cases h.box j _ hj with
  | row hr he hm =>
    obtain ⟨A, c, hv, hlc, hcm⟩ := hr.shape
    obtain ⟨css, h1, h2, h3⟩ := hr
    rcases h1.2 with ⟨hv', h0⟩ | ⟨g, cap, cur, hv', hg, hh, _⟩
    · omega
    · have h1' : OwnF Subtype.val z w 0 e (.slice (some ⟨g, 0, none⟩) css.length cap) css := by rw [← hv']; exact h1
      obtain ⟨b, o, hA, hlt, hc⟩ := OwnF.slat (R := fun _ cs (y : Cel z) => cs = y.val) (fun x => x.2.1) h1' (fun x _ => rfl) (by omega)
      simp only [Option.some.injEq, Addr.mk.injEq] at hA
      obtain ⟨rfl, rfl, _⟩ := hA
      obtain ⟨cs, a1, a2, rfl⟩ := hc k (by omega)
      refine ⟨g, _, by rw [hv']; rfl, hlt, by rw [Nat.zero_add] at a2; exact a2, a1, ?_⟩
      refine good_PV.weak _ _ _ _ _ (fun c _ hok => ⟨hok.1.1, fun i bx hi hic => ?_⟩) (h3 k (by omega) hk)
      by_cases e : i = j
      · subst e
        refine hok.2 ?_
        rw [hv'] at hic ⊢
        rw [← hic]; rfl
      · exact hok.1.2 i bx hi e hic
theorem view_addr {B : Base} {own : List (Nat × Box)} (h : HeapOk B Sx γ own w) {j : Nat} {A : Option Addr} {n c : Nat} (hj : hp γ own j = some (.slice A n c)) (hn : 0 < n) : ∃ b, A = some ⟨b, 0, none⟩ := by
  cases hl : lk j own with
  | none => unfold hp at hj; rw [hl] at hj; cases hj
  | some bx =>
    have hg : γ j = .slice A n c := by unfold hp at hj; rw [hl] at hj; simpa using hj
    cases h.box j bx hl with
    | row hr =>
      obtain ⟨css, h1, _⟩ := hr
      rcases h1.2 with ⟨hv, h0⟩ | ⟨g, cap, cur, hv, _⟩
      · rw [hg] at hv; cases hv; omega
      · rw [hg] at hv; cases hv; exact ⟨g, rfl⟩
    | cells hg' => rw [hg] at hg'; cases hg'
    | mp hg' => rw [hg] at hg'; cases hg'
theorem RelS.eptr_inv {ok : Nat → Prop} {H : Nat → Option Value} {i z k o b : Nat} {u g : Value} (h : RelS ok H w (.eptr i z k o) u) (hg : H i = some g) (hb : blkOf g = some b) : u = .pointer (some ⟨b, k * z + o, none⟩) := by
  cases h with
  | eptr h hb' => rw [hg] at h; cases h; rw [hb] at hb'; cases hb'; rfl
include hT hI
theorem rLoad_ok {t : TypeId} {x : Operand} {s : SV} {c : Prop} (h : rLoad T K st t (evS st x) = some (c, s)) (hc : c) : Rd P K Sx γ st w (Instr.loadAt t (a.eval x)) s := by
  unfold rLoad at h
  split at h
  · rename_i i hti
    have hi := hT t i hti
    split at h
    · rename_i cs hx
      split at h
      · rename_i s' hs
        simp only [yes, Option.some.injEq, Prod.mk.injEq] at h
        obtain ⟨_, rfl⟩ := h
        obtain ⟨b, o, us, hu, hok, hlt, hl, hc, hr⟩ := (evS_ok hI hx).p_inv.rp_cells
        obtain ⟨v, h1, h2, h3⟩ := takeT_list hi hs hl hr
        refine ⟨v, .p h1, fun y hy => ?_⟩
        rw [hu]
        exact load_at hi hc h2 h3 fun k => World.cell?_of_block (w := w) (a := ⟨b, k, none⟩) (hy.block b hlt (okO_vis hok))
      · cases h
    · rename_i j o hx
      split at h
      · cases h
      · rename_i hK
        split at h
        · rename_i cs hj
          split at h
          · rename_i s' hs
            simp only [yes, Option.some.injEq, Prod.mk.injEq] at h
            obtain ⟨_, rfl⟩ := h
            have he := evS_ok hI hx
            generalize hau : a.eval x = u at he
            cases he with
            | @ptr _ _ b g hg hb =>
              cases hI.heap.box j _ hj with
              | @cells cs us ty b' hg' hB hh hl hr =>
                have e1 : g = γ j := by unfold hp at hg; rw [hj] at hg; simpa using hg.symm
                subst e1
                rw [hg'] at hb
                simp only [blkOf, Option.some.injEq] at hb
                subst hb
                obtain ⟨v, h1, h2, h3⟩ := takeS_list (us := us.drop o) (ok := okO Sx γ st.own) (H := hp γ st.own) (w := w) hi hs (by simp [hl]) (fun k s u hk hu => hr (o + k) s u (by simpa [List.getElem?_drop] using hk) (by simpa [List.getElem?_drop] using hu))
                refine ⟨v, h1, fun y hy => ?_⟩
                have hcells : CellsAt w b' o (us.drop o) := fun k u hk => by
                  unfold World.cell?
                  rw [hh]
                  simpa [List.getElem?_drop] using hk
                refine load_at hi hcells h2 h3 fun k => World.cell?_of_block (w := w) (a := ⟨b', k, none⟩) (hy.block b' (lt_of_block hh) fun i bx hib hiK hbi => ?_)
                have : j = i := hI.heap.inj j i _ _ b' hj hib (by rw [hg']; rfl) hbi
                subst this
                rw [hK] at hiK
                cases hiK
          · cases h
        · cases h
    · rename_i j z k o hx
      split at h
      · cases h
      · rename_i hK
        split at h
        · rename_i e z' l hj
          cases hz : Nat.beq z z' with
          | false => rw [hz] at h; cases h
          | true =>
            rw [hz] at h
            simp only [cond_true] at h
            have hzz : z = z' := Nat.eq_of_beq_eq_true hz
            subst hzz
            split at h
            · rename_i s' hs
              simp only [Option.some.injEq, Prod.mk.injEq] at h
              obtain ⟨rfl, rfl⟩ := h
              obtain ⟨b, us, hb, hlt, hcs, hlen, hrp⟩ := row_elem hI.heap hj hc
              have hpj : hp γ st.own j = some (γ j) := by unfold hp; rw [hj]
              have hau := (evS_ok hI hx).eptr_inv hpj hb
              have hgd : l.getD k [] = l[k] := by simp [hc]
              rw [hgd] at hs
              obtain ⟨v, h1, h2, h3⟩ := takeT_list (us := us.drop o) (ok := okO Sx γ st.own) (w := w) hi hs (by simp [hrp.1]) (fun m s u hm hu => hrp.2 (o + m) s u (by simpa [List.getElem?_drop] using hm) (by simpa [List.getElem?_drop] using hu))
              refine ⟨v, .p h1, fun y hy => ?_⟩
              rw [hau]
              refine load_at hi (o := k * z + o) (fun m u hm => ?_) h2 h3 fun m => World.cell?_of_block (w := w) (a := ⟨b, m, none⟩) (hy.block b hlt fun i bx hib hiK hbi => ?_)
              · rw [Nat.add_assoc]; exact hcs (o + m) u (by simpa [List.getElem?_drop] using hm)
              · have : j = i := hI.heap.inj j i _ _ b hj hib hb hbi
                subst this
                rw [hK] at hiK
                cases hiK
            · cases h
        · cases h
    · cases h
  · cases h
theorem rBin_ok {op : BinOp} {t : TypeId} {x y : Operand} {s : SV} {c : Prop} (h : rBin T op t (evS st x) (evS st y) = some (c, s)) (hc : c) :
    Rd P K Sx γ st w (do eqGuard op t x y (a.eval x) (a.eval y); binOp op t (a.eval x) (a.eval y)) s := by
  unfold rBin at h
  split at h
  · rename_i p q hx hy
    have ex := (evS_ok hI hx).v_inv
    have ey := (evS_ok hI hy).v_inv
    rw [ex, ey]
    split at h
    · rename_i hti
      have hi := (hT t _ hti).und
      split at h
      · rename_i v hv
        simp only [yes, Option.some.injEq, Prod.mk.injEq] at h
        obtain ⟨_, rfl⟩ := h
        refine rd_now (.p (.v (by rfl : plain (.bool v) = true))) fun z => ?_
        rw [Sem.run_bind, eqGuard_plain rfl rfl (fun e => by cases e)]
        exact boolV_ok hv hi
      · cases h
    · cases h
  · rename_i p q hneg hx hy
    have ex := evS_ok hI hx
    have ey := evS_ok hI hy
    have px : plain (a.eval x) = true := by have := ex.p_inv; cases this; assumption
    have py : plain (a.eval y) = true := by have := ey.p_inv; cases this; assumption
    have ex := ex.v_inv
    have ey := ey.v_inv
    rw [ex] at px ⊢
    rw [ey] at py ⊢
    unfold ofV at h
    split at h
    · rename_i c' v hv
      simp only [Option.some.injEq, Prod.mk.injEq] at h
      obtain ⟨rfl, rfl⟩ := h
      refine rd_now (.p (.v (binV_ok (P := P) (x := w) (t := t) hv hc).1)) fun z => ?_
      rw [Sem.run_bind, eqGuard_plain px py (fun e => by rw [e] at hv; simp [binV] at hv)]
      exact (binV_ok hv hc).2
    · cases h
  · rename_i xs ys hx hy
    split at h
    · rename_i _ _ _ z hti
      have hi := hT t _ hti
      split at h
      · rename_i r hr
        have hun : ∀ {xs ys : List PV} {r : Bool}, eqL xs ys = some r → ys.length = xs.length ∧ (∀ e ∈ xs, ∃ v, e = .v v) ∧ (∀ e ∈ ys, ∃ v, e = .v v) := by
          intro xs
          induction xs with
          | nil => intro ys r h; cases ys <;> simp [eqL] at h; simp
          | cons e xs ih =>
            intro ys r h
            cases ys with
            | nil => simp [eqL] at h
            | cons f ys =>
              unfold eqL at h
              split at h
              · rename_i b1 h1
                split at h
                · rename_i b2 h2
                  obtain ⟨i1, i2, i3⟩ := ih h2
                  have : (∃ v, e = .v v) ∧ (∃ v, f = .v v) := by
                    unfold eqC at h1
                    split at h1 <;> first | (cases h1; done) | exact ⟨⟨_, rfl⟩, ⟨_, rfl⟩⟩
                  exact ⟨by simp [i1], List.forall_mem_cons.2 ⟨this.1, i2⟩, List.forall_mem_cons.2 ⟨this.2, i3⟩⟩
                · cases h
              · cases h
        obtain ⟨hlen, hvx, hvy⟩ := hun hr
        have val : ∀ {zs : List PV} {u : Value}, (∀ e ∈ zs, ∃ v, e = .v v) → RelP (okO Sx γ st.own) w (.agg zs) u → u = .agg (zs.map unv).toArray := by
          intro zs u hz hu
          cases hu with
          | @agg cs us hl h =>
            congr 1
            congr 1
            refine List.ext_getElem? fun i => ?_
            by_cases hi : i < zs.length
            · have h1 : zs[i]? = some zs[i] := List.getElem?_eq_getElem hi
              have h2 : us[i]? = some (us[i]'(by omega)) := List.getElem?_eq_getElem (by omega)
              obtain ⟨v, hv⟩ := hz zs[i] (List.getElem_mem hi)
              have h3 := h i _ _ h1 h2
              rw [hv] at h3
              have h4 : us[i]'(by omega) = v := by cases h3; rfl
              rw [List.getElem?_map, h1, h2, hv, h4]; rfl
            · rw [List.getElem?_eq_none (by omega), List.getElem?_map, List.getElem?_eq_none (by omega)]; rfl
        have ex := val hvx (evS_ok hI hx).p_inv
        have ey := val hvy (evS_ok hI hy).p_inv
        rw [ex, ey]
        obtain ⟨hg, he⟩ := hi.eqs rfl
        split at h
        · simp only [Option.some.injEq, Prod.mk.injEq] at h
          obtain ⟨rfl, rfl⟩ := h
          refine rd_now (.p (.v (by rfl : plain (.bool r) = true))) fun z => ?_
          rw [Sem.run_bind, run_eqGuard_agg z .eql t x y _ _ hg]
          simp only [Result.andThen_ok, run_eql_struct, he xs ys r z hr hc]
        · simp only [Option.some.injEq, Prod.mk.injEq] at h
          obtain ⟨rfl, rfl⟩ := h
          refine rd_now (.p (.v (by rfl : plain (.bool !r) = true))) fun z => ?_
          rw [Sem.run_bind, run_eqGuard_agg z .neq t x y _ _ hg]
          simp only [Result.andThen_ok, run_neq_struct, he xs ys r z hr hc]
        · cases h
      · cases h
    · cases h
  · cases h
omit hT in
theorem rPick_ok {x y z : Operand} {s : SV} {c : Prop} (h : rPick (evS st x) (evS st y) (evS st z) = some (c, s)) :
    Rd P K Sx γ st w (do pure (if ← asBool (a.eval x) then a.eval y else a.eval z)) s := by
  unfold rPick at h
  split at h
  · rename_i b hx
    have ex := (evS_ok hI hx).v_inv
    rw [ex]
    split at h
    · rename_i p q hy hz
      have ey := (evS_ok hI hy).v_inv
      have ez := (evS_ok hI hz).v_inv
      rw [ey, ez]
      simp only [yes, Option.some.injEq, Prod.mk.injEq] at h
      obtain ⟨_, rfl⟩ := h
      refine rd_now (.p (.v (by rfl : plain (.bool (bif b then p else q)) = true))) fun z => ?_
      cases b <;> rfl
    · split at h
      · split at h
        · rename_i s' hy
          simp only [yes, Option.some.injEq, Prod.mk.injEq] at h
          obtain ⟨_, rfl⟩ := h
          exact rd_now (evS_ok hI hy) fun z => rfl
        · cases h
      · split at h
        · rename_i s' hz
          simp only [yes, Option.some.injEq, Prod.mk.injEq] at h
          obtain ⟨_, rfl⟩ := h
          exact rd_now (evS_ok hI hz) fun z => rfl
        · cases h
  · cases h
theorem rConv_ok {t d : TypeId} {x : Operand} {s : SV} {c : Prop} (h : rConv T t d (evS st x) = some (c, s)) : Rd P K Sx γ st w (convert t d (a.eval x)) s := by
  unfold rConv at h
  split at h
  · rename_i ht hd hx
    have ex := (evS_ok hI hx).v_inv
    rw [ex]
    have ut := (hT t _ ht).und
    have ud := (hT d _ hd).und
    simp only [UndOk] at ut ud
    simp only [yes, Option.some.injEq, Prod.mk.injEq] at h
    obtain ⟨_, rfl⟩ := h
    refine rd_now (.p (.v rfl)) fun z => ?_
    simp [convert, run_underlying ut, run_underlying ud, Conv.intToInt]
  · rename_i ht hd hx
    have ex := (evS_ok hI hx).v_inv
    rw [ex]
    have ut := (hT t _ ht).und
    have ud := (hT d _ hd).und
    simp only [UndOk] at ut ud
    simp only [yes, Option.some.injEq, Prod.mk.injEq] at h
    obtain ⟨_, rfl⟩ := h
    refine rd_now (.p (.v rfl)) fun z => ?_
    simp [convert, run_underlying ut, run_underlying ud]
  · rename_i ht hd hx
    have ex := (evS_ok hI hx).v_inv
    rw [ex]
    have ut := (hT t _ ht).und
    have ud := (hT d _ hd).und
    simp only [UndOk] at ut ud
    simp only [yes, Option.some.injEq, Prod.mk.injEq] at h
    obtain ⟨_, rfl⟩ := h
    refine rd_now (.p (.v rfl)) fun z => ?_
    simp [convert, run_underlying ut, run_underlying ud, Conv.complexToComplex, Conv.floatToFloat]
  · cases h
omit hT hI in
/-- a part of an aggregate -/
theorem run_partT {ft : TypeId} {i : TyI} (hi : TyOk P ft i) {us : List Value} {off : Nat} {v : Value} (h1 : i.d.agg = true → v = .agg ((us.drop off).take i.size).toArray ∧ i.size ≤ (us.drop off).length) (h2 : i.d.agg = false → (us.drop off)[0]? = some v)
    (x : World) : (part ft us.toArray off).run P x = .ok v x := by
  simp only [part, Sem.run_bind, hi.isAgg x, Result.andThen_ok]
  cases hg : i.d.agg with
  | true =>
    obtain ⟨rfl, hle⟩ := h1 hg
    simp only [if_true, Sem.run_bind, hi.size x, Result.andThen_ok, Sem.run_pure]
    congr 2
    rw [List.extract_toArray]
    congr 1
    simp [List.extract_eq_take_drop]
  | false =>
    have h3 := h2 hg
    simp only [List.getElem?_drop, Nat.add_zero] at h3
    simp [h3]
theorem rField_ok {t : TypeId} {x : Operand} {f : Nat} {s : SV} {c : Prop} (h : rField T t (evS st x) f = some (c, s)) : Rd P K Sx γ st w (Instr.field t (a.eval x) f) s := by
  unfold rField at h
  split at h
  · rename_i fs _ _ ht
    obtain ⟨fields, hu, hf⟩ := (hT t _ ht).und
    split at h
    · rename_i off ft hof
      split at h
      · rename_i i hft
        have hi := hT ft i hft
        have hfld : ∃ fl, fields[f]? = some fl ∧ fl.offset = off ∧ fl.type = ft := by
          rw [← hf] at hof
          simp only [List.getElem?_map, Option.map_eq_some_iff, Prod.mk.injEq] at hof
          obtain ⟨fl, h1, h2, h3⟩ := hof
          exact ⟨fl, by simpa using h1, h2, h3⟩
        obtain ⟨fl, hfl, rfl, rfl⟩ := hfld
        split at h
        · rename_i cs hx
          have ex := (evS_ok hI hx).p_inv
          generalize a.eval x = u at ex ⊢
          cases ex with
          | @agg _ us hl hr =>
            split at h
            · rename_i s' hs
              simp only [yes, Option.some.injEq, Prod.mk.injEq] at h
              obtain ⟨_, rfl⟩ := h
              obtain ⟨v, h1, h2, h3⟩ := takeT_list (us := us.drop fl.offset) (ok := okO Sx γ st.own) (w := w) hi hs (by simp [hl]) (fun k s u hk hu => hr (fl.offset + k) s u (by simpa [List.getElem?_drop] using hk) (by simpa [List.getElem?_drop] using hu))
              refine rd_now (.p h1) fun z => ?_
              simp only [Instr.field, Sem.run_bind, run_underlying hu, Result.andThen_ok, hfl, asAgg, Sem.run_pure]
              exact run_partT hi h2 h3 z
            · cases h
        · rename_i cs hx
          have ex := evS_ok hI hx
          generalize a.eval x = u at ex ⊢
          cases ex with
          | @agg _ us hl hr =>
            split at h
            · rename_i s' hs
              simp only [yes, Option.some.injEq, Prod.mk.injEq] at h
              obtain ⟨_, rfl⟩ := h
              obtain ⟨v, h1, h2, h3⟩ := takeS_list (us := us.drop fl.offset) (ok := okO Sx γ st.own) (H := hp γ st.own) (w := w) hi hs (by simp [hl]) (fun k s u hk hu => hr (fl.offset + k) s u (by simpa [List.getElem?_drop] using hk) (by simpa [List.getElem?_drop] using hu))
              refine rd_now h1 fun z => ?_
              simp only [Instr.field, Sem.run_bind, run_underlying hu, Result.andThen_ok, hfl, asAgg, Sem.run_pure]
              exact run_partT hi h2 h3 z
            · cases h
        · cases h
      · cases h
    · cases h
  · cases h
end

section
variable {P : Program} {T : TT} (hT : TypesOk P T) {K : List Nat} {w0 : Base} {Sx : Nat → Prop} {γ : Nat → Value} {st : St} {a : Act} {w : World} (hI : Sim w0 Sx γ st a w)
/-- the rest of what lies behind a pointer -/
theorem RelP.rp_drop {ok : Nat → Prop} {cs : List PV} {b o : Nat} (h : RelP ok w (.rp cs) (.pointer (some ⟨b, o, none⟩))) (n : Nat) : RelP ok w (.rp (cs.drop n)) (.pointer (some ⟨b, o + n, none⟩)) := by
  cases h with
  | rp hok hlt hx h =>
    refine .rp hok hlt (fun j hj => ?_) (fun j s u hj hu => ?_)
    · rw [Nat.add_assoc]; exact hx (n + j) (by simp at hj; omega)
    · rw [Nat.add_assoc] at hu; exact h (n + j) s u (by simpa [List.getElem?_drop] using hj) hu
theorem RelP.rp_form {ok : Nat → Prop} {cs : List PV} {u : Value} (h : RelP ok w (.rp cs) u) : ∃ b o, u = .pointer (some ⟨b, o, none⟩) := by cases h; exact ⟨_, _, rfl⟩
theorem RelS.eptr_form {ok : Nat → Prop} {H : Nat → Option Value} {i z k o : Nat} {u : Value} (h : RelS ok H w (.eptr i z k o) u) : ∃ b g, u = .pointer (some ⟨b, k * z + o, none⟩) ∧ H i = some g ∧ blkOf g = some b := by cases h; exact ⟨_, _, rfl, ‹_›, ‹_›⟩
theorem RelS.ptr_form {ok : Nat → Prop} {H : Nat → Option Value} {i o : Nat} {u : Value} (h : RelS ok H w (.ptr i o) u) : ∃ b g, u = .pointer (some ⟨b, o, none⟩) ∧ H i = some g ∧ blkOf g = some b := by cases h; exact ⟨_, _, rfl, ‹_›, ‹_›⟩
include hT hI
theorem rFieldAddr_ok {t : TypeId} {x : Operand} {f : Nat} {s : SV} {c : Prop} (h : rFieldAddr T t (evS st x) f = some (c, s)) : Rd P K Sx γ st w (Instr.fieldAt t (a.eval x) f) s := by
  unfold rFieldAddr at h
  split at h
  · rename_i fs _ _ ht
    obtain ⟨fields, hu, hf⟩ := (hT t _ ht).und
    split at h
    · rename_i off ft hof
      split at h
      · rename_i i hft
        have hi := hT ft i hft
        have hfld : ∃ fl, fields[f]? = some fl ∧ fl.offset = off ∧ fl.type = ft := by
          rw [← hf] at hof
          simp only [List.getElem?_map, Option.map_eq_some_iff, Prod.mk.injEq] at hof
          obtain ⟨fl, h1, h2, h3⟩ := hof
          exact ⟨fl, by simpa using h1, h2, h3⟩
        obtain ⟨fl, hfl, rfl, rfl⟩ := hfld
        cases hz : Nat.beq i.size 0 with
        | true => rw [hz] at h; cases h
        | false =>
          rw [hz] at h
          simp only [cond_false] at h
          have hne : i.size ≠ 0 := fun e => by rw [e] at hz; cases hz
          have run : ∀ b o (z : World), (Instr.fieldAt t (.pointer (some ⟨b, o, none⟩)) f).run P z = .ok (.pointer (some ⟨b, o + fl.offset, none⟩)) z := fun b o z => by
            simp only [Instr.fieldAt, Sem.run_bind, run_underlying hu, Result.andThen_ok, hfl, Instr.sureAddr, Sem.run_pure, fieldPlace, hi.size z]
            rw [if_neg hne]
            simp [add_none]
          split at h
          · rename_i cs hx
            simp only [yes, Option.some.injEq, Prod.mk.injEq] at h
            obtain ⟨_, rfl⟩ := h
            have ex := (evS_ok hI hx).p_inv
            obtain ⟨b, o, hu'⟩ := ex.rp_form
            rw [hu'] at ex ⊢
            exact rd_now (.p (ex.rp_drop fl.offset)) (run b o)
          · rename_i j o hx
            simp only [yes, Option.some.injEq, Prod.mk.injEq] at h
            obtain ⟨_, rfl⟩ := h
            obtain ⟨b, g, hu', h1, h2⟩ := (evS_ok hI hx).ptr_form
            rw [hu']
            exact rd_now (.ptr h1 h2) (run b o)
          · rename_i j z k o hx
            simp only [yes, Option.some.injEq, Prod.mk.injEq] at h
            obtain ⟨_, rfl⟩ := h
            obtain ⟨b, g, hu', h1, h2⟩ := (evS_ok hI hx).eptr_form
            rw [hu']
            refine rd_now (.eptr h1 h2) fun z => ?_
            rw [← Nat.add_assoc]; exact run b _ z
          · cases h
      · cases h
    · cases h
  · cases h
theorem rIndexAddr_ok {t : TypeId} {x i : Operand} {s : SV} {c : Prop} (h : rIndexAddr T st t (evS st x) (evS st i) = some (c, s)) (hc : c) : Rd P K Sx γ st w (Instr.indexAt t (a.eval x) (a.eval i)) s := by
  unfold rIndexAddr at h
  split at h
  · rename_i e _ _ ht
    have hu := (hT t _ ht).und
    simp only [UndOk] at hu
    split at h
    · rename_i ei hei
      have hi := hT e ei hei
      split at h
      · rename_i z l k n hx hix
        cases hz : Nat.beq z ei.size with
        | false => rw [hz] at h; cases h
        | true =>
          rw [hz] at h
          simp only [cond_true, Option.some.injEq, Prod.mk.injEq] at h
          obtain ⟨rfl, rfl⟩ := h
          have hzz : z = ei.size := Nat.eq_of_beq_eq_true hz
          have hin : n.toNat < l.length := by omega
          have ex := (evS_ok hI hx).p_inv
          have ei' := (evS_ok hI hix).v_inv
          rw [ei']
          obtain ⟨A, c, hu', hlc, hm, he, hsl⟩ := ex.slat
          obtain ⟨b, o, rfl, hok, hlt, hel⟩ := hsl (by omega)
          obtain ⟨us, h1, h2, h3⟩ := hel n.toNat hin
          rw [hu']
          refine rd_now (s := .p (.rp (l.getD n.toNat []))) (v := .pointer (some ⟨b, o + n.toNat * ei.size, none⟩)) (.p ?_) fun y => ?_
          · have hg : l.getD n.toNat [] = l[n.toNat] := by simp [hin]
            rw [hg, ← hzz]
            refine .rp hok hlt (fun j hj => ?_) (fun j s u hj hu => ?_)
            · exact ⟨us[j]'(by rw [h3.1]; exact hj), h2 j _ (List.getElem?_eq_getElem _)⟩
            · have hjl : j < us.length := by rw [h3.1]; exact (List.getElem?_eq_some_iff.1 hj).1
              have h4 := h2 j _ (List.getElem?_eq_getElem hjl)
              rw [hu] at h4
              exact h3.2 j s u hj (by rw [List.getElem?_eq_getElem hjl]; exact h4.symm)
          · simp only [Instr.indexAt, asIntOf, Sem.run_bind, Sem.run_pure, Result.andThen_ok, run_underlying hu, hi.size y]
            rw [if_pos hc]
            simp [add_none, hi.size y]
      · rename_i j k n hx hix
        split at h
        · rename_i e' z l hj
          cases hz : Nat.beq z ei.size with
          | false => rw [hz] at h; cases h
          | true =>
            rw [hz] at h
            simp only [cond_true, Option.some.injEq, Prod.mk.injEq] at h
            obtain ⟨rfl, rfl⟩ := h
            have hzz : z = ei.size := Nat.eq_of_beq_eq_true hz
            subst hzz
            have hin : n.toNat < l.length := by omega
            obtain ⟨b, us, hb, hlt, _⟩ := row_elem hI.heap hj hin
            have hpj : hp γ st.own j = some (γ j) := by unfold hp; rw [hj]
            have ei' := (evS_ok hI hix).v_inv
            have ex := evS_ok hI hx
            rw [ei']
            generalize a.eval x = u at ex ⊢
            cases ex with
            | row hg =>
              rw [hpj] at hg
              cases hg
              have hsh : ∃ c, γ j = .slice (some ⟨b, 0, none⟩) l.length c := by
                cases hI.heap.box j _ hj with
                | row hr he hm =>
                  obtain ⟨css, h1, h2, h3⟩ := hr
                  rcases h1.2 with ⟨hv', h0⟩ | ⟨g, cap, cur, hv', _⟩
                  · omega
                  · rw [hv'] at hb ⊢
                    simp only [blkOf, Option.some.injEq] at hb
                    subst hb
                    exact ⟨cap, by rw [h2]⟩
              obtain ⟨c, hsh⟩ := hsh
              have hv : (.pointer (some ⟨b, n.toNat * ei.size + 0, none⟩) : Value) = .pointer (some ⟨b, n.toNat * ei.size, none⟩) := rfl
              refine rd_now (s := .eptr j ei.size n.toNat 0) (.eptr hpj hb) fun y => ?_
              rw [hsh, hv]
              simp only [Instr.indexAt, asIntOf, Sem.run_bind, Sem.run_pure, Result.andThen_ok, run_underlying hu]
              rw [if_pos hc]
              simp [add_none, hi.size y]
        · cases h
      · rename_i j z lo hi' k n hx hix
        cases hz : Nat.beq z ei.size with
        | false => rw [hz] at h; cases h
        | true =>
          rw [hz] at h
          simp only [cond_true, Option.some.injEq, Prod.mk.injEq] at h
          obtain ⟨rfl, rfl⟩ := h
          have hzz : z = ei.size := Nat.eq_of_beq_eq_true hz
          subst hzz
          have ei' := (evS_ok hI hix).v_inv
          have ex := evS_ok hI hx
          rw [ei']
          generalize a.eval x = u at ex ⊢
          cases ex with
          | @view _ _ _ _ m c A A' hg h1 h2 h3 h4 =>
            obtain ⟨b, rfl⟩ := view_addr hI.heap hg (by omega)
            have hA' := h4 (Or.inl (by omega))
            rw [Option.map_some, add_none] at hA'
            subst hA'
            refine rd_now (s := .eptr j ei.size (lo + n.toNat) 0) (.eptr hg rfl) fun y => ?_
            have hv : (.pointer (some ⟨b, (lo + n.toNat) * ei.size + 0, none⟩) : Value) = .pointer (some ⟨b, 0 + lo * ei.size + n.toNat * ei.size, none⟩) := by rw [Nat.add_mul, Nat.zero_add, Nat.add_zero]
            rw [hv]
            simp only [Instr.indexAt, asIntOf, Sem.run_bind, Sem.run_pure, Result.andThen_ok, run_underlying hu]
            rw [if_pos hc]
            simp [add_none, hi.size y]
      · cases h
    · cases h
  · rename_i len e _ _ ht
    have hu := (hT t _ ht).und
    simp only [UndOk] at hu
    split at h
    · rename_i ei hei
      have hi := hT e ei hei
      have run : ∀ b o k (n : Int) (y : World), 0 ≤ n ∧ n < len → (Instr.indexAt t (.pointer (some ⟨b, o, none⟩)) (.int k n)).run P y = .ok (.pointer (some ⟨b, o + n.toNat * ei.size, none⟩)) y := fun b o k n y hc => by
        simp only [Instr.indexAt, asIntOf, Sem.run_bind, Sem.run_pure, Result.andThen_ok, run_underlying hu, Instr.sureAddr]
        rw [if_pos hc]
        simp [add_none, hi.size y]
      split at h
      · rename_i cs k n hx hix
        simp only [Option.some.injEq, Prod.mk.injEq] at h
        obtain ⟨rfl, rfl⟩ := h
        have ex := (evS_ok hI hx).p_inv
        have ei' := (evS_ok hI hix).v_inv
        obtain ⟨b, o, hu'⟩ := ex.rp_form
        rw [hu'] at ex ⊢
        rw [ei']
        exact rd_now (.p (ex.rp_drop _)) fun y => run b o k n y hc
      · rename_i j o k n hx hix
        simp only [Option.some.injEq, Prod.mk.injEq] at h
        obtain ⟨rfl, rfl⟩ := h
        have ei' := (evS_ok hI hix).v_inv
        obtain ⟨b, g, hu', h1, h2⟩ := (evS_ok hI hx).ptr_form
        rw [hu', ei']
        exact rd_now (.ptr h1 h2) fun y => run b o k n y hc
      · cases h
    · cases h
  · cases h
theorem rIndex_ok {t : TypeId} {x i : Operand} {s : SV} {c : Prop} (h : rIndex T t (evS st x) (evS st i) = some (c, s)) (hc : c) : Rd P K Sx γ st w (Instr.index t (a.eval x) (a.eval i)) s := by
  unfold rIndex at h
  split at h
  · rename_i ht
    have hu := (hT t _ ht).und
    simp only [UndOk] at hu
    split at h
    · rename_i q k n hx hix
      simp only [Option.some.injEq, Prod.mk.injEq] at h
      obtain ⟨rfl, rfl⟩ := h
      have ex := (evS_ok hI hx).v_inv
      have ei' := (evS_ok hI hix).v_inv
      rw [ex, ei']
      refine rd_now (.p (.v rfl)) fun y => ?_
      have hlt : n.toNat < q.size := by omega
      have hg : q[n.toNat]? = some q[n.toNat] := by simp [hlt]
      simp only [Instr.index, asIntOf, Sem.run_bind, Sem.run_pure, Result.andThen_ok, run_underlying hu]
      rw [if_pos hc.1, hg]
      have : byteAt q n.toNat = (q[n.toNat]).toNat := by
        have h1 : q.data.getD n.toNat 0 = q.data[n.toNat]'hlt := by simp only [Array.getD, show n.toNat < q.data.size from hlt, dite_true, Array.getInternal_eq_getElem]
        unfold byteAt
        rw [h1]; rfl
      rw [this]
      rfl
    · cases h
  · rename_i len e _ _ ht
    have hu := (hT t _ ht).und
    simp only [UndOk] at hu
    split at h
    · rename_i ei hei
      have hi := hT e ei hei
      split at h
      · rename_i cs k n hx hix
        split at h
        · rename_i s' hs
          simp only [Option.some.injEq, Prod.mk.injEq] at h
          obtain ⟨rfl, rfl⟩ := h
          have ex := (evS_ok hI hx).p_inv
          have ei' := (evS_ok hI hix).v_inv
          rw [ei']
          generalize a.eval x = u at ex ⊢
          cases ex with
          | @agg _ us hl hr =>
            obtain ⟨v, h1, h2, h3⟩ := takeT_list (us := us.drop (n.toNat * ei.size)) (ok := okO Sx γ st.own) (w := w) hi hs (by simp [hl]) (fun k s u hk hu => hr (n.toNat * ei.size + k) s u (by simpa [List.getElem?_drop] using hk) (by simpa [List.getElem?_drop] using hu))
            refine rd_now (.p h1) fun z => ?_
            simp only [Instr.index, asIntOf, Sem.run_bind, Sem.run_pure, Result.andThen_ok, run_underlying hu]
            rw [if_pos hc]
            simp only [Sem.run_bind, hi.size z, Result.andThen_ok]
            exact run_partT hi h2 h3 z
        · cases h
      · cases h
    · cases h
  · cases h
omit hT hI in
theorem run_bound {v : Value} {k : IntKind} {n : Int} (hv : v = .int k n) {y : Nat} {code : BoundsCode} (h : 0 ≤ n ∧ n ≤ y) (z : World) : (Instr.sliceBound v y code).run P z = .ok n.toNat z := by
  subst hv
  simp only [Instr.sliceBound, asIntOf, Sem.run_bind, Sem.run_pure, Result.andThen_ok]
  rw [if_pos h]; rfl
omit hT in
theorem intS_ok {o : Operand} {n : Int} (h : intS st o = some n) : ∃ k, a.eval o = .int k n := by
  unfold intS at h
  split at h
  · rename_i k n' ho
    simp only [Option.some.injEq] at h
    subst h
    exact ⟨k, (evS_ok hI ho).v_inv⟩
  · cases h
omit hT in
theorem ends_ok {n cap : Nat} {isSlice : Bool} {lo hi : Option Operand} {l r : Int} (h : ends st n lo hi = some (l, r)) (hc : 0 ≤ l ∧ l ≤ r ∧ r ≤ n) (hcap : n ≤ cap) (z : World) :
    (Instr.sliceBounds isSlice n cap (lo.map a.eval) (hi.map a.eval) none).run P z = .ok (l.toNat, r.toNat, cap) z := by
  unfold ends at h
  cases lo with
  | none =>
    cases hi with
    | none =>
      simp only [Option.some.injEq, Prod.mk.injEq] at h
      obtain ⟨rfl, rfl⟩ := h
      simp [Instr.sliceBounds]
    | some q =>
      try simp only at h
      split at h
      · rename_i r' hq
        simp only [Option.some.injEq, Prod.mk.injEq] at h
        obtain ⟨rfl, rfl⟩ := h
        obtain ⟨k, hk⟩ := intS_ok hI hq
        simp only [Instr.sliceBounds, Option.map_some, Option.map_none, Sem.run_bind, Sem.run_pure, Result.andThen_ok, run_bound hk (P := P) (show 0 ≤ r' ∧ r' ≤ (cap : Int) by omega) z]
        rfl
      · cases h
  | some p =>
    try simp only at h
    cases hi with
    | none =>
      try simp only at h
      split at h
      · rename_i l' hp
        simp only [Option.some.injEq, Prod.mk.injEq] at h
        obtain ⟨rfl, rfl⟩ := h
        obtain ⟨k, hk⟩ := intS_ok hI hp
        simp only [Instr.sliceBounds, Option.map_some, Option.map_none, Sem.run_bind, Sem.run_pure, Result.andThen_ok, run_bound hk (P := P) (show 0 ≤ l' ∧ l' ≤ (n : Int) by omega) z]
        simp
      · cases h
    | some q =>
      try simp only at h
      split at h
      · rename_i l' hp
        split at h
        · rename_i r' hq
          simp only [Option.some.injEq, Prod.mk.injEq] at h
          obtain ⟨rfl, rfl⟩ := h
          obtain ⟨k, hk⟩ := intS_ok hI hp
          obtain ⟨k', hk'⟩ := intS_ok hI hq
          simp only [Instr.sliceBounds, Option.map_some, Sem.run_bind, Sem.run_pure, Result.andThen_ok, run_bound hk' (P := P) (show 0 ≤ r' ∧ r' ≤ (cap : Int) by omega) z, run_bound hk (P := P) (y := r'.toNat) (show 0 ≤ l' ∧ l' ≤ (r'.toNat : Int) by omega) z]
        · cases h
      · cases h
theorem rSlice_ok {t : TypeId} {x : Operand} {lo hi mx : Option Operand} {s : SV} {c : Prop} (h : rSlice T st t (evS st x) lo hi mx = some (c, s)) (hc : c) :
    Rd P K Sx γ st w (Instr.sliceAt t (a.eval x) (lo.map a.eval) (hi.map a.eval) (mx.map a.eval)) s := by
  unfold rSlice at h
  split at h
  · cases h
  · split at h
    · rename_i ht
      have hu := (hT t _ ht).und
      simp only [UndOk] at hu
      split at h
      · rename_i q hx
        split at h
        · rename_i l r he
          simp only [Option.some.injEq, Prod.mk.injEq] at h
          obtain ⟨rfl, rfl⟩ := h
          have ex := (evS_ok hI hx).v_inv
          rw [ex]
          refine rd_now (.p (.v rfl)) fun z => ?_
          simp only [Instr.sliceAt, Instr.slice, Sem.run_bind, run_underlying hu, Result.andThen_ok, Option.map_none, Option.isSome_none, Bool.false_eq_true, if_false, ends_ok hI (P := P) (isSlice := false) he hc (Nat.le_refl _) z, Sem.run_pure]
        · cases h
      · cases h
    · rename_i e _ _ ht
      have hu := (hT t _ ht).und
      simp only [UndOk] at hu
      split at h
      · rename_i ei hei
        have hi' := hT e ei hei
        split at h
        · rename_i zz xs hx
          cases hz : Nat.beq zz ei.size with
          | false => rw [hz] at h; cases h
          | true =>
            rw [hz] at h
            simp only [cond_true] at h
            have hzz : zz = ei.size := Nat.eq_of_beq_eq_true hz
            split at h
            · rename_i l r he
              simp only [Option.some.injEq, Prod.mk.injEq] at h
              obtain ⟨rfl, rfl⟩ := h
              obtain ⟨A, c, hu', hlc, hm, hee, hsl⟩ := (evS_ok hI hx).p_inv.slat
              rw [hu']
              have hlen : ((xs.drop l.toNat).take (r.toNat - l.toNat)).length = r.toNat - l.toNat := by simp; omega
              refine rd_now (s := .p (.sl zz ((xs.drop l.toNat).take (r.toNat - l.toNat)))) (v := .slice (if c = l.toNat then A else A.map (·.add (l.toNat * ei.size))) ((xs.drop l.toNat).take (r.toNat - l.toNat)).length (c - l.toNat)) (.p ?_) fun z => ?_
              · refine .of_slat (by rw [hlen]; omega) ⟨by rw [hlen]; omega, by omega⟩ (fun e he => hee e (List.mem_of_mem_drop (List.mem_of_mem_take he))) fun hl => ?_
                rw [hlen] at hl
                obtain ⟨b, o, rfl, hok, hlt, hel⟩ := hsl (by omega)
                refine ⟨b, o + l.toNat * ei.size, ?_, hok, hlt, fun i hi => ?_⟩
                · rw [if_neg (by omega)]; simp [add_none]
                · rw [hlen] at hi
                  obtain ⟨us, h1, h2, h3⟩ := hel (l.toNat + i) (by omega)
                  refine ⟨us, h1, ?_, ?_⟩
                  · rw [Nat.add_assoc, ← hzz, ← Nat.add_mul]; exact h2
                  · simpa using h3
              · rw [hlen]
                simp only [Instr.sliceAt, Instr.slice, Sem.run_bind, run_underlying hu, Result.andThen_ok, Option.map_none, ends_ok hI (P := P) (isSlice := true) he hc hlc z, Sem.run_pure, hi'.size z]
            · cases h
        · rename_i j hx
          split at h
          · rename_i e' zz xs hj
            cases hz : Nat.beq zz ei.size with
            | false => rw [hz] at h; cases h
            | true =>
              rw [hz] at h
              simp only [cond_true] at h
              have hzz : zz = ei.size := Nat.eq_of_beq_eq_true hz
              split at h
              · rename_i l r he
                simp only [Option.some.injEq, Prod.mk.injEq] at h
                obtain ⟨rfl, rfl⟩ := h
                have ex := evS_ok hI hx
                generalize a.eval x = u at ex ⊢
                cases ex with
                | row hg =>
                  cases hI.heap.box j _ hj with
                  | row hr hel hm =>
                    obtain ⟨A, c, hv, hlc, _⟩ := hr.shape
                    have hg' := hg
                    unfold hp at hg'
                    rw [hj] at hg'
                    cases hg'
                    rw [hv] at hg ⊢
                    refine rd_now (s := .view j zz l.toNat r.toNat) (v := .slice (if c = l.toNat then A else A.map (·.add (l.toNat * ei.size))) (r.toNat - l.toNat) (c - l.toNat)) (.view hg (by omega) (by omega) hlc fun hlt => by
                      split
                      · have h0 : l.toNat = 0 := by omega
                        rw [h0, Nat.zero_mul]
                        cases A with
                        | none => rfl
                        | some ad => simp [Addr.add]
                      · rw [hzz]) fun z => ?_
                    simp only [Instr.sliceAt, Instr.slice, Sem.run_bind, run_underlying hu, Result.andThen_ok, Option.map_none, ends_ok hI (P := P) (isSlice := true) he hc hlc z, Sem.run_pure, hi'.size z]
              · cases h
          · cases h
        · rename_i j zz lo0 hi0 hx
          cases hz : Nat.beq zz ei.size with
          | false => rw [hz] at h; cases h
          | true =>
            rw [hz] at h
            simp only [cond_true] at h
            have hzz : zz = ei.size := Nat.eq_of_beq_eq_true hz
            split at h
            · rename_i l r he
              simp only [Option.some.injEq, Prod.mk.injEq] at h
              obtain ⟨rfl, rfl⟩ := h
              have ex := evS_ok hI hx
              generalize a.eval x = u at ex ⊢
              cases ex with
              | @view _ _ _ _ n c A A' hg h1 h2 h3 h4 =>
                have e1 : r.toNat - l.toNat = lo0 + r.toNat - (lo0 + l.toNat) := by omega
                have e2 : c - lo0 - l.toNat = c - (lo0 + l.toNat) := by omega
                refine rd_now (s := .view j zz (lo0 + l.toNat) (lo0 + r.toNat)) (v := .slice (if c - lo0 = l.toNat then A' else A'.map (·.add (l.toNat * ei.size))) (lo0 + r.toNat - (lo0 + l.toNat)) (c - (lo0 + l.toNat))) (.view hg (by omega) (by omega) h3 fun hlt => ?_) fun z => ?_
                · have e0 : (if c - lo0 = l.toNat then A' else A'.map (·.add (l.toNat * ei.size))) = A'.map (·.add (l.toNat * ei.size)) := by
                    split
                    · have h0 : l.toNat = 0 := by omega
                      rw [h0, Nat.zero_mul]
                      cases A' with
                      | none => rfl
                      | some ad => simp [Addr.add]
                    · rfl
                  rw [e0, h4 (by omega), hzz]
                  cases A with
                  | none => rfl
                  | some ad =>
                    simp only [Option.map_some, Option.some.injEq]
                    exact addr_add2 ad lo0 l.toNat ei.size
                · simp only [Instr.sliceAt, Instr.slice, Sem.run_bind, run_underlying hu, Result.andThen_ok, Option.map_none, ends_ok hI (P := P) (isSlice := true) (cap := c - lo0) he hc (by omega) z, Sem.run_pure, hi'.size z, e1, e2]
            · cases h
        · cases h
      · cases h
    · cases h
omit hT in
theorem evs_ok {l : List Operand} {ss : List SV} (h : evs st l = some ss) : l.length = ss.length ∧ ∀ (i : Nat) (s : SV) (u : Value), ss[i]? = some s → (l.map a.eval)[i]? = some u → RelS (okO Sx γ st.own) (hp γ st.own) w s u := by
  induction l generalizing ss with
  | nil => simp only [evs, Option.some.injEq] at h; subst h; simp
  | cons o l ih =>
    unfold evs at h
    split at h
    · rename_i s0 l0 h1 h2
      simp only [Option.some.injEq] at h
      subst h
      obtain ⟨i1, i2⟩ := ih h2
      refine ⟨by simp [i1], fun i s u hs hu => ?_⟩
      cases i with
      | zero => simp at hs hu; subst hs; subst hu; exact evS_ok hI h1
      | succ i => exact i2 i s u (by simpa using hs) (by simpa using hu)
    · cases h
theorem rLen_ok {t ty : TypeId} {x : Operand} {s : SV} {c : Prop} (h : rLen T st t (evS st x) = some (c, s)) : Rd P K Sx γ st w (Builtin.len_ #[t] ty #[a.eval x]) s := by
  unfold rLen at h
  split at h
  · rename_i ht
    have hu := (hT t _ ht).und
    simp only [UndOk] at hu
    split at h
    · rename_i q hx
      simp only [yes, Option.some.injEq, Prod.mk.injEq] at h
      obtain ⟨_, rfl⟩ := h
      rw [(evS_ok hI hx).v_inv]
      refine rd_now (.p (.v rfl)) fun z => ?_
      simp [Builtin.len_, run_underlying hu, goInt]
    · cases h
  · rename_i e _ _ ht
    have hu := (hT t _ ht).und
    simp only [UndOk] at hu
    have run : ∀ A n c (z : World), (Builtin.len_ #[t] ty #[.slice A n c]).run P z = .ok (.int .i64 n) z := fun A n c z => by
      simp [Builtin.len_, run_underlying hu, goInt]
    split at h
    · rename_i zz l hx
      simp only [yes, Option.some.injEq, Prod.mk.injEq] at h
      obtain ⟨_, rfl⟩ := h
      obtain ⟨A, c, hu', _⟩ := (evS_ok hI hx).p_inv.slat
      rw [hu']
      exact rd_now (.p (.v rfl)) (run _ _ _)
    · rename_i hx
      simp only [yes, Option.some.injEq, Prod.mk.injEq] at h
      obtain ⟨_, rfl⟩ := h
      rw [(evS_ok hI hx).v_inv]
      exact rd_now (.p (.v rfl)) (run _ _ _)
    · rename_i j hx
      split at h
      · rename_i e' z' l hj
        simp only [yes, Option.some.injEq, Prod.mk.injEq] at h
        obtain ⟨_, rfl⟩ := h
        have ex := evS_ok hI hx
        generalize a.eval x = u at ex ⊢
        cases ex with
        | @row _ _ hg =>
          have e1 : u = γ j := by unfold hp at hg; rw [hj] at hg; simpa using hg.symm
          cases hI.heap.box j _ hj with
          | row hr he =>
            obtain ⟨A, c, hv, _⟩ := hr.shape
            rw [e1, hv]
            exact rd_now (.p (.v rfl)) (run _ _ _)
      · cases h
    · rename_i lo hi hx
      simp only [yes, Option.some.injEq, Prod.mk.injEq] at h
      obtain ⟨_, rfl⟩ := h
      have ex := evS_ok hI hx
      generalize a.eval x = u at ex ⊢
      cases ex with
      | view => exact rd_now (.p (.v rfl)) (run _ _ _)
    · cases h
  · cases h
omit hT in
theorem rMinMax_ok {mn : Bool} {x y : Operand} {s : SV} {c : Prop} {ts : Array TypeId} {ty : TypeId} (h : rMinMax mn (evS st x) (evS st y) = some (c, s)) :
    Rd P K Sx γ st w (match mn with | true => Builtin.min_ ts ty #[a.eval x, a.eval y] | false => Builtin.max_ ts ty #[a.eval x, a.eval y]) s := by
  unfold rMinMax at h
  split at h
  · rename_i k p k' q hx hy
    cases hr : maxF k p q with
    | none => rw [hr] at h; cases mn <;> cases h
    | some r =>
      rw [hr] at h
      cases mn with
      | true => cases h
      | false =>
        simp only [yes, Option.some.injEq, Prod.mk.injEq] at h
        obtain ⟨_, rfl⟩ := h
        rw [(evS_ok hI hx).v_inv, (evS_ok hI hy).v_inv]
        refine rd_now (.p (.v rfl)) fun z => ?_
        unfold maxF at hr
        split at hr <;> rename_i ho <;> first | (cases hr; done) | (obtain rfl := Option.some.inj hr; simp [Builtin.max_, Builtin.max2, ho])
  · rename_i k p k' q hx hy
    simp only [yes, Option.some.injEq, Prod.mk.injEq] at h
    obtain ⟨_, rfl⟩ := h
    rw [(evS_ok hI hx).v_inv, (evS_ok hI hy).v_inv]
    refine rd_now (.p (.v rfl)) fun z => ?_
    cases mn
    · simp [Builtin.max_, Builtin.max2]
    · simp [Builtin.min_, Builtin.min2]
  · cases h
omit hT hI in
theorem kd_und {t : TypeId} {d : Ty} {v : Value} (hu : UndOk P t d) (h : kdOk d v = true) : ∃ td, P.underlying t = some td ∧ ∀ u, kdOk d u = true → MapKept.IsKey td u := by
  unfold kdOk at h
  split at h
  · refine ⟨.string, hu, fun u hu => ?_⟩
    cases u <;> first | exact True.intro | cases hu
  · rename_i k k' n
    refine ⟨.int k, hu, fun u hu => ?_⟩
    cases u <;> first | (simp [kdOk] at hu; done) | (simp only [kdOk, decide_eq_true_eq] at hu; exact hu)
  · cases h
omit hT hI in
theorem sameNow_eq {d : Ty} {td : TypeDesc} {a b : Value} (hd : ∀ u, kdOk d u = true → MapKept.IsKey td u) (ha : kdOk d a = true) (hb : kdOk d b = true) : Instr.sameNow td a b = some (keyEq a b) := by
  have h1 := hd a ha
  have h2 := hd b hb
  cases td <;> cases a <;> first | (exact h1.elim) | skip
  all_goals cases b <;> first | (exact h2.elim) | skip
  · exact (by cases d <;> cases ha)
  · rename_i k k1 n1 k2 n2
    have e1 : k1 = k := h1
    have e2 : k2 = k := h2
    subst e1
    subst e2
    simp [Instr.sameNow, keyEq]
    rw [Bool.eq_iff_iff, beq_iff_eq, decide_eq_true_iff]
  · rename_i x y
    have : (x == y) = decide (x = y) := by
      rw [Bool.eq_iff_iff, MapKept.bytes_beq, decide_eq_true_iff]
    simp [Instr.sameNow, keyEq, this]
omit hT hI in
theorem findNow_mfind {d : Ty} {td : TypeDesc} {k : Value} (hd : ∀ u, kdOk d u = true → MapKept.IsKey td u) (hk : kdOk d k = true) : ∀ {es : List (Value × PV)} {ens : List MapEntry} (i : Nat), ens.length = es.length → (∀ (j : Nat) (x : Value × PV) (e : MapEntry), es[j]? = some x → ens[j]? = some e → e.key = x.1) →
    es.all (fun x => kdOk d x.1) = true → (mfind k es = none ∧ Instr.findNow td k ens i = some none) ∨ ∃ (j : Nat) (x : Value × PV) (e : MapEntry), mfind k es = some x.2 ∧ es[j]? = some x ∧ ens[j]? = some e ∧ Instr.findNow td k ens i = some (some (i + j, e.val))
  | [], [], i, _, _, _ => Or.inl ⟨rfl, rfl⟩
  | [], _ :: _, i, h, _, _ => by simp at h
  | _ :: _, [], i, h, _, _ => by simp at h
  | (k', p) :: es, e :: ens, i, hl, hr, ha => by
    simp only [List.all_cons, Bool.and_eq_true] at ha
    have e0 : e.key = k' := hr 0 _ _ rfl rfl
    have hs := sameNow_eq hd hk ha.1
    cases hq : keyEq k k' with
    | true =>
      refine Or.inr ⟨0, (k', p), e, by simp [mfind, hq], rfl, rfl, ?_⟩
      simp [Instr.findNow, e0, hs, hq]
    | false =>
      rcases findNow_mfind hd hk (es := es) (ens := ens) (i + 1) (by simpa using hl) (fun j x e h1 h2 => hr (j + 1) x e (by simpa using h1) (by simpa using h2)) ha.2 with ⟨h1, h2⟩ | ⟨j, x, e2, h1, h2, h3, h4⟩
      · exact Or.inl ⟨by simp [mfind, hq, h1], by simp [Instr.findNow, e0, hs, hq, h2]⟩
      · exact Or.inr ⟨j + 1, x, e2, by simp [mfind, hq, h1], by simpa using h2, by simpa using h3, by simp only [Instr.findNow, e0, hs, hq, h4]; congr 3; omega⟩
theorem rLookup_ok {t : TypeId} {m k : Operand} {s : SV} {c : Prop} (h : rLookup T K st t (evS st m) (evS st k) = some (c, s)) (hc : c) : Rd P K Sx γ st w (Instr.lookup t (a.eval m) (a.eval k) true) s := by
  unfold rLookup at h
  split at h
  · rename_i kt et _ _ ht
    have hu := (hT t _ ht).und
    simp only [UndOk] at hu
    split at h
    · rename_i ki ei hk he
      split at h
      · rename_i j kv hm hkv
        split at h
        · cases h
        · rename_i hK
          split at h
          · rename_i es hj
            cases hd : kdOk ki.d kv with
            | false => rw [hd] at h; cases h
            | true =>
              rw [hd] at h
              simp only [cond_true, Option.some.injEq, Prod.mk.injEq] at h
              obtain ⟨rfl, rfl⟩ := h
              obtain ⟨td, q1, q2⟩ := kd_und (hT kt _ hk).und hd
              obtain ⟨info, zv, z1, _, _, z2, z3⟩ := (hT et _ he).info
              cases hI.heap.box j _ hj with
              | @mp _ ens clock b hg hB hh hl hr =>
                have hkv' := (evS_ok hI hkv).v_inv
                have hmv : a.eval m = .map (some b) := by
                  have := evS_ok hI hm
                  generalize a.eval m = u at this ⊢
                  cases this with
                  | row h0 => unfold hp at h0; rw [hj] at h0; simp only [Option.some.injEq] at h0; rw [← h0, hg]
                have hlook : ∀ x : World, SameOn (vis K γ st.own) w x → x.heap[b]? = some (.map ens.toArray clock) := fun x hx => by
                  rw [hx.block b (lt_of_block hh) fun i bx hi hKi hb => ?_]; exact hh
                  have := hI.heap.inj i j _ _ b hi hj hb (by rw [hg]; rfl)
                  subst this
                  rw [hK] at hKi; cases hKi
                rw [hkv', hmv]
                rcases findNow_mfind q2 hd (es := es) (ens := ens) 0 hl (fun j x e h1 h2 => (hr j x e h1 h2).1) hc with ⟨h1, h2⟩ | ⟨n, x, e, h1, h2, h3, h4⟩
                · refine ⟨.tuple #[zv, .bool false], ?_, fun x hx => ?_⟩
                  · rw [h1]
                    exact .tup (us := [zv, .bool false]) rfl fun i s u hs hu => by
                      match i with
                      | 0 =>
                        simp at hs hu
                        subst hs
                        subst hu
                        cases hz : ei.zero with
                        | nil =>
                          rw [hz] at z3
                          have : zv = .agg #[] := by
                            cases zv with
                            | agg cs =>
                              have : cs.toList = [] := z3
                              rw [Array.toList_eq_nil_iff.1 this]
                            | _ => cases z3
                          rw [this]
                          exact .p (.agg (us := []) rfl fun i s u hs _ => by simp at hs)
                        | cons => exact .junk
                      | 1 => simp at hs hu; subst hs; subst hu; exact .p (.v rfl)
                      | i + 2 => simp at hs
                  · simp [Instr.lookup, run_underlying hu, MapKept.run_getObj_map (hlook x hx), MapKept.run_checkKey q1 (q2 _ hd), MapKept.run_findKey q1 h2, zeroValue, typeInfo, z1, z2, Result.andThen]
                · refine ⟨.tuple #[e.val, .bool true], ?_, fun x hx => ?_⟩
                  · rw [h1]
                    exact .tup (us := [e.val, .bool true]) rfl fun i s u hs hu => by
                      match i with
                      | 0 => simp at hs hu; subst hs; subst hu; exact .p (hr n x e h2 h3).2
                      | 1 => simp at hs hu; subst hs; subst hu; exact .p (.v rfl)
                      | i + 2 => simp at hs
                  · simp [Instr.lookup, run_underlying hu, MapKept.run_getObj_map (hlook x hx), MapKept.run_checkKey q1 (q2 _ hd), MapKept.run_findKey q1 h4, Result.andThen]
          · cases h
      · cases h
    · cases h
  · cases h
omit hT hI in
theorem fold_set (off : Nat) : ∀ (vs : List Value) (k : Nat) (cs : Array Value), ((vs.zipIdx k).foldl (fun (cs : Array Value) (p : Value × Nat) => cs.setIfInBounds (off + p.2) p.1) cs).size = cs.size ∧
    ∀ i, ((vs.zipIdx k).foldl (fun (cs : Array Value) (p : Value × Nat) => cs.setIfInBounds (off + p.2) p.1) cs)[i]? = if off + k ≤ i ∧ i < off + k + vs.length ∧ i < cs.size then vs[i - (off + k)]? else cs[i]?
  | [], k, cs => ⟨rfl, fun i => by
    rw [if_neg (by simp; omega)]; rfl⟩
  | v :: vs, k, cs => by
    obtain ⟨h1, h2⟩ := fold_set off vs (k + 1) (cs.setIfInBounds (off + k) v)
    rw [List.zipIdx_cons, List.foldl_cons]
    refine ⟨by rw [h1]; simp, fun i => ?_⟩
    rw [h2 i, Array.size_setIfInBounds, List.length_cons]
    by_cases e : i = off + k
    · subst e
      rw [if_neg (by omega)]
      by_cases hlt : off + k < cs.size
      · rw [if_pos ⟨Nat.le_refl _, by omega, hlt⟩, Array.getElem?_setIfInBounds_self_of_lt hlt]; simp
      · rw [if_neg (by omega), Array.getElem?_eq_none (by simp; omega), Array.getElem?_eq_none (by omega)]
    · rw [Array.getElem?_setIfInBounds_ne (by omega)]
      by_cases hc : off + k ≤ i ∧ i < off + k + (vs.length + 1) ∧ i < cs.size
      · rw [if_pos hc, if_pos (by omega)]
        have : i - (off + k) = (i - (off + (k + 1))) + 1 := by omega
        rw [this, List.getElem?_cons_succ]
      · rw [if_neg hc, if_neg (by omega)]
omit hT in
theorem rParts_ok {fs : List (Nat × TypeId)} {places : Nat → Option (Nat × Nat)} (hp' : ∀ (i off : Nat) (ft : TypeId) (fi : TyI), fs[i]? = some (off, ft) → lk ft T = some fi → places i = some (off, fi.size)) : ∀ {parts : List (Nat × Operand)} {zs zs' : List SV} {cells : Array Value}, rParts T st fs parts zs = some zs' →
    cells.size = zs.length → (∀ (i : Nat) (s : SV) (u : Value), zs[i]? = some s → cells[i]? = some u → RelS (okO Sx γ st.own) (hp γ st.own) w s u) →
    ∃ cells', Instr.fill places cells (parts.map fun (i, x) => (i, a.eval x)) = some cells' ∧ cells'.size = zs'.length ∧ ∀ (i : Nat) (s : SV) (u : Value), zs'[i]? = some s → cells'[i]? = some u → RelS (okO Sx γ st.own) (hp γ st.own) w s u
  | [], zs, zs', cells, h, hl, hr => by
    simp only [rParts, Option.some.injEq] at h
    subst h
    exact ⟨cells, rfl, hl, hr⟩
  | (i, x) :: r, zs, zs', cells, h, hl, hr => by
    unfold rParts at h
    split at h
    · rename_i off ft hf
      split at h
      · rename_i fi hfi
        split at h
        · rename_i s hs
          split at h
          · rename_i xs hxs
            cases hb : (Nat.beq xs.length fi.size && Nat.ble (off + xs.length) zs.length) with
            | false => rw [hb] at h; cases h
            | true =>
              rw [hb] at h
              simp only [cond_true] at h
              simp only [Bool.and_eq_true] at hb
              have e1 : xs.length = fi.size := Nat.eq_of_beq_eq_true hb.1
              have e2 : off + xs.length ≤ zs.length := Nat.le_of_ble_eq_true hb.2
              obtain ⟨c1, c2⟩ := cellsOf_ok hI.heap.one (evS_ok hI hs) hxs
              obtain ⟨q1, q2⟩ := fold_set off (a.eval x).cells.toList 0 cells
              have e3 : (a.eval x).cells.zipIdx.foldl (fun (cs : Array Value) (p : Value × Nat) => cs.setIfInBounds (off + p.2) p.1) cells = ((a.eval x).cells.toList.zipIdx 0).foldl (fun (cs : Array Value) (p : Value × Nat) => cs.setIfInBounds (off + p.2) p.1) cells := by
                rw [← Array.foldl_toList, Array.toList_zipIdx]
              have hsz : (a.eval x).cells.size = fi.size := by rw [← Array.length_toList, c1, e1]
              obtain ⟨cells', k1, k2, k3⟩ := rParts_ok hp' h (cells := (a.eval x).cells.zipIdx.foldl (fun (cs : Array Value) (p : Value × Nat) => cs.setIfInBounds (off + p.2) p.1) cells) (by rw [e3, q1]; simp; omega) (fun n s u hs' hu => by
                rw [e3, q2] at hu
                by_cases hn : off + 0 ≤ n ∧ n < off + 0 + (a.eval x).cells.toList.length ∧ n < cells.size
                · rw [if_pos hn] at hu
                  rw [List.append_assoc, List.getElem?_append_right (by simp; omega), List.getElem?_append_left (by simp; omega)] at hs'
                  refine c2 (n - off) s u ?_ (by simpa using hu)
                  rw [← hs']; congr 1; simp; omega
                · rw [if_neg hn] at hu
                  refine hr n s u ?_ hu
                  rw [c1] at hn
                  by_cases hlt : n < off
                  · rw [List.append_assoc, List.getElem?_append_left (by simp; omega), List.getElem?_take, if_pos hlt] at hs'
                    exact hs'
                  · have hge : off + xs.length ≤ n := by
                      rcases Nat.lt_or_ge n cells.size with h1 | h1
                      · omega
                      · rw [Array.getElem?_eq_none h1] at hu; cases hu
                    rw [List.getElem?_append_right (by simp; omega), List.getElem?_drop] at hs'
                    rw [← hs']; congr 1; simp; omega)
              refine ⟨cells', ?_, k2, k3⟩
              rw [List.map_cons, Instr.fill, hp' i off ft fi hf hfi]
              simp only
              rw [if_neg (by simp [hsz]; omega)]
              exact k1
          · cases h
        · cases h
      · cases h
    · cases h
theorem rBuild_ok {t : TypeId} {parts : Array (Nat × Operand)} {s : SV} {c : Prop} (h : rBuild T st t parts.toList = some (c, s)) : Rd P K Sx γ st w (Instr.build t (parts.map fun (i, x) => (i, a.eval x))) s := by
  unfold rBuild at h
  split at h
  · rename_i fs z eq ht
    have hu := (hT t _ ht).und
    simp only [UndOk] at hu
    obtain ⟨fields, hu, hfs⟩ := hu
    obtain ⟨info, zv, z1, _, _, z2, z3⟩ := (hT t _ ht).info
    cases hb : (z.all plain && fs.all (fun f => (lk f.2 T).isSome)) with
    | false => rw [hb] at h; cases h
    | true =>
      rw [hb] at h
      simp only [cond_true] at h
      simp only [Bool.and_eq_true] at hb
      split at h
      · rename_i zs hzs
        simp only [yes, Option.some.injEq, Prod.mk.injEq] at h
        obtain ⟨_, rfl⟩ := h
        let szT : TypeId → Nat := fun t => match lk t T with | some i => i.size | none => 0
        have szs : ∀ {ft fi}, lk ft T = some fi → szT ft = fi.size := fun {ft fi} h => by
          show (match lk ft T with | some i => i.size | none => 0) = _
          rw [h]
        have gen : ∀ (x : World) (l : List Field), (∀ f ∈ l, (lk f.type T).isSome = true) → (l.mapM fun f => (do pure (f.offset, ← sizeOf f.type) : Sem (Nat × Nat))).run P x = .ok (l.map fun f => (f.offset, szT f.type)) x := by
          intro x l
          induction l with
          | nil => intro _; rfl
          | cons f l ih =>
            intro hl
            have p1 := ih fun g hg => hl g (List.mem_cons_of_mem _ hg)
            obtain ⟨fi, hfi⟩ := Option.isSome_iff_exists.1 (hl f List.mem_cons_self)
            rw [List.mapM_cons]
            simp only [Sem.run_bind, (hT _ _ hfi).size x, Result.andThen_ok, Sem.run_pure, p1, List.map_cons, szs hfi]
        have hmap : ∀ x : World, (fields.mapM fun f => (do pure (f.offset, ← sizeOf f.type) : Sem (Nat × Nat))).run P x = .ok (fields.toList.map fun f => (f.offset, szT f.type)).toArray x := fun x => by
          have e : fields = fields.toList.toArray := by simp
          have g := gen x fields.toList fun f hf => List.all_eq_true.1 hb.2 (f.offset, f.type) (by rw [← hfs]; exact List.mem_map.2 ⟨f, hf, rfl⟩)
          rw [e, List.mapM_toArray, Sem.run_map, g]; rfl
        obtain ⟨cells', k1, k2, k3⟩ := rParts_ok (T := T) hI (places := fun i => (fields.toList.map fun f => (f.offset, szT f.type)).toArray[i]?) (fun i off ft fi hi hfi => by
          rw [← hfs, List.getElem?_map] at hi
          obtain ⟨f, h1, h2⟩ := Option.map_eq_some_iff.1 hi
          cases h2
          have h1' : fields[i]? = some f := by simpa using h1
          simp [h1', szs hfi]) hzs (cells := zv.cells) (by rw [← Array.length_toList, z3]; simp) (fun i s u hs hu' => by
          rw [List.getElem?_map] at hs
          have : zv.cells.toList[i]? = some u := by simpa using hu'
          rw [z3] at this
          rw [this] at hs
          cases hs
          exact .p (.v (List.all_eq_true.1 hb.1 u (List.mem_of_getElem? this))))
        have hagg : RelS (okO Sx γ st.own) (hp γ st.own) w (mkAgg zs) (.agg cells'.toList.toArray) := relS_mkAgg (by simpa using k2) fun i s u hs hu => k3 i s u hs (by simpa using hu)
        refine ⟨_, hagg, fun x _ => ?_⟩
        have hmx := hmap x
        have hz0 : (zeroValue t).run P x = .ok zv x := by simp [zeroValue, typeInfo, z1, z2]
        have k1' : Instr.fill (fun i => (fields.toList.map fun f => (f.offset, szT f.type)).toArray[i]?) zv.cells (parts.map fun (i, x) => (i, a.eval x)).toList = some cells' := by
          rw [Array.toList_map]; exact k1
        unfold Instr.build
        rw [Sem.run_bind, hz0]
        simp only [Result.andThen_ok]
        rw [Sem.run_bind, run_underlying hu]
        simp only [Result.andThen_ok]
        rw [Sem.run_bind, hmx]
        simp only [Result.andThen_ok]
        rw [k1']
        simp
      · cases h
  · cases h
/-- what an operation that only reads comes to -/
theorem opR_ok {o : Oper} {s : SV} {c : Prop} (h : opR T K st o.op = some (c, s)) (hc : c) :
    ∃ v, RelS (okO Sx γ st.own) (hp γ st.own) w s v ∧ ∀ x, SameOn (vis K γ st.own) w x → (execOp a.eval o).run P x = .ok (.value v) x := by
  have fin : ∀ {sem : Sem Value}, execOp a.eval o = (do pure (.value (← sem)) : Sem Next) → Rd P K Sx γ st w sem s → ∃ v, RelS (okO Sx γ st.own) (hp γ st.own) w s v ∧ ∀ x, SameOn (vis K γ st.own) w x → (execOp a.eval o).run P x = .ok (.value v) x := by
    intro sem he ⟨v, h1, h2⟩
    exact ⟨v, h1, fun x hx => by rw [he]; exact run_v (h2 x hx)⟩
  unfold opR at h
  split at h
  · rename_i x ho
    split at h
    · rename_i s' hx
      simp only [yes, Option.some.injEq, Prod.mk.injEq] at h
      obtain ⟨_, rfl⟩ := h
      exact ⟨_, evS_ok hI hx, fun z _ => by simp only [execOp, ho]; rfl⟩
    · cases h
  · rename_i x ho
    split at h
    · rename_i s' hx
      simp only [yes, Option.some.injEq, Prod.mk.injEq] at h
      obtain ⟨_, rfl⟩ := h
      exact ⟨_, evS_ok hI hx, fun z _ => by simp only [execOp, ho]; rfl⟩
    · cases h
  · rename_i x y z ho
    obtain ⟨v, h1, h2⟩ := rPick_ok (P := P) (K := K) hI h
    refine ⟨v, h1, fun x hx => ?_⟩
    have h3 := h2 x hx
    simp only [execOp, ho, Sem.run_bind] at h3 ⊢
    cases hb : (asBool (a.eval _)).run P x with
    | ok b w1 => rw [hb] at h3; simp only [Result.andThen_ok, Sem.run_pure, Result.ok.injEq] at h3 ⊢; exact ⟨by rw [h3.1], h3.2⟩
    | halt e w1 => rw [hb] at h3; cases h3
  · rename_i ho; exact fin (by simp only [execOp, ho]) (rBin_ok hT hI h hc)
  · rename_i ho
    split at h
    · rename_i v hx
      split at h
      · rename_i v' hv
        simp only [yes, Option.some.injEq, Prod.mk.injEq] at h
        obtain ⟨_, rfl⟩ := h
        have ex := (evS_ok hI hx).v_inv
        exact fin (by simp only [execOp, ho, ex]) (rd_now (.p (.v (unS_ok (P := P) (x := w) hv).1)) fun z => (unS_ok hv).2)
      · cases h
    · cases h
  · rename_i ho; exact fin (by simp only [execOp, ho]) (rConv_ok hT hI h)
  · rename_i ho; exact fin (by simp only [execOp, ho]) (rField_ok hT hI h)
  · rename_i ho; exact fin (by simp only [execOp, ho]) (rFieldAddr_ok hT hI h)
  · rename_i ho; exact fin (by simp only [execOp, ho]) (rIndexAddr_ok hT hI h hc)
  · rename_i ho; exact fin (by simp only [execOp, ho]) (rIndex_ok hT hI h hc)
  · rename_i ho; exact fin (by simp only [execOp, ho]) (rSlice_ok hT hI h hc)
  · rename_i ho; exact fin (by simp only [execOp, ho]) (rLoad_ok hT hI h hc)
  · rename_i x n ho
    split at h
    · rename_i cs hx
      split at h
      · rename_i s' hs
        simp only [yes, Option.some.injEq, Prod.mk.injEq] at h
        obtain ⟨_, rfl⟩ := h
        have ex := evS_ok hI hx
        have ho' : execOp a.eval o = (do pure (.value (← Instr.extract (a.eval x) n)) : Sem Next) := by simp only [execOp, ho]
        refine fin ho' ?_
        generalize a.eval x = u at ex ⊢
        cases ex with
        | @tup _ us hl hr =>
          have hn : n < us.length := by rw [hl]; exact (List.getElem?_eq_some_iff.1 hs).1
          refine rd_now (hr n _ us[n] hs (List.getElem?_eq_getElem hn)) fun z => ?_
          simp [Instr.extract, hn]
      · cases h
    · cases h
  · rename_i f first caps ho
    split at h
    · rename_i hsz
      have h0 : first = #[] := Array.eq_empty_of_size_eq_zero hsz
      subst h0
      split at h
      · rename_i l hl
        obtain ⟨h1, h2⟩ := evs_ok hI hl
        have ho' : execOp a.eval o = (do pure (.value (← Instr.makeFunc (.func f) #[] (caps.map a.eval))) : Sem Next) := by simp only [execOp, ho, List.map_toArray, List.map_nil]
        refine fin ho' ?_
        have hcap : caps.map a.eval = (caps.toList.map a.eval).toArray := by rw [← Array.toList_map, Array.toArray_toList]
        rw [hcap]
        split at h
        · rename_i ps hp'
          obtain ⟨g1, g2⟩ := pures_get hp'
          simp only [yes, Option.some.injEq, Prod.mk.injEq] at h
          obtain ⟨_, rfl⟩ := h
          refine rd_now (.p (.fn (us := caps.toList.map a.eval) (by rw [List.length_map, g1, ← h1]) fun i s u hs hu => (h2 i (.p s) u (by rw [g2, hs]; rfl) hu).p_inv)) fun z => rfl
        · simp only [yes, Option.some.injEq, Prod.mk.injEq] at h
          obtain ⟨_, rfl⟩ := h
          exact rd_now (.fn (by rw [List.length_map, h1]) h2) fun z => rfl
      · cases h
    · cases h
  · rename_i cl ho
    split at h
    · rename_i hcl
      split at h
      · rename_i x t hx ht
        have hx' : cl.args = #[x] := by rw [← Array.toArray_toList (xs := cl.args), hx]
        have ht' : cl.argTypes = #[t] := by rw [← Array.toArray_toList (xs := cl.argTypes), ht]
        refine fin (sem := Builtin.len_ #[t] o.type #[a.eval x]) ?_ (rLen_ok hT hI h)
        simp [execOp, ho, resolve, hcl, hx', ht', invoke, builtin]
      · cases h
    · rename_i hcl
      split at h
      · rename_i x y hx
        have hx' : cl.args = #[x, y] := by rw [← Array.toArray_toList (xs := cl.args), hx]
        refine fin (sem := Builtin.min_ cl.argTypes o.type #[a.eval x, a.eval y]) ?_ (rMinMax_ok (mn := true) hI h)
        simp [execOp, ho, resolve, hcl, hx', invoke, builtin]
      · cases h
    · rename_i hcl
      split at h
      · rename_i x y hx
        have hx' : cl.args = #[x, y] := by rw [← Array.toArray_toList (xs := cl.args), hx]
        refine fin (sem := Builtin.max_ cl.argTypes o.type #[a.eval x, a.eval y]) ?_ (rMinMax_ok (mn := false) hI h)
        simp [execOp, ho, resolve, hcl, hx', invoke, builtin]
      · cases h
    · rename_i hcl
      split at h
      · rename_i x hx
        have hx' : cl.args = #[x] := by rw [← Array.toArray_toList (xs := cl.args), hx]
        refine fin (sem := Builtin.real_ cl.argTypes o.type #[a.eval x]) (by simp [execOp, ho, resolve, hcl, hx', invoke, builtin]) ?_
        unfold rReal at h
        split at h
        · rename_i he
          simp only [yes, Option.some.injEq, Prod.mk.injEq] at h
          obtain ⟨_, rfl⟩ := h
          rw [(evS_ok hI he).v_inv]
          exact rd_now (.p (.v rfl)) fun z => rfl
        · cases h
      · cases h
    · rename_i hcl
      split at h
      · rename_i x hx
        have hx' : cl.args = #[x] := by rw [← Array.toArray_toList (xs := cl.args), hx]
        refine fin (sem := Builtin.imag_ cl.argTypes o.type #[a.eval x]) (by simp [execOp, ho, resolve, hcl, hx', invoke, builtin]) ?_
        unfold rImag at h
        split at h
        · rename_i he
          simp only [yes, Option.some.injEq, Prod.mk.injEq] at h
          obtain ⟨_, rfl⟩ := h
          rw [(evS_ok hI he).v_inv]
          exact rd_now (.p (.v rfl)) fun z => rfl
        · cases h
      · cases h
    · rename_i hcl
      split at h
      · rename_i x y hx
        have hx' : cl.args = #[x, y] := by rw [← Array.toArray_toList (xs := cl.args), hx]
        refine fin (sem := Builtin.complex_ cl.argTypes o.type #[a.eval x, a.eval y]) (by simp [execOp, ho, resolve, hcl, hx', invoke, builtin]) ?_
        unfold rCplx at h
        split at h
        · rename_i he1 he2
          simp only [yes, Option.some.injEq, Prod.mk.injEq] at h
          obtain ⟨_, rfl⟩ := h
          rw [(evS_ok hI he1).v_inv, (evS_ok hI he2).v_inv]
          exact rd_now (.p (.v rfl)) fun z => rfl
        · cases h
      · cases h
    · cases h
  · rename_i ho; exact fin (by simp only [execOp, ho]) (rLookup_ok hT hI h hc)
  · rename_i ho; exact fin (by simp only [execOp, ho]) (rBuild_ok hT hI h)
  · rename_i x ho
    split at h
    · rename_i j o' hx
      simp only [yes, Option.some.injEq, Prod.mk.injEq] at h
      obtain ⟨_, rfl⟩ := h
      have ex := evS_ok hI hx
      obtain ⟨b, g, hu, _⟩ := ex.ptr_form
      exact ⟨_, ex, fun z _ => by simp only [execOp, ho, hu]; rfl⟩
    · rename_i j zz k o' hx
      simp only [yes, Option.some.injEq, Prod.mk.injEq] at h
      obtain ⟨_, rfl⟩ := h
      have ex := evS_ok hI hx
      obtain ⟨b, g, hu, _⟩ := ex.eptr_form
      exact ⟨_, ex, fun z _ => by simp only [execOp, ho, hu]; rfl⟩
    · rename_i cs hx
      simp only [yes, Option.some.injEq, Prod.mk.injEq] at h
      obtain ⟨_, rfl⟩ := h
      have ex := evS_ok hI hx
      obtain ⟨b, o', hu⟩ := ex.p_inv.rp_form
      exact ⟨_, ex, fun z _ => by simp only [execOp, ho, hu]; rfl⟩
    · cases h
  · cases h
end
end Go.Proofs.Ytjpcchipejmocaa
