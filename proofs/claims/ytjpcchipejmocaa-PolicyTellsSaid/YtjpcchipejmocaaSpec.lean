/-
  What the program's inner functions come to, in plain Lean: values, names, numbers (layers 3 and 6), targets (13), requests (11). No program here.
-/
import Derived.Test.YtjpcchipejmocaaBase
namespace Go.Proofs.Ytjpcchipejmocaa
set_option linter.unusedVariables false
set_option linter.unusedSimpArgs false
open Go.RowKit

/-! ### Typed things -/
structure Val where
  kind : Int
  n : Int
  s : ByteArray
structure Atr where
  cat : Int
  name : ByteArray
  must : Bool
structure Mat where
  attr : Atr
  op : Int
  val : Val
structure Giv where
  cat : Int
  name : ByteArray
  bag : List Val

abbrev Val.v (x : Val) : Value := .agg #[.int .i64 x.kind, .int .i64 x.n, .string x.s]
abbrev Val.cells (x : Val) : List Value := [.int .i64 x.kind, .int .i64 x.n, .string x.s]
abbrev Atr.cells (x : Atr) : List Value := [.int .i64 x.cat, .string x.name, .bool x.must]
abbrev Mat.cells (x : Mat) : List Value := [.int .i64 x.attr.cat, .string x.attr.name, .bool x.attr.must, .int .i64 x.op, .int .i64 x.val.kind, .int .i64 x.val.n, .string x.val.s]
structure Val.Fit (x : Val) : Prop where
  kind : R64 x.kind
  n : R64 x.n
  s : x.s.size ≤ reachBytes
structure Atr.Fit (x : Atr) : Prop where
  cat : R64 x.cat
  name : x.name.size ≤ reachBytes
structure Mat.Fit (x : Mat) : Prop where
  attr : x.attr.Fit
  op : R64 x.op
  val : x.val.Fit
def rVal : Rp Val := fun _ cs x => cs = x.cells ∧ x.Fit
def rAtr : Rp Atr := fun _ cs x => cs = x.cells ∧ x.Fit
def rMat : Rp Mat := fun _ cs x => cs = x.cells ∧ x.Fit
def rGiv : Rp Giv := fun w cs x => ∃ A c, cs = [.int .i64 x.cat, .string x.name, .slice A x.bag.length c] ∧ R64 x.cat ∧ x.name.size ≤ reachBytes ∧ x.bag.length ≤ c ∧ (x.bag.length ≤ reachBytes ∧ c ≤ maxLen) ∧ SlAt rVal 3 w A x.bag
theorem keeps_val : Keeps rVal := fun _ _ _ _ _ h => h
theorem keeps_atr : Keeps rAtr := fun _ _ _ _ _ h => h
theorem keeps_mat : Keeps rMat := fun _ _ _ _ _ h => h
theorem keeps_giv : Keeps rGiv := fun _ _ _ _ hb ⟨A, c, h1, h2, h3, h4, h5, h6⟩ => ⟨A, c, h1, h2, h3, h4, h5, h6.keep keeps_val hb⟩

theorem SlAt.val {w : World} {A : Option Addr} {l : List Val} (h : SlAt rVal 3 w A l) {k : Nat} (hk : k < l.length) :
    ∃ b o, A = some ⟨b, o, none⟩ ∧ b < w.heap.size ∧ w.cell? ⟨b, o + k * 3, none⟩ = some (.int .i64 l[k].kind) ∧ w.cell? ⟨b, o + k * 3 + 1, none⟩ = some (.int .i64 l[k].n) ∧ w.cell? ⟨b, o + k * 3 + 2, none⟩ = some (.string l[k].s) ∧ l[k].Fit := by
  obtain ⟨b, o, cs, hA, hlt, _, hc, rfl, hf⟩ := h.at_ hk
  exact ⟨b, o, hA, hlt, hc 0 _ rfl, hc 1 _ rfl, hc 2 _ rfl, hf⟩
theorem SlAt.mat {w : World} {A : Option Addr} {l : List Mat} (h : SlAt rMat 7 w A l) {k : Nat} (hk : k < l.length) :
    ∃ b o, A = some ⟨b, o, none⟩ ∧ b < w.heap.size ∧ (w.cell? ⟨b, o + k * 7, none⟩ = some (.int .i64 l[k].attr.cat) ∧ w.cell? ⟨b, o + k * 7 + 1, none⟩ = some (.string l[k].attr.name) ∧ w.cell? ⟨b, o + k * 7 + 2, none⟩ = some (.bool l[k].attr.must)) ∧
      w.cell? ⟨b, o + k * 7 + 3, none⟩ = some (.int .i64 l[k].op) ∧
      (w.cell? ⟨b, o + k * 7 + 4, none⟩ = some (.int .i64 l[k].val.kind) ∧ w.cell? ⟨b, o + k * 7 + 5, none⟩ = some (.int .i64 l[k].val.n) ∧ w.cell? ⟨b, o + k * 7 + 6, none⟩ = some (.string l[k].val.s)) ∧ l[k].Fit := by
  obtain ⟨b, o, cs, hA, hlt, _, hc, rfl, hf⟩ := h.at_ hk
  exact ⟨b, o, hA, hlt, ⟨hc 0 _ rfl, hc 1 _ rfl, hc 2 _ rfl⟩, hc 3 _ rfl, ⟨hc 4 _ rfl, hc 5 _ rfl, hc 6 _ rfl⟩, hf⟩
theorem SlAt.giv {w : World} {A : Option Addr} {l : List Giv} (h : SlAt rGiv 3 w A l) {k : Nat} (hk : k < l.length) :
    ∃ b o B c, A = some ⟨b, o, none⟩ ∧ b < w.heap.size ∧ w.cell? ⟨b, o + k * 3, none⟩ = some (.int .i64 l[k].cat) ∧ w.cell? ⟨b, o + k * 3 + 1, none⟩ = some (.string l[k].name) ∧
      w.cell? ⟨b, o + k * 3 + 2, none⟩ = some (.slice B l[k].bag.length c) ∧ R64 l[k].cat ∧ l[k].name.size ≤ reachBytes ∧ l[k].bag.length ≤ c ∧ (l[k].bag.length ≤ reachBytes ∧ c ≤ maxLen) ∧ SlAt rVal 3 w B l[k].bag := by
  obtain ⟨b, o, cs, hA, hlt, _, hc, B, c, rfl, h1, h2, h3, h4, h5⟩ := h.at_ hk
  exact ⟨b, o, B, c, hA, hlt, hc 0 _ rfl, hc 1 _ rfl, hc 2 _ rfl, h1, h2, h3, h4, h5⟩
/-- a slice of slices, or of any one-cell things that lie elsewhere -/
theorem SlAt.sl {α : Type} {R : Rp α} {size : Nat} {w : World} {A : Option Addr} {l : List (List α)} (h : SlAt (rSl R size) 1 w A l) {k : Nat} (hk : k < l.length) :
    ∃ b o B c, A = some ⟨b, o, none⟩ ∧ b < w.heap.size ∧ w.cell? ⟨b, o + k, none⟩ = some (.slice B l[k].length c) ∧ l[k].length ≤ c ∧ (l[k].length ≤ reachBytes ∧ c ≤ maxLen) ∧ SlAt R size w B l[k] := by
  obtain ⟨b, o, cs, hA, hlt, _, hc, B, c, rfl, h1, h2, h3⟩ := h.at_ hk
  have := hc 0 _ rfl
  rw [Nat.mul_one, Nat.add_zero] at this
  exact ⟨b, o, B, c, hA, hlt, this, h1, h2, h3⟩

/-- two values -/
theorem SlAt.pair {w : World} {A : Option Addr} {x y : Val} (h : SlAt rVal 3 w A [x, y]) :
    ∃ b o, A = some ⟨b, o, none⟩ ∧ b < w.heap.size ∧ (w.cell? ⟨b, o, none⟩ = some (.int .i64 x.kind) ∧ w.cell? ⟨b, o + 1, none⟩ = some (.int .i64 x.n) ∧ w.cell? ⟨b, o + 2, none⟩ = some (.string x.s)) ∧
      (w.cell? ⟨b, o + 3, none⟩ = some (.int .i64 y.kind) ∧ w.cell? ⟨b, o + 3 + 1, none⟩ = some (.int .i64 y.n) ∧ w.cell? ⟨b, o + 3 + 2, none⟩ = some (.string y.s)) ∧ x.Fit ∧ y.Fit := by
  obtain ⟨b, o, rfl, hb, c0, c1, c2, hx⟩ := h.val (k := 0) (by simp)
  obtain ⟨b', o', he, _, d0, d1, d2, hy⟩ := h.val (k := 1) (by simp)
  simp only [Option.some.injEq, Addr.mk.injEq, and_true] at he
  obtain ⟨rfl, rfl⟩ := he
  simp only [Nat.zero_mul, Nat.one_mul, Nat.add_zero, List.getElem_cons_zero, List.getElem_cons_succ] at *
  exact ⟨_, _, rfl, hb, ⟨c0, c1, c2⟩, ⟨d0, d1, d2⟩, hx, hy⟩
theorem SlAt.lone {w : World} {A : Option Addr} {x : Val} (h : SlAt rVal 3 w A [x]) :
    ∃ b o, A = some ⟨b, o, none⟩ ∧ b < w.heap.size ∧ (w.cell? ⟨b, o, none⟩ = some (.int .i64 x.kind) ∧ w.cell? ⟨b, o + 1, none⟩ = some (.int .i64 x.n) ∧ w.cell? ⟨b, o + 2, none⟩ = some (.string x.s)) ∧ x.Fit := by
  obtain ⟨b, o, rfl, hb, c0, c1, c2, hx⟩ := h.val (k := 0) (by simp)
  simp only [Nat.zero_mul, Nat.add_zero, List.getElem_cons_zero] at *
  exact ⟨_, _, rfl, hb, ⟨c0, c1, c2⟩, hx⟩

theorem cell_new (w : World) (cs : Array Value) (t : TypeId) (j : Nat) : (w.alloc (.cells cs t)).cell? ⟨w.heap.size, j, none⟩ = cs[j]? := by
  have h : (w.alloc (.cells cs t)).heap[w.heap.size]? = some (.cells cs t) := by
    show (w.heap.push (.cells cs t))[w.heap.size]? = _
    simp
  unfold World.cell?
  rw [h]
  rfl
theorem slat_of {α : Type} {R : Rp α} {size : Nat} (w : World) (t : TypeId) (l : List α) (f : α → List Value) (hlen : ∀ x, (f x).length = size) (hR : ∀ w x, x ∈ l → R w (f x) x) :
    SlAt R size (w.alloc (.cells (l.flatMap f).toArray t)) (some ⟨w.heap.size, 0, none⟩) l := fun _ => by
  refine ⟨w.heap.size, 0, rfl, by simp, fun i hi => ⟨f l[i], hlen _, fun j u hj => ?_, hR _ _ (List.getElem_mem hi)⟩⟩
  rw [cell_new]
  have hj' : j < size := by rw [← hlen l[i]]; exact (List.getElem?_eq_some_iff.1 hj).1
  have key : ∀ (l : List α) (i : Nat) (hi : i < l.length) (j : Nat), j < size → (l.flatMap f)[i * size + j]? = (f l[i])[j]? := by
    intro l
    induction l with
    | nil => intro i hi; simp at hi
    | cons x l ih =>
      intro i hi j hj
      cases i with
      | zero => simp only [Nat.zero_mul, Nat.zero_add, List.flatMap_cons, List.getElem_cons_zero]; rw [List.getElem?_append_left (by rw [hlen]; exact hj)]
      | succ i =>
        rw [List.flatMap_cons, List.getElem?_append_right (by rw [hlen]; have := Nat.le_mul_of_pos_left size (show 0 < i + 1 by omega); omega), hlen]
        have e : (i + 1) * size + j - size = i * size + j := by rw [Nat.succ_mul]; omega
        rw [e, ih i (by simpa using hi) j hj]
        rfl
  simp only [Nat.zero_add, List.getElem?_toArray]
  rw [key l i hi j hj']
  exact hj
theorem slat_new1 (w : World) (t : TypeId) (x : Val) (hx : x.Fit) : SlAt rVal 3 (w.alloc (.cells #[.int .i64 x.kind, .int .i64 x.n, .string x.s] t)) (some ⟨w.heap.size, 0, none⟩) [x] :=
  slat_of w t [x] Val.cells (fun _ => rfl) (fun _ y hy => ⟨rfl, by simp at hy; subst hy; exact hx⟩)
theorem slat_new2 (w : World) (t : TypeId) (x y : Val) (hx : x.Fit) (hy : y.Fit) : SlAt rVal 3 (w.alloc (.cells #[.int .i64 x.kind, .int .i64 x.n, .string x.s, .int .i64 y.kind, .int .i64 y.n, .string y.s] t)) (some ⟨w.heap.size, 0, none⟩) [x, y] :=
  slat_of w t [x, y] Val.cells (fun _ => rfl) (fun _ z hz => ⟨rfl, by simp at hz; rcases hz with rfl | rfl <;> assumption⟩)
theorem slat_new3 (w : World) (t : TypeId) (x y z : Val) (hx : x.Fit) (hy : y.Fit) (hz : z.Fit) : SlAt rVal 3 (w.alloc (.cells #[.int .i64 x.kind, .int .i64 x.n, .string x.s, .int .i64 y.kind, .int .i64 y.n, .string y.s, .int .i64 z.kind, .int .i64 z.n, .string z.s] t)) (some ⟨w.heap.size, 0, none⟩) [x, y, z] :=
  slat_of w t [x, y, z] Val.cells (fun _ => rfl) (fun _ u hu => ⟨rfl, by simp at hu; rcases hu with rfl | rfl | rfl <;> assumption⟩)

/-! ### Names, values -/
theorem ret_bool {a b : Bool} (h : a = b) : Ending.returned (.bool a) = .returned (.bool b) := by rw [h]
theorem ret_int {a b : Int} (h : a = b) : Ending.returned (.int .i64 a) = .returned (.int .i64 b) := by rw [h]
theorem ret_bi {x : Bool × Int} {a : Bool} {b : Int} (h : x = (a, b)) : Ending.returned (.tuple #[.bool a, .int .i64 b]) = .returned (.tuple #[.bool x.1, .int .i64 x.2]) := by rw [h]
theorem ret_ii {x : Int × Int} {a b : Int} (h : x = (a, b)) : Ending.returned (.tuple #[.int .i64 a, .int .i64 b]) = .returned (.tuple #[.int .i64 x.1, .int .i64 x.2]) := by rw [h]
theorem toList_size (s : ByteArray) : s.toList.isEmpty = decide (s.size = 0) := by
  rw [ByteArray.toList_eq]
  cases h : s with | mk d => cases d with | mk l => cases l <;> simp [ByteArray.size]
theorem toList_inj {s t : ByteArray} (h : s.toList = t.toList) : s = t := by
  rw [ByteArray.toList_eq, ByteArray.toList_eq] at h
  cases s; cases t; simp only at h; congr 1; exact Array.toList_inj.1 h
theorem empty_size (s : ByteArray) : (s = ByteArray.empty) = (s.size = 0) := by
  have h := toList_size s
  refine propext ⟨fun e => by subst e; rfl, fun e => ?_⟩
  cases s with | mk d => cases d with | mk l =>
    cases l with
    | nil => rfl
    | cons x l => simp [ByteArray.size] at e

def okC (first : Bool) (c : Nat) : Bool := (97 ≤ c && c ≤ 122) || (!first && ((48 ≤ c && c ≤ 57) || c == 95))
def nameS (s : ByteArray) : Bool := decide (∀ i (h : i < s.size), okC (i == 0) s[i].toNat = true) && decide (0 < s.size) && decide (s.size ≤ 16)
theorem nameS_no {s : ByteArray} {k : Nat} (hk : k < s.size) (h : okC (k == 0) s[k].toNat = false) : nameS s = false := by
  unfold nameS
  have : decide (∀ i (h : i < s.size), okC (i == 0) s[i].toNat = true) = false := by
    simp only [decide_eq_false_iff_not]; intro h'; have := h' k hk; rw [h] at this; cases this
  rw [this]; rfl
theorem nameS_end {s : ByteArray} (h : ∀ i (h : i < s.size), i < s.size → okC (i == 0) s[i].toNat = true) : nameS s = (decide (0 < s.size) && decide (s.size ≤ 16)) := by
  unfold nameS
  rw [decide_eq_true (fun i hi => h i hi hi)]; rfl
theorem name_step {s : ByteArray} {k : Nat} (hk : k < s.size) (h : ∀ i (h : i < s.size), i < k → okC (i == 0) s[i].toNat = true) (h1 : okC (k == 0) s[k].toNat = true) : ∀ i (h : i < s.size), i < k + 1 → okC (i == 0) s[i].toNat = true := by
  intro i hi hi'
  by_cases e : i = k
  · subst e; exact h1
  · exact h i hi (by omega)

def Val.right (v : Val) : Bool :=
  if v.kind = 1 then (decide (v.n = 0) || decide (v.n = 1)) && decide (v.s.size = 0)
  else if v.kind = 2 then decide (v.s.size = 0)
  else if v.kind = 3 then decide (v.n = 0) && decide (v.s.size ≤ 64)
  else if v.kind = 4 then decide (0 ≤ v.n) && decide (v.n ≤ 1099511627776) && decide (v.s.size = 0)
  else if v.kind = 5 then decide (v.n = 0) && nameS v.s
  else false
def textsS (k : Int) : Bool := decide (k = 3) || decide (k = 5)
def lessB (a b : ByteArray) : Bool := Op.bytesLess a.toList b.toList
def lessS (a b : Val) : Bool × Int :=
  if !a.right || !b.right then (false, 1)
  else if a.kind ≠ b.kind ∨ a.kind = 1 then (false, 2)
  else if textsS a.kind then (lessB a.s b.s, 0)
  else (decide (a.n < b.n), 0)

/-! ### Layer 6 -/
def inI (n : Int) : Bool := decide (-9223372036854775808 ≤ n) && decide (n ≤ 9223372036854775807)
def addS (a b : Int) : Int × Int := if inI (a + b) then (a + b, 0) else (0, 3)
def subS (a b : Int) : Int × Int := if inI (a - b) then (a - b, 0) else (0, 3)
def mulS (a b : Int) : Int × Int := if inI (a * b) then (a * b, 0) else (0, 3)
def bitI (b : Bool) : Int := if b then 1 else 0
def truthS (b : Bool) : Val := ⟨1, bitI b, ⟨#[]⟩⟩
def noVal : Val := ⟨0, 0, ⟨#[]⟩⟩
def allS (kind : Int) (l : List Val) : Bool := l.all fun v => decide (v.kind = kind)
def mayS (op : Int) (l : List Val) : Bool := decide (6 ≤ op) && decide (op ≤ 13) && decide ((l.length : Int) = if op = 11 then 1 else 2) && l.all Val.right
def sameV (a b : Val) : Bool := decide (a.kind = b.kind) && decide (a.n = b.n) && decide (a.s = b.s)
def numberS (f : Int → Int → Int × Int) (a b : Val) : Val × Int :=
  if a.kind ≠ 2 ∨ b.kind ≠ 2 then (noVal, 2) else if (f a.n b.n).2 ≠ 0 then (noVal, (f a.n b.n).2) else (⟨2, (f a.n b.n).1, ⟨#[]⟩⟩, 0)
def callS (op : Int) (l : List Val) : Val × Int :=
  if !mayS op l then (noVal, 1) else
  let a := l.getD 0 noVal
  let b := l.getD 1 noVal
  if op = 6 then if a.kind ≠ b.kind then (noVal, 2) else (truthS (sameV a b), 0)
  else if op = 7 then if (lessS a b).2 ≠ 0 then (noVal, (lessS a b).2) else (truthS (lessS a b).1, 0)
  else if op = 8 then numberS addS a b
  else if op = 9 then numberS subS a b
  else if op = 10 then numberS mulS a b
  else if !allS 1 l then (noVal, 2)
  else if op = 11 then (truthS (a.n == 0), 0)
  else if op = 12 then (truthS (a.n == 1 && b.n == 1), 0)
  else (truthS (a.n == 1 || b.n == 1), 0)

theorem mul_over {a b : Int} (ha : -9223372036854775808 ≤ a) (ha' : a ≤ 9223372036854775807) (hb : -9223372036854775808 ≤ b) (hb' : b ≤ 9223372036854775807) (h0 : a ≠ 0) :
    (((a = -1 ∧ b = -9223372036854775808) ∨ (b = -1 ∧ a = -9223372036854775808)) ∨ wrap64 ((wrap64 (a * b)).tdiv a) ≠ b) ↔ inI (a * b) = false := by
  have key : ∀ n : Int, ∃ k : Int, wrap64 n = n - k * 18446744073709551616 ∧ -9223372036854775808 ≤ wrap64 n ∧ wrap64 n ≤ 9223372036854775807 := fun n => by
    refine ⟨(n + 9223372036854775808) / 18446744073709551616, ?_⟩
    unfold wrap64
    omega
  have hid : ∀ n : Int, -9223372036854775808 ≤ n → n ≤ 9223372036854775807 → wrap64 n = n := fun n _ _ => by unfold wrap64; omega
  constructor
  · intro h
    cases hin : inI (a * b) with
    | false => rfl
    | true =>
      exfalso
      simp only [inI, Bool.and_eq_true, decide_eq_true_eq] at hin
      rw [hid _ hin.1 hin.2, Int.mul_tdiv_cancel_left _ h0, hid _ hb hb'] at h
      rcases h with (⟨rfl, rfl⟩ | ⟨rfl, rfl⟩) | h
      · omega
      · omega
      · exact h rfl
  · intro hin
    by_cases hs : (a = -1 ∧ b = -9223372036854775808) ∨ (b = -1 ∧ a = -9223372036854775808)
    · exact Or.inl hs
    · right
      intro hq
      obtain ⟨k, hk, hlo, hhi⟩ := key (a * b)
      generalize hc : wrap64 (a * b) = c at *
      generalize hp : a * b = p at *
      have hna : (c.tdiv a).natAbs = c.natAbs / a.natAbs := Int.natAbs_tdiv c a
      have hle : c.natAbs / a.natAbs ≤ c.natAbs := Nat.div_le_self _ _
      have hmod : a * c.tdiv a + c.tmod a = c := Int.mul_tdiv_add_tmod c a
      have hr : (c.tmod a).natAbs < a.natAbs := by rw [Int.natAbs_tmod]; exact Nat.mod_lt _ (by omega)
      have hnot : ¬ (-9223372036854775808 ≤ p ∧ p ≤ 9223372036854775807) := by
        intro h
        simp [inI, h.1, h.2] at hin
      by_cases hbig : c.tdiv a = 9223372036854775808
      · have : c = -9223372036854775808 := by omega
        have h2 : c.natAbs / a.natAbs = 9223372036854775808 := by rw [← hna, hbig]; rfl
        have h3 : a.natAbs = 1 := by
          rcases Nat.lt_or_ge a.natAbs 2 with h | h
          · omega
          · have : c.natAbs / a.natAbs ≤ c.natAbs / 2 := Nat.div_le_div_left h (by omega)
            omega
        have h4 : a = 1 ∨ a = -1 := by omega
        rw [hbig] at hq
        have hb2 : b = -9223372036854775808 := by rw [← hq]; unfold wrap64; omega
        rcases h4 with rfl | rfl
        · simp at hbig; omega
        · exact hs (Or.inl ⟨rfl, hb2⟩)
      · rw [hid _ (by omega) (by omega)] at hq
        rw [hq, hp] at hmod
        omega
end Go.Proofs.Ytjpcchipejmocaa
