/-
  What the other texts of this claim lean on, over any program: what a world that has only grown keeps; how slices, strings, structs that came in read as typed lists; regions that draw their order whose calls make memory; the last step of a law's row.
-/
import Derived.WalkKit
import Derived.ProofKit
import Derived.SizedLaws
import Derived.Deep.Slices
import Derived.Deep.Quiet
import Derived.Deep.QuietTactic
namespace Go.Proofs.Ytjpcchipejmocaa
set_option linter.unusedVariables false
set_option linter.unusedSimpArgs false
open Go.RowKit Go.ChangeShapes Go.WideShapes

theorem hide {p : Prop} (h : p) : Hid p := h

/-! ### Worlds that have grown -/
/-- other names, so that what is not known stays as it is -/
def cellIn (w : World) (a : Addr) : Option Value := w.cell? a
def frozenIn (w : World) (a : Addr) : Bool := w.frozen? a
theorem bcell {W w1 : World} (hb : Below W.heap.size W w1) : (∀ b o, w1.cell? ⟨b, o, none⟩ = if b < W.heap.size then W.cell? ⟨b, o, none⟩ else cellIn w1 ⟨b, o, none⟩) ∧
    (∀ b o, w1.frozen? ⟨b, o, none⟩ = if b < W.heap.size then W.frozen? ⟨b, o, none⟩ else frozenIn w1 ⟨b, o, none⟩) := by
  refine ⟨fun b o => ?_, fun b o => ?_⟩
  · split
    · rename_i h; exact hb.cell (p := ⟨b, o, none⟩) h
    · rfl
  · split
    · rename_i h; exact hb.frozen (p := ⟨b, o, none⟩) h
    · rfl

def cellNew (w : World) (o : Obj) (b j : Nat) : Option Value := (w.alloc o).cell? ⟨b, j, none⟩
def frozenNew (w : World) (o : Obj) (b j : Nat) : Bool := (w.alloc o).frozen? ⟨b, j, none⟩
theorem alloc_cell (w : World) (o : Obj) (b j : Nat) : (w.alloc o).cell? ⟨b, j, none⟩ = if b < w.heap.size then w.cell? ⟨b, j, none⟩ else cellNew w o b j := by
  split
  · rename_i h; exact World.cell?_alloc_past _ _ _ h
  · rfl
theorem alloc_frozen (w : World) (o : Obj) (b j : Nat) : (w.alloc o).frozen? ⟨b, j, none⟩ = if b < w.heap.size then w.frozen? ⟨b, j, none⟩ else frozenNew w o b j := by
  split
  · rename_i h; exact World.frozen?_alloc_past _ _ _ h
  · rfl

theorem Below.step {B : Nat} {a w w' : World} (h : Below B a w) (k : Below w.heap.size w w') (hB : B ≤ w.heap.size) : Below B a w' := h.trans (k.mono hB)

theorem Below.lift {w w' : World} (h : Below w.heap.size w w') {w'' : World} (k : Below w'.heap.size w' w'') : Below w.heap.size w w'' := h.trans (k.mono h.size)

theorem Below.alloc1 {w w' : World} (h : Below w.heap.size w w') (o : Obj) : Below w.heap.size w (w'.alloc o) := h.alloc h.size o

open Classical in
/-- a world that goes on from w: any one that holds what w holds below w's end -/
noncomputable def ext (w d : World) : World := if Below w.heap.size w d then d else w
theorem ext_below (w d : World) : Below w.heap.size w (ext w d) := by
  unfold ext; split
  · assumption
  · exact Below.refl _ _
theorem ext_of {w w' : World} (h : Below w.heap.size w w') : ext w w' = w' := by unfold ext; rw [if_pos h]
theorem ext_cell (w d : World) (b o : Nat) : (ext w d).cell? ⟨b, o, none⟩ = if b < w.heap.size then w.cell? ⟨b, o, none⟩ else cellIn (ext w d) ⟨b, o, none⟩ := (bcell (ext_below w d)).1 b o
theorem ext_frozen (w d : World) (b o : Nat) : (ext w d).frozen? ⟨b, o, none⟩ = if b < w.heap.size then w.frozen? ⟨b, o, none⟩ else frozenIn (ext w d) ⟨b, o, none⟩ := (bcell (ext_below w d)).2 b o
theorem ext_ext {w d w' : World} (h : Below (ext w d).heap.size (ext w d) w') : ∃ d', w' = ext w d' :=
  ⟨w', (ext_of (Below.lift (ext_below w d) h)).symm⟩

/-- A region that draws its order, whose operations read, and whose calls may make memory: one walk in the order of the text, in every world that goes on from w. -/
theorem wp_region_ext {P : Program} {id : Nat} {Q : Exit → Act → World → Prop} {a : Act} {w : World} {l : List Oper} (hm : P.follows .mixedOrders = true) (hB : Region.lexB .any l.toArray = true)
    (h : wpQuiet P l.toArray (fun w' => ∃ d, w' = ext w d) (fun a' => ∀ w', Below w.heap.size w w' → Q .normal a' w') l a) : (Code.region id l.toArray true).wp P Q a w := by
  refine wp_region_quiet (C := fun w' => ∃ d, w' = ext w d) hm hB ⟨_, (ext_of (Below.refl _ w).drew).symm⟩ ?_
  have e : (fun a' => ∀ w', Below w.heap.size w w' → Q .normal a' w') = (fun a' => ∀ w', (∃ d, w' = ext w d) → Q .normal a' w') := by
    funext a'
    refine propext ⟨fun h w' ⟨d, hd⟩ => h w' (hd ▸ ext_below w d), fun h w' hw => h w' ⟨w', (ext_of hw).symm⟩⟩
  rw [e] at h
  simpa using h
/-- a callee's contract, met in such a world -/
theorem quiet_ext {P : Program} {f : FuncId} {args : Array Value} {w d : World} {v : Value}
    (h : Calls P f args (ext w d) fun e w' => e = .returned v ∧ Below (ext w d).heap.size (ext w d) w') : Calls P f args (ext w d) fun e w'' => e = .returned v ∧ ∃ d', w'' = ext w d' :=
  h.mono fun _ _ ⟨he, hb⟩ => ⟨he, ext_ext hb⟩

theorem quiet_eq {P : Program} {f : FuncId} {args : Array Value} {w d : World} {v : Value}
    (h : Calls P f args (ext w d) fun e w' => e = .returned v ∧ ext w d = w') : Calls P f args (ext w d) fun e w'' => e = .returned v ∧ ∃ d', w'' = ext w d' :=
  h.mono fun _ _ ⟨he, hb⟩ => ⟨he, d, hb.symm⟩

theorem run_enter {P : Program} {f : FuncId} {fn : Func} (hf : P.funcs[f]? = some fn) (hname : (fn.name == "runtime.NumGoroutine") = false) (hb : fn.body.isNone = false) (args : Array Value) (w : World) :
    (callFunc f args).run P w = .ok (.enter f args) w := by
  have h1 : fn.name ≠ "runtime.NumGoroutine" := by simpa using hname
  have h2 : fn.body ≠ none := by intro e; rw [e] at hb; cases hb
  simp [callFunc, hf, h1, h2]

/-! ### Numbers -/
def R64 (n : Int) : Prop := -9223372036854775808 ≤ n ∧ n ≤ 9223372036854775807
theorem R64.lo {n : Int} (h : R64 n) : -9223372036854775808 ≤ n := h.1
theorem R64.hi {n : Int} (h : R64 n) : n ≤ 9223372036854775807 := h.2
theorem R64.of_wf {n : Int} (h : (Lit.int .i64 n).wf = true) : R64 n := by
  simpa [Lit.wf, IntKind.min, IntKind.max, IntKind.signed, IntKind.bits, R64] using h
theorem R64.wf {n : Int} (h : R64 n) : (Lit.int .i64 n).wf = true := by
  simpa [Lit.wf, IntKind.min, IntKind.max, IntKind.signed, IntKind.bits, R64] using h

/-! ### Lists, a place at a time -/
theorem all_step {α : Type} {l : List α} {p : α → Bool} {k : Nat} (hk : k < l.length) (h : (l.take k).all p = true) (h1 : p l[k] = true) : (l.take (k + 1)).all p = true := by
  rw [List.take_succ_eq_append_getElem hk, List.all_append, h]; simp [h1]
theorem all_no {α : Type} {l : List α} {p : α → Bool} {k : Nat} (hk : k < l.length) (h1 : p l[k] = false) : l.all p = false := by
  rw [List.all_eq_false]; exact ⟨l[k], List.getElem_mem hk, by simp [h1]⟩
theorem any_step {α : Type} {l : List α} {p : α → Bool} {k : Nat} (hk : k < l.length) (h : (l.take k).any p = false) (h1 : p l[k] = false) : (l.take (k + 1)).any p = false := by
  rw [List.take_succ_eq_append_getElem hk, List.any_append, h]; simp [h1]
theorem any_yes {α : Type} {l : List α} {p : α → Bool} {k : Nat} (hk : k < l.length) (h1 : p l[k] = true) : l.any p = true := by
  rw [List.any_eq_true]; exact ⟨l[k], List.getElem_mem hk, h1⟩
theorem take_all {α : Type} (l : List α) : l.take l.length = l := List.take_length
theorem fold_step {α β : Type} {l : List α} {f : β → α → β} {z : β} {k : Nat} (hk : k < l.length) : (l.take (k + 1)).foldl f z = f ((l.take k).foldl f z) l[k] := by
  rw [List.take_succ_eq_append_getElem hk, List.foldl_append]; rfl

/-! ### How what came in reads -/
abbrev Rp (α : Type) := World → List Value → α → Prop
/-- cells that lie one behind the other -/
def CellsAt (w : World) (b o : Nat) (cs : List Value) : Prop := ∀ j u, cs[j]? = some u → w.cell? ⟨b, o + j, none⟩ = some u
/-- a slice's elements, 'size' cells each -/
def SlAt {α : Type} (R : Rp α) (size : Nat) (w : World) (A : Option Addr) (l : List α) : Prop :=
  0 < l.length → ∃ b o, A = some ⟨b, o, none⟩ ∧ b < w.heap.size ∧ ∀ i (h : i < l.length), ∃ cs, cs.length = size ∧ CellsAt w b (o + i * size) cs ∧ R w cs l[i]
def rInt : Rp Int := fun _ cs n => cs = [.int .i64 n] ∧ R64 n
def rBool : Rp Bool := fun _ cs x => cs = [.bool x]
def rStr : Rp ByteArray := fun _ cs s => cs = [.string s] ∧ s.size ≤ reachBytes
def rSl {α : Type} (R : Rp α) (size : Nat) : Rp (List α) := fun w cs l => ∃ A c, cs = [.slice A l.length c] ∧ l.length ≤ c ∧ (l.length ≤ reachBytes ∧ c ≤ maxLen) ∧ SlAt R size w A l
/-- what a reading keeps -/
def Keeps {α : Type} (R : Rp α) : Prop := ∀ w w' cs x, Below w.heap.size w w' → R w cs x → R w' cs x
theorem keeps_int : Keeps rInt := fun _ _ _ _ _ h => h
theorem keeps_bool : Keeps rBool := fun _ _ _ _ _ h => h
theorem keeps_str : Keeps rStr := fun _ _ _ _ _ h => h
theorem CellsAt.keep {w w' : World} {b o : Nat} {cs : List Value} (hb : Below w.heap.size w w') (hlt : b < w.heap.size) (h : CellsAt w b o cs) : CellsAt w' b o cs :=
  fun j u hj => (hb.cell (p := ⟨b, o + j, none⟩) hlt).trans (h j u hj)
theorem SlAt.keep {α : Type} {R : Rp α} (hR : Keeps R) {size : Nat} {w w' : World} {A : Option Addr} {l : List α} (hb : Below w.heap.size w w') (h : SlAt R size w A l) : SlAt R size w' A l := fun hl => by
  obtain ⟨b, o, hA, hlt, hc⟩ := h hl
  refine ⟨b, o, hA, Nat.lt_of_lt_of_le hlt hb.size, fun i hi => ?_⟩
  obtain ⟨cs, h1, h2, h3⟩ := hc i hi
  exact ⟨cs, h1, h2.keep hb hlt, hR _ _ _ _ hb h3⟩
theorem keeps_sl {α : Type} {R : Rp α} (hR : Keeps R) (size : Nat) : Keeps (rSl R size) := fun _ _ _ _ hb ⟨A, c, h1, h2, h3, h4⟩ => ⟨A, c, h1, h2, h3, h4.keep hR hb⟩
theorem SlAt.at_ {α : Type} {R : Rp α} {size : Nat} {w : World} {A : Option Addr} {l : List α} (h : SlAt R size w A l) {k : Nat} (hk : k < l.length) :
    ∃ b o cs, A = some ⟨b, o, none⟩ ∧ b < w.heap.size ∧ cs.length = size ∧ CellsAt w b (o + k * size) cs ∧ R w cs l[k] := by
  obtain ⟨b, o, hA, hlt, hc⟩ := h (by omega)
  obtain ⟨cs, h1, h2, h3⟩ := hc k hk
  exact ⟨b, o, cs, hA, hlt, h1, h2, h3⟩
theorem SlAt.nil {α : Type} {R : Rp α} {size : Nat} {w : World} {A : Option Addr} : SlAt R size w A ([] : List α) := fun h => absurd h (by simp)

/-- every reading of a type as data is a reading as a typed thing -/
def Opens {α : Type} (P : Program) (t : TypeId) (size : Nat) (R : Rp α) : Prop :=
  P.cellsOf t = size ∧ ∀ (H : Type) (enc : TypeId × Value → H) (w : World) (fuel : Nat) (cs : List Value) (x : DataW H × List MemPlace),
    DataW.trod enc P w 0 (fun _ => true) true fuel t cs = some x → (∀ n ∈ x.1.weights P t, n ≤ reachBytes) → ∃ y, R w cs y
theorem lt_of_cell {w : World} {a : Addr} {v : Value} (h : w.cell? a = some v) : a.block < w.heap.size ∧ a.spot = none := by
  unfold World.cell? at h
  split at h
  · rename_i hh
    refine ⟨(Array.getElem?_eq_some_iff.1 hh).1, ?_⟩
    split at h
    · cases h
    · rename_i hs
      simpa using hs
  · cases h

theorem opens_int {P : Program} {t : TypeId} (ht : P.underlying t = some (.int .i64)) (hc : P.cellsOf t = 1) : Opens P t 1 rInt :=
  ⟨hc, fun _ _ _ _ _ _ h _ => by obtain ⟨n, h1, _, h3⟩ := DataW.trod_int ht h; exact ⟨n, h1, R64.of_wf h3⟩⟩
theorem opens_bool {P : Program} {t : TypeId} (ht : P.underlying t = some .bool) (hc : P.cellsOf t = 1) : Opens P t 1 rBool :=
  ⟨hc, fun _ _ _ _ _ _ h _ => by obtain ⟨n, h1, _⟩ := DataW.trod_bool ht h; exact ⟨n, h1⟩⟩
theorem opens_str {P : Program} {t : TypeId} (ht : P.underlying t = some .string) (hc : P.cellsOf t = 1) : Opens P t 1 rStr :=
  ⟨hc, fun _ _ _ _ _ _ h hw => by
    obtain ⟨s, h1, h2, _⟩ := DataW.trod_string ht h
    subst h2
    refine ⟨s, h1, ?_⟩
    have h3 := hw s.data.toList.length (by simp only [DataW.weights, List.mem_singleton])
    have e : s.data.toList.length = s.size := by rw [Array.length_toList]; rfl
    rw [e] at h3
    exact h3⟩
theorem weightsAll_mem {H : Type} {P : Program} {e : TypeId} : ∀ {l : List (DataW H)} {d : DataW H}, d ∈ l → ∀ n ∈ d.weights P e, n ∈ DataW.weightsAll P e l
  | x :: l, d, hd, n, hn => by
    simp only [DataW.weightsAll, List.mem_append]
    rcases List.mem_cons.1 hd with rfl | hd
    · exact Or.inl hn
    · exact Or.inr (weightsAll_mem hd n hn)
theorem opens_sl {α : Type} {P : Program} {t e : TypeId} {size : Nat} {R : Rp α} (ht : P.underlying t = some (.slice e)) (hc : P.cellsOf t = 1) (hb : 1 ≤ P.bytesOf e) (hs : 1 ≤ size) (he : Opens P e size R) : Opens P t 1 (rSl R size) := by
  refine ⟨hc, fun H enc w fuel cs x h hw => ?_⟩
  rcases Go.Deep.open_slice ht h with ⟨rfl, _⟩ | ⟨a, len, cap, m, n, D, Pl, rfl, _, hlc, hcm, hm, rfl, hel⟩
  · exact ⟨[], none, 0, rfl, Nat.le_refl _, ⟨Nat.zero_le _, Nat.zero_le _⟩, SlAt.nil⟩
  · simp only [if_true] at hm
    subst hm
    have hcap : m ≤ reachBytes := by
      have h1 := hw ((((List.range len).map D).length + ((List.range (m - len)).map fun j => D (len + j)).length) * P.bytesOf e) (by simp [DataW.weights, ht])
      simp only [List.length_map, List.length_range] at h1
      have h2 : len + (m - len) = m := by omega
      rw [h2] at h1
      exact Nat.le_trans (Nat.le_mul_of_pos_right m hb) h1
    have hcap' : m ≤ maxLen := by unfold maxLen; unfold reachBytes at hcap; omega
    have hcell : ∀ i, i < m → ∃ cs', cs'.length = size ∧ (∀ j u, cs'[j]? = some u → w.cell? ((a.add (i * size)).add j) = some u) ∧ ∃ y, R w cs' y := fun i hi => by
      obtain ⟨cs', h1, h2⟩ := hel i hi
      rw [he.1] at h1
      obtain ⟨_, h3, h4⟩ := World.cells?_some h1
      refine ⟨cs', h3, fun j u hj => ?_, ?_⟩
      · have : j < size := by rw [← h3]; exact (List.getElem?_eq_some_iff.1 hj).1
        rw [h4 j this, hj]
      · refine he.2 H enc w n cs' _ h2 fun k hk => hw k ?_
        simp only [DataW.weights, ht, List.mem_cons, List.mem_append]
        rcases Nat.lt_or_ge i len with hil | hil
        · exact Or.inr (Or.inl (weightsAll_mem (List.mem_map.2 ⟨i, List.mem_range.2 hil, rfl⟩) k hk))
        · refine Or.inr (Or.inr (weightsAll_mem (d := D i) (List.mem_map.2 ⟨i - len, List.mem_range.2 (by omega), ?_⟩) k hk))
          rw [show len + (i - len) = i by omega]
    rcases Nat.eq_zero_or_pos len with h0 | hpos
    · subst h0
      exact ⟨[], some a, m, rfl, Nat.zero_le _, ⟨Nat.zero_le _, hcap'⟩, SlAt.nil⟩
    · have hsp : a.spot = none ∧ a.block < w.heap.size := by
        obtain ⟨cs', h1, h2, _⟩ := hcell 0 (by omega)
        obtain ⟨u, hu⟩ : ∃ u, cs'[0]? = some u := ⟨cs'[0]'(by omega), List.getElem?_eq_getElem _⟩
        have h3 := h2 0 u hu
        simp only [Nat.zero_mul, Addr.add, if_true] at h3
        exact ⟨(lt_of_cell h3).2, (lt_of_cell h3).1⟩
      obtain ⟨b, o, sp⟩ := a
      obtain ⟨rfl, hlt⟩ := hsp
      have hadd : ∀ o k : Nat, (⟨b, o, none⟩ : Addr).add k = ⟨b, o + k, none⟩ := fun o k => by
        unfold Addr.add; split
        · simp [*]
        · rfl
      have hex : ∀ i : Nat, ∃ y : α, i < m → ∃ cs', cs'.length = size ∧ CellsAt w b (o + i * size) cs' ∧ R w cs' y := fun i => by
        by_cases hi : i < m
        · obtain ⟨cs', h1, h2, y, hy⟩ := hcell i hi
          refine ⟨y, fun _ => ⟨cs', h1, fun j u hj => ?_, hy⟩⟩
          have := h2 j u hj
          rw [hadd, hadd] at this
          exact this
        · obtain ⟨_, _, _, y, _⟩ := hcell 0 (by omega)
          exact ⟨y, fun h => absurd h hi⟩
      obtain ⟨f, hf⟩ := Classical.axiomOfChoice hex
      refine ⟨(List.range len).map f, some ⟨b, o, none⟩, m, by simp, by simpa using hlc, ⟨by simp; omega, hcap'⟩, fun _ => ⟨b, o, rfl, hlt, fun i hi => ?_⟩⟩
      have hi' : i < len := by simpa using hi
      obtain ⟨cs', h1, h2, h3⟩ := hf i (by omega)
      exact ⟨cs', h1, h2, by simpa using h3⟩

/-- a struct's reading, field by field -/
theorem struct_open {H : Type} {enc : TypeId × Value → H} {P : Program} {w : World} {fuel : Nat} {t : TypeId} {fs : Array Field} {cs : List Value} {x : DataW H × List MemPlace} (ht : P.underlying t = some (.struct fs))
    (h : DataW.trod enc P w 0 (fun _ => true) true fuel t cs = some x) (hw : ∀ n ∈ x.1.weights P t, n ≤ reachBytes) :
    cs.length = P.cellsOf t ∧ ∃ m, fuel = m + 1 ∧ ∀ (i : Nat) (f : Field), fs[i]? = some f → ∃ y, DataW.trod enc P w 0 (fun _ => true) true m f.type ((cs.drop f.offset).take (P.cellsOf f.type)) = some y ∧ ∀ n ∈ y.1.weights P f.type, n ≤ reachBytes := by
  obtain ⟨xs, n, hn, hx, hlen, hxl, hf⟩ := DataW.trod_struct ht h
  refine ⟨hlen, n, hn, fun i f hi => ?_⟩
  have hil : i < fs.size := (Array.getElem?_eq_some_iff.1 hi).1
  have hy : xs[i]? = some (xs[i]'(by omega)) := List.getElem?_eq_getElem (by omega)
  refine ⟨_, (hf i f hi).trans hy, fun k hk => hw k ?_⟩
  subst hx
  simp only [DataW.weights, ht]
  refine DataW.weights_mem_each (j := i) (t := f.type) (d := (xs[i]'(by omega)).1) ?_ ?_ k hk
  · rw [List.getElem?_map, Array.getElem?_toList, hi]; rfl
  · rw [List.getElem?_map, hy]; rfl
/-- a field's reading as a typed thing -/
theorem Opens.field {α : Type} {P : Program} {H : Type} {enc : TypeId × Value → H} {w : World} {m t size : Nat} {R : Rp α} (h : Opens P t size R) {off : Nat} {cs : List Value}
    (hy : ∃ y, DataW.trod enc P w 0 (fun _ => true) true m t ((cs.drop off).take (P.cellsOf t)) = some y ∧ ∀ n ∈ y.1.weights P t, n ≤ reachBytes) : ∃ z, R w ((cs.drop off).take size) z := by
  obtain ⟨y, h1, h2⟩ := hy
  have h3 := h.2 H enc w m _ y h1 h2
  rw [h.1] at h3
  exact h3

/-! ### A law's arguments -/
section
variable {H : Type} {enc : TypeId × Value → H} {P : Program} {w : World} {base : Nat} {t : TypeId} {v : Value} {d : DataW H} {ps : List MemPlace}
theorem arg_int (ht : P.underlying t = some (.int .i64)) (hv : Value.okWide P w .any base t v) (h : DataW.Trod enc P w 0 (fun _ => true) true t v d ps) : ∃ n, v = .int .i64 n ∧ R64 n := by
  obtain ⟨n, hv, _, _, hw⟩ := open_int ht hv h
  exact ⟨n, hv, R64.of_wf hw⟩
theorem arg_bool (ht : P.underlying t = some .bool) (hv : Value.okWide P w .any base t v) (h : DataW.Trod enc P w 0 (fun _ => true) true t v d ps) : ∃ x, v = .bool x := by
  obtain ⟨x, hv, _⟩ := open_bool ht hv h
  exact ⟨x, hv⟩
theorem arg_str (ht : P.underlying t = some .string) (hv : Value.okWide P w .any base t v) (h : DataW.Trod enc P w 0 (fun _ => true) true t v d ps) (hw : ∀ n ∈ d.weights P t, n ≤ reachBytes) : ∃ s, v = .string s ∧ s.size ≤ reachBytes := by
  obtain ⟨s, hv, hd, _, _⟩ := Go.ChangeMaps.open_string ht hv h
  subst hd
  refine ⟨s, hv, ?_⟩
  have h3 := hw s.data.toList.length (by simp only [DataW.weights, List.mem_singleton])
  have e : s.data.toList.length = s.size := by rw [Array.length_toList]; rfl
  rw [e] at h3
  exact h3
theorem arg_sl {α : Type} {e : TypeId} {size : Nat} {R : Rp α} (ho : Opens P t 1 (rSl R size)) (ht : P.underlying t = some (.slice e)) (hv : Value.okWide P w .any base t v) (h : DataW.Trod enc P w 0 (fun _ => true) true t v d ps)
    (hw : ∀ n ∈ d.weights P t, n ≤ reachBytes) : ∃ (l : List α) (A : Option Addr) (c : Nat), v = .slice A l.length c ∧ l.length ≤ c ∧ (l.length ≤ reachBytes ∧ c ≤ maxLen) ∧ SlAt R size w A l := by
  obtain ⟨a, len, cap, rfl⟩ := okWide_slice ht hv
  obtain ⟨fuel, hf⟩ := h
  obtain ⟨l, A, c, h1, h2, h3, h4⟩ := ho.2 H enc w fuel _ _ hf hw
  simp only [Value.cells, List.cons.injEq, Value.slice.injEq, and_true] at h1
  obtain ⟨rfl, rfl, rfl⟩ := h1
  exact ⟨l, _, _, rfl, h2, h3, h4⟩
theorem arg_struct {α : Type} {fs : Array Field} {size : Nat} {R : Rp α} (ho : Opens P t size R) (ht : P.underlying t = some (.struct fs)) (hv : Value.okWide P w .any base t v) (h : DataW.Trod enc P w 0 (fun _ => true) true t v d ps)
    (hw : ∀ n ∈ d.weights P t, n ≤ reachBytes) : ∃ (x : α) (cs : List Value), v = .agg cs.toArray ∧ R w cs x := by
  obtain ⟨cs, rfl, _⟩ := okWide_struct ht hv
  obtain ⟨fuel, hf⟩ := h
  obtain ⟨x, hx⟩ := ho.2 H enc w fuel _ _ hf hw
  exact ⟨x, cs.toList, by simp, by simpa [Value.cells] using hx⟩
end
/-- all arguments read behind the call as they read before -/
theorem trodAll_below {H : Type} {enc : TypeId × Value → H} {P : Program} (hl : laidOutB P = true) {W W' : World} (hb : Below W.heap.size W W') {sp : Nat → Bool} :
    ∀ {ts : List TypeId} {vs : List Value} {ds : List (DataW H)} {ps : List MemPlace}, (∀ t ∈ ts, P.readableRec t = true ∧ t < P.types.size) → (∀ p ∈ ps, p.block < W.heap.size) → (∀ p ∈ ps, sp p.block = true) →
      DataW.TrodAll enc P W 0 (fun _ => true) true ts vs ds ps → DataW.TrodAll enc P W' 0 sp true ts vs ds ps
  | [], [], [], _, _, _, _, h => h
  | t :: ts, v :: vs, d :: ds, ps, ht, hlt, hsp, ⟨p, q, h1, h2, h3⟩ => by
    subst h3
    obtain ⟨hr, hrow⟩ := ht t (List.mem_cons_self ..)
    refine ⟨p, q, Go.WideElems.Trod_stays hl hr hrow h1 (fun x hx => hb.same (hlt x (List.mem_append_left _ hx))) (fun x hx => hsp x (List.mem_append_left _ hx)), ?_, rfl⟩
    exact trodAll_below hl hb (fun t' ht' => ht t' (List.mem_cons_of_mem _ ht')) (fun x hx => hlt x (List.mem_append_right _ hx)) (fun x hx => hsp x (List.mem_append_right _ hx)) h2
/-- THE ROW's STEP: the law returns true, and what it makes is new. -/
theorem law_lift {H : Type} {enc : TypeId × Value → H} {C : Checked} {os : Os} {f : FuncId} {fn : Func} {s : ChangeSpec} {bt : TypeId}
    (own : ownKnob C.prog.godebug = none) (started : os.Started) (noInit : C.prog.inits.idxOf? f = none) (hfn : C.prog.funcs[f]? = some fn)
    (witness : ∃ (w : World) (tape : Tape) (i : Input), w.os = os ∧ (w.forCall tape i).Shaped C.prog ∧ i.vars = [] ∧ Input.okWide C.prog (w.forCall tape i) .any w.heap.size f i ∧
      s.pre6 enc C.prog fn [] false (w.forCall tape i).memory i.args ∧ ({} : Assume).holds C.prog (lone (Frame.enter C.prog f i.args .normal) [] (w.forCall tape i)))
    (hl : laidOutB C.prog = true) (hts : ∀ t ∈ fn.params.toList, C.prog.readableRec t = true ∧ t < C.prog.types.size) (hvars : s.vars = []) (hvt : s.plain.varTypes C.prog = [])
    (hspec : ∀ (W : World) (args : Array Value) (ds : List (DataW H)) (ps : List MemPlace), DataW.TrodAll enc C.prog W 0 (fun _ => true) true fn.params.toList args.toList ds ps → s.fn H ds = { results := [.lit (.bool true)], args := ds })
    (hres : fn.resultTypes = #[bt]) (hbt : C.prog.underlying bt = some .bool)
    (walk : ∀ (W : World) (base : Nat) (args : Array Value) (ds : List (DataW H)) (ps : List MemPlace),
      (∀ (j : Nat) t v, fn.params[j]? = some t → args[j]? = some v → Value.okWide C.prog W .any base t v) →
      DataW.TrodAll enc C.prog W 0 (fun _ => true) true fn.params.toList args.toList ds ps →
      (∀ n ∈ DataW.weightsEach C.prog fn.params.toList ds, n ≤ reachBytes) →
      Calls C.prog f args W fun e W' => e = .returned (.bool true) ∧ Below W.heap.size W W') :
    ReturnsInHanded {} C os f .any (s.pre6 enc C.prog fn [] false) (s.post enc C.prog fn false true false false) := by
  refine returnsInHanded_of_change_sized own started noInit hfn witness ?_
  intro W base args ds gs before hval hW _ hsz _
  have hlt : ∀ p ∈ before, p.block < W.heap.size := fun p hp => hW.lt p hp
  have hW0 := hW
  obtain ⟨p, q, hA, hV, rfl, hz, hn⟩ := hW0
  rw [hvars] at hV
  obtain ⟨rfl, rfl⟩ := trodVars_none hV
  have hsp := hspec W args ds p hA
  refine (walk W base args ds p hval hA ?_).mono fun e W' ⟨he, hb⟩ => ?_
  · intro n hn
    rw [hvt, List.append_nil, List.append_nil] at hsz
    exact of_decide_eq_true (List.all_eq_true.1 hsz n hn)
  · subst he
    refine ⟨_, rfl, ds, [], p ++ [], [], p, [], hW, ?_, ?_, ?_, World.keptBut_mono (fun x hx => ⟨hx, Or.inr (Or.inl (by simpa using hx))⟩) (hb.frame (· ∈ p ++ [])), fun h => by cases h⟩
    · rw [List.append_nil, hsp, hres]
      exact trodAll_mk1 (shut_bool hbt _)
    · rw [List.append_nil, hsp]
      exact trodAll_below hl hb hts (fun x hx => hlt x (by simpa using hx)) (fun x hx => by simpa using hlt x (by simpa using hx)) hA
    · rw [List.append_nil, hsp, hvars]
      rfl
end Go.Proofs.Ytjpcchipejmocaa
