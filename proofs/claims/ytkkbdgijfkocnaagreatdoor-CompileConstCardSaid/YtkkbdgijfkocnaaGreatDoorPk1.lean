/-
  What the statement leans on, part 1: Base, Spec, Append, Rowo, Region, Move, Glob, Shade1, Shade2.
-/
import Derived.WalkKit
import Derived.ProofKit
import Derived.SizedLaws
import Derived.Deep.Slices
import Derived.Deep.Quiet
import Derived.Deep.QuietTactic
import Derived.Maps.AppendAt
import Derived.OwnWalk
import Derived.BigQuiet
import Derived.StillTail
import Derived.Deep.RegionHeld3
import Derived.MapKept
import Derived.Great.BuildSlice
namespace Go.Proofs.YtkkbdgijfkocnaaGreatDoor
set_option linter.unusedVariables false
set_option linter.unusedSimpArgs false
open Go.RowKit Go.ChangeShapes Go.WideShapes
theorem hide {p : Prop} (h : p) : Hid p := h
def cellIn (w : World) (a : Addr) : Option Value := w.cell? a
def frozenIn (w : World) (a : Addr) : Bool := w.frozen? a
theorem jH {W w1 : World} (hb : Below W.heap.size W w1) : (∀ b o, w1.cell? ⟨b, o, none⟩ = if b < W.heap.size then W.cell? ⟨b, o, none⟩ else cellIn w1 ⟨b, o, none⟩) ∧
 (∀ b o, w1.frozen? ⟨b, o, none⟩ = if b < W.heap.size then W.frozen? ⟨b, o, none⟩ else frozenIn w1 ⟨b, o, none⟩) := by
 refine ⟨fun b o => ?_, fun b o => ?_⟩
 · split
   · rename_i h; exact hb.cell (p := ⟨b, o, none⟩) h
   · rfl
 · split
   · rename_i h; exact hb.frozen (p := ⟨b, o, none⟩) h
   · rfl
def cellNew (w : World) (o : Obj) (b j : Nat) : Option Value := (w.alloc o).cell? ⟨b, j, none⟩
def frozenNew (w : World) (o : Obj) (b j : Nat) : Bool := (w.alloc o).frozen? ⟨b, j, none⟩
theorem jp (w : World) (o : Obj) (b j : Nat) : (w.alloc o).cell? ⟨b, j, none⟩ = if b < w.heap.size then w.cell? ⟨b, j, none⟩ else cellNew w o b j := by
 split
 · rename_i h; exact World.cell?_alloc_past _ _ _ h
 · rfl
theorem zo (w : World) (o : Obj) (b j : Nat) : (w.alloc o).frozen? ⟨b, j, none⟩ = if b < w.heap.size then w.frozen? ⟨b, j, none⟩ else frozenNew w o b j := by
 split
 · rename_i h; exact World.frozen?_alloc_past _ _ _ h
 · rfl
theorem Below.step {B : Nat} {a w w' : World} (h : Below B a w) (k : Below w.heap.size w w') (hB : B ≤ w.heap.size) : Below B a w' := h.trans (k.mono hB)
theorem Below.lift {w w' : World} (h : Below w.heap.size w w') {w'' : World} (k : Below w'.heap.size w' w'') : Below w.heap.size w w'' := h.trans (k.mono h.size)
theorem Below.alloc1 {w w' : World} (h : Below w.heap.size w w') (o : Obj) : Below w.heap.size w (w'.alloc o) := h.alloc h.size o
open Classical in
noncomputable def ext (w d : World) : World := if Below w.heap.size w d then d else w
theorem jz (w d : World) : Below w.heap.size w (ext w d) := by
 unfold ext; split
 · assumption
 · exact Below.refl _ _
theorem ext_of {w w' : World} (h : Below w.heap.size w w') : ext w w' = w' := by unfold ext; rw [if_pos h]
theorem wM (w d : World) (b o : Nat) : (ext w d).cell? ⟨b, o, none⟩ = if b < w.heap.size then w.cell? ⟨b, o, none⟩ else cellIn (ext w d) ⟨b, o, none⟩ := (jH (jz w d)).1 b o
theorem js (w d : World) (b o : Nat) : (ext w d).frozen? ⟨b, o, none⟩ = if b < w.heap.size then w.frozen? ⟨b, o, none⟩ else frozenIn (ext w d) ⟨b, o, none⟩ := (jH (jz w d)).2 b o
theorem ext_ext {w d w' : World} (h : Below (ext w d).heap.size (ext w d) w') : ∃ d', w' = ext w d' :=
 ⟨w', (ext_of (Below.lift (jz w d) h)).symm⟩
theorem wA {P : Program} {f : FuncId} {fn : Func} (hf : P.funcs[f]? = some fn) (hname : (fn.name == "runtime.NumGoroutine") = false) (hb : fn.body.isNone = false) (args : Array Value) (w : World) :
 (callFunc f args).run P w = .ok (.enter f args) w := by
 have h1 : fn.name ≠ "runtime.NumGoroutine" := by simpa using hname
 have h2 : fn.body ≠ none := by intro e; rw [e] at hb; cases hb
 simp [callFunc, hf, h1, h2]
def R64 (n : Int) : Prop := -9223372036854775808 ≤ n ∧ n ≤ 9223372036854775807
theorem R64.lo {n : Int} (h : R64 n) : -9223372036854775808 ≤ n := h.1
theorem R64.hi {n : Int} (h : R64 n) : n ≤ 9223372036854775807 := h.2
theorem R64.of_wf {n : Int} (h : (Lit.int .i64 n).wf = true) : R64 n := by
 simpa [Lit.wf, IntKind.min, IntKind.max, IntKind.signed, IntKind.bits, R64] using h
theorem R64.wf {n : Int} (h : R64 n) : (Lit.int .i64 n).wf = true := by
 simpa [Lit.wf, IntKind.min, IntKind.max, IntKind.signed, IntKind.bits, R64] using h
abbrev Rp (α : Type) := World → List Value → α → Prop
def CellsAt (w : World) (b o : Nat) (cs : List Value) : Prop := ∀ j u, cs[j]? = some u → w.cell? ⟨b, o + j, none⟩ = some u
def SlAt {α : Type} (R : Rp α) (size : Nat) (w : World) (A : Option Addr) (l : List α) : Prop :=
 0 < l.length → ∃ b o, A = some ⟨b, o, none⟩ ∧ b < w.heap.size ∧ ∀ i (h : i < l.length), ∃ cs, cs.length = size ∧ CellsAt w b (o + i * size) cs ∧ R w cs l[i]
def rInt : Rp Int := fun _ cs n => cs = [.int .i64 n] ∧ R64 n
def rBool : Rp Bool := fun _ cs x => cs = [.bool x]
def rStr : Rp ByteArray := fun _ cs s => cs = [.string s] ∧ s.size ≤ reachBytes
def rSl {α : Type} (R : Rp α) (size : Nat) : Rp (List α) := fun w cs l => ∃ A c, cs = [.slice A l.length c] ∧ l.length ≤ c ∧ (l.length ≤ reachBytes ∧ c ≤ maxLen) ∧ SlAt R size w A l
def Keeps {α : Type} (R : Rp α) : Prop := ∀ w w' cs x, Below w.heap.size w w' → R w cs x → R w' cs x
theorem CellsAt.keep {w w' : World} {b o : Nat} {cs : List Value} (hb : Below w.heap.size w w') (hlt : b < w.heap.size) (h : CellsAt w b o cs) : CellsAt w' b o cs :=
 fun j u hj => (hb.cell (p := ⟨b, o + j, none⟩) hlt).trans (h j u hj)
theorem SlAt.keep {α : Type} {R : Rp α} (hR : Keeps R) {size : Nat} {w w' : World} {A : Option Addr} {l : List α} (hb : Below w.heap.size w w') (h : SlAt R size w A l) : SlAt R size w' A l := fun hl => by
 obtain ⟨b, o, hA, hlt, hc⟩ := h hl
 refine ⟨b, o, hA, Nat.lt_of_lt_of_le hlt hb.size, fun i hi => ?_⟩
 obtain ⟨cs, h1, h2, h3⟩ := hc i hi
 exact ⟨cs, h1, h2.keep hb hlt, hR _ _ _ _ hb h3⟩
theorem SlAt.at_ {α : Type} {R : Rp α} {size : Nat} {w : World} {A : Option Addr} {l : List α} (h : SlAt R size w A l) {k : Nat} (hk : k < l.length) :
 ∃ b o cs, A = some ⟨b, o, none⟩ ∧ b < w.heap.size ∧ cs.length = size ∧ CellsAt w b (o + k * size) cs ∧ R w cs l[k] := by
 obtain ⟨b, o, hA, hlt, hc⟩ := h (by omega)
 obtain ⟨cs, h1, h2, h3⟩ := hc k hk
 exact ⟨b, o, cs, hA, hlt, h1, h2, h3⟩
theorem SlAt.nil {α : Type} {R : Rp α} {size : Nat} {w : World} {A : Option Addr} : SlAt R size w A ([] : List α) := fun h => absurd h (by simp)
def Opens {α : Type} (P : Program) (t : TypeId) (size : Nat) (R : Rp α) : Prop :=
 P.cellsOf t = size ∧ ∀ (H : Type) (enc : TypeId × Value → H) (w : World) (fuel : Nat) (cs : List Value) (x : DataW H × List MemPlace),
  DataW.trod enc P w 0 (fun _ => true) true fuel t cs = some x → (∀ n ∈ x.1.weights P t, n ≤ reachBytes) → ∃ y, R w cs y
theorem lt_of_cell {w : World} {a : Addr} {v : Value} (h : w.cell? a = some v) : a.block < w.heap.size ∧ a.spot = none := by
 unfold World.cell? at h
 split at h
 · rename_i hh
   refine ⟨(Array.getElem?_eq_some_iff.1 hh).1, ?_⟩
   split at h
   · cases h
   · rename_i hs
     simpa using hs
 · cases h
theorem opens_int {P : Program} {t : TypeId} (ht : P.underlying t = some (.int .i64)) (hc : P.cellsOf t = 1) : Opens P t 1 rInt :=
 ⟨hc, fun _ _ _ _ _ _ h _ => by obtain ⟨n, h1, _, h3⟩ := DataW.trod_int ht h; exact ⟨n, h1, R64.of_wf h3⟩⟩
theorem opens_bool {P : Program} {t : TypeId} (ht : P.underlying t = some .bool) (hc : P.cellsOf t = 1) : Opens P t 1 rBool :=
 ⟨hc, fun _ _ _ _ _ _ h _ => by obtain ⟨n, h1, _⟩ := DataW.trod_bool ht h; exact ⟨n, h1⟩⟩
theorem opens_str {P : Program} {t : TypeId} (ht : P.underlying t = some .string) (hc : P.cellsOf t = 1) : Opens P t 1 rStr :=
 ⟨hc, fun _ _ _ _ _ _ h hw => by
  obtain ⟨s, h1, h2, _⟩ := DataW.trod_string ht h
  subst h2
  refine ⟨s, h1, ?_⟩
  have h3 := hw s.data.toList.length (by simp only [DataW.weights, List.mem_singleton])
  have e : s.data.toList.length = s.size := by rw [Array.length_toList]; rfl
  rw [e] at h3
  exact h3⟩
theorem jf {H : Type} {P : Program} {e : TypeId} : ∀ {l : List (DataW H)} {d : DataW H}, d ∈ l → ∀ n ∈ d.weights P e, n ∈ DataW.weightsAll P e l
 | x :: l, d, hd, n, hn => by
   simp only [DataW.weightsAll, List.mem_append]
   rcases List.mem_cons.1 hd with rfl | hd
   · exact Or.inl hn
   · exact Or.inr (jf hd n hn)
theorem wQ {α : Type} {P : Program} {t e : TypeId} {size : Nat} {R : Rp α} (ht : P.underlying t = some (.slice e)) (hc : P.cellsOf t = 1) (hb : 1 ≤ P.bytesOf e) (hs : 1 ≤ size) (he : Opens P e size R) : Opens P t 1 (rSl R size) := by
 refine ⟨hc, fun H enc w fuel cs x h hw => ?_⟩
 rcases Go.Deep.open_slice ht h with ⟨rfl, _⟩ | ⟨a, len, cap, m, n, D, Pl, rfl, _, hlc, hcm, hm, rfl, hel⟩
 · exact ⟨[], none, 0, rfl, Nat.le_refl _, ⟨Nat.zero_le _, Nat.zero_le _⟩, SlAt.nil⟩
 · simp only [if_true] at hm
   subst hm
   have hcap : m ≤ reachBytes := by
    have h1 := hw ((((List.range len).map D).length + ((List.range (m - len)).map fun j => D (len + j)).length) * P.bytesOf e) (by simp [DataW.weights, ht])
    simp only [List.length_map, List.length_range] at h1
    have h2 : len + (m - len) = m := by omega
    rw [h2] at h1
    exact Nat.le_trans (Nat.le_mul_of_pos_right m hb) h1
   have hcap' : m ≤ maxLen := by unfold maxLen; unfold reachBytes at hcap; omega
   have hcell : ∀ i, i < m → ∃ cs', cs'.length = size ∧ (∀ j u, cs'[j]? = some u → w.cell? ((a.add (i * size)).add j) = some u) ∧ ∃ y, R w cs' y := fun i hi => by
    obtain ⟨cs', h1, h2⟩ := hel i hi
    rw [he.1] at h1
    obtain ⟨_, h3, h4⟩ := World.cells?_some h1
    refine ⟨cs', h3, fun j u hj => ?_, ?_⟩
    · have : j < size := by rw [← h3]; exact (List.getElem?_eq_some_iff.1 hj).1
      rw [h4 j this, hj]
    · refine he.2 H enc w n cs' _ h2 fun k hk => hw k ?_
      simp only [DataW.weights, ht, List.mem_cons, List.mem_append]
      rcases Nat.lt_or_ge i len with hil | hil
      · exact Or.inr (Or.inl (jf (List.mem_map.2 ⟨i, List.mem_range.2 hil, rfl⟩) k hk))
      · refine Or.inr (Or.inr (jf (d := D i) (List.mem_map.2 ⟨i - len, List.mem_range.2 (by omega), ?_⟩) k hk))
        rw [show len + (i - len) = i by omega]
   rcases Nat.eq_zero_or_pos len with h0 | hpos
   · subst h0
     exact ⟨[], some a, m, rfl, Nat.zero_le _, ⟨Nat.zero_le _, hcap'⟩, SlAt.nil⟩
   · have hsp : a.spot = none ∧ a.block < w.heap.size := by
      obtain ⟨cs', h1, h2, _⟩ := hcell 0 (by omega)
      obtain ⟨u, hu⟩ : ∃ u, cs'[0]? = some u := ⟨cs'[0]'(by omega), List.getElem?_eq_getElem _⟩
      have h3 := h2 0 u hu
      simp only [Nat.zero_mul, Addr.add, if_true] at h3
      exact ⟨(lt_of_cell h3).2, (lt_of_cell h3).1⟩
     obtain ⟨b, o, sp⟩ := a
     obtain ⟨rfl, hlt⟩ := hsp
     have hadd : ∀ o k : Nat, (⟨b, o, none⟩ : Addr).add k = ⟨b, o + k, none⟩ := fun o k => by
      unfold Addr.add; split
      · simp [*]
      · rfl
     have hex : ∀ i : Nat, ∃ y : α, i < m → ∃ cs', cs'.length = size ∧ CellsAt w b (o + i * size) cs' ∧ R w cs' y := fun i => by
      by_cases hi : i < m
      · obtain ⟨cs', h1, h2, y, hy⟩ := hcell i hi
        refine ⟨y, fun _ => ⟨cs', h1, fun j u hj => ?_, hy⟩⟩
        have := h2 j u hj
        rw [hadd, hadd] at this
        exact this
      · obtain ⟨_, _, _, y, _⟩ := hcell 0 (by omega)
        exact ⟨y, fun h => absurd h hi⟩
     obtain ⟨f, hf⟩ := Classical.axiomOfChoice hex
     refine ⟨(List.range len).map f, some ⟨b, o, none⟩, m, by simp, by simpa using hlc, ⟨by simp; omega, hcap'⟩, fun _ => ⟨b, o, rfl, hlt, fun i hi => ?_⟩⟩
     have hi' : i < len := by simpa using hi
     obtain ⟨cs', h1, h2, h3⟩ := hf i (by omega)
     exact ⟨cs', h1, h2, by simpa using h3⟩
theorem jo {H : Type} {enc : TypeId × Value → H} {P : Program} {w : World} {fuel : Nat} {t : TypeId} {fs : Array Field} {cs : List Value} {x : DataW H × List MemPlace} (ht : P.underlying t = some (.struct fs))
 (h : DataW.trod enc P w 0 (fun _ => true) true fuel t cs = some x) (hw : ∀ n ∈ x.1.weights P t, n ≤ reachBytes) :
 cs.length = P.cellsOf t ∧ ∃ m, fuel = m + 1 ∧ ∀ (i : Nat) (f : Field), fs[i]? = some f → ∃ y, DataW.trod enc P w 0 (fun _ => true) true m f.type ((cs.drop f.offset).take (P.cellsOf f.type)) = some y ∧ ∀ n ∈ y.1.weights P f.type, n ≤ reachBytes := by
 obtain ⟨xs, n, hn, hx, hlen, hxl, hf⟩ := DataW.trod_struct ht h
 refine ⟨hlen, n, hn, fun i f hi => ?_⟩
 have hil : i < fs.size := (Array.getElem?_eq_some_iff.1 hi).1
 have hy : xs[i]? = some (xs[i]'(by omega)) := List.getElem?_eq_getElem (by omega)
 refine ⟨_, (hf i f hi).trans hy, fun k hk => hw k ?_⟩
 subst hx
 simp only [DataW.weights, ht]
 refine DataW.weights_mem_each (j := i) (t := f.type) (d := (xs[i]'(by omega)).1) ?_ ?_ k hk
 · rw [List.getElem?_map, Array.getElem?_toList, hi]; rfl
 · rw [List.getElem?_map, hy]; rfl
theorem Opens.field {α : Type} {P : Program} {H : Type} {enc : TypeId × Value → H} {w : World} {m t size : Nat} {R : Rp α} (h : Opens P t size R) {off : Nat} {cs : List Value}
 (hy : ∃ y, DataW.trod enc P w 0 (fun _ => true) true m t ((cs.drop off).take (P.cellsOf t)) = some y ∧ ∀ n ∈ y.1.weights P t, n ≤ reachBytes) : ∃ z, R w ((cs.drop off).take size) z := by
 obtain ⟨y, h1, h2⟩ := hy
 have h3 := h.2 H enc w m _ y h1 h2
 rw [h.1] at h3
 exact h3
section
variable {H : Type} {enc : TypeId × Value → H} {P : Program} {w : World} {base : Nat} {t : TypeId} {v : Value} {d : DataW H} {ps : List MemPlace}
theorem arg_struct {α : Type} {fs : Array Field} {size : Nat} {R : Rp α} (ho : Opens P t size R) (ht : P.underlying t = some (.struct fs)) (hv : Value.okWide P w .any base t v) (h : DataW.Trod enc P w 0 (fun _ => true) true t v d ps)
 (hw : ∀ n ∈ d.weights P t, n ≤ reachBytes) : ∃ (x : α) (cs : List Value), v = .agg cs.toArray ∧ R w cs x := by
 obtain ⟨cs, rfl, _⟩ := okWide_struct ht hv
 obtain ⟨fuel, hf⟩ := h
 obtain ⟨x, hx⟩ := ho.2 H enc w fuel _ _ hf hw
 exact ⟨x, cs.toList, by simp, by simpa [Value.cells] using hx⟩
end
theorem trodAll_below {H : Type} {enc : TypeId × Value → H} {P : Program} (hl : laidOutB P = true) {W W' : World} (hb : Below W.heap.size W W') {sp : Nat → Bool} :
 ∀ {ts : List TypeId} {vs : List Value} {ds : List (DataW H)} {ps : List MemPlace}, (∀ t ∈ ts, P.readableRec t = true ∧ t < P.types.size) → (∀ p ∈ ps, p.block < W.heap.size) → (∀ p ∈ ps, sp p.block = true) →
   DataW.TrodAll enc P W 0 (fun _ => true) true ts vs ds ps → DataW.TrodAll enc P W' 0 sp true ts vs ds ps
 | [], [], [], _, _, _, _, h => h
 | t :: ts, v :: vs, d :: ds, ps, ht, hlt, hsp, ⟨p, q, h1, h2, h3⟩ => by
   subst h3
   obtain ⟨hr, hrow⟩ := ht t (List.mem_cons_self ..)
   refine ⟨p, q, Go.WideElems.Trod_stays hl hr hrow h1 (fun x hx => hb.same (hlt x (List.mem_append_left _ hx))) (fun x hx => hsp x (List.mem_append_left _ hx)), ?_, rfl⟩
   exact trodAll_below hl hb (fun t' ht' => ht t' (List.mem_cons_of_mem _ ht')) (fun x hx => hlt x (List.mem_append_right _ hx)) (fun x hx => hsp x (List.mem_append_right _ hx)) h2
end Go.Proofs.YtkkbdgijfkocnaaGreatDoor
namespace Go.Proofs.YtkkbdgijfkocnaaGreatDoor
set_option linter.unusedVariables false
set_option linter.unusedSimpArgs false
open Go.RowKit
structure Val where
 kind : Int
 n : Int
 s : ByteArray
structure Atr where
 cat : Int
 name : ByteArray
 must : Bool
structure Mat where
 attr : Atr
 op : Int
 val : Val
structure Giv where
 cat : Int
 name : ByteArray
 bag : List Val
abbrev Val.v (x : Val) : Value := .agg #[.int .i64 x.kind, .int .i64 x.n, .string x.s]
abbrev Val.cells (x : Val) : List Value := [.int .i64 x.kind, .int .i64 x.n, .string x.s]
abbrev Atr.cells (x : Atr) : List Value := [.int .i64 x.cat, .string x.name, .bool x.must]
abbrev Mat.cells (x : Mat) : List Value := [.int .i64 x.attr.cat, .string x.attr.name, .bool x.attr.must, .int .i64 x.op, .int .i64 x.val.kind, .int .i64 x.val.n, .string x.val.s]
structure Val.Fit (x : Val) : Prop where
 kind : R64 x.kind
 n : R64 x.n
 s : x.s.size ≤ reachBytes
structure Atr.Fit (x : Atr) : Prop where
 cat : R64 x.cat
 name : x.name.size ≤ reachBytes
structure Mat.Fit (x : Mat) : Prop where
 attr : x.attr.Fit
 op : R64 x.op
 val : x.val.Fit
def rVal : Rp Val := fun _ cs x => cs = x.cells ∧ x.Fit
def rAtr : Rp Atr := fun _ cs x => cs = x.cells ∧ x.Fit
def rMat : Rp Mat := fun _ cs x => cs = x.cells ∧ x.Fit
theorem keeps_mat : Keeps rMat := fun _ _ _ _ _ h => h
theorem SlAt.val {w : World} {A : Option Addr} {l : List Val} (h : SlAt rVal 3 w A l) {k : Nat} (hk : k < l.length) :
 ∃ b o, A = some ⟨b, o, none⟩ ∧ b < w.heap.size ∧ w.cell? ⟨b, o + k * 3, none⟩ = some (.int .i64 l[k].kind) ∧ w.cell? ⟨b, o + k * 3 + 1, none⟩ = some (.int .i64 l[k].n) ∧ w.cell? ⟨b, o + k * 3 + 2, none⟩ = some (.string l[k].s) ∧ l[k].Fit := by
 obtain ⟨b, o, cs, hA, hlt, _, hc, rfl, hf⟩ := h.at_ hk
 exact ⟨b, o, hA, hlt, hc 0 _ rfl, hc 1 _ rfl, hc 2 _ rfl, hf⟩
theorem SlAt.mat {w : World} {A : Option Addr} {l : List Mat} (h : SlAt rMat 7 w A l) {k : Nat} (hk : k < l.length) :
 ∃ b o, A = some ⟨b, o, none⟩ ∧ b < w.heap.size ∧ (w.cell? ⟨b, o + k * 7, none⟩ = some (.int .i64 l[k].attr.cat) ∧ w.cell? ⟨b, o + k * 7 + 1, none⟩ = some (.string l[k].attr.name) ∧ w.cell? ⟨b, o + k * 7 + 2, none⟩ = some (.bool l[k].attr.must)) ∧
   w.cell? ⟨b, o + k * 7 + 3, none⟩ = some (.int .i64 l[k].op) ∧
   (w.cell? ⟨b, o + k * 7 + 4, none⟩ = some (.int .i64 l[k].val.kind) ∧ w.cell? ⟨b, o + k * 7 + 5, none⟩ = some (.int .i64 l[k].val.n) ∧ w.cell? ⟨b, o + k * 7 + 6, none⟩ = some (.string l[k].val.s)) ∧ l[k].Fit := by
 obtain ⟨b, o, cs, hA, hlt, _, hc, rfl, hf⟩ := h.at_ hk
 exact ⟨b, o, hA, hlt, ⟨hc 0 _ rfl, hc 1 _ rfl, hc 2 _ rfl⟩, hc 3 _ rfl, ⟨hc 4 _ rfl, hc 5 _ rfl, hc 6 _ rfl⟩, hf⟩
theorem SlAt.sl {α : Type} {R : Rp α} {size : Nat} {w : World} {A : Option Addr} {l : List (List α)} (h : SlAt (rSl R size) 1 w A l) {k : Nat} (hk : k < l.length) :
 ∃ b o B c, A = some ⟨b, o, none⟩ ∧ b < w.heap.size ∧ w.cell? ⟨b, o + k, none⟩ = some (.slice B l[k].length c) ∧ l[k].length ≤ c ∧ (l[k].length ≤ reachBytes ∧ c ≤ maxLen) ∧ SlAt R size w B l[k] := by
 obtain ⟨b, o, cs, hA, hlt, _, hc, B, c, rfl, h1, h2, h3⟩ := h.at_ hk
 have := hc 0 _ rfl
 rw [Nat.mul_one, Nat.add_zero] at this
 exact ⟨b, o, B, c, hA, hlt, this, h1, h2, h3⟩
theorem SlAt.lone {w : World} {A : Option Addr} {x : Val} (h : SlAt rVal 3 w A [x]) :
 ∃ b o, A = some ⟨b, o, none⟩ ∧ b < w.heap.size ∧ (w.cell? ⟨b, o, none⟩ = some (.int .i64 x.kind) ∧ w.cell? ⟨b, o + 1, none⟩ = some (.int .i64 x.n) ∧ w.cell? ⟨b, o + 2, none⟩ = some (.string x.s)) ∧ x.Fit := by
 obtain ⟨b, o, rfl, hb, c0, c1, c2, hx⟩ := h.val (k := 0) (by simp)
 simp only [Nat.zero_mul, Nat.add_zero, List.getElem_cons_zero] at *
 exact ⟨_, _, rfl, hb, ⟨c0, c1, c2⟩, hx⟩
theorem wh {a b : Bool} (h : a = b) : Ending.returned (.bool a) = .returned (.bool b) := by rw [h]
theorem qaz (s : ByteArray) : s.toList.isEmpty = decide (s.size = 0) := by
 rw [ByteArray.toList_eq]
 cases h : s with | mk d => cases d with | mk l => cases l <;> simp [ByteArray.size]
theorem toList_inj {s t : ByteArray} (h : s.toList = t.toList) : s = t := by
 rw [ByteArray.toList_eq, ByteArray.toList_eq] at h
 cases s; cases t; simp only at h; congr 1; exact Array.toList_inj.1 h
def okC (first : Bool) (c : Nat) : Bool := (97 ≤ c && c ≤ 122) || (!first && ((48 ≤ c && c ≤ 57) || c == 95))
def nameS (s : ByteArray) : Bool := decide (∀ i (h : i < s.size), okC (i == 0) s[i].toNat = true) && decide (0 < s.size) && decide (s.size ≤ 16)
theorem nameS_no {s : ByteArray} {k : Nat} (hk : k < s.size) (h : okC (k == 0) s[k].toNat = false) : nameS s = false := by
 unfold nameS
 have : decide (∀ i (h : i < s.size), okC (i == 0) s[i].toNat = true) = false := by
  simp only [decide_eq_false_iff_not]; intro h'; have := h' k hk; rw [h] at this; cases this
 rw [this]; rfl
theorem nameS_end {s : ByteArray} (h : ∀ i (h : i < s.size), i < s.size → okC (i == 0) s[i].toNat = true) : nameS s = (decide (0 < s.size) && decide (s.size ≤ 16)) := by
 unfold nameS
 rw [decide_eq_true (fun i hi => h i hi hi)]; rfl
theorem name_step {s : ByteArray} {k : Nat} (hk : k < s.size) (h : ∀ i (h : i < s.size), i < k → okC (i == 0) s[i].toNat = true) (h1 : okC (k == 0) s[k].toNat = true) : ∀ i (h : i < s.size), i < k + 1 → okC (i == 0) s[i].toNat = true := by
 intro i hi hi'
 by_cases e : i = k
 · subst e; exact h1
 · exact h i hi (by omega)
def Val.right (v : Val) : Bool :=
 if v.kind = 1 then (decide (v.n = 0) || decide (v.n = 1)) && decide (v.s.size = 0)
 else if v.kind = 2 then decide (v.s.size = 0)
 else if v.kind = 3 then decide (v.n = 0) && decide (v.s.size ≤ 64)
 else if v.kind = 4 then decide (0 ≤ v.n) && decide (v.n ≤ 1099511627776) && decide (v.s.size = 0)
 else if v.kind = 5 then decide (v.n = 0) && nameS v.s
 else false
def textsS (k : Int) : Bool := decide (k = 3) || decide (k = 5)
def lessB (a b : ByteArray) : Bool := Op.bytesLess a.toList b.toList
def lessS (a b : Val) : Bool × Int :=
 if !a.right || !b.right then (false, 1)
 else if a.kind ≠ b.kind ∨ a.kind = 1 then (false, 2)
 else if textsS a.kind then (lessB a.s b.s, 0)
 else (decide (a.n < b.n), 0)
def inI (n : Int) : Bool := decide (-9223372036854775808 ≤ n) && decide (n ≤ 9223372036854775807)
def addS (a b : Int) : Int × Int := if inI (a + b) then (a + b, 0) else (0, 3)
def subS (a b : Int) : Int × Int := if inI (a - b) then (a - b, 0) else (0, 3)
def mulS (a b : Int) : Int × Int := if inI (a * b) then (a * b, 0) else (0, 3)
def bitI (b : Bool) : Int := if b then 1 else 0
def truthS (b : Bool) : Val := ⟨1, bitI b, ⟨#[]⟩⟩
def noVal : Val := ⟨0, 0, ⟨#[]⟩⟩
def allS (kind : Int) (l : List Val) : Bool := l.all fun v => decide (v.kind = kind)
def mayS (op : Int) (l : List Val) : Bool := decide (6 ≤ op) && decide (op ≤ 13) && decide ((l.length : Int) = if op = 11 then 1 else 2) && l.all Val.right
def jW (a b : Val) : Bool := decide (a.kind = b.kind) && decide (a.n = b.n) && decide (a.s = b.s)
def qS (f : Int → Int → Int × Int) (a b : Val) : Val × Int :=
 if a.kind ≠ 2 ∨ b.kind ≠ 2 then (noVal, 2) else if (f a.n b.n).2 ≠ 0 then (noVal, (f a.n b.n).2) else (⟨2, (f a.n b.n).1, ⟨#[]⟩⟩, 0)
def zD (op : Int) (l : List Val) : Val × Int :=
 if !mayS op l then (noVal, 1) else
 let a := l.getD 0 noVal
 let b := l.getD 1 noVal
 if op = 6 then if a.kind ≠ b.kind then (noVal, 2) else (truthS (jW a b), 0)
 else if op = 7 then if (lessS a b).2 ≠ 0 then (noVal, (lessS a b).2) else (truthS (lessS a b).1, 0)
 else if op = 8 then qS addS a b
 else if op = 9 then qS subS a b
 else if op = 10 then qS mulS a b
 else if !allS 1 l then (noVal, 2)
 else if op = 11 then (truthS (a.n == 0), 0)
 else if op = 12 then (truthS (a.n == 1 && b.n == 1), 0)
 else (truthS (a.n == 1 || b.n == 1), 0)
section
variable {P : Program} {α : Type} {R : Rp α} {size : Nat}
def OwnF (f : α → List Value) (size : Nat) (w : World) (base : Nat) (e : TypeId) (v : Value) (l : List α) : Prop := w.ownsRow base e size v l.length (l.flatMap f)
theorem flat_get {f : α → List Value} (hf : ∀ x, (f x).length = size) : ∀ (l : List α) (i : Nat) (hi : i < l.length) (j : Nat), j < size → (l.flatMap f)[i * size + j]? = (f l[i])[j]? := by
 intro l
 induction l with
 | nil => intro i hi; simp at hi
 | cons x l ih =>
   intro i hi j hj
   cases i with
   | zero => simp only [Nat.zero_mul, Nat.zero_add, List.flatMap_cons, List.getElem_cons_zero]; rw [List.getElem?_append_left (by rw [hf]; exact hj)]
   | succ i =>
     rw [List.flatMap_cons, List.getElem?_append_right (by rw [hf]; have := Nat.le_mul_of_pos_left size (show 0 < i + 1 by omega); omega), hf]
     have e : (i + 1) * size + j - size = i * size + j := by rw [Nat.succ_mul]; omega
     rw [e, ih i (by simpa using hi) j hj]
     rfl
theorem zt {f : α → List Value} (hf : ∀ x, (f x).length = size) (l : List α) : (l.flatMap f).length = l.length * size := by
 induction l with
 | nil => simp
 | cons x l ih => rw [List.flatMap_cons, List.length_append, ih, hf, List.length_cons, Nat.succ_mul]; omega
theorem OwnF.shape {f : α → List Value} {w : World} {base : Nat} {e : TypeId} {v : Value} {l : List α} (h : OwnF f size w base e v l) : ∃ A c, v = .slice A l.length c ∧ l.length ≤ c := by
 rcases h.2 with ⟨rfl, h0⟩ | ⟨g, cap, cur, rfl, _, _, hc, _⟩
 · exact ⟨none, 0, by rw [h0], by omega⟩
 · exact ⟨_, cap, rfl, hc⟩
theorem OwnF.slat {f : α → List Value} (hf : ∀ x, (f x).length = size) {w : World} {base : Nat} {e : TypeId} {A : Option Addr} {c : Nat} {l : List α} (h : OwnF f size w base e (.slice A l.length c) l) (hR : ∀ x ∈ l, R w (f x) x) :
 SlAt R size w A l := fun hl => by
 rcases h.2 with ⟨he, h0⟩ | ⟨g, cap, cur, he, hb, hh, hc, _, hcs, htake⟩
 · omega
 · simp only [Value.slice.injEq] at he
   obtain ⟨rfl, _, rfl⟩ := he
   refine ⟨g, 0, rfl, lt_of_block hh, fun i hi => ⟨f l[i], hf _, fun j u hj => ?_, hR _ (List.getElem_mem hi)⟩⟩
   have hj' : j < size := by rw [← hf l[i]]; exact (List.getElem?_eq_some_iff.1 hj).1
   have h1 := flat_get hf l i hi j hj'
   rw [hj] at h1
   rw [← htake] at h1
   have hlt : i * size + j < l.length * size := by
    have := Nat.mul_le_mul_right size (show i + 1 ≤ l.length by omega)
    rw [Nat.succ_mul] at this; omega
   rw [List.getElem?_take_of_lt hlt] at h1
   have hcell : w.cell? ⟨g, 0 + i * size + j, none⟩ = cur[i * size + j]? := by
    unfold World.cell?
    rw [hh]
    simp
   rw [hcell]
   simpa using h1
theorem ownF_nil (f : α → List Value) (w : World) (base : Nat) (e : TypeId) : OwnF f size w base e (.slice none 0 0) [] := World.ownsRow_nil _ _ _ _
theorem OwnF.alloc {f : α → List Value} {w : World} {base : Nat} {e : TypeId} {v : Value} {l : List α} (h : OwnF f size w base e v l) (o : Obj) : OwnF f size (w.alloc o) base e v l := World.ownsRow.alloc h o
theorem OwnF.below {f : α → List Value} {w w' : World} {base : Nat} {e : TypeId} {v : Value} {l : List α} (h : OwnF f size w base e v l) (hb : Below w.heap.size w w') : OwnF f size w' base e v l := by
 refine ⟨h.1, ?_⟩
 rcases h.2 with h0 | ⟨g, cap, cur, hv, hg, hh, r⟩
 · exact Or.inl h0
 · exact Or.inr ⟨g, cap, cur, hv, hg, (hb.block g (lt_of_block hh)).trans hh, r⟩
theorem run_append_none (w : World) (t ty e : TypeId) (i : TypeInfo) (ht : P.underlying t = some (.slice e)) (hi : P.info? e = some i) (base size : Nat)
 (v : Value) (n : Nat) (xs : List Value) (hown : w.ownsRow base e size v n xs) (c : Nat) : (Builtin.append_ #[t, t] ty #[v, .slice none 0 c]).run P w = .ok v w := by
 rcases hown.2 with ⟨rfl, rfl⟩ | ⟨g, cap, cur, rfl, _, _, hnc, _⟩
 · simp [Builtin.append_, run_underlying ht, sizeOf, typeInfo, hi, Builtin.lenOf, Builtin.firstCells]
 · simp [Builtin.append_, run_underlying ht, sizeOf, typeInfo, hi, Builtin.lenOf, Builtin.firstCells, hnc, storeCells]
end
abbrev RF (α : Type) := (Nat → Prop) → Rp α
def SlAtA {α : Type} (ok : Nat → Prop) (R : Rp α) (size : Nat) (w : World) (A : Option Addr) (l : List α) : Prop :=
 0 < l.length → ∃ b o, A = some ⟨b, o, none⟩ ∧ ok b ∧ b < w.heap.size ∧ ∀ i (h : i < l.length), ∃ cs, cs.length = size ∧ CellsAt w b (o + i * size) cs ∧ R w cs l[i]
structure SameOn (ok : Nat → Prop) (w w' : World) : Prop where
 size : w.heap.size ≤ w'.heap.size
 block : ∀ b, b < w.heap.size → ok b → w'.heap[b]? = w.heap[b]?
structure Good {α : Type} (R : RF α) : Prop where
 keep : ∀ ok w w' cs x, SameOn ok w w' → R ok w cs x → R ok w' cs x
 weak : ∀ ok ok' w cs x, (∀ b, b < w.heap.size → ok b → ok' b) → R ok w cs x → R ok' w cs x
theorem SameOn.of {ok : Nat → Prop} {w w' : World} (h : Below w.heap.size w w') : SameOn ok w w' := ⟨h.size, fun b hb _ => h.block b hb⟩
theorem SlAtA.keep {α : Type} {R : RF α} (hR : Good R) {ok : Nat → Prop} {size : Nat} {w w' : World} {A : Option Addr} {l : List α} (hs : SameOn ok w w') (h : SlAtA ok (R ok) size w A l) : SlAtA ok (R ok) size w' A l := fun hl => by
 obtain ⟨b, o, hA, hok, hlt, hc⟩ := h hl
 refine ⟨b, o, hA, hok, Nat.lt_of_lt_of_le hlt hs.size, fun i hi => ?_⟩
 obtain ⟨cs, h1, h2, h3⟩ := hc i hi
 exact ⟨cs, h1, fun j u hj => (World.cell?_of_block (w := w) (a := ⟨b, o + i * size + j, none⟩) (hs.block b hlt hok)).trans (h2 j u hj), hR.keep _ _ _ _ _ hs h3⟩
theorem SlAtA.weak {α : Type} {R : RF α} (hR : Good R) {ok ok' : Nat → Prop} {size : Nat} {w : World} {A : Option Addr} {l : List α} (hs : ∀ b, b < w.heap.size → ok b → ok' b) (h : SlAtA ok (R ok) size w A l) : SlAtA ok' (R ok') size w A l := fun hl => by
 obtain ⟨b, o, hA, hok, hlt, hc⟩ := h hl
 refine ⟨b, o, hA, hs b hlt hok, hlt, fun i hi => ?_⟩
 obtain ⟨cs, h1, h2, h3⟩ := hc i hi
 exact ⟨cs, h1, h2, hR.weak _ _ _ _ _ hs h3⟩
def Forget {α : Type} (R : RF α) (R' : Rp α) : Prop := ∀ ok w cs x, R ok w cs x → R' w cs x
def Lifts {α : Type} (R : RF α) (R' : Rp α) : Prop := ∀ w cs x, R' w cs x → R (fun _ => True) w cs x
theorem SlAtA.forget {α : Type} {R : RF α} {R' : Rp α} (hf : Forget R R') {ok : Nat → Prop} {size : Nat} {w : World} {A : Option Addr} {l : List α} (h : SlAtA ok (R ok) size w A l) : SlAt R' size w A l := fun hl => by
 obtain ⟨b, o, hA, _, hlt, hc⟩ := h hl
 refine ⟨b, o, hA, hlt, fun i hi => ?_⟩
 obtain ⟨cs, h1, h2, h3⟩ := hc i hi
 exact ⟨cs, h1, h2, hf _ _ _ _ h3⟩
theorem SlAtA.lift {α : Type} {R : RF α} {R' : Rp α} (hf : Lifts R R') {size : Nat} {w : World} {A : Option Addr} {l : List α} (h : SlAt R' size w A l) : SlAtA (fun _ => True) (R fun _ => True) size w A l := fun hl => by
 obtain ⟨b, o, hA, hlt, hc⟩ := h hl
 refine ⟨b, o, hA, trivial, hlt, fun i hi => ?_⟩
 obtain ⟨cs, h1, h2, h3⟩ := hc i hi
 exact ⟨cs, h1, h2, hf _ _ _ h3⟩
theorem SlAtA.old {α : Type} {R : RF α} {R' : Rp α} (hR : Good R) (hf : Lifts R R') {ok : Nat → Prop} {size : Nat} {w w' : World} {A : Option Addr} {l : List α} (hb : Below w.heap.size w w') (hok : ∀ b, b < w.heap.size → ok b) (h : SlAt R' size w A l) : SlAtA ok (R ok) size w' A l :=
 (SlAtA.weak hR (fun b hb' _ => hok b hb') (SlAtA.lift hf h)).keep hR (SameOn.of hb)
theorem SlAtA.drop {α : Type} {ok : Nat → Prop} {R : Rp α} {size : Nat} {w : World} {A : Option Addr} {l : List α} (h : SlAtA ok R size w A l) : SlAt R size w A l := fun hl => by
 obtain ⟨b, o, hA, _, hlt, hc⟩ := h hl
 exact ⟨b, o, hA, hlt, hc⟩
abbrev Cel (size : Nat) := { cs : List Value // cs.length = size ∧ ∀ u ∈ cs, u.oneCell' = true }
def okR (ok : Nat → Prop) (v : Value) (b : Nat) : Prop := ok b ∧ some b ≠ v.ownBlock
def RowO {α : Type} (R : RF α) (size : Nat) (ok : Nat → Prop) (w : World) (base : Nat) (e : TypeId) (v : Value) (l : List α) : Prop :=
 ∃ css : List (Cel size), OwnF Subtype.val size w base e v css ∧ css.length = l.length ∧ ∀ i (h1 : i < css.length) (h2 : i < l.length), R (okR ok v) w css[i].val l[i]
section
variable {α : Type} {R : RF α} {size : Nat} {ok : Nat → Prop} {w w' : World} {base : Nat} {e : TypeId} {v : Value} {l : List α}
theorem rowO_nil : RowO R size ok w base e (.slice none 0 0) [] := ⟨[], ownF_nil _ _ _ _, rfl, fun i h1 => absurd h1 (by simp)⟩
theorem RowO.shape (h : RowO R size ok w base e v l) : ∃ A c, v = .slice A l.length c ∧ l.length ≤ c ∧ c ≤ maxLen := by
 obtain ⟨css, h1, h2, _⟩ := h
 rcases h1.2 with ⟨rfl, h0⟩ | ⟨g, cap, cur, rfl, _, _, hc, hm, _⟩
 · exact ⟨none, 0, by rw [← h2, h0], by omega, Nat.zero_le _⟩
 · exact ⟨_, cap, by rw [h2], by omega, hm⟩
theorem RowO.below (hR : Good R) (h : RowO R size ok w base e v l) (hb : Below w.heap.size w w') : RowO R size ok w' base e v l := by
 obtain ⟨css, h1, h2, h3⟩ := h
 exact ⟨css, h1.below hb, h2, fun i a b => hR.keep _ _ _ _ _ (SameOn.of hb) (h3 i a b)⟩
theorem RowO.slatA (hR : Good R) {A : Option Addr} {c : Nat} {ok' : Nat → Prop} (h : RowO R size ok w base e (.slice A l.length c) l) (hok : ∀ b, b < w.heap.size → ok b → ok' b) (hown : ∀ b, base ≤ b → b < w.heap.size → ok' b) : SlAtA ok' (R ok') size w A l := fun hl => by
 obtain ⟨css, h1, h2, h3⟩ := h
 have h1' : OwnF Subtype.val size w base e (.slice A css.length c) css := by rw [h2]; exact h1
 have hs := OwnF.slat (R := fun _ cs (y : Cel size) => cs = y.val) (fun x => x.2.1) h1' (fun x _ => rfl)
 rcases h1.2 with ⟨hv, h0⟩ | ⟨g, cap, cur, hv, hg, hh, _⟩
 · omega
 · obtain ⟨b, o, hA, hlt, hc⟩ := hs (by omega)
   simp only [Value.slice.injEq] at hv
   have hbg : b = g := by
    have := hA.symm.trans hv.1
    simp only [Option.some.injEq, Addr.mk.injEq] at this
    exact this.1
   refine ⟨b, o, hA, hown b (by omega) hlt, hlt, fun i hi => ?_⟩
   obtain ⟨cs, a1, a2, rfl⟩ := hc i (by omega)
   exact ⟨_, a1, a2, hR.weak _ _ _ _ _ (fun b hb h => hok b hb h.1) (h3 i (by omega) hi)⟩
theorem RowO.slat {R' : Rp α} (hR : Good R) (hf : Forget R R') {A : Option Addr} {c : Nat} (h : RowO R size ok w base e (.slice A l.length c) l) : SlAt R' size w A l :=
 (h.slatA (ok' := fun _ => True) hR (fun _ _ _ => trivial) (fun _ _ _ => trivial)).forget hf
end
section
variable {P : Program} {α : Type} {R : RF α} {size : Nat}
end
section
variable {P : Program} {ops : Array Oper} {C : World → Prop}
def qax (ops : Array Oper) : Nat → Nat → List (Nat × Bool)
 | 0, _ => []
 | f + 1, k => match (ops[k]?).bind (·.guard) with
   | none => []
   | some (j, b) => (j, b) :: qax ops f j
def wB (t : Tmp) : Operand → Bool
 | .tmp u => u == t
 | _ => false
def mayRead (ops : Array Oper) (k : Nat) (o : Oper) (g : Nat × Bool) (t : Tmp) : Bool :=
 (qax ops ops.size k).contains g ||
 match o.op with
 | .pick (.tmp c) x y => c != t && ((ops[g.1]?).bind (·.dst)) == some c && (!wB t x || g.2) && (!wB t y || !g.2)
 | _ => false
def specAt (ops : Array Oper) (k : Nat) (o : Oper) : Bool :=
 (match o.op with | .select .. => false | _ => true) &&
 (match o.guard with | none => true | some (j, _) => decide (j < k) && ((ops[j]?).bind (·.dst)).isSome) &&
 (List.range k).all fun i => match ops[i]? with
  | none => false
  | some oi => match oi.dst with
    | none => true
    | some t => o.dst != some t &&
      match oi.guard with
      | none => true
      | some g => !(o.op.operands.any (wB t)) || mayRead ops k o g t
def specB (ops : Array Oper) : Bool := (List.range ops.size).all fun k => match ops[k]? with | none => false | some o => specAt ops k o
def wpSpec (P : Program) (ops : Array Oper) (C : World → Prop) (Q : Act → Prop) : List Oper → Act → Prop
 | [], a => Q a
 | o :: rest, a => ∃ v, (Region.wanted o (yielded ops a.tmps) = true → ∀ w, C w → o.quietAt P a C w v) ∧ wpSpec P ops C Q rest (a.put o.dst v)
theorem zr {Q : Act → Prop} {a : Act} (h : Q a) : wpSpec P ops C Q [] a := h
theorem qF {Q : Act → Prop} {a : Act} {o : Oper} {rest : List Oper}
 (h : ∀ K : Act → Prop, (∀ a, wpSpec P ops C Q rest a → K a) → o.quiet P a C K) : wpSpec P ops C Q (o :: rest) a := by
 obtain ⟨v, h1, h2⟩ := h _ (fun _ h => h)
 exact ⟨v, fun _ => h1, h2⟩
structure Inv (ops : Array Oper) (k : Nat) (s r : Act) : Prop where
 size : r.tmps.size = s.tmps.size
 defers : r.defers = s.defers
 dead : ∀ i o t, i < k → ops[i]? = some o → o.dst = some t → Region.wanted o (yielded ops r.tmps) = false → r.tmps.getD t undef = undef
 agree : ∀ t, r.tmps.getD t undef = s.tmps.getD t undef ∨ ∃ i o, i < k ∧ ops[i]? = some o ∧ o.dst = some t ∧ Region.wanted o (yielded ops r.tmps) = false
theorem wL {ops : Array Oper} {tmps : Array Value} {j : Nat} {d : Tmp} (h : (ops[j]?).bind (·.dst) = some d) :
 yielded ops tmps j = match tmps.getD d undef with | .bool b => some b | _ => none := by
 unfold yielded
 rw [h]
 simp only [Option.bind_some]
 by_cases hd : d < tmps.size
 · simp [hd]
   split <;> simp_all
 · simp [hd, undef]
theorem put_getD (a : Act) (d : Tmp) (v : Value) (t : Tmp) : (a.put (some d) v).tmps.getD t undef = if d = t ∧ d < a.tmps.size then v else a.tmps.getD t undef := by
 simp only [Act.put]
 by_cases h : d = t
 · subst h
   by_cases hd : d < a.tmps.size
   · simp [hd]
   · simp [hd]
 · simp [h]
theorem put_size (a : Act) (d : Option Tmp) (v : Value) : (a.put d v).tmps.size = a.tmps.size := by
 cases d <;> simp [Act.put]
theorem put_defers (a : Act) (d : Option Tmp) (v : Value) : (a.put d v).defers = a.defers := by
 cases d <;> simp [Act.put]
theorem jR {k : Nat} {o : Oper} (h : specB ops = true) (hk : ops[k]? = some o) : specAt ops k o = true := by
 have hlt : k < ops.size := (Array.getElem?_eq_some_iff.1 hk).1
 have := List.all_eq_true.1 h k (List.mem_range.2 hlt)
 rw [hk] at this
 exact this
theorem specAt_sel {k : Nat} {o : Oper} (h : specAt ops k o = true) : ∀ cs b, o.op ≠ .select cs b := by
 intro cs b e
 simp [specAt, e] at h
theorem specAt_guard {k j : Nat} {b : Bool} {o : Oper} (h : specAt ops k o = true) (hg : o.guard = some (j, b)) : j < k ∧ ∃ d, (ops[j]?).bind (·.dst) = some d := by
 simp only [specAt, hg, Bool.and_eq_true, decide_eq_true_eq] at h
 exact ⟨h.1.2.1, Option.isSome_iff_exists.1 h.1.2.2⟩
theorem specAt_dst {k i : Nat} {o oi : Oper} {t : Tmp} (h : specAt ops k o = true) (hi : i < k) (hoi : ops[i]? = some oi) (ht : oi.dst = some t) : o.dst ≠ some t := by
 simp only [specAt, Bool.and_eq_true] at h
 have := List.all_eq_true.1 h.2 i (List.mem_range.2 hi)
 simp only [hoi, ht, Bool.and_eq_true, bne_iff_ne, ne_eq] at this
 exact this.1
theorem specAt_read {k i : Nat} {o oi : Oper} {t : Tmp} {g : Nat × Bool} (h : specAt ops k o = true) (hi : i < k) (hoi : ops[i]? = some oi) (ht : oi.dst = some t) (hg : oi.guard = some g) :
 (o.op.operands.any (wB t)) = false ∨ mayRead ops k o g t = true := by
 simp only [specAt, Bool.and_eq_true] at h
 have := List.all_eq_true.1 h.2 i (List.mem_range.2 hi)
 simp only [hoi, ht, hg, Bool.and_eq_true, Bool.or_eq_true, Bool.not_eq_true'] at this
 exact this.2
theorem wK {o : Oper} {j : Nat} {b : Bool} {y : Nat → Option Bool} (hg : o.guard = some (j, b)) : Region.wanted o y = (y j == some b) := by
 simp [Region.wanted, hg]
theorem Inv.live {k : Nat} {s r : Act} (I : Inv ops k s r) (hB : specB ops = true) {j : Nat} {b : Bool} {oj : Oper} {d : Tmp} (hj : j < k) (hoj : ops[j]? = some oj) (hd : oj.dst = some d)
 (hy : yielded ops r.tmps j = some b) : Region.wanted oj (yielded ops r.tmps) = true ∧ yielded ops s.tmps j = some b := by
 have hb : (ops[j]?).bind (·.dst) = some d := by rw [hoj]; exact hd
 have hv : r.tmps.getD d undef = .bool b := by
  rw [wL hb] at hy
  split at hy
  · rename_i x hx; rw [hx]; cases hy; rfl
  · cases hy
 have hlive : Region.wanted oj (yielded ops r.tmps) = true := by
  cases hw : Region.wanted oj (yielded ops r.tmps) with
  | true => rfl
  | false =>
    have := I.dead j oj d hj hoj hd hw
    rw [hv] at this; cases this
 refine ⟨hlive, ?_⟩
 rcases I.agree d with he | ⟨i, o, hi, ho, ht, hw⟩
 · rw [wL hb, ← he, hv]
 · have hij : i = j := by
    rcases Nat.lt_trichotomy i j with h | h | h
    · exact absurd hd (specAt_dst (jR hB hoj) h ho ht)
    · exact h
    · exact absurd ht (specAt_dst (jR hB ho) h hoj hd)
   subst hij
   have : o = oj := Option.some.inj (ho.symm.trans hoj)
   subst this
   rw [hlive] at hw; cases hw
theorem Inv.chain {k : Nat} {s r : Act} (I : Inv ops k s r) (hB : specB ops = true) : ∀ (f m : Nat) (o : Oper), ops[m]? = some o → m ≤ k → Region.wanted o (yielded ops r.tmps) = true →
 ∀ g ∈ qax ops f m, yielded ops r.tmps g.1 = some g.2
 | 0, _, _, _, _, _, _, hg => by simp [qax] at hg
 | f + 1, m, o, ho, hm, hw, g, hg => by
   unfold qax at hg
   rw [ho] at hg
   simp only [Option.bind_some] at hg
   cases hgo : o.guard with
   | none => rw [hgo] at hg; simp at hg
   | some jb =>
     obtain ⟨j, b⟩ := jb
     rw [hgo] at hg
     obtain ⟨hjm, d, hd⟩ := specAt_guard (jR hB ho) hgo
     have hy : yielded ops r.tmps j = some b := by
      rw [wK hgo] at hw; exact eq_of_beq hw
     rcases List.mem_cons.1 hg with rfl | hg
     · exact hy
     · cases hoj : ops[j]? with
       | none => rw [hoj] at hd; cases hd
       | some oj =>
         rw [hoj] at hd
         exact Inv.chain I hB f j oj hoj (by omega) (I.live hB (by omega) hoj hd hy).1 g hg
theorem Inv.exec {k : Nat} {s r : Act} (I : Inv ops k s r) (hB : specB ops = true) {o : Oper} (ho : ops[k]? = some o) (hw : Region.wanted o (yielded ops r.tmps) = true) : execOp r.eval o = execOp s.eval o := by
 have hA := jR hB ho
 have hch := I.chain hB ops.size k o ho (Nat.le_refl _) hw
 have key : ∀ x ∈ o.op.operands, r.eval x = s.eval x ∨ ∃ t g, x = .tmp t ∧ yielded ops r.tmps g.1 ≠ some g.2 ∧ (qax ops ops.size k).contains g = false ∧ mayRead ops k o g t = true := by
  intro x hx
  cases x with
  | tmp t =>
    rcases I.agree t with he | ⟨i, oi, hi, hoi, ht, hwi⟩
    · exact Or.inl he
    · right
      cases hg : oi.guard with
      | none => simp [Region.wanted, hg] at hwi
      | some g =>
        have hny : yielded ops r.tmps g.1 ≠ some g.2 := by
         obtain ⟨j, b⟩ := g
         rw [wK hg] at hwi
         simpa using hwi
        rcases specAt_read hA hi hoi ht hg with h | h
        · exfalso
          have hnone := Array.any_eq_false.1 h
          obtain ⟨n, hn, hxn⟩ := Array.mem_iff_getElem.1 hx
          have := hnone n hn
          rw [hxn] at this
          simp [wB] at this
        · refine ⟨t, g, rfl, hny, ?_, h⟩
          cases hc : (qax ops ops.size k).contains g with
          | false => rfl
          | true => exact absurd (hch g (by simpa using hc)) hny
  | const v => exact Or.inl rfl
  | global g => exact Or.inl rfl
  | func f => exact Or.inl rfl
 by_cases hall : ∀ x ∈ o.op.operands, r.eval x = s.eval x
 · exact execOp_congr o (specAt_sel hA) hall
 · obtain ⟨x, hx, hne⟩ := Classical.not_forall.1 hall |>.imp fun x h => by simpa using h
   rcases key x hx with h | ⟨t, g, rfl, hny, hnc, hm⟩
   · exact absurd h hne
   · simp only [mayRead, hnc, Bool.false_or] at hm
     split at hm
     · rename_i c x' y' hop
       obtain ⟨dst, op, type, pos, after, guard⟩ := o
       simp only at hop
       subst hop
       have hc : r.eval (.tmp c) = s.eval (.tmp c) := by
        rcases key (.tmp c) (by simp [Op.operands]) with h | ⟨t', g', ht', _, hnc', hm'⟩
        · exact h
        · injection ht' with ht'
          subst ht'
          simp only [mayRead, hnc', Bool.false_or, bne_self_eq_false, Bool.false_and] at hm'
          cases hm'
       have side : ∀ (z : Operand) (b : Bool), z ∈ (Op.pick (.tmp c) x' y').operands → (z = x' ∧ b = true ∨ z = y' ∧ b = false) → r.eval (.tmp c) = .bool b → r.eval z = s.eval z := by
        intro z b hz hzb hcb
        rcases key z hz with h | ⟨t', g', rfl, hny', hnc', hm'⟩
        · exact h
        · exfalso
          simp only [mayRead, hnc', Bool.false_or, Bool.and_eq_true, beq_iff_eq, Bool.or_eq_true, Bool.not_eq_true'] at hm'
          obtain ⟨⟨⟨_, hd⟩, h1⟩, h2⟩ := hm'
          apply hny'
          rw [wL hd]
          have : r.tmps.getD c undef = .bool b := hcb
          rw [this]
          rcases hzb with ⟨rfl, rfl⟩ | ⟨rfl, rfl⟩
          · rcases h1 with h1 | h1
            · simp [wB] at h1
            · simp [h1]
          · rcases h2 with h2 | h2
            · simp [wB] at h2
            · simp [h2]
       simp only [execOp]
       rw [← hc]
       cases hv : r.eval (.tmp c) with
       | bool b =>
         cases b with
         | true =>
           have := side x' true (by simp [Op.operands]) (Or.inl ⟨rfl, rfl⟩) hv
           simp [asBool, this]
         | false =>
           have := side y' false (by simp [Op.operands]) (Or.inr ⟨rfl, rfl⟩) hv
           simp [asBool, this]
       | _ => rfl
     · cases hm
def Agree (ops : Array Oper) (s r : Act) : Prop :=
 r.tmps.size = s.tmps.size ∧ r.defers = s.defers ∧ ∀ t, r.tmps.getD t undef = s.tmps.getD t undef ∨ ∃ o ∈ ops.toList, o.dst = some t ∧ o.guard.isSome = true
theorem Inv.done {k : Nat} {s r : Act} (I : Inv ops k s r) : Agree ops s r :=
 ⟨I.size, I.defers, fun t => (I.agree t).imp id fun ⟨i, o, _, ho, ht, hw⟩ => ⟨o, List.mem_of_getElem? (by rw [Array.getElem?_toList]; exact ho), ht, by
  cases hg : o.guard with
  | none => simp [Region.wanted, hg] at hw
  | some _ => rfl⟩⟩
theorem Inv.start (a : Act) : Inv ops 0 a a := ⟨rfl, rfl, fun _ _ _ hi => absurd hi (Nat.not_lt_zero _), fun _ => Or.inl rfl⟩
theorem yielded_put {r : Act} {j : Nat} {d : Tmp} {v : Value} (h : ∀ oj, ops[j]? = some oj → oj.dst ≠ some d) : yielded ops (r.put (some d) v).tmps j = yielded ops r.tmps j := by
 unfold yielded
 cases hj : ops[j]? with
 | none => rfl
 | some oj =>
   simp only [Option.bind_some]
   cases hd : oj.dst with
   | none => rfl
   | some d' =>
     have hne : d ≠ d' := fun e => h oj hj (by rw [hd, e])
     simp [Act.put, hne]
theorem wanted_stays {r : Act} (hB : specB ops = true) {k i : Nat} {o oi : Oper} {v : Value} (ho : ops[k]? = some o) (hoi : ops[i]? = some oi) (hi : i ≤ k) :
 Region.wanted oi (yielded ops (r.put o.dst v).tmps) = Region.wanted oi (yielded ops r.tmps) := by
 cases hd : o.dst with
 | none => rfl
 | some d =>
   unfold Region.wanted
   cases hg : oi.guard with
   | none => rfl
   | some g =>
     obtain ⟨j, b⟩ := g
     have hjk : j < k := Nat.lt_of_lt_of_le (specAt_guard (jR hB hoi) hg).1 hi
     simp only
     rw [yielded_put fun oj hoj e => specAt_dst (jR hB ho) hjk hoj e hd]
theorem Inv.next {k : Nat} {s r : Act} (I : Inv ops k s r) (hB : specB ops = true) {o : Oper} (ho : ops[k]? = some o) (u v : Value)
 (huv : u = v ∨ (Region.wanted o (yielded ops r.tmps) = false ∧ u = undef)) (hdead : Region.wanted o (yielded ops r.tmps) = false → u = undef) : Inv ops (k + 1) (s.put o.dst v) (r.put o.dst u) := by
 refine ⟨by rw [put_size, put_size, I.size], by rw [put_defers, put_defers, I.defers], ?_, ?_⟩
 · intro i oi t hi hoi ht hw
   rw [wanted_stays hB ho hoi (by omega)] at hw
   cases hd : o.dst with
   | none =>
     have hik : i < k := by
      rcases Nat.lt_or_ge i k with h | h
      · exact h
      · have : i = k := by omega
        subst this
        have : oi = o := Option.some.inj (hoi.symm.trans ho)
        subst this; rw [hd] at ht; cases ht
     exact I.dead i oi t hik hoi ht hw
   | some d =>
     rw [put_getD]
     split
     · rename_i hc
       rcases Nat.lt_or_ge i k with h | h
       · exact absurd (by rw [hd, hc.1]) (specAt_dst (jR hB ho) h hoi ht)
       · have : i = k := by omega
         subst this
         have : oi = o := Option.some.inj (hoi.symm.trans ho)
         subst this
         exact hdead hw
     · rename_i hc
       rcases Nat.lt_or_ge i k with h | h
       · exact I.dead i oi t h hoi ht hw
       · have : i = k := by omega
         subst this
         have : oi = o := Option.some.inj (hoi.symm.trans ho)
         subst this
         have hdt : d = t := by rw [hd] at ht; exact Option.some.inj ht
         have : ¬ d < r.tmps.size := fun h' => hc ⟨hdt, h'⟩
         subst hdt
         simp [this]
 · intro t
   cases hd : o.dst with
   | none =>
     rcases I.agree t with h | ⟨i, oi, hi, hoi, ht, hw⟩
     · exact Or.inl h
     · exact Or.inr ⟨i, oi, by omega, hoi, ht, hw⟩
   | some d =>
     rw [put_getD, put_getD, I.size]
     by_cases hc : d = t ∧ d < s.tmps.size
     · rw [if_pos hc, if_pos hc]
       rcases huv with h | ⟨h, _⟩
       · exact Or.inl h
       · refine Or.inr ⟨k, o, by omega, ho, by rw [hd, hc.1], ?_⟩
         have := wanted_stays (r := r) (v := u) hB ho ho (Nat.le_refl k)
         rw [hd] at this
         rw [this]; exact h
     · rw [if_neg hc, if_neg hc]
       rcases I.agree t with h | ⟨i, oi, hi, hoi, ht, hw⟩
       · exact Or.inl h
       · refine Or.inr ⟨i, oi, by omega, hoi, ht, ?_⟩
         have := wanted_stays (r := r) (v := u) hB ho hoi (by omega)
         rw [hd] at this
         rw [this]; exact hw
theorem zq {Qs Q : Act → Prop} (hB : specB ops = true) (hQ : ∀ s r, Agree ops s r → Qs s → Q r) : ∀ (l : List Oper) (k : Nat) (s r : Act), (∀ j, j < l.length → l[j]? = ops[k + j]?) → Inv ops k s r →
 wpSpec P ops C Qs l s → wpQuiet P ops C Q l r
 | [], _, s, r, _, I, h => hQ s r I.done h
 | o :: l, k, s, r, hl, I, ⟨v, h1, h2⟩ => by
   have ho : ops[k]? = some o := by simpa using (hl 0 (by simp)).symm
   have hl' : ∀ j, j < l.length → l[j]? = ops[(k + 1) + j]? := fun j hj => by have := hl (j + 1) (by simpa using hj); simpa [Nat.add_assoc, Nat.add_comm 1 j] using this
   unfold wpQuiet
   by_cases hw : Region.wanted o (yielded ops r.tmps) = true
   · rw [if_pos hw]
     have hex := I.exec hB ho hw
     have hws : Region.wanted o (yielded ops s.tmps) = true := by
      cases hg : o.guard with
      | none => simp [Region.wanted, hg]
      | some g =>
        obtain ⟨j, b⟩ := g
        obtain ⟨hjk, d, hd⟩ := specAt_guard (jR hB ho) hg
        cases hoj : ops[j]? with
        | none => rw [hoj] at hd; cases hd
        | some oj =>
          rw [hoj] at hd
          have hy : yielded ops r.tmps j = some b := by rw [wK hg] at hw; exact eq_of_beq hw
          rw [wK hg, (I.live hB hjk hoj hd hy).2]
          simp
     refine ⟨v, fun w hCw => ?_, zq hB hQ l (k + 1) _ _ hl' (I.next hB ho v v (Or.inl rfl) fun h => by rw [hw] at h; cases h) h2⟩
     have := h1 hws w hCw
     unfold Oper.quietAt at *
     rwa [hex]
   · rw [if_neg hw]
     have hw' : Region.wanted o (yielded ops r.tmps) = false := by simpa using hw
     exact zq hB hQ l (k + 1) _ _ hl' (I.next hB ho undef v (Or.inr ⟨hw', rfl⟩) fun _ => rfl) h2
def junk (us : Nat → Value) : List Oper → Act → Act
 | [], a => a
 | o :: l, a => junk us l (match o.guard, o.dst with | some _, some d => a.put (some d) (us d) | _, _ => a)
theorem junk_size (us : Nat → Value) : ∀ (l : List Oper) (a : Act), (junk us l a).tmps.size = a.tmps.size ∧ (junk us l a).defers = a.defers
 | [], _ => ⟨rfl, rfl⟩
 | o :: l, a => by
   unfold junk
   have := junk_size us l (match o.guard, o.dst with | some _, some d => a.put (some d) (us d) | _, _ => a)
   rw [this.1, this.2]
   split <;> simp [put_size, put_defers]
theorem junk_getD (us : Nat → Value) (t : Tmp) : ∀ (l : List Oper) (a : Act), (∀ d, d < a.tmps.size → a.tmps.getD t undef = us t ∨ True) →
 (junk us l a).tmps.getD t undef = if (∃ o ∈ l, o.dst = some t ∧ o.guard.isSome = true) ∧ t < a.tmps.size then us t else a.tmps.getD t undef
 | [], a, _ => by simp [junk]
 | o :: l, a, _ => by
   unfold junk
   rw [junk_getD us t l _ (fun _ _ => Or.inr trivial)]
   cases hg : o.guard with
   | none => simp [hg]
   | some g =>
     cases hd : o.dst with
     | none => simp [hd]
     | some d =>
       simp only [put_size, put_getD]
       by_cases hdt : d = t
       · subst hdt
         by_cases hlt : d < a.tmps.size
         · simp [hlt, hg, hd]
         · simp [hlt]
       · have : ¬ (some d = some t) := fun e => hdt (Option.some.inj e)
         simp [hdt, hd]
theorem getD_at (xs : Array Value) (t : Nat) (h : t < xs.size) : xs[t] = xs.getD t undef := by simp [h]
theorem jw {l : List Oper} {s r : Act} (h : Agree l.toArray s r) : ∃ us, r = junk us l s := by
 refine ⟨fun t => r.tmps.getD t undef, ?_⟩
 obtain ⟨h1, h2, h3⟩ := h
 have hs := junk_size (fun t => r.tmps.getD t undef) l s
 have : r.tmps = (junk (fun t => r.tmps.getD t undef) l s).tmps := by
  apply Array.ext
  · rw [hs.1, h1]
  · intro t ht ht'
    have hj := junk_getD (fun t => r.tmps.getD t undef) t l s (fun _ _ => Or.inr trivial)
    refine (getD_at _ t ht).trans (Eq.trans ?_ (getD_at _ t ht').symm)
    rw [hj]
    by_cases hc : (∃ o ∈ l, o.dst = some t ∧ o.guard.isSome = true) ∧ t < s.tmps.size
    · rw [if_pos hc]
    · rw [if_neg hc]
      rcases h3 t with h | ⟨o, ho, hd, hg⟩
      · exact h
      · exact absurd ⟨⟨o, by simpa using ho, hd, hg⟩, by rw [← h1]; exact ht⟩ hc
 obtain ⟨rt, rd⟩ := r
 have e : (junk (fun t => rt.getD t undef) l s) = ⟨(junk (fun t => rt.getD t undef) l s).tmps, (junk (fun t => rt.getD t undef) l s).defers⟩ := rfl
 rw [e, ← this, hs.2, ← h2]
theorem jA {Q : Act → Prop} {Q' : Exit → Act → World → Prop} (hQ : ∀ a w, C w → Q a → Q' .normal a w) : ∀ (l : List Oper) (a : Act) (w : World), C w → wpQuiet P ops C Q l a → wpList P ops Q' l a w
 | [], a, w, hC, h => hQ a w hC h
 | o :: l, a, w, hC, h => by
   unfold wpQuiet at h
   unfold wpList
   split
   · rename_i hw
     rw [if_pos hw] at h
     exact Or.inl (Oper.wp_of_quiet hC (fun a' w' hC' h' => jA hQ l a' w' hC' h') h)
   · rename_i hw
     rw [if_neg hw] at h
     exact jA hQ l _ w hC h
end
section
variable {P : Program} {ops : Array Oper} {md : Region.Mode} {C : World → Prop}
end
theorem wp_spec {P : Program} {id : Nat} {Q : Exit → Act → World → Prop} {a : Act} {w : World} {l : List Oper} (hS : specB l.toArray = true)
 (h : wpSpec P l.toArray (fun w' => w' = w) (fun a' => ∀ us, Q .normal (junk us l a') w) l a) : (Code.region id l.toArray false).wp P Q a w := by
 refine wp_region_lit (jA (C := fun w' => w' = w) (Q := fun a' => Q .normal a' w) (fun a' w' hw' h' => by subst hw'; exact h') l a w rfl ?_)
 refine zq hS (fun s r hA hs => ?_) l 0 a a (by simp) (Inv.start a) h
 obtain ⟨us, rfl⟩ := jw hA
 exact hs us
theorem wp_spec_ext {P : Program} {id : Nat} {Q : Exit → Act → World → Prop} {a : Act} {w : World} {l : List Oper} (hS : specB l.toArray = true)
 (h : wpSpec P l.toArray (fun w' => ∃ d, w' = ext w d) (fun a' => ∀ us w', Below w.heap.size w w' → Q .normal (junk us l a') w') l a) : (Code.region id l.toArray false).wp P Q a w := by
 refine wp_region_lit (jA (C := fun w' => ∃ d, w' = ext w d) (Q := fun a' => ∀ w', Below w.heap.size w w' → Q .normal a' w') (fun a' w' ⟨d, hd⟩ h' => h' w' (hd ▸ jz w d)) l a w ⟨w, (ext_of (Below.refl _ _)).symm⟩ ?_)
 refine zq hS (fun s r hA hs => ?_) l 0 a a (by simp) (Inv.start a) h
 obtain ⟨us, rfl⟩ := jw hA
 exact hs us
section
variable {P : Program} {ops : Array Oper} {md : Region.Mode} {Q : Exit → Act → World → Prop}
def wY (md : Region.Mode) (ops : Array Oper) : List (Nat × Bool) → Array Bool → Bool
 | [], ls => (Region.ready md ops ls).isEmpty
 | (i, b) :: r, ls => (if b then Region.free md ops ls i && (Region.ready md ops ls).contains i else Region.ready md ops ls == [i]) && wY md ops r (ls.setIfInBounds i true)
theorem wpAnyH_weak {S S' : World → Prop} (hS : ∀ x, S' x → S x) : ∀ (f : Nat) (ls : Array Bool) (a : Act) (w : World), wpAnyH P md ops Q S' f ls a w → wpAnyH P md ops Q S f ls a w
 | 0, _, _, _, h => h
 | f + 1, _, _, _, h => ⟨h.1, fun i hi => wpOp_mono (fun a' w' h' => ⟨hS _ h'.1, wpAnyH_weak hS f _ a' w' h'.2⟩) (h.2 i hi)⟩
theorem qk {B : Nat} {w w' : World} (h : Below B w w') : Below B w.drew w' := ⟨h.os, h.tape, h.output, h.size, h.block⟩
end
def nthO : List Oper → Nat → Option Oper
 | o :: _, 0 => some o
 | _ :: l, n + 1 => nthO l n
 | [], _ => none
theorem zG : ∀ (l : List Oper) (i : Nat), l.toArray[i]? = nthO l i
 | [], i => by simp [nthO]
 | o :: l, 0 => by simp [nthO]
 | o :: l, i + 1 => by have := zG l i; simpa [nthO] using this
section
variable {P : Program} {l : List Oper} {Q : Exit → Act → World → Prop} {i : Nat} {r : List (Nat × Bool)} {a : Act} {w : World} {o : Oper}
end
section
variable {P : Program} {ops : Array Oper} {md : Region.Mode} {Q : Exit → Act → World → Prop} {B : Nat}
end
section
variable {B : Nat} {P : Program} {l : List Oper} {Q : Exit → Act → World → Prop} {i : Nat} {r : List (Nat × Bool)} {a : Act} {w : World} {o : Oper}
end
section
variable {P : Program} {ops : Array Oper} {Q : Exit → Act → World → Prop} {a : Act} {w : World} {o : Oper} {rest : List Oper}
end
end Go.Proofs.YtkkbdgijfkocnaaGreatDoor
namespace Go.Proofs.YtkkbdgijfkocnaaGreatDoor
def GTab : List (Nat × List Value) := [(4, [.int .u8 0, .int .u8 1, .int .u8 28, .int .u8 2, .int .u8 29, .int .u8 14, .int .u8 24, .int .u8 3, .int .u8 30, .int .u8 22, .int .u8 20, .int .u8 15, .int .u8 25, .int .u8 17, .int .u8 4, .int .u8 8, .int .u8 31, .int .u8 27, .int .u8 13, .int .u8 23, .int .u8 21, .int .u8 19, .int .u8 16, .int .u8 7, .int .u8 26, .int .u8 12, .int .u8 18, .int .u8 6, .int .u8 11, .int .u8 5, .int .u8 10, .int .u8 9]),
 (5, [.int .u8 0, .int .u8 1, .int .u8 56, .int .u8 2, .int .u8 57, .int .u8 49, .int .u8 28, .int .u8 3, .int .u8 61, .int .u8 58, .int .u8 42, .int .u8 50, .int .u8 38, .int .u8 29, .int .u8 17, .int .u8 4, .int .u8 62, .int .u8 47, .int .u8 59, .int .u8 36, .int .u8 45, .int .u8 43, .int .u8 51, .int .u8 22, .int .u8 53, .int .u8 39, .int .u8 33, .int .u8 30, .int .u8 24, .int .u8 18, .int .u8 12, .int .u8 5, .int .u8 63, .int .u8 55, .int .u8 48, .int .u8 27, .int .u8 60, .int .u8 41, .int .u8 37, .int .u8 16, .int .u8 46, .int .u8 35, .int .u8 44, .int .u8 21, .int .u8 52, .int .u8 32, .int .u8 23, .int .u8 11, .int .u8 54, .int .u8 26, .int .u8 40, .int .u8 15, .int .u8 34, .int .u8 20, .int .u8 31, .int .u8 10, .int .u8 25, .int .u8 14, .int .u8 19, .int .u8 9, .int .u8 13, .int .u8 8, .int .u8 7, .int .u8 6]),
 (3, [.int .u64 1, .int .u64 10, .int .u64 100, .int .u64 1000, .int .u64 10000, .int .u64 100000, .int .u64 1000000, .int .u64 10000000, .int .u64 100000000, .int .u64 1000000000, .int .u64 10000000000, .int .u64 100000000000, .int .u64 1000000000000, .int .u64 10000000000000, .int .u64 100000000000000, .int .u64 1000000000000000, .int .u64 10000000000000000, .int .u64 100000000000000000, .int .u64 1000000000000000000, .int .u64 10000000000000000000])]
def ETab : List Nat := [2]
open Go.RowKit
inductive PV where
 | v (x : Value)
 | agg (cs : List PV)
 | sl (esz : Nat) (l : List (List PV))
 | rp (cs : List PV)
 | fn (f : FuncId) (caps : List PV)
 deriving Inhabited
def plain : Value → Bool
 | .bool _ | .int _ _ | .string _ | .pointer none | .nilFunc | .nilIface | .float _ _ | .complex _ _ _ | .slice none 0 0 | .map none | .iface _ _ => true
 | _ => false
theorem plain_one {x : Value} (h : plain x = true) : x.oneCell' = true := by
 cases x <;> first | rfl | (simp [plain] at h; done)
def oneP : PV → Bool
 | .agg _ => false
 | _ => true
inductive RelP (ok : Nat → Prop) (w : World) : PV → Value → Prop
 | v {x : Value} (h : plain x = true) : RelP ok w (.v x) x
 | agg {cs : List PV} {us : List Value} (hl : us.length = cs.length) (h : ∀ (i : Nat) (s : PV) (u : Value), cs[i]? = some s → us[i]? = some u → RelP ok w s u) : RelP ok w (.agg cs) (.agg us.toArray)
 | sl {esz : Nat} {l : List (List PV)} {A : Option Addr} {c : Nat} (hc : l.length ≤ c) (hm : l.length ≤ reachBytes ∧ c ≤ maxLen) (he : ∀ e ∈ l, e.length = esz ∧ ∀ s ∈ e, oneP s = true)
  (hA : 0 < l.length → ∃ b o, A = some ⟨b, o, none⟩ ∧ ok b ∧ b < w.heap.size)
  (hx : ∀ (b o i j : Nat), A = some ⟨b, o, none⟩ → i < l.length → j < esz → ∃ u, w.cell? ⟨b, o + i * esz + j, none⟩ = some u)
  (h : ∀ (b o i j : Nat) (e : List PV) (s : PV) (u : Value), A = some ⟨b, o, none⟩ → l[i]? = some e → e[j]? = some s → w.cell? ⟨b, o + i * esz + j, none⟩ = some u → RelP ok w s u) : RelP ok w (.sl esz l) (.slice A l.length c)
 | rp {cs : List PV} {b o : Nat} (hok : ok b) (hlt : b < w.heap.size) (hx : ∀ (j : Nat), j < cs.length → ∃ u, w.cell? ⟨b, o + j, none⟩ = some u)
  (h : ∀ (j : Nat) (s : PV) (u : Value), cs[j]? = some s → w.cell? ⟨b, o + j, none⟩ = some u → RelP ok w s u) : RelP ok w (.rp cs) (.pointer (some ⟨b, o, none⟩))
 | fn {f : FuncId} {caps : List PV} {us : List Value} (hl : us.length = caps.length) (h : ∀ (i : Nat) (s : PV) (u : Value), caps[i]? = some s → us[i]? = some u → RelP ok w s u) : RelP ok w (.fn f caps) (.func (.func f) #[] us.toArray)
theorem RelP.keep {ok : Nat → Prop} {w w' : World} (hs : SameOn ok w w') {s : PV} {u : Value} (h : RelP ok w s u) : RelP ok w' s u := by
 induction h with
 | v h => exact .v h
 | agg hl h ih => exact .agg hl ih
 | @sl esz l A c hc hm he hA hx h ih =>
   have hcell : ∀ b o k, A = some ⟨b, o, none⟩ → 0 < l.length → w'.cell? ⟨b, k, none⟩ = w.cell? ⟨b, k, none⟩ := fun b o k hAb hl => by
    obtain ⟨b', o', e, hok, hlt⟩ := hA hl
    rw [hAb] at e
    simp only [Option.some.injEq, Addr.mk.injEq] at e
    obtain ⟨rfl, _⟩ := e
    exact World.cell?_of_block (w := w) (a := ⟨b, k, none⟩) (hs.block b hlt hok)
   refine .sl hc hm he (fun hl => ?_) (fun b o i j hAb hi hj => ?_) (fun b o i j e s u hAb hi hj hu => ?_)
   · obtain ⟨b, o, e, hok, hlt⟩ := hA hl
     exact ⟨b, o, e, hok, Nat.lt_of_lt_of_le hlt hs.size⟩
   · rw [hcell b o _ hAb (by omega)]; exact hx b o i j hAb hi hj
   · have hi' : i < l.length := (List.getElem?_eq_some_iff.1 hi).1
     rw [hcell b o _ hAb (by omega)] at hu
     exact ih b o i j e s u hAb hi hj hu
 | @rp cs b o hok hlt hx h ih =>
   have hcell : ∀ k, w'.cell? ⟨b, k, none⟩ = w.cell? ⟨b, k, none⟩ := fun k => World.cell?_of_block (w := w) (a := ⟨b, k, none⟩) (hs.block b hlt hok)
   refine .rp hok (Nat.lt_of_lt_of_le hlt hs.size) (fun j hj => ?_) (fun j s u hj hu => ?_)
   · rw [hcell]; exact hx j hj
   · rw [hcell] at hu; exact ih j s u hj hu
 | fn hl h ih => exact .fn hl ih
theorem RelP.weak {ok ok' : Nat → Prop} {w : World} (hk : ∀ b, b < w.heap.size → ok b → ok' b) {s : PV} {u : Value} (h : RelP ok w s u) : RelP ok' w s u := by
 induction h with
 | v h => exact .v h
 | agg hl h ih => exact .agg hl ih
 | sl hc hm he hA hx h ih =>
   refine .sl hc hm he (fun hl => ?_) hx ih
   obtain ⟨b, o, e, hok, hlt⟩ := hA hl
   exact ⟨b, o, e, hk _ hlt hok, hlt⟩
 | rp hok hlt hx h ih => exact .rp (hk _ hlt hok) hlt hx ih
 | fn hl h ih => exact .fn hl ih
theorem RelP.one {ok : Nat → Prop} {w : World} {s : PV} {u : Value} (h : RelP ok w s u) : u.oneCell' = oneP s := by
 cases h with
 | v h => rw [plain_one h]; rfl
 | agg => rfl
 | sl => rfl
 | rp => rfl
 | fn => rfl
def rPV : RF (List PV) := fun ok w cs x => cs.length = x.length ∧ ∀ (j : Nat) (s : PV) (u : Value), x[j]? = some s → cs[j]? = some u → RelP ok w s u
theorem good_PV : Good rPV :=
 ⟨fun _ _ _ _ _ hs h => ⟨h.1, fun j s u a b => (h.2 j s u a b).keep hs⟩, fun _ _ _ _ _ hk h => ⟨h.1, fun j s u a b => (h.2 j s u a b).weak hk⟩⟩
theorem RelP.slat {ok : Nat → Prop} {w : World} {esz : Nat} {l : List (List PV)} {u : Value} (h : RelP ok w (.sl esz l) u) :
 ∃ A c, u = .slice A l.length c ∧ l.length ≤ c ∧ (l.length ≤ reachBytes ∧ c ≤ maxLen) ∧ (∀ e ∈ l, e.length = esz ∧ ∀ s ∈ e, oneP s = true) ∧ SlAtA ok (rPV ok) esz w A l := by
 cases h with
 | @sl _ _ A c hc hm he hA hx h =>
   refine ⟨A, c, rfl, hc, hm, he, fun hl => ?_⟩
   obtain ⟨b, o, rfl, hok, hlt⟩ := hA hl
   refine ⟨b, o, rfl, hok, hlt, fun i hi => ?_⟩
   have hex : ∀ j : Nat, ∃ u, j < esz → w.cell? ⟨b, o + i * esz + j, none⟩ = some u := fun j => by
    by_cases hj : j < esz
    · obtain ⟨u, hu⟩ := hx b o i j rfl hi hj; exact ⟨u, fun _ => hu⟩
    · exact ⟨.nilIface, fun h => absurd h hj⟩
   obtain ⟨f, hf⟩ := Classical.axiomOfChoice hex
   have hel : l[i].length = esz := (he _ (List.getElem_mem hi)).1
   refine ⟨(List.range esz).map f, by simp, fun j u hj => ?_, by simp [hel], fun j s u hs hu => ?_⟩
   · have hj' : j < esz := by have := (List.getElem?_eq_some_iff.1 hj).1; simpa using this
     simp [hj'] at hj
     rw [← hj]; exact hf j hj'
   · have hj' : j < esz := by have := (List.getElem?_eq_some_iff.1 hu).1; simpa using this
     simp [hj'] at hu
     exact h b o i j l[i] s u rfl (List.getElem?_eq_getElem hi) hs (by rw [← hu]; exact hf j hj')
theorem RelP.of_slat {ok : Nat → Prop} {w : World} {esz : Nat} {l : List (List PV)} {A : Option Addr} {c : Nat} (hc : l.length ≤ c) (hm : l.length ≤ reachBytes ∧ c ≤ maxLen) (he : ∀ e ∈ l, e.length = esz ∧ ∀ s ∈ e, oneP s = true)
 (h : SlAtA ok (rPV ok) esz w A l) : RelP ok w (.sl esz l) (.slice A l.length c) := by
 have key : ∀ b o i, A = some ⟨b, o, none⟩ → (hi : i < l.length) → ∃ cs : List Value, cs.length = esz ∧ CellsAt w b (o + i * esz) cs ∧ rPV ok w cs l[i] := fun b o i hA hi => by
  obtain ⟨b', o', hA', _, _, hx⟩ := h (by omega)
  rw [hA] at hA'
  simp only [Option.some.injEq, Addr.mk.injEq] at hA'
  obtain ⟨rfl, rfl, _⟩ := hA'
  exact hx i hi
 refine .sl hc hm he (fun hl => ?_) (fun b o i j hA hi hj => ?_) (fun b o i j e s u hA hi hj hu => ?_)
 · obtain ⟨b, o, hA, hok, hlt, _⟩ := h hl
   exact ⟨b, o, hA, hok, hlt⟩
 · obtain ⟨cs, h1, h2, _⟩ := key b o i hA hi
   exact ⟨cs[j]'(by omega), h2 j _ (List.getElem?_eq_getElem _)⟩
 · obtain ⟨hi', rfl⟩ := List.getElem?_eq_some_iff.1 hi
   obtain ⟨cs, h1, h2, h3⟩ := key b o i hA hi'
   have hjl : j < cs.length := by rw [h3.1]; exact (List.getElem?_eq_some_iff.1 hj).1
   have h4 := h2 j _ (List.getElem?_eq_getElem hjl)
   rw [hu] at h4
   exact h3.2 j s u hj (by rw [List.getElem?_eq_getElem hjl]; exact h4.symm)
inductive SV where
 | p (x : PV)
 | agg (cs : List SV)
 | tup (cs : List SV)
 | fn (f : FuncId) (caps : List SV)
 | row (i : Nat)
 | ptr (i off : Nat)
 | eptr (i z idx off : Nat)
 | view (i z lo hi : Nat)
 | junk
 deriving Inhabited
inductive Box where
 | row (e : TypeId) (esz : Nat) (l : List (List PV))
 | cells (cs : List SV)
 | mp (es : List (Value × PV))
 | rws (e : TypeId) (esz : Nat) (pre : List (List PV)) (mid : List SV) (post : List (List PV))
 deriving Inhabited
def rowF (l : List (List PV)) : List SV := l.flatMap fun x => x.map SV.p
def rwC (pre : List (List PV)) (mid : List SV) (post : List (List PV)) : List SV := rowF pre ++ (mid ++ rowF post)
def Box.cs? : Box → Option (List SV)
 | .cells cs => some cs
 | .rws _ _ pre mid post => some (rwC pre mid post)
 | _ => none
def lk {α : Type} (t : Nat) : List (Nat × α) → Option α
 | [] => none
 | (u, s) :: r => bif Nat.beq t u then some s else lk t r
def del {α : Type} (t : Nat) : List (Nat × α) → List (Nat × α)
 | [] => []
 | (u, s) :: r => bif Nat.beq t u then del t r else (u, s) :: del t r
theorem wb {t u : Nat} (h : t ≠ u) : Nat.beq t u = false := by
 cases h' : Nat.beq t u with
 | false => rfl
 | true => exact absurd (Nat.eq_of_beq_eq_true h') h
theorem zx (t : Nat) : Nat.beq t t = true := by simp
theorem qA {α : Type} (t u : Nat) (s : α) (r : List (Nat × α)) : lk t ((u, s) :: r) = if t = u then some s else lk t r := by
 rw [lk]
 by_cases h : t = u
 · subst h; simp
 · rw [wb h, if_neg h]; rfl
theorem lk_del {α : Type} (t u : Nat) : ∀ r : List (Nat × α), lk t (del u r) = if t = u then none else lk t r
 | [] => by simp [del, lk]
 | (k, s) :: r => by
   have ih := lk_del t u r
   rw [del]
   by_cases h : u = k
   · subst h
     rw [zx, cond_true, ih, qA]
     split <;> simp_all
   · rw [wb h, cond_false, qA, qA, ih]
     by_cases h1 : t = k
     · have : t ≠ u := fun e => h (e ▸ h1)
       rw [if_pos h1, if_neg this, if_pos h1]
     · rw [if_neg h1, if_neg h1]
def qK : Value → Option Nat
 | .pointer (some a) => some a.block
 | .slice (some a) _ _ => some a.block
 | .map (some r) => some r
 | _ => none
theorem qam {A : Option Addr} {n c : Nat} : qK (.slice A n c) = (Value.slice A n c).ownBlock := by cases A <;> rfl
inductive RelS (ok : Nat → Prop) (H : Nat → Option Value) (w : World) : SV → Value → Prop
 | p {x : PV} {u : Value} (h : RelP ok w x u) : RelS ok H w (.p x) u
 | agg {cs : List SV} {us : List Value} (hl : us.length = cs.length) (h : ∀ (i : Nat) (s : SV) (u : Value), cs[i]? = some s → us[i]? = some u → RelS ok H w s u) : RelS ok H w (.agg cs) (.agg us.toArray)
 | tup {cs : List SV} {us : List Value} (hl : us.length = cs.length) (h : ∀ (i : Nat) (s : SV) (u : Value), cs[i]? = some s → us[i]? = some u → RelS ok H w s u) : RelS ok H w (.tup cs) (.tuple us.toArray)
 | fn {f : FuncId} {caps : List SV} {us : List Value} (hl : us.length = caps.length) (h : ∀ (i : Nat) (s : SV) (u : Value), caps[i]? = some s → us[i]? = some u → RelS ok H w s u) : RelS ok H w (.fn f caps) (.func (.func f) #[] us.toArray)
 | row {i : Nat} {u : Value} (h : H i = some u) : RelS ok H w (.row i) u
 | junk {u : Value} : RelS ok H w .junk u
 | ptr {i off b : Nat} {g : Value} (h : H i = some g) (hb : qK g = some b) : RelS ok H w (.ptr i off) (.pointer (some ⟨b, off, none⟩))
 | eptr {i z idx off b : Nat} {g : Value} (h : H i = some g) (hb : qK g = some b) : RelS ok H w (.eptr i z idx off) (.pointer (some ⟨b, idx * z + off, none⟩))
 | view {i z lo hi n c : Nat} {A A' : Option Addr} (h : H i = some (.slice A n c)) (hl : lo ≤ hi) (hn : hi ≤ n) (hc : n ≤ c) (hA : lo < c ∨ lo = 0 → A' = A.map (·.add (lo * z))) : RelS ok H w (.view i z lo hi) (.slice A' (hi - lo) (c - lo))
mutual
def SV.noRef (d : Nat) : SV → Bool
 | .p _ => true
 | .agg cs => noRefs d cs
 | .tup cs => noRefs d cs
 | .fn _ cs => noRefs d cs
 | .row i => !(Nat.beq i d)
 | .ptr i _ => !(Nat.beq i d)
 | .eptr i _ _ _ => !(Nat.beq i d)
 | .view i _ _ _ => !(Nat.beq i d)
 | .junk => true
def noRefs (d : Nat) : List SV → Bool
 | [] => true
 | s :: r => s.noRef d && noRefs d r
end
theorem noRefs_at {d : Nat} : ∀ {cs : List SV} (_ : noRefs d cs = true) {i : Nat} {s : SV}, cs[i]? = some s → s.noRef d = true
 | [], _, i, s, h => by simp at h
 | c :: cs, hn, i, s, h => by
   simp only [noRefs, Bool.and_eq_true] at hn
   cases i with
   | zero => simp at h; subst h; exact hn.1
   | succ i => exact noRefs_at hn.2 (by simpa using h)
theorem RelS.keep {ok ok' : Nat → Prop} {H H' : Nat → Option Value} {w w' : World} (hs : SameOn ok w w') (hk : ∀ b, b < w'.heap.size → ok b → ok' b) {s : SV} {u : Value}
 (h : RelS ok H w s u) : (∀ i, s.noRef i = false → H' i = H i) → RelS ok' H' w' s u := by
 induction h with
 | p h => exact fun _ => .p ((h.keep hs).weak hk)
 | agg hl h ih =>
   refine fun hH => .agg hl fun i s u a b => ih i s u a b fun j hj => hH j ?_
   cases hn : (SV.agg _).noRef j with
   | false => rfl
   | true => have := noRefs_at (by simpa [SV.noRef] using hn) a; rw [this] at hj; cases hj
 | tup hl h ih =>
   refine fun hH => .tup hl fun i s u a b => ih i s u a b fun j hj => hH j ?_
   cases hn : (SV.tup _).noRef j with
   | false => rfl
   | true => have := noRefs_at (by simpa [SV.noRef] using hn) a; rw [this] at hj; cases hj
 | fn hl h ih =>
   refine fun hH => .fn hl fun i s u a b => ih i s u a b fun j hj => hH j ?_
   cases hn : (SV.fn _ _).noRef j with
   | false => rfl
   | true => have := noRefs_at (by simpa [SV.noRef] using hn) a; rw [this] at hj; cases hj
 | junk => exact fun _ => .junk
 | @row i u h => exact fun hH => .row (by rw [hH i (by simp [SV.noRef])]; exact h)
 | @ptr i off b g h hb => exact fun hH => .ptr (by rw [hH i (by simp [SV.noRef])]; exact h) hb
 | @eptr i z idx off b g h hb => exact fun hH => .eptr (by rw [hH i (by simp [SV.noRef])]; exact h) hb
 | @view i z lo hi n c A A' h h1 h2 h3 h4 => exact fun hH => .view (by rw [hH i (by simp [SV.noRef])]; exact h) h1 h2 h3 h4
inductive Ty where
 | int (k : IntKind)
 | bool
 | str
 | sl (e : TypeId)
 | st (fs : List (Nat × TypeId))
 | arr (n : Nat) (e : TypeId)
 | ptr
 | fn
 | mp (k e : TypeId)
 | ifc
 | flt
 | cpx
def Ty.agg : Ty → Bool
 | .st _ => true
 | .arr _ _ => true
 | _ => false
structure TyI where
 size : Nat
 bytes : Nat
 d : Ty
 zero : List Value
 eq : Bool := false
def eqC : PV → PV → Option Bool
 | .v (.int .i64 a), .v (.int .i64 b) => some (a == b)
 | .v (.string a), .v (.string b) => some (a.toList == b.toList)
 | .v (.bool a), .v (.bool b) => some (a == b)
 | _, _ => none
def eqL : List PV → List PV → Option Bool
 | [], [] => some true
 | x :: xs, y :: ys => match eqC x y with
   | some a => match eqL xs ys with
     | some b => some (a && b)
     | none => none
   | none => none
 | _, _ => none
def zd : List PV → List Value → Bool
 | [], [] => true
 | .v (.int .i64 _) :: xs, .int .i64 _ :: zs => zd xs zs
 | .v (.string _) :: xs, .string _ :: zs => zd xs zs
 | .v (.bool _) :: xs, .bool _ :: zs => zd xs zs
 | _, _ => false
def unv : PV → Value
 | .v x => x
 | _ => .nilIface
def je (P : Program) (t : TypeId) : Ty → Prop
 | .int k => P.underlying t = some (.int k)
 | .bool => P.underlying t = some .bool
 | .str => P.underlying t = some .string
 | .sl e => P.underlying t = some (.slice e)
 | .st fs => ∃ fields, P.underlying t = some (.struct fields) ∧ fields.toList.map (fun f => (f.offset, f.type)) = fs
 | .arr n e => P.underlying t = some (.array n e)
 | .ptr => ∃ e, P.underlying t = some (.pointer e)
 | .fn => ∃ a b c, P.underlying t = some (.func a b c)
 | .mp k e => P.underlying t = some (.map k e)
 | .ifc => ∃ m, P.underlying t = some (.interface m)
 | .flt => P.underlying t = some (.float .f64)
 | .cpx => P.underlying t = some (.complex .f64)
structure TyOk (P : Program) (t : TypeId) (i : TyI) : Prop where
 info : ∃ info zv, P.info? t = some info ∧ info.size = i.size ∧ info.bytes = i.bytes ∧ info.zero = some zv ∧ zv.cells.toList = i.zero
 und : je P t i.d
 eqs : i.eq = true → P.eqGuardType P.depth t = false ∧ ∀ (xs ys : List PV) (b : Bool) (w : World), eqL xs ys = some b → zd xs i.zero = true → (Op.equalIn 10000 t (.agg (xs.map unv).toArray) (.agg (ys.map unv).toArray)).run P w = .ok b w
def qX (P : Program) (T : List (TypeId × TyI)) : Prop := ∀ t i, lk t T = some i → TyOk P t i
section
variable {P : Program} {t : TypeId} {i : TyI} (h : TyOk P t i) (w : World)
include h
theorem TyOk.size : (sizeOf t).run P w = .ok i.size w := by
 obtain ⟨info, zv, h1, h2, _⟩ := h.info
 simp [sizeOf, typeInfo, h1, h2]
theorem TyOk.isAgg : (isAgg t).run P w = .ok i.d.agg w := by
 have hu := h.und
 cases hd : i.d <;> rw [hd] at hu <;> simp only [je] at hu
 case st fs => obtain ⟨f, hu, _⟩ := hu; simp [Go.isAgg, run_underlying hu, Ty.agg]
 case ptr => obtain ⟨e, hu⟩ := hu; simp [Go.isAgg, run_underlying hu, Ty.agg]
 case ifc => obtain ⟨e, hu⟩ := hu; simp [Go.isAgg, run_underlying hu, Ty.agg]
 case fn => obtain ⟨a, b, c, hu⟩ := hu; simp [Go.isAgg, run_underlying hu, Ty.agg]
 all_goals simp [Go.isAgg, run_underlying hu, Ty.agg]
end
structure St where
 n : Nat
 fr : List (Nat × SV)
 own : List (Nat × Box)
def hp (γ : Nat → Value) (own : List (Nat × Box)) (i : Nat) : Option Value := match lk i own with
 | some _ => some (γ i)
 | none => none
def okO (Sx : Nat → Prop) (γ : Nat → Value) (own : List (Nat × Box)) (b : Nat) : Prop := ¬ Sx b ∧ ∀ i bx, lk i own = some bx → qK (γ i) ≠ some b
def vis (K : List Nat) (γ : Nat → Value) (own : List (Nat × Box)) (b : Nat) : Prop := ∀ i bx, lk i own = some bx → K.contains i = true → qK (γ i) ≠ some b
def okBut (Sx : Nat → Prop) (γ : Nat → Value) (own : List (Nat × Box)) (i : Nat) (b : Nat) : Prop := ¬ Sx b ∧ ∀ j bx, lk j own = some bx → j ≠ i → qK (γ j) ≠ some b
structure Base where
 w : World
 kp : Nat → Prop
 fx : Nat → Option Value
def BelowB (W : Base) (w : World) : Prop := Below 0 W.w w ∧ ∀ b, W.kp b → w.heap[b]? = W.w.heap[b]?
def errV : Value → Bool
 | .nilIface => true
 | .iface _ _ => true
 | _ => false
def GlOk (W : Base) (Sx : Nat → Prop) : Prop := (∀ g us, lk g GTab = some us → W.kp g ∧ ¬ Sx g ∧ ∃ ty m, W.w.heap[g]? = some (.cells us.toArray ty m)) ∧
 ∀ g, ETab.contains g = true → W.kp g ∧ ¬ Sx g ∧ ∃ ev ty m, W.w.heap[g]? = some (.cells #[ev] ty m) ∧ errV ev = true
structure Stays (W : Base) (Sx : Nat → Prop) (γ : Nat → Value) (own : List (Nat × Box)) (w : World) : Prop where
 sub : ∀ b, Sx b → W.kp b
 lt : ∀ b, W.kp b → b < w.heap.size
 fix : ∀ i bx g, lk i own = some bx → W.fx i = some g → γ i = g
 low : ∀ i, i < 1000000 → W.fx i = none
 gl : GlOk W Sx
inductive BoxOk (W : Base) (Sx : Nat → Prop) (γ : Nat → Value) (own : List (Nat × Box)) (w : World) (i : Nat) : Box → Prop
 | row {e : TypeId} {esz : Nat} {l : List (List PV)} (h : RowO rPV esz (okBut Sx γ own i) w 0 e (γ i) l) (he : ∀ x ∈ l, x.length = esz ∧ ∀ s ∈ x, oneP s = true) (hm : l.length ≤ reachBytes) (hk : ∀ b, qK (γ i) = some b → ¬ W.kp b) : BoxOk W Sx γ own w i (.row e esz l)
 | cells {cs : List SV} {us : List Value} {ty : TypeId} {b : Nat} (hg : γ i = .pointer (some ⟨b, 0, none⟩)) (hB : ¬ W.kp b) (hh : w.heap[b]? = some (.cells us.toArray ty (0, 0))) (hl : us.length = cs.length)
  (h : ∀ (j : Nat) (s : SV) (u : Value), cs[j]? = some s → us[j]? = some u → RelS (okO Sx γ own) (hp γ own) w s u) (h1 : ∀ u ∈ us, u.oneCell' = true) : BoxOk W Sx γ own w i (.cells cs)
 | mp {es : List (Value × PV)} {ens : List MapEntry} {clock b : Nat} (hg : γ i = .map (some b)) (hB : ¬ W.kp b) (hh : w.heap[b]? = some (.map ens.toArray clock)) (hl : ens.length = es.length)
  (h : ∀ (j : Nat) (x : Value × PV) (e : MapEntry), es[j]? = some x → ens[j]? = some e → e.key = x.1 ∧ RelP (okO Sx γ own) w x.2 e.val) : BoxOk W Sx γ own w i (.mp es)
 | rws {e : TypeId} {z : Nat} {pre post : List (List PV)} {mid : List SV} {css : List (Cel z)} {nm : Nat} (hr : OwnF Subtype.val z w 0 e (γ i) css) (hz : 0 < z) (hpp : ∀ x ∈ pre ++ post, x.length = z ∧ ∀ s ∈ x, oneP s = true) (hn : css.length = pre.length + (nm + post.length)) (hmid : mid.length = nm * z)
  (h : ∀ (j : Nat) (s : SV) (u : Value), (rwC pre mid post)[j]? = some s → (css.flatMap Subtype.val)[j]? = some u → RelS (okO Sx γ own) (hp γ own) w s u) (hm : css.length ≤ reachBytes) (hk : ∀ b, qK (γ i) = some b → ¬ W.kp b) : BoxOk W Sx γ own w i (.rws e z pre mid post)
structure HeapOk (W : Base) (Sx : Nat → Prop) (γ : Nat → Value) (own : List (Nat × Box)) (w : World) : Prop where
 box : ∀ i bx, lk i own = some bx → BoxOk W Sx γ own w i bx
 inj : ∀ i j bx by_ b, lk i own = some bx → lk j own = some by_ → qK (γ i) = some b → qK (γ j) = some b → i = j
 sx : Stays W Sx γ own w
structure Sim (W : Base) (Sx : Nat → Prop) (γ : Nat → Value) (st : St) (a : Act) (w : World) : Prop where
 below : BelowB W w
 size : a.tmps.size = st.n ∧ st.n ≤ 900
 defers : a.defers = []
 fr : ∀ t s, lk t st.fr = some s → RelS (okO Sx γ st.own) (hp γ st.own) w s (a.tmps.getD t undef)
 heap : HeapOk W Sx γ st.own w
theorem HeapOk.blk {W : Base} {Sx : Nat → Prop} {γ : Nat → Value} {own : List (Nat × Box)} {w : World} (h : HeapOk W Sx γ own w) {i : Nat} {bx : Box} (hi : lk i own = some bx) {b : Nat} (hb : qK (γ i) = some b) : ¬ W.kp b ∧ b < w.heap.size := by
 cases h.box i bx hi with
 | @row e esz l hr he hm hk =>
   obtain ⟨css, h1, _, _⟩ := hr
   have : (γ i).ownBlock = some b := by
    rcases h1.2 with ⟨hv, _⟩ | ⟨g, cap, cur, hv, _⟩
    · rw [hv] at hb; cases hb
    · rw [hv] at hb ⊢; exact hb
   exact ⟨hk b hb, (h1.lt b this).2⟩
 | cells hg hB hh hl _ =>
   rw [hg] at hb
   simp only [qK, Option.some.injEq] at hb
   subst hb
   exact ⟨hB, lt_of_block hh⟩
 | mp hg hB hh hl _ =>
   rw [hg] at hb
   simp only [qK, Option.some.injEq] at hb
   subst hb
   exact ⟨hB, lt_of_block hh⟩
 | rws h1 hz _ hn hl hr hm hk =>
   have : (γ i).ownBlock = some b := by
    rcases h1.2 with ⟨hv, _⟩ | ⟨g, cap, cur, hv, _⟩
    · rw [hv] at hb; cases hb
    · rw [hv] at hb ⊢; exact hb
   exact ⟨hk b hb, (h1.lt b this).2⟩
theorem blk_kp {W : Base} {Sx : Nat → Prop} {γ : Nat → Value} {own : List (Nat × Box)} {w : World} (h : HeapOk W Sx γ own w) {i : Nat} {bx : Box} (hi : lk i own = some bx) {b : Nat} (hb : qK (γ i) = some b) (hk : W.kp b) : False := (h.blk hi hb).1 hk
theorem HeapOk.nsx {W : Base} {Sx : Nat → Prop} {γ : Nat → Value} {own : List (Nat × Box)} {w : World} (h : HeapOk W Sx γ own w) {i : Nat} {bx : Box} (hi : lk i own = some bx) {b : Nat} (hb : qK (γ i) = some b) : ¬ Sx b := fun hs => (h.blk hi hb).1 (h.sx.sub b hs)
theorem Stays.keep {W : Base} {Sx : Nat → Prop} {γ γ' : Nat → Value} {own own' : List (Nat × Box)} {w w' : World} (h : Stays W Sx γ own w) (hs : w.heap.size ≤ w'.heap.size) (hk : ∀ i bx, lk i own' = some bx → i < 1000000 ∨ γ' i = γ i ∧ (lk i own).isSome = true) : Stays W Sx γ' own' w' :=
 ⟨h.sub, fun b hb => Nat.lt_of_lt_of_le (h.lt b hb) hs, fun i bx g hi hg => by
  rcases hk i bx hi with hlt | ⟨e, hs⟩
  · rw [h.low i hlt] at hg; cases hg
  · obtain ⟨by_, h2⟩ := Option.isSome_iff_exists.1 hs
    rw [e]; exact h.fix i by_ g h2 hg, h.low, h.gl⟩
theorem Stays.grow {W : Base} {Sx : Nat → Prop} {γ : Nat → Value} {own : List (Nat × Box)} {w w' : World} (h : Stays W Sx γ own w) (hs : w.heap.size ≤ w'.heap.size) : Stays W Sx γ own w' := h.keep hs fun i bx hi => Or.inr ⟨rfl, by rw [hi]; rfl⟩
theorem BelowB.step {W : Base} {w w' : World} (h : BelowB W w) (h1 : Below 0 w w') (h2 : ∀ b, W.kp b → w'.heap[b]? = w.heap[b]?) : BelowB W w' := ⟨h.1.trans h1, fun b hb => (h2 b hb).trans (h.2 b hb)⟩
theorem BelowB.grow {W : Base} {Sx : Nat → Prop} {γ : Nat → Value} {own : List (Nat × Box)} {w w' : World} (h : BelowB W w) (hs : Stays W Sx γ own w) (hb : Below w.heap.size w w') : BelowB W w' := h.step (hb.mono (Nat.zero_le _)) fun b hk => hb.block b (hs.lt b hk)
theorem SameOn.weak {p q : Nat → Prop} {w w' : World} (h : SameOn p w w') (hk : ∀ b, b < w.heap.size → q b → p b) : SameOn q w w' := ⟨h.size, fun b hb hq => h.block b hb (hk b hb hq)⟩
theorem okO_vis {Sx : Nat → Prop} {γ : Nat → Value} {own : List (Nat × Box)} {K : List Nat} {b : Nat} (h : okO Sx γ own b) : vis K γ own b := fun i bx hi _ => h.2 i bx hi
def pures : List SV → Option (List PV)
 | [] => some []
 | .p x :: r => match pures r with
   | some l => some (x :: l)
   | none => none
 | _ :: _ => none
def mkAgg (cs : List SV) : SV := match pures cs with
 | some l => .p (.agg l)
 | none => .agg cs
theorem qad : ∀ {cs : List SV} {l : List PV}, pures cs = some l → l.length = cs.length ∧ ∀ i : Nat, cs[i]? = (l[i]?).map SV.p
 | [], l, h => by simp [pures] at h; subst h; simp
 | .p x :: r, l, h => by
   unfold pures at h
   split at h
   · rename_i l' hl'
     simp only [Option.some.injEq] at h
     subst h
     obtain ⟨h1, h2⟩ := qad hl'
     refine ⟨by simp [h1], fun i => ?_⟩
     cases i with
     | zero => simp
     | succ i => simpa using h2 i
   · cases h
 | .agg _ :: _, l, h => by simp [pures] at h
 | .tup _ :: _, l, h => by simp [pures] at h
 | .fn _ _ :: _, l, h => by simp [pures] at h
 | .row _ :: _, l, h => by simp [pures] at h
 | .ptr _ _ :: _, l, h => by simp [pures] at h
 | .junk :: _, l, h => by simp [pures] at h
 | .view _ _ _ _ :: _, l, h => by simp [pures] at h
 | .eptr _ _ _ _ :: _, l, h => by simp [pures] at h
theorem RelS.p_inv {ok : Nat → Prop} {H : Nat → Option Value} {w : World} {x : PV} {u : Value} (h : RelS ok H w (.p x) u) : RelP ok w x u := by cases h; assumption
theorem RelS.v_inv {ok : Nat → Prop} {H : Nat → Option Value} {w : World} {x u : Value} (h : RelS ok H w (.p (.v x)) u) : u = x := by cases h; rename_i h; cases h; rfl
theorem relS_mkAgg {ok : Nat → Prop} {H : Nat → Option Value} {w : World} {cs : List SV} {us : List Value} (hl : us.length = cs.length) (h : ∀ (i : Nat) (s : SV) (u : Value), cs[i]? = some s → us[i]? = some u → RelS ok H w s u) :
 RelS ok H w (mkAgg cs) (.agg us.toArray) := by
 unfold mkAgg
 split
 · rename_i l hp
   obtain ⟨h1, h2⟩ := qad hp
   exact .p (.agg (by omega) fun i s u hi hu => (h i (.p s) u (by rw [h2, hi]; rfl) hu).p_inv)
 · exact .agg hl h
def evS (st : St) : Operand → Option SV
 | .tmp t => lk t st.fr
 | .const (.agg cs) => bif cs.toList.all plain then some (.p (.agg (cs.toList.map .v))) else none
 | .const v => bif plain v then some (.p (.v v)) else none
 | .func f => some (.p (.fn f []))
 | .global g => match lk g GTab with
   | some us => bif us.all plain then some (.p (.rp (us.map .v))) else none
   | none => none
theorem qp {w0 : Base} {Sx : Nat → Prop} {γ : Nat → Value} {st : St} {a : Act} {w : World} (hI : Sim w0 Sx γ st a w) {x : Operand} {s : SV} (h : evS st x = some s) :
 RelS (okO Sx γ st.own) (hp γ st.own) w s (a.eval x) := by
 cases x with
 | tmp t => exact hI.fr t s h
 | const v =>
   have gen : ∀ v, (bif plain v then some (SV.p (.v v)) else none) = some s → RelS (okO Sx γ st.own) (hp γ st.own) w s v := fun v h => by
    cases hp : plain v with
    | false => rw [hp] at h; cases h
    | true => rw [hp] at h; simp only [cond_true, Option.some.injEq] at h; subst h; exact .p (.v hp)
   cases v with
   | agg cs =>
     have h : (bif cs.toList.all plain then some (SV.p (.agg (cs.toList.map .v))) else none) = some s := h
     cases hp : cs.toList.all plain with
     | false => rw [hp] at h; cases h
     | true =>
       rw [hp] at h
       simp only [cond_true, Option.some.injEq] at h
       subst h
       refine .p ?_
       show RelP _ _ _ (.agg cs)
       have e : cs = cs.toList.toArray := by simp
       rw [e]
       refine .agg (by simp) fun i s u hi hu => ?_
       simp at hi hu
       rw [hu] at hi
       simp at hi
       subst hi
       refine .v ?_
       have hm : u ∈ cs.toList := by
        have := Array.mem_of_getElem? hu
        simpa using this
       exact List.all_eq_true.1 hp u hm
   | _ => exact gen _ h
 | func f => simp only [evS, Option.some.injEq] at h; subst h; exact .p (.fn rfl fun i s u hi _ => by simp at hi)
 | global g =>
   simp only [evS] at h
   split at h
   · rename_i us hus
     cases hp : us.all plain with
     | false => rw [hp] at h; cases h
     | true =>
       rw [hp] at h
       simp only [cond_true, Option.some.injEq] at h
       subst h
       obtain ⟨h1, h2, h3⟩ := hI.heap.sx.gl.1 g us hus
       obtain ⟨ty, m, h3⟩ := h3
       have hcell : ∀ k, w.cell? ⟨g, k, none⟩ = us[k]? := fun k => by
        rw [World.cell?_of_block (w := w0.w) (a := ⟨g, k, none⟩) (hI.below.2 g h1)]
        unfold World.cell?
        rw [h3]; simp
       refine .p (.rp ⟨h2, fun i bx hi hb => ?_⟩ (hI.heap.sx.lt g h1) (fun j hj => ?_) fun j s u hs hu => ?_)
       · exact blk_kp hI.heap hi hb h1
       · rw [List.length_map] at hj
         exact ⟨_, by rw [hcell, Nat.zero_add]; exact List.getElem?_eq_getElem hj⟩
       · rw [List.getElem?_map] at hs
         obtain ⟨x, hx, rfl⟩ := Option.map_eq_some_iff.1 hs
         rw [hcell, Nat.zero_add, hx] at hu
         cases hu
         exact .v (List.all_eq_true.1 hp _ (List.mem_of_getElem? hx))
   · cases h
theorem jv {γ : Nat → Value} {own : List (Nat × Box)} {d : Nat} (h : lk d own = none) : hp γ own d = none := by unfold hp; rw [h]
theorem qI {γ : Nat → Value} {own : List (Nat × Box)} {d : Nat} {bx : Box} (h : lk d own = some bx) : hp γ own d = some (γ d) := by unfold hp; rw [h]
def oneS : SV → Bool
 | .p x => oneP x
 | .agg _ => false
 | .tup _ => false
 | .junk => false
 | _ => true
def cellsOf : SV → Option (List SV)
 | .p (.agg ps) => some (ps.map .p)
 | .agg cs => some cs
 | .tup _ => none
 | .junk => none
 | s => some [s]
theorem RelS.one {ok : Nat → Prop} {H : Nat → Option Value} (hH : ∀ i u, H i = some u → u.oneCell' = true) {w : World} {s : SV} {u : Value} (h : RelS ok H w s u) (h1 : oneS s = true) : u.oneCell' = true := by
 cases h with
 | p h => rw [h.one]; exact h1
 | agg => cases h1
 | tup => cases h1
 | fn => rfl
 | junk => cases h1
 | row h => exact hH _ _ h
 | ptr => rfl
 | eptr => rfl
 | view => rfl
theorem qai {ok : Nat → Prop} {H : Nat → Option Value} (hH : ∀ i u, H i = some u → u.oneCell' = true) {w : World} {s : SV} {u : Value} (h : RelS ok H w s u) {cs : List SV} (hc : cellsOf s = some cs) :
 u.cells.toList.length = cs.length ∧ ∀ (i : Nat) (s : SV) (v : Value), cs[i]? = some s → u.cells.toList[i]? = some v → RelS ok H w s v := by
 have lone : ∀ {s : SV} {u : Value}, RelS ok H w s u → u.oneCell' = true → some [s] = some cs → u.cells.toList.length = cs.length ∧ ∀ (i : Nat) (s : SV) (v : Value), cs[i]? = some s → u.cells.toList[i]? = some v → RelS ok H w s v := by
  intro s u h h1 hc
  cases hc
  have : u.cells = #[u] := by cases u <;> first | rfl | cases h1
  rw [this]
  refine ⟨rfl, fun i s v a b => ?_⟩
  cases i with
  | zero => simp at a b; subst a; subst b; exact h
  | succ i => simp at a
 cases h with
 | @p x u h =>
   cases x with
   | agg ps =>
     simp only [cellsOf, Option.some.injEq] at hc
     subst hc
     cases h with
     | @agg _ us hl h =>
       simp only [Value.cells]
       refine ⟨by simp [hl], fun i s v a b => ?_⟩
       rw [List.getElem?_map] at a
       cases hp : ps[i]? with
       | none => rw [hp] at a; cases a
       | some x => rw [hp] at a; cases a; exact .p (h i x v hp b)
   | v x => exact lone (.p h) (by rw [h.one]; rfl) hc
   | sl _ _ => exact lone (.p h) (by rw [h.one]; rfl) hc
   | rp _ => exact lone (.p h) (by rw [h.one]; rfl) hc
   | fn _ _ => exact lone (.p h) (by rw [h.one]; rfl) hc
 | agg hl h => simp only [cellsOf, Option.some.injEq] at hc; subst hc; exact ⟨by simpa [Value.cells] using hl, by simpa [Value.cells] using h⟩
 | tup => cases hc
 | fn hl h => exact lone (.fn hl h) rfl hc
 | junk => cases hc
 | row h => exact lone (.row h) (hH _ _ h) hc
 | ptr h hb => exact lone (.ptr h hb) rfl hc
 | eptr h hb => exact lone (.eptr h hb) rfl hc
 | view h h1 h2 h3 h4 => exact lone (.view h h1 h2 h3 h4) rfl hc
theorem HeapOk.one {B : Base} {Sx : Nat → Prop} {γ : Nat → Value} {own : List (Nat × Box)} {w : World} (h : HeapOk B Sx γ own w) : ∀ i u, hp γ own i = some u → u.oneCell' = true := by
 intro i u hu
 cases hi : lk i own with
 | none => rw [jv hi] at hu; cases hu
 | some bx =>
   rw [qI hi] at hu
   cases hu
   cases h.box i bx hi with
   | row hr => obtain ⟨A, c, hv, _⟩ := hr.shape; rw [hv]; rfl
   | cells hg => rw [hg]; rfl
   | mp hg => rw [hg]; rfl
   | rws hr => obtain ⟨A, c, hv, _⟩ := hr.shape; rw [hv]; rfl
def binV (op : BinOp) : Value → Value → Option (Prop × Value)
 | .int k a, .int k' b => match op with
   | .shl => some (0 ≤ b, .int k (k.wrap (a * 2 ^ (min b.toNat k.bits))))
   | .shr => some (0 ≤ b, .int k (a.fdiv (2 ^ (min b.toNat k.bits))))
   | op => if k = k' then match op with
     | .add => some (True, .int k (k.wrap (a + b)))
     | .sub => some (True, .int k (k.wrap (a - b)))
     | .mul => some (True, .int k (k.wrap (a * b)))
     | .quo => some (b ≠ 0, .int k (k.wrap (a.tdiv b)))
     | .rem => some (b ≠ 0, .int k (a.tmod b))
     | .and => some (True, .int k (k.wrap (BitVec.ofInt k.bits a &&& BitVec.ofInt k.bits b).toNat))
     | .or => some (True, .int k (k.wrap (BitVec.ofInt k.bits a ||| BitVec.ofInt k.bits b).toNat))
     | .xor => some (True, .int k (k.wrap (BitVec.ofInt k.bits a ^^^ BitVec.ofInt k.bits b).toNat))
     | .andNot => some (True, .int k (k.wrap (BitVec.ofInt k.bits a &&& ~~~(BitVec.ofInt k.bits b)).toNat))
     | .eql => some (True, .bool (a == b))
     | .neq => some (True, .bool (a != b))
     | .lss => some (True, .bool (a < b))
     | .leq => some (True, .bool (a ≤ b))
     | .gtr => some (True, .bool (a > b))
     | .geq => some (True, .bool (a ≥ b))
     | _ => none
     else none
 | .string a, .string b => match op with
   | .add => some (((a.size + b.size : Nat) : Int) ≤ IntKind.i64.max, .string (a ++ b))
   | .eql => some (True, .bool (a.toList == b.toList))
   | .neq => some (True, .bool (!(a.toList == b.toList)))
   | .lss => some (True, .bool (Op.bytesLess a.toList b.toList))
   | .leq => some (True, .bool (Op.bytesLess a.toList b.toList || a.toList == b.toList))
   | .gtr => some (True, .bool (!(Op.bytesLess a.toList b.toList || a.toList == b.toList)))
   | .geq => some (True, .bool (!(Op.bytesLess a.toList b.toList)))
   | _ => none
 | .float k a, .float k' b => if k = k' then match op with
   | .eql => some (True, .bool (k.format.order a b == some .eq))
   | .neq => some (True, .bool (k.format.order a b != some .eq))
   | .lss => some (True, .bool (k.format.order a b == some .lt))
   | .leq => some (True, .bool (k.format.order a b == some .lt || k.format.order a b == some .eq))
   | .gtr => some (True, .bool (k.format.order a b == some .gt))
   | .geq => some (True, .bool (k.format.order a b == some .gt || k.format.order a b == some .eq))
   | _ => none
   else none
 | .complex k a b, .complex k' c d => if k = k' then match op with
   | .eql => some (True, .bool (k.format.order a c == some .eq && k.format.order b d == some .eq))
   | .neq => some (True, .bool (!(k.format.order a c == some .eq && k.format.order b d == some .eq)))
   | _ => none
   else none
 | _, _ => none
def boolV (op : BinOp) (a b : Bool) : Option Bool := match op with
 | .eql => some (a == b)
 | .neq => some (!(a == b))
 | _ => none
section
variable {P : Program} {x : World}
theorem run_v {s : Sem Value} {v : Value} (h : s.run P x = .ok v x) : (do pure (.value (← s)) : Sem Next).run P x = .ok (.value v) x := by rw [Sem.run_bind, h]; rfl
theorem binV_ok {op : BinOp} {t : TypeId} {a b v : Value} {c : Prop} (h : binV op a b = some (c, v)) (hc : c) : plain v = true ∧ (binOp op t a b).run P x = .ok v x := by
 unfold binV at h
 split at h
 · rename_i k a k' b
   split at h
   · simp only [Option.some.injEq, Prod.mk.injEq] at h
     obtain ⟨rfl, rfl⟩ := h
     refine ⟨rfl, ?_⟩
     simp only [binOp, Op.shift]
     rw [if_neg (by omega)]; rfl
   · simp only [Option.some.injEq, Prod.mk.injEq] at h
     obtain ⟨rfl, rfl⟩ := h
     refine ⟨rfl, ?_⟩
     simp only [binOp, Op.shift]
     rw [if_neg (by omega)]; rfl
   · rename_i op hl hr
     split at h
     · rename_i hk
       subst hk
       split at h
       all_goals first
        | (cases h; done)
        | (simp only [Option.some.injEq, Prod.mk.injEq] at h
           obtain ⟨rfl, rfl⟩ := h
           refine ⟨rfl, ?_⟩
           simp [binOp, Op.intArith, Op.intBits, Op.intCmp]
           done)
        | (simp only [Option.some.injEq, Prod.mk.injEq] at h
           obtain ⟨rfl, rfl⟩ := h
           refine ⟨rfl, ?_⟩
           simp only [binOp, Op.intDiv, ne_eq, not_true_eq_false, if_false]
           rw [if_neg hc]; rfl)
     · cases h
 · split at h
   · simp only [Option.some.injEq, Prod.mk.injEq] at h
     obtain ⟨rfl, rfl⟩ := h
     refine ⟨rfl, ?_⟩
     simp only [binOp, Op.stringOp]
     rw [if_neg (by omega)]; rfl
   all_goals first
    | (cases h; done)
    | (simp only [Option.some.injEq, Prod.mk.injEq] at h
       obtain ⟨rfl, rfl⟩ := h
       exact ⟨rfl, rfl⟩)
 · split at h
   · rename_i hk
     subst hk
     split at h
     all_goals first
      | (cases h; done)
      | (simp only [Option.some.injEq, Prod.mk.injEq] at h
         obtain ⟨rfl, rfl⟩ := h
         refine ⟨rfl, ?_⟩
         simp [binOp, Op.floatCmp]
         done)
   · cases h
 · split at h
   · rename_i hk
     subst hk
     split at h
     all_goals first
      | (cases h; done)
      | (simp only [Option.some.injEq, Prod.mk.injEq] at h
         obtain ⟨rfl, rfl⟩ := h
         refine ⟨rfl, ?_⟩
         simp [binOp, Op.complexOp, Op.Complex.cmp, Op.floatCmp, asBool]
         done)
   · cases h
 · cases h
theorem boolV_ok {op : BinOp} {t : TypeId} {a b v : Bool} (h : boolV op a b = some v) (ht : P.underlying t = some .bool) : (binOp op t (.bool a) (.bool b)).run P x = .ok (.bool v) x := by
 unfold boolV at h
 split at h
 · cases h
   simp [binOp, Op.equal, Op.maxDepth, run_equalIn_bool' x 9999 t a b ht]
 · cases h
   simp [binOp, Op.equal, Op.maxDepth, run_equalIn_bool' x 9999 t a b ht]
 · cases h
theorem eqGuard_plain {op : BinOp} {t : TypeId} {p q : Operand} {a b : Value} (ha : plain a = true) (hb : plain b = true) (hn : errV a = false) : (eqGuard op t p q a b).run P x = .ok () x := by
 cases a <;> simp [plain] at ha <;> first | (cases op <;> rfl) | cases hn
end
def unS (op : UnOp) : Value → Option Value
 | .int k n => match op with
   | .neg => some (.int k (k.wrap (0 - n)))
   | .xor => some (.int k (k.wrap (BitVec.ofInt k.bits (if k.signed then -1 else k.max) ^^^ BitVec.ofInt k.bits n).toNat))
   | _ => none
 | .bool b => match op with
   | .not => some (.bool !b)
   | _ => none
 | _ => none
theorem unS_ok {P : Program} {x : World} {op : UnOp} {a v : Value} (h : unS op a = some v) : plain v = true ∧ (Op.unary op a).run P x = .ok v x := by
 unfold unS at h
 split at h <;> first | (cases h; done) | (split at h <;> first | (cases h; done) | (cases h; exact ⟨rfl, rfl⟩))
def byteAt (s : ByteArray) (i : Nat) : Int := (s.data.getD i 0).toNat
def yes (s : SV) : Option (Prop × SV) := some (True, s)
def ofV : Option (Prop × Value) → Option (Prop × SV)
 | some (c, v) => some (c, .p (.v v))
 | none => none
abbrev TT := List (TypeId × TyI)
def rPick (c a b : Option SV) : Option (Prop × SV) := match c with
 | some (.p (.v (.bool c))) => match a, b with
   | some (.p (.v (.bool x))), some (.p (.v (.bool y))) => yes (.p (.v (.bool (bif c then x else y))))
   | a, b => match c with
     | true => match a with | some s => yes s | none => none
     | false => match b with | some s => yes s | none => none
 | _ => none
def rBin (T : TT) (op : BinOp) (t : TypeId) (a b : Option SV) : Option (Prop × SV) := match a, b with
 | some (.p (.v (.bool a))), some (.p (.v (.bool b))) => match lk t T with
   | some ⟨_, _, .bool, _, _⟩ => match boolV op a b with
     | some v => yes (.p (.v (.bool v)))
     | none => none
   | _ => none
 | some (.p (.v a)), some (.p (.v b)) => ofV (binV op a b)
 | some (.p (.agg xs)), some (.p (.agg ys)) => match lk t T with
   | some ⟨_, _, _, z, true⟩ => match eqL xs ys with
     | some r => match op with
       | .eql => some (zd xs z = true, .p (.v (.bool r)))
       | .neq => some (zd xs z = true, .p (.v (.bool !r)))
       | _ => none
     | none => none
   | _ => none
 | _, _ => none
def rConv (T : TT) (src dst : TypeId) (a : Option SV) : Option (Prop × SV) := match lk src T, lk dst T, a with
 | some ⟨_, _, .int _, _, _⟩, some ⟨_, _, .int k, _, _⟩, some (.p (.v (.int _ n))) => yes (.p (.v (.int k (k.wrap n))))
 | some ⟨_, _, .str, _, _⟩, some ⟨_, _, .str, _, _⟩, some (.p (.v (.string s))) => yes (.p (.v (.string s)))
 | some ⟨_, _, .cpx, _, _⟩, some ⟨_, _, .cpx, _, _⟩, some (.p (.v (.complex .f64 x y))) => yes (.p (.v (.complex .f64 x y)))
 | _, _, _ => none
def takeT (i : TyI) (cs : List PV) : Option PV := match i.d.agg with
 | true => bif Nat.ble i.size cs.length then some (.agg (cs.take i.size)) else none
 | false => match cs with
   | c :: _ => some c
   | [] => none
def takeS (i : TyI) (cs : List SV) : Option SV := match i.d.agg with
 | true => bif Nat.ble i.size cs.length then some (mkAgg (cs.take i.size)) else none
 | false => match cs with
   | c :: _ => some c
   | [] => none
def rField (T : TT) (t : TypeId) (a : Option SV) (f : Nat) : Option (Prop × SV) := match lk t T with
 | some ⟨_, _, .st fs, _, _⟩ => match fs[f]? with
   | some (off, ft) => match lk ft T with
     | some i => match a with
       | some (.p (.agg cs)) => match takeT i (cs.drop off) with
         | some s => yes (.p s)
         | none => none
       | some (.agg cs) => match takeS i (cs.drop off) with
         | some s => yes s
         | none => none
       | _ => none
     | none => none
   | none => none
 | _ => none
def qal (T : TT) (t : TypeId) (a : Option SV) (f : Nat) : Option (Prop × SV) := match lk t T with
 | some ⟨_, _, .st fs, _, _⟩ => match fs[f]? with
   | some (off, ft) => match lk ft T with
     | some i => bif Nat.beq i.size 0 then none else match a with
       | some (.p (.rp cs)) => yes (.p (.rp (cs.drop off)))
       | some (.ptr j o) => yes (.ptr j (o + off))
       | some (.eptr j z k o) => yes (.eptr j z k (o + off))
       | _ => none
     | none => none
   | none => none
 | _ => none
def wu (T : TT) (st : St) (t : TypeId) (a i : Option SV) : Option (Prop × SV) := match lk t T with
 | some ⟨_, _, .sl e, _, _⟩ => match lk e T with
   | some ei => match a, i with
     | some (.p (.sl z l)), some (.p (.v (.int _ n))) => bif Nat.beq z ei.size then some (0 ≤ n ∧ n < l.length, .p (.rp (l.getD n.toNat []))) else none
     | some (.row j), some (.p (.v (.int _ n))) => match lk j st.own with
       | some (.row _ z l) => bif Nat.beq z ei.size then some (0 ≤ n ∧ n < l.length, .eptr j z n.toNat 0) else none
       | some (.rws _ z pre mid post) => bif Nat.beq z ei.size then some (0 ≤ n ∧ n < (pre.length + (mid.length / z + post.length) : Nat), .ptr j (n.toNat * z)) else none
       | _ => none
     | some (.view j z lo hi), some (.p (.v (.int _ n))) => bif Nat.beq z ei.size then some (0 ≤ n ∧ n < (hi - lo : Nat), .eptr j z (lo + n.toNat) 0) else none
     | _, _ => none
   | none => none
 | some ⟨_, _, .arr len e, _, _⟩ => match lk e T with
   | some ei => match a, i with
     | some (.p (.rp cs)), some (.p (.v (.int _ n))) => some (0 ≤ n ∧ n < len, .p (.rp (cs.drop (n.toNat * ei.size))))
     | some (.ptr j o), some (.p (.v (.int _ n))) => some (0 ≤ n ∧ n < len, .ptr j (o + n.toNat * ei.size))
     | _, _ => none
   | none => none
 | _ => none
def rIndex (T : TT) (t : TypeId) (a i : Option SV) : Option (Prop × SV) := match lk t T with
 | some ⟨_, _, .str, _, _⟩ => match a, i with
   | some (.p (.v (.string s))), some (.p (.v (.int _ n))) => some (0 ≤ n ∧ n < s.size, .p (.v (.int .u8 (byteAt s n.toNat))))
   | _, _ => none
 | some ⟨_, _, .arr len e, _, _⟩ => match lk e T with
   | some ei => match a, i with
     | some (.p (.agg cs)), some (.p (.v (.int _ n))) => match takeT ei (cs.drop (n.toNat * ei.size)) with
       | some s => some (0 ≤ n ∧ n < len, .p s)
       | none => none
     | _, _ => none
   | none => none
 | _ => none
def intS (st : St) (o : Operand) : Option Int := match evS st o with
 | some (.p (.v (.int _ n))) => some n
 | _ => none
def ends (st : St) (n : Nat) : Option Operand → Option Operand → Option (Int × Int)
 | none, none => some (0, (n : Int))
 | some l, none => match intS st l with
   | some l => some (l, (n : Int))
   | none => none
 | none, some h => match intS st h with
   | some h => some (0, h)
   | none => none
 | some l, some h => match intS st l with
   | some l => match intS st h with
     | some h => some (l, h)
     | none => none
   | none => none
def rSlice (T : TT) (st : St) (t : TypeId) (a : Option SV) (lo hi mx : Option Operand) : Option (Prop × SV) := match mx with
 | some _ => none
 | none => match lk t T with
   | some ⟨_, _, .str, _, _⟩ => match a with
     | some (.p (.v (.string s))) => match ends st s.size lo hi with
       | some (l, h) => some (0 ≤ l ∧ l ≤ h ∧ h ≤ s.size, .p (.v (.string (s.extract l.toNat h.toNat))))
       | none => none
     | _ => none
   | some ⟨_, _, .sl e, _, _⟩ => match lk e T with
     | some ei => match a with
       | some (.p (.sl z xs)) => bif Nat.beq z ei.size then match ends st xs.length lo hi with
         | some (l, h) => some (0 ≤ l ∧ l ≤ h ∧ h ≤ xs.length, .p (.sl z ((xs.drop l.toNat).take (h.toNat - l.toNat))))
         | none => none
         else none
       | some (.row j) => match lk j st.own with
         | some (.row _ z xs) => bif Nat.beq z ei.size then match ends st xs.length lo hi with
           | some (l, h) => some (0 ≤ l ∧ l ≤ h ∧ h ≤ xs.length, .view j z l.toNat h.toNat)
           | none => none
           else none
         | _ => none
       | some (.view j z lo0 hi0) => bif Nat.beq z ei.size then match ends st (hi0 - lo0) lo hi with
        | some (l, h) => some (0 ≤ l ∧ l ≤ h ∧ h ≤ (hi0 - lo0 : Nat), .view j z (lo0 + l.toNat) (lo0 + h.toNat))
        | none => none
        else none
       | _ => none
     | none => none
   | _ => none
def rLoad (T : TT) (K : List Nat) (st : St) (t : TypeId) (a : Option SV) : Option (Prop × SV) := match lk t T with
 | some i => match a with
   | some (.p (.rp cs)) => match takeT i cs with
     | some s => yes (.p s)
     | none => none
   | some (.ptr j o) => match K.contains j with
     | true => none
     | false => match lk j st.own with
       | some bx => match bx.cs? with
         | some cs => match takeS i (cs.drop o) with
           | some s => yes s
           | none => none
         | none => none
       | none => none
   | some (.eptr j z k o) => match K.contains j with
     | true => none
     | false => match lk j st.own with
       | some (.row _ z' l) => bif Nat.beq z z' then (match takeT i ((l.getD k []).drop o) with
         | some s => some (k < l.length, .p s)
         | none => none) else none
       | _ => none
   | _ => none
 | none => none
def rLen (T : TT) (st : St) (t : TypeId) (a : Option SV) : Option (Prop × SV) := match lk t T with
 | some ⟨_, _, .str, _, _⟩ => match a with
   | some (.p (.v (.string s))) => yes (.p (.v (.int .i64 s.size)))
   | _ => none
 | some ⟨_, _, .sl _, _, _⟩ => match a with
   | some (.p (.sl _ l)) => yes (.p (.v (.int .i64 l.length)))
   | some (.p (.v (.slice none 0 0))) => yes (.p (.v (.int .i64 0)))
   | some (.row j) => match lk j st.own with
     | some (.row _ _ l) => yes (.p (.v (.int .i64 l.length)))
     | some (.rws _ z pre mid post) => yes (.p (.v (.int .i64 (pre.length + (mid.length / z + post.length) : Nat))))
     | _ => none
   | some (.view _ _ lo hi) => yes (.p (.v (.int .i64 (hi - lo : Nat))))
   | _ => none
 | _ => none
def evs (st : St) : List Operand → Option (List SV)
 | [] => some []
 | x :: r => match evS st x, evs st r with
   | some s, some l => some (s :: l)
   | _, _ => none
def kdOk : Ty → Value → Bool
 | .str, .string _ => true
 | .int k, .int k' _ => decide (k' = k)
 | _, _ => false
def keyEq : Value → Value → Bool
 | .string a, .string b => decide (a = b)
 | .int j a, .int k b => decide (j = k ∧ a = b)
 | _, _ => false
def mfind (k : Value) : List (Value × PV) → Option PV
 | [] => none
 | (k', p) :: r => bif keyEq k k' then some p else mfind k r
def rLookup (T : TT) (K : List Nat) (st : St) (t : TypeId) (m k : Option SV) : Option (Prop × SV) := match lk t T with
 | some ⟨_, _, .mp kt et, _, _⟩ => match lk kt T, lk et T with
   | some ki, some ei => match m, k with
     | some (.row j), some (.p (.v kv)) => match K.contains j with
       | true => none
       | false => match lk j st.own with
         | some (.mp es) => bif kdOk ki.d kv then some (es.all (fun x => kdOk ki.d x.1) = true, .tup [match mfind kv es with | some p => .p p | none => (match ei.zero with | [] => .p (.agg []) | _ => .junk), .p (.v (.bool (mfind kv es).isSome))]) else none
         | _ => none
     | _, _ => none
   | _, _ => none
 | _ => none
def rParts (T : TT) (st : St) (fs : List (Nat × TypeId)) : List (Nat × Operand) → List SV → Option (List SV)
 | [], zs => some zs
 | (i, x) :: r, zs => match fs[i]? with
   | some (off, ft) => match lk ft T with
     | some fi => match evS st x with
       | some s => match cellsOf s with
         | some xs => bif Nat.beq xs.length fi.size && Nat.ble (off + xs.length) zs.length then rParts T st fs r (zs.take off ++ xs ++ zs.drop (off + xs.length)) else none
         | none => none
       | none => none
     | none => none
   | none => none
def rBuild (T : TT) (st : St) (t : TypeId) (parts : List (Nat × Operand)) : Option (Prop × SV) := match lk t T with
 | some ⟨_, _, .st fs, z, _⟩ => bif z.all plain && fs.all (fun f => (lk f.2 T).isSome) then (match rParts T st fs parts (z.map fun v => .p (.v v)) with
   | some zs => yes (mkAgg zs)
   | none => none) else none
 | _ => none
def maxF (k : FloatKind) (x y : Nat) : Option Nat := match k.format.order x y with
 | none => none
 | some .lt => some y
 | some .gt => some x
 | some .eq => some (if (k.decode x).neg then y else x)
def rMinMax (mn : Bool) (a b : Option SV) : Option (Prop × SV) := match a, b with
 | some (.p (.v (.float k x))), some (.p (.v (.float _ y))) => match mn, maxF k x y with
   | false, some r => yes (.p (.v (.float k r)))
   | _, _ => none
 | some (.p (.v (.int k x))), some (.p (.v (.int _ y))) => yes (.p (.v (.int k (match mn with | true => if y < x then y else x | false => if x < y then y else x))))
 | _, _ => none
def rReal : Option SV → Option (Prop × SV)
 | some (.p (.v (.complex k x _))) => yes (.p (.v (.float k x)))
 | _ => none
def rImag : Option SV → Option (Prop × SV)
 | some (.p (.v (.complex k _ y))) => yes (.p (.v (.float k y)))
 | _ => none
def rCplx : Option SV → Option SV → Option (Prop × SV)
 | some (.p (.v (.float .f64 x))), some (.p (.v (.float .f64 y))) => yes (.p (.v (.complex .f64 x y)))
 | _, _ => none
def opR (T : TT) (K : List Nat) (st : St) (o : Op) : Option (Prop × SV) := match o with
 | .move x => match evS st x with | some s => yes s | none => none
 | .assign x => match evS st x with | some s => yes s | none => none
 | .pick c a b => rPick (evS st c) (evS st a) (evS st b)
 | .binOp op t x y _ => rBin T op t (evS st x) (evS st y)
 | .unOp op _ x => match evS st x with
   | some (.p (.v v)) => match unS op v with
     | some v => yes (.p (.v v))
     | none => none
   | _ => none
 | .convert s d x => rConv T s d (evS st x)
 | .field t x f => rField T t (evS st x) f
 | .fieldAddr t x f => qal T t (evS st x) f
 | .indexAddr t x i => wu T st t (evS st x) (evS st i)
 | .index t x i => rIndex T t (evS st x) (evS st i)
 | .slice t x lo hi mx => rSlice T st t (evS st x) lo hi mx
 | .load t a => rLoad T K st t (evS st a)
 | .extract x n => match evS st x with
   | some (.tup cs) => match cs[n]? with
     | some s => yes s
     | none => none
   | _ => none
 | .makeFunc (.func f) first caps => match first.size with
   | 0 => match evs st caps.toList with
     | some l => match pures l with
       | some ps => yes (.p (.fn f ps))
       | none => yes (.fn f l)
     | none => none
   | _ => none
 | .call c => match c.callee with
   | .builtin .len => match c.args.toList, c.argTypes.toList with
     | [x], [t] => rLen T st t (evS st x)
     | _, _ => none
   | .builtin .min => match c.args.toList with
     | [x, y] => rMinMax true (evS st x) (evS st y)
     | _ => none
   | .builtin .max => match c.args.toList with
     | [x, y] => rMinMax false (evS st x) (evS st y)
     | _ => none
   | .builtin .real => match c.args.toList with
     | [x] => rReal (evS st x)
     | _ => none
   | .builtin .imag => match c.args.toList with
     | [x] => rImag (evS st x)
     | _ => none
   | .builtin .complex => match c.args.toList with
     | [x, y] => rCplx (evS st x) (evS st y)
     | _ => none
   | _ => none
 | .lookup t m k true => rLookup T K st t (evS st m) (evS st k)
 | .build t parts => rBuild T st t parts.toList
 | .nilCheck x => match evS st x with
   | some (.ptr j o) => yes (.ptr j o)
   | some (.eptr j z k o) => yes (.eptr j z k o)
   | some (.p (.rp cs)) => yes (.p (.rp cs))
   | _ => none
 | _ => none
theorem addr_add2 (a : Addr) (m n z : Nat) : (a.add (m * z)).add (n * z) = a.add ((m + n) * z) := by
 rw [Nat.add_mul]
 generalize m * z = x
 generalize n * z = y
 unfold Addr.add
 by_cases hx : x = 0
 · subst hx; simp
 · by_cases hy : y = 0
   · subst hy; simp
   · rw [if_neg hx, if_neg hy, if_neg (by omega)]
     simp [Nat.add_assoc]
theorem jC (b o n : Nat) : (⟨b, o, none⟩ : Addr).add n = ⟨b, o + n, none⟩ := by
 unfold Addr.add; split
 · simp [*]
 · rfl
section
variable {P : Program} {T : TT} (hT : qX P T) {K : List Nat} {w0 : Base} {Sx : Nat → Prop} {γ : Nat → Value} {st : St} {a : Act} {w : World} (hI : Sim w0 Sx γ st a w)
def Rd (P : Program) (K : List Nat) (Sx : Nat → Prop) (γ : Nat → Value) (st : St) (w : World) (sem : Sem Value) (s : SV) : Prop :=
 ∃ v, RelS (okO Sx γ st.own) (hp γ st.own) w s v ∧ ∀ x, SameOn (vis K γ st.own) w x → sem.run P x = .ok v x
theorem qO {sem : Sem Value} {s : SV} {v : Value} (h : RelS (okO Sx γ st.own) (hp γ st.own) w s v) (h2 : ∀ x, sem.run P x = .ok v x) : Rd P K Sx γ st w sem s := ⟨v, h, fun x _ => h2 x⟩
theorem takeT_list {ok : Nat → Prop} {t : TypeId} {i : TyI} (hi : TyOk P t i) {cs : List PV} {us : List Value} {s : PV} (h : takeT i cs = some s) (hl : us.length = cs.length)
 (hr : ∀ (j : Nat) (s : PV) (u : Value), cs[j]? = some s → us[j]? = some u → RelP ok w s u) :
 ∃ v, RelP ok w s v ∧ (i.d.agg = true → v = .agg (us.take i.size).toArray ∧ i.size ≤ us.length) ∧ (i.d.agg = false → us[0]? = some v) := by
 unfold takeT at h
 split at h
 · rename_i hg
   cases hb : Nat.ble i.size cs.length with
   | false => rw [hb] at h; cases h
   | true =>
     rw [hb] at h
     simp only [cond_true, Option.some.injEq] at h
     subst h
     have hle : i.size ≤ cs.length := Nat.le_of_ble_eq_true hb
     refine ⟨_, .agg (us := us.take i.size) (by simp; omega) (fun j s u hj hu => ?_), fun _ => ⟨rfl, by omega⟩, (fun h => by rw [hg] at h; cases h)⟩
     rw [List.getElem?_take] at hj hu
     split at hj
     · rename_i hlt
       rw [if_pos hlt] at hu
       exact hr j s u hj hu
     · cases hj
 · rename_i hg
   split at h
   · rename_i c r
     simp only [Option.some.injEq] at h
     subst h
     cases us with
     | nil => simp at hl
     | cons u us =>
       refine ⟨u, hr 0 _ u rfl rfl, (fun h => by rw [hg] at h; cases h), fun _ => rfl⟩
   · cases h
theorem takeS_list {ok : Nat → Prop} {H : Nat → Option Value} {t : TypeId} {i : TyI} (hi : TyOk P t i) {cs : List SV} {us : List Value} {s : SV} (h : takeS i cs = some s) (hl : us.length = cs.length)
 (hr : ∀ (j : Nat) (s : SV) (u : Value), cs[j]? = some s → us[j]? = some u → RelS ok H w s u) :
 ∃ v, RelS ok H w s v ∧ (i.d.agg = true → v = .agg (us.take i.size).toArray ∧ i.size ≤ us.length) ∧ (i.d.agg = false → us[0]? = some v) := by
 unfold takeS at h
 split at h
 · rename_i hg
   cases hb : Nat.ble i.size cs.length with
   | false => rw [hb] at h; cases h
   | true =>
     rw [hb] at h
     simp only [cond_true, Option.some.injEq] at h
     subst h
     have hle : i.size ≤ cs.length := Nat.le_of_ble_eq_true hb
     refine ⟨_, relS_mkAgg (us := us.take i.size) (by simp; omega) (fun j s u hj hu => ?_), fun _ => ⟨rfl, by omega⟩, (fun h => by rw [hg] at h; cases h)⟩
     rw [List.getElem?_take] at hj hu
     split at hj
     · rename_i hlt
       rw [if_pos hlt] at hu
       exact hr j s u hj hu
     · cases hj
 · rename_i hg
   split at h
   · rename_i c r
     simp only [Option.some.injEq] at h
     subst h
     cases us with
     | nil => simp at hl
     | cons u us =>
       refine ⟨u, hr 0 _ u rfl rfl, (fun h => by rw [hg] at h; cases h), fun _ => rfl⟩
   · cases h
theorem RelP.rp_cells {ok : Nat → Prop} {cs : List PV} {u : Value} (h : RelP ok w (.rp cs) u) : ∃ b o us, u = .pointer (some ⟨b, o, none⟩) ∧ ok b ∧ b < w.heap.size ∧ us.length = cs.length ∧ CellsAt w b o us ∧
 ∀ (j : Nat) (s : PV) (u : Value), cs[j]? = some s → us[j]? = some u → RelP ok w s u := by
 cases h with
 | @rp cs b o hok hlt hx h =>
   have hex : ∀ j : Nat, ∃ u, j < cs.length → w.cell? ⟨b, o + j, none⟩ = some u := fun j => by
    by_cases hj : j < cs.length
    · obtain ⟨u, hu⟩ := hx j hj; exact ⟨u, fun _ => hu⟩
    · exact ⟨.nilIface, fun h => absurd h hj⟩
   obtain ⟨f, hf⟩ := Classical.axiomOfChoice hex
   refine ⟨b, o, (List.range cs.length).map f, rfl, hok, hlt, by simp, fun j u hj => ?_, fun j s u hs hu => ?_⟩
   · have hj' : j < cs.length := by have := (List.getElem?_eq_some_iff.1 hj).1; simpa using this
     simp [hj'] at hj
     rw [← hj]; exact hf j hj'
   · have hj' : j < cs.length := (List.getElem?_eq_some_iff.1 hs).1
     simp [hj'] at hu
     exact h j s u hs (by rw [← hu]; exact hf j hj')
theorem load_at {t : TypeId} {i : TyI} (hi : TyOk P t i) {b o : Nat} {us : List Value} {v : Value} (hc : CellsAt w b o us) (h1 : i.d.agg = true → v = .agg (us.take i.size).toArray ∧ i.size ≤ us.length) (h2 : i.d.agg = false → us[0]? = some v)
 {x : World} (hx : ∀ k, x.cell? ⟨b, k, none⟩ = w.cell? ⟨b, k, none⟩) : (Instr.loadAt t (.pointer (some ⟨b, o, none⟩))).run P x = .ok v x := by
 simp only [Instr.loadAt, Instr.sureAddr, Sem.run_bind, Sem.run_pure, Result.andThen_ok, loadVar, hi.isAgg x]
 cases hg : i.d.agg with
 | true =>
   obtain ⟨rfl, hle⟩ := h1 hg
   simp only [if_true, Sem.run_bind, hi.size x, Result.andThen_ok]
   have := run_loadCells_list (P := P) x ⟨b, o, none⟩ (us.take i.size) (fun j v hj => by
    rw [jC, hx]
    rw [List.getElem?_take] at hj
    split at hj
    · exact hc j v hj
    · cases hj)
   rw [List.length_take, Nat.min_eq_left hle] at this
   rw [this]
   rfl
 | false =>
   have h3 := hc 0 v (h2 hg)
   simp only [Bool.false_eq_true, if_false, load, Sem.run]
   rw [hx, ← Nat.add_zero o, h3]
theorem row_elem {B : Base} (h : HeapOk B Sx γ st.own w) {j : Nat} {e : TypeId} {z : Nat} {l : List (List PV)} (hj : lk j st.own = some (.row e z l)) {k : Nat} (hk : k < l.length) :
 ∃ b cs, qK (γ j) = some b ∧ b < w.heap.size ∧ CellsAt w b (k * z) cs ∧ cs.length = z ∧ rPV (okO Sx γ st.own) w cs l[k] := by
 cases h.box j _ hj with
 | row hr he hm =>
   obtain ⟨A, c, hv, hlc, hcm⟩ := hr.shape
   obtain ⟨css, h1, h2, h3⟩ := hr
   rcases h1.2 with ⟨hv', h0⟩ | ⟨g, cap, cur, hv', hg, hh, _⟩
   · omega
   · have h1' : OwnF Subtype.val z w 0 e (.slice (some ⟨g, 0, none⟩) css.length cap) css := by rw [← hv']; exact h1
     obtain ⟨b, o, hA, hlt, hc⟩ := OwnF.slat (R := fun _ cs (y : Cel z) => cs = y.val) (fun x => x.2.1) h1' (fun x _ => rfl) (by omega)
     simp only [Option.some.injEq, Addr.mk.injEq] at hA
     obtain ⟨rfl, rfl, _⟩ := hA
     obtain ⟨cs, a1, a2, rfl⟩ := hc k (by omega)
     refine ⟨g, _, by rw [hv']; rfl, hlt, by rw [Nat.zero_add] at a2; exact a2, a1, ?_⟩
     refine good_PV.weak _ _ _ _ _ (fun c _ hok => ⟨hok.1.1, fun i bx hi hic => ?_⟩) (h3 k (by omega) hk)
     by_cases e : i = j
     · subst e
       refine hok.2 ?_
       rw [hv'] at hic ⊢
       rw [← hic]; rfl
     · exact hok.1.2 i bx hi e hic
theorem view_addr {B : Base} {own : List (Nat × Box)} (h : HeapOk B Sx γ own w) {j : Nat} {A : Option Addr} {n c : Nat} (hj : hp γ own j = some (.slice A n c)) (hn : 0 < n) : ∃ b, A = some ⟨b, 0, none⟩ := by
 cases hl : lk j own with
 | none => unfold hp at hj; rw [hl] at hj; cases hj
 | some bx =>
   have hg : γ j = .slice A n c := by unfold hp at hj; rw [hl] at hj; simpa using hj
   cases h.box j bx hl with
   | row hr =>
     obtain ⟨css, h1, _⟩ := hr
     rcases h1.2 with ⟨hv, h0⟩ | ⟨g, cap, cur, hv, _⟩
     · rw [hg] at hv; cases hv; omega
     · rw [hg] at hv; cases hv; exact ⟨g, rfl⟩
   | cells hg' => rw [hg] at hg'; cases hg'
   | mp hg' => rw [hg] at hg'; cases hg'
   | rws h1 =>
     rcases h1.2 with ⟨hv, h0⟩ | ⟨g, cap, cur, hv, _⟩
     · rw [hg] at hv; cases hv; omega
     · rw [hg] at hv; cases hv; exact ⟨g, rfl⟩
theorem flatG_len {α β : Type} {f : α → List β} {z : Nat} : ∀ (l : List α) (_ : ∀ x ∈ l, (f x).length = z), (l.flatMap f).length = l.length * z
 | [], _ => by simp
 | x :: l, hf => by
   rw [List.flatMap_cons, List.length_append, flatG_len l (fun y hy => hf y (by simp [hy])), hf x (by simp), List.length_cons, Nat.succ_mul]; omega
theorem rowF_len {l : List (List PV)} {z : Nat} (h : ∀ x ∈ l, x.length = z) : (rowF l).length = l.length * z := flatG_len l fun x hx => by rw [List.length_map]; exact h x hx
theorem rwC_len {pre post : List (List PV)} {mid : List SV} {z n nm : Nat} (hp : ∀ x ∈ pre ++ post, x.length = z ∧ ∀ s ∈ x, oneP s = true) (hn : n = pre.length + (nm + post.length)) (hmid : mid.length = nm * z) : (rwC pre mid post).length = n * z := by
 rw [rwC, List.length_append, List.length_append, rowF_len fun x hx => (hp x (List.mem_append_left _ hx)).1, rowF_len fun x hx => (hp x (List.mem_append_right _ hx)).1, hmid, hn, Nat.add_mul, Nat.add_mul]
theorem box_cells {B : Base} (h : HeapOk B Sx γ st.own w) {j : Nat} {bx : Box} (hj : lk j st.own = some bx) {cs : List SV} (hc : bx.cs? = some cs) {b : Nat} (hb : qK (γ j) = some b) :
 ∃ us : List Value, b < w.heap.size ∧ us.length = cs.length ∧ (∀ (k : Nat) (s : SV) (u : Value), cs[k]? = some s → us[k]? = some u → RelS (okO Sx γ st.own) (hp γ st.own) w s u) ∧ CellsAt w b 0 us := by
 cases h.box j _ hj with
 | row => cases hc
 | mp => cases hc
 | @cells cs us ty b' hg' hB hh hl hr =>
   cases hc
   rw [hg'] at hb
   simp only [qK, Option.some.injEq] at hb
   subst hb
   refine ⟨us, lt_of_block hh, hl, hr, fun k u hk => ?_⟩
   unfold World.cell?
   rw [hh]
   simpa using hk
 | @rws e z pre post mid css nm h1 hz hpp hn hmid hr hm hk =>
   cases hc
   have hl := rwC_len hpp hn hmid
   rcases h1.2 with ⟨hv, h0⟩ | ⟨g, cap, cur, hv, hg, hh, hnc, hcm, hcs, htake⟩
   · rw [hv] at hb; cases hb
   · rw [hv] at hb
     simp only [qK, Option.some.injEq] at hb
     subst hb
     refine ⟨css.flatMap Subtype.val, lt_of_block hh, by rw [zt (fun x : Cel z => x.2.1)]; exact hl.symm, hr, fun k u hk => ?_⟩
     unfold World.cell?
     rw [hh]
     have hk' : k < css.length * z := by rw [← zt (fun x : Cel z => x.2.1) css]; exact (List.getElem?_eq_some_iff.1 hk).1
     rw [← htake, List.getElem?_take_of_lt hk'] at hk
     simpa using hk
theorem rws_shape {B : Base} (h : HeapOk B Sx γ st.own w) {j : Nat} {e : TypeId} {z : Nat} {pre post : List (List PV)} {mid : List SV} (hj : lk j st.own = some (.rws e z pre mid post)) :
 ∃ A c, γ j = .slice A (pre.length + (mid.length / z + post.length)) c ∧ pre.length + (mid.length / z + post.length) ≤ c ∧ (0 < pre.length + (mid.length / z + post.length) → ∃ b, A = some ⟨b, 0, none⟩) := by
 cases h.box j _ hj with
 | @rws _ _ _ _ _ css nm h1 hz hpp hn hmid hr hm hk =>
   have hd : mid.length / z = nm := by rw [hmid]; exact Nat.mul_div_cancel _ hz
   rw [hd, ← hn]
   rcases h1.2 with ⟨hv, h0⟩ | ⟨g, cap, cur, hv, hg, hh, hnc, _⟩
   · exact ⟨none, 0, by rw [hv, h0], by omega, fun h => by omega⟩
   · exact ⟨_, cap, hv, by omega, fun _ => ⟨g, rfl⟩⟩
theorem RelS.eptr_inv {ok : Nat → Prop} {H : Nat → Option Value} {i z k o b : Nat} {u g : Value} (h : RelS ok H w (.eptr i z k o) u) (hg : H i = some g) (hb : qK g = some b) : u = .pointer (some ⟨b, k * z + o, none⟩) := by
 cases h with
 | eptr h hb' => rw [hg] at h; cases h; rw [hb] at hb'; cases hb'; rfl
include hT hI
theorem rLoad_ok {t : TypeId} {x : Operand} {s : SV} {c : Prop} (h : rLoad T K st t (evS st x) = some (c, s)) (hc : c) : Rd P K Sx γ st w (Instr.loadAt t (a.eval x)) s := by
 unfold rLoad at h
 split at h
 · rename_i i hti
   have hi := hT t i hti
   split at h
   · rename_i cs hx
     split at h
     · rename_i s' hs
       simp only [yes, Option.some.injEq, Prod.mk.injEq] at h
       obtain ⟨_, rfl⟩ := h
       obtain ⟨b, o, us, hu, hok, hlt, hl, hc, hr⟩ := (qp hI hx).p_inv.rp_cells
       obtain ⟨v, h1, h2, h3⟩ := takeT_list hi hs hl hr
       refine ⟨v, .p h1, fun y hy => ?_⟩
       rw [hu]
       exact load_at hi hc h2 h3 fun k => World.cell?_of_block (w := w) (a := ⟨b, k, none⟩) (hy.block b hlt (okO_vis hok))
     · cases h
   · rename_i j o hx
     split at h
     · cases h
     · rename_i hK
       split at h
       · rename_i bx hj
         split at h
         · rename_i cs hcs
           split at h
           · rename_i s' hs
             simp only [yes, Option.some.injEq, Prod.mk.injEq] at h
             obtain ⟨_, rfl⟩ := h
             have he := qp hI hx
             generalize hau : a.eval x = u at he
             cases he with
             | @ptr _ _ b g hg hb =>
               have e1 : g = γ j := by unfold hp at hg; rw [hj] at hg; simpa using hg.symm
               subst e1
               obtain ⟨us, hlt, hl, hr, hat⟩ := box_cells hI.heap hj hcs hb
               obtain ⟨v, h1, h2, h3⟩ := takeS_list (us := us.drop o) (ok := okO Sx γ st.own) (H := hp γ st.own) (w := w) hi hs (by simp [hl]) (fun k s u hk hu => hr (o + k) s u (by simpa [List.getElem?_drop] using hk) (by simpa [List.getElem?_drop] using hu))
               refine ⟨v, h1, fun y hy => ?_⟩
               refine load_at hi (o := o) (us := us.drop o) (fun k u hk => ?_) h2 h3 fun k => World.cell?_of_block (w := w) (a := ⟨b, k, none⟩) (hy.block b hlt fun i bx hib hiK hbi => ?_)
               · have := hat (o + k) u (by simpa [List.getElem?_drop] using hk)
                 rwa [Nat.zero_add] at this
               · have : j = i := hI.heap.inj j i _ _ b hj hib hb hbi
                 subst this
                 rw [hK] at hiK
                 cases hiK
           · cases h
         · cases h
       · cases h
   · rename_i j z k o hx
     split at h
     · cases h
     · rename_i hK
       split at h
       · rename_i e z' l hj
         cases hz : Nat.beq z z' with
         | false => rw [hz] at h; cases h
         | true =>
           rw [hz] at h
           simp only [cond_true] at h
           have hzz : z = z' := Nat.eq_of_beq_eq_true hz
           subst hzz
           split at h
           · rename_i s' hs
             simp only [Option.some.injEq, Prod.mk.injEq] at h
             obtain ⟨rfl, rfl⟩ := h
             obtain ⟨b, us, hb, hlt, hcs, hlen, hrp⟩ := row_elem hI.heap hj hc
             have hpj : hp γ st.own j = some (γ j) := by unfold hp; rw [hj]
             have hau := (qp hI hx).eptr_inv hpj hb
             have hgd : l.getD k [] = l[k] := by simp [hc]
             rw [hgd] at hs
             obtain ⟨v, h1, h2, h3⟩ := takeT_list (us := us.drop o) (ok := okO Sx γ st.own) (w := w) hi hs (by simp [hrp.1]) (fun m s u hm hu => hrp.2 (o + m) s u (by simpa [List.getElem?_drop] using hm) (by simpa [List.getElem?_drop] using hu))
             refine ⟨v, .p h1, fun y hy => ?_⟩
             rw [hau]
             refine load_at hi (o := k * z + o) (fun m u hm => ?_) h2 h3 fun m => World.cell?_of_block (w := w) (a := ⟨b, m, none⟩) (hy.block b hlt fun i bx hib hiK hbi => ?_)
             · rw [Nat.add_assoc]; exact hcs (o + m) u (by simpa [List.getElem?_drop] using hm)
             · have : j = i := hI.heap.inj j i _ _ b hj hib hb hbi
               subst this
               rw [hK] at hiK
               cases hiK
           · cases h
       · cases h
   · cases h
 · cases h
theorem rBin_ok {op : BinOp} {t : TypeId} {x y : Operand} {s : SV} {c : Prop} (h : rBin T op t (evS st x) (evS st y) = some (c, s)) (hc : c) :
 Rd P K Sx γ st w (do eqGuard op t x y (a.eval x) (a.eval y); binOp op t (a.eval x) (a.eval y)) s := by
 unfold rBin at h
 split at h
 · rename_i p q hx hy
   have ex := (qp hI hx).v_inv
   have ey := (qp hI hy).v_inv
   rw [ex, ey]
   split at h
   · rename_i hti
     have hi := (hT t _ hti).und
     split at h
     · rename_i v hv
       simp only [yes, Option.some.injEq, Prod.mk.injEq] at h
       obtain ⟨_, rfl⟩ := h
       refine qO (.p (.v (by rfl : plain (.bool v) = true))) fun z => ?_
       rw [Sem.run_bind, eqGuard_plain rfl rfl rfl]
       exact boolV_ok hv hi
     · cases h
   · cases h
 · rename_i p q hneg hx hy
   have ex := qp hI hx
   have ey := qp hI hy
   have px : plain (a.eval x) = true := by have := ex.p_inv; cases this; assumption
   have py : plain (a.eval y) = true := by have := ey.p_inv; cases this; assumption
   have ex := ex.v_inv
   have ey := ey.v_inv
   rw [ex] at px ⊢
   rw [ey] at py ⊢
   unfold ofV at h
   split at h
   · rename_i c' v hv
     simp only [Option.some.injEq, Prod.mk.injEq] at h
     obtain ⟨rfl, rfl⟩ := h
     refine qO (.p (.v (binV_ok (P := P) (x := w) (t := t) hv hc).1)) fun z => ?_
     rw [Sem.run_bind, eqGuard_plain px py (by cases p <;> first | rfl | (simp [binV] at hv; done))]
     exact (binV_ok hv hc).2
   · cases h
 · rename_i xs ys hx hy
   split at h
   · rename_i _ _ _ z hti
     have hi := hT t _ hti
     split at h
     · rename_i r hr
       have hun : ∀ {xs ys : List PV} {r : Bool}, eqL xs ys = some r → ys.length = xs.length ∧ (∀ e ∈ xs, ∃ v, e = .v v) ∧ (∀ e ∈ ys, ∃ v, e = .v v) := by
        intro xs
        induction xs with
        | nil => intro ys r h; cases ys <;> simp [eqL] at h; simp
        | cons e xs ih =>
          intro ys r h
          cases ys with
          | nil => simp [eqL] at h
          | cons f ys =>
            unfold eqL at h
            split at h
            · rename_i b1 h1
              split at h
              · rename_i b2 h2
                obtain ⟨i1, i2, i3⟩ := ih h2
                have : (∃ v, e = .v v) ∧ (∃ v, f = .v v) := by
                 unfold eqC at h1
                 split at h1 <;> first | (cases h1; done) | exact ⟨⟨_, rfl⟩, ⟨_, rfl⟩⟩
                exact ⟨by simp [i1], List.forall_mem_cons.2 ⟨this.1, i2⟩, List.forall_mem_cons.2 ⟨this.2, i3⟩⟩
              · cases h
            · cases h
       obtain ⟨hlen, hvx, hvy⟩ := hun hr
       have val : ∀ {zs : List PV} {u : Value}, (∀ e ∈ zs, ∃ v, e = .v v) → RelP (okO Sx γ st.own) w (.agg zs) u → u = .agg (zs.map unv).toArray := by
        intro zs u hz hu
        cases hu with
        | @agg cs us hl h =>
          congr 1
          congr 1
          refine List.ext_getElem? fun i => ?_
          by_cases hi : i < zs.length
          · have h1 : zs[i]? = some zs[i] := List.getElem?_eq_getElem hi
            have h2 : us[i]? = some (us[i]'(by omega)) := List.getElem?_eq_getElem (by omega)
            obtain ⟨v, hv⟩ := hz zs[i] (List.getElem_mem hi)
            have h3 := h i _ _ h1 h2
            rw [hv] at h3
            have h4 : us[i]'(by omega) = v := by cases h3; rfl
            rw [List.getElem?_map, h1, h2, hv, h4]; rfl
          · rw [List.getElem?_eq_none (by omega), List.getElem?_map, List.getElem?_eq_none (by omega)]; rfl
       have ex := val hvx (qp hI hx).p_inv
       have ey := val hvy (qp hI hy).p_inv
       rw [ex, ey]
       obtain ⟨hg, he⟩ := hi.eqs rfl
       split at h
       · simp only [Option.some.injEq, Prod.mk.injEq] at h
         obtain ⟨rfl, rfl⟩ := h
         refine qO (.p (.v (by rfl : plain (.bool r) = true))) fun z => ?_
         rw [Sem.run_bind, run_eqGuard_agg z .eql t x y _ _ hg]
         simp only [Result.andThen_ok, run_eql_struct, he xs ys r z hr hc]
       · simp only [Option.some.injEq, Prod.mk.injEq] at h
         obtain ⟨rfl, rfl⟩ := h
         refine qO (.p (.v (by rfl : plain (.bool !r) = true))) fun z => ?_
         rw [Sem.run_bind, run_eqGuard_agg z .neq t x y _ _ hg]
         simp only [Result.andThen_ok, run_neq_struct, he xs ys r z hr hc]
       · cases h
     · cases h
   · cases h
 · cases h
omit hT in
theorem rPick_ok {x y z : Operand} {s : SV} {c : Prop} (h : rPick (evS st x) (evS st y) (evS st z) = some (c, s)) :
 Rd P K Sx γ st w (do pure (if ← asBool (a.eval x) then a.eval y else a.eval z)) s := by
 unfold rPick at h
 split at h
 · rename_i b hx
   have ex := (qp hI hx).v_inv
   rw [ex]
   split at h
   · rename_i p q hy hz
     have ey := (qp hI hy).v_inv
     have ez := (qp hI hz).v_inv
     rw [ey, ez]
     simp only [yes, Option.some.injEq, Prod.mk.injEq] at h
     obtain ⟨_, rfl⟩ := h
     refine qO (.p (.v (by rfl : plain (.bool (bif b then p else q)) = true))) fun z => ?_
     cases b <;> rfl
   · split at h
     · split at h
       · rename_i s' hy
         simp only [yes, Option.some.injEq, Prod.mk.injEq] at h
         obtain ⟨_, rfl⟩ := h
         exact qO (qp hI hy) fun z => rfl
       · cases h
     · split at h
       · rename_i s' hz
         simp only [yes, Option.some.injEq, Prod.mk.injEq] at h
         obtain ⟨_, rfl⟩ := h
         exact qO (qp hI hz) fun z => rfl
       · cases h
 · cases h
theorem rConv_ok {t d : TypeId} {x : Operand} {s : SV} {c : Prop} (h : rConv T t d (evS st x) = some (c, s)) : Rd P K Sx γ st w (convert t d (a.eval x)) s := by
 unfold rConv at h
 split at h
 · rename_i ht hd hx
   have ex := (qp hI hx).v_inv
   rw [ex]
   have ut := (hT t _ ht).und
   have ud := (hT d _ hd).und
   simp only [je] at ut ud
   simp only [yes, Option.some.injEq, Prod.mk.injEq] at h
   obtain ⟨_, rfl⟩ := h
   refine qO (.p (.v rfl)) fun z => ?_
   simp [convert, run_underlying ut, run_underlying ud, Conv.intToInt]
 · rename_i ht hd hx
   have ex := (qp hI hx).v_inv
   rw [ex]
   have ut := (hT t _ ht).und
   have ud := (hT d _ hd).und
   simp only [je] at ut ud
   simp only [yes, Option.some.injEq, Prod.mk.injEq] at h
   obtain ⟨_, rfl⟩ := h
   refine qO (.p (.v rfl)) fun z => ?_
   simp [convert, run_underlying ut, run_underlying ud]
 · rename_i ht hd hx
   have ex := (qp hI hx).v_inv
   rw [ex]
   have ut := (hT t _ ht).und
   have ud := (hT d _ hd).und
   simp only [je] at ut ud
   simp only [yes, Option.some.injEq, Prod.mk.injEq] at h
   obtain ⟨_, rfl⟩ := h
   refine qO (.p (.v rfl)) fun z => ?_
   simp [convert, run_underlying ut, run_underlying ud, Conv.complexToComplex, Conv.floatToFloat]
 · cases h
omit hT hI in
theorem run_partT {ft : TypeId} {i : TyI} (hi : TyOk P ft i) {us : List Value} {off : Nat} {v : Value} (h1 : i.d.agg = true → v = .agg ((us.drop off).take i.size).toArray ∧ i.size ≤ (us.drop off).length) (h2 : i.d.agg = false → (us.drop off)[0]? = some v)
 (x : World) : (part ft us.toArray off).run P x = .ok v x := by
 simp only [part, Sem.run_bind, hi.isAgg x, Result.andThen_ok]
 cases hg : i.d.agg with
 | true =>
   obtain ⟨rfl, hle⟩ := h1 hg
   simp only [if_true, Sem.run_bind, hi.size x, Result.andThen_ok, Sem.run_pure]
   congr 2
   rw [List.extract_toArray]
   congr 1
   simp [List.extract_eq_take_drop]
 | false =>
   have h3 := h2 hg
   simp only [List.getElem?_drop, Nat.add_zero] at h3
   simp [h3]
theorem rField_ok {t : TypeId} {x : Operand} {f : Nat} {s : SV} {c : Prop} (h : rField T t (evS st x) f = some (c, s)) : Rd P K Sx γ st w (Instr.field t (a.eval x) f) s := by
 unfold rField at h
 split at h
 · rename_i fs _ _ ht
   obtain ⟨fields, hu, hf⟩ := (hT t _ ht).und
   split at h
   · rename_i off ft hof
     split at h
     · rename_i i hft
       have hi := hT ft i hft
       have hfld : ∃ fl, fields[f]? = some fl ∧ fl.offset = off ∧ fl.type = ft := by
        rw [← hf] at hof
        simp only [List.getElem?_map, Option.map_eq_some_iff, Prod.mk.injEq] at hof
        obtain ⟨fl, h1, h2, h3⟩ := hof
        exact ⟨fl, by simpa using h1, h2, h3⟩
       obtain ⟨fl, hfl, rfl, rfl⟩ := hfld
       split at h
       · rename_i cs hx
         have ex := (qp hI hx).p_inv
         generalize a.eval x = u at ex ⊢
         cases ex with
         | @agg _ us hl hr =>
           split at h
           · rename_i s' hs
             simp only [yes, Option.some.injEq, Prod.mk.injEq] at h
             obtain ⟨_, rfl⟩ := h
             obtain ⟨v, h1, h2, h3⟩ := takeT_list (us := us.drop fl.offset) (ok := okO Sx γ st.own) (w := w) hi hs (by simp [hl]) (fun k s u hk hu => hr (fl.offset + k) s u (by simpa [List.getElem?_drop] using hk) (by simpa [List.getElem?_drop] using hu))
             refine qO (.p h1) fun z => ?_
             simp only [Instr.field, Sem.run_bind, run_underlying hu, Result.andThen_ok, hfl, asAgg, Sem.run_pure]
             exact run_partT hi h2 h3 z
           · cases h
       · rename_i cs hx
         have ex := qp hI hx
         generalize a.eval x = u at ex ⊢
         cases ex with
         | @agg _ us hl hr =>
           split at h
           · rename_i s' hs
             simp only [yes, Option.some.injEq, Prod.mk.injEq] at h
             obtain ⟨_, rfl⟩ := h
             obtain ⟨v, h1, h2, h3⟩ := takeS_list (us := us.drop fl.offset) (ok := okO Sx γ st.own) (H := hp γ st.own) (w := w) hi hs (by simp [hl]) (fun k s u hk hu => hr (fl.offset + k) s u (by simpa [List.getElem?_drop] using hk) (by simpa [List.getElem?_drop] using hu))
             refine qO h1 fun z => ?_
             simp only [Instr.field, Sem.run_bind, run_underlying hu, Result.andThen_ok, hfl, asAgg, Sem.run_pure]
             exact run_partT hi h2 h3 z
           · cases h
       · cases h
     · cases h
   · cases h
 · cases h
end
section
variable {P : Program} {T : TT} (hT : qX P T) {K : List Nat} {w0 : Base} {Sx : Nat → Prop} {γ : Nat → Value} {st : St} {a : Act} {w : World} (hI : Sim w0 Sx γ st a w)
theorem RelP.rp_drop {ok : Nat → Prop} {cs : List PV} {b o : Nat} (h : RelP ok w (.rp cs) (.pointer (some ⟨b, o, none⟩))) (n : Nat) : RelP ok w (.rp (cs.drop n)) (.pointer (some ⟨b, o + n, none⟩)) := by
 cases h with
 | rp hok hlt hx h =>
   refine .rp hok hlt (fun j hj => ?_) (fun j s u hj hu => ?_)
   · rw [Nat.add_assoc]; exact hx (n + j) (by simp at hj; omega)
   · rw [Nat.add_assoc] at hu; exact h (n + j) s u (by simpa [List.getElem?_drop] using hj) hu
theorem RelP.rp_form {ok : Nat → Prop} {cs : List PV} {u : Value} (h : RelP ok w (.rp cs) u) : ∃ b o, u = .pointer (some ⟨b, o, none⟩) := by cases h; exact ⟨_, _, rfl⟩
theorem RelS.eptr_form {ok : Nat → Prop} {H : Nat → Option Value} {i z k o : Nat} {u : Value} (h : RelS ok H w (.eptr i z k o) u) : ∃ b g, u = .pointer (some ⟨b, k * z + o, none⟩) ∧ H i = some g ∧ qK g = some b := by cases h; exact ⟨_, _, rfl, ‹_›, ‹_›⟩
theorem RelS.ptr_form {ok : Nat → Prop} {H : Nat → Option Value} {i o : Nat} {u : Value} (h : RelS ok H w (.ptr i o) u) : ∃ b g, u = .pointer (some ⟨b, o, none⟩) ∧ H i = some g ∧ qK g = some b := by cases h; exact ⟨_, _, rfl, ‹_›, ‹_›⟩
include hT hI
theorem rFieldAddr_ok {t : TypeId} {x : Operand} {f : Nat} {s : SV} {c : Prop} (h : qal T t (evS st x) f = some (c, s)) : Rd P K Sx γ st w (Instr.fieldAt t (a.eval x) f) s := by
 unfold qal at h
 split at h
 · rename_i fs _ _ ht
   obtain ⟨fields, hu, hf⟩ := (hT t _ ht).und
   split at h
   · rename_i off ft hof
     split at h
     · rename_i i hft
       have hi := hT ft i hft
       have hfld : ∃ fl, fields[f]? = some fl ∧ fl.offset = off ∧ fl.type = ft := by
        rw [← hf] at hof
        simp only [List.getElem?_map, Option.map_eq_some_iff, Prod.mk.injEq] at hof
        obtain ⟨fl, h1, h2, h3⟩ := hof
        exact ⟨fl, by simpa using h1, h2, h3⟩
       obtain ⟨fl, hfl, rfl, rfl⟩ := hfld
       cases hz : Nat.beq i.size 0 with
       | true => rw [hz] at h; cases h
       | false =>
         rw [hz] at h
         simp only [cond_false] at h
         have hne : i.size ≠ 0 := fun e => by rw [e] at hz; cases hz
         have run : ∀ b o (z : World), (Instr.fieldAt t (.pointer (some ⟨b, o, none⟩)) f).run P z = .ok (.pointer (some ⟨b, o + fl.offset, none⟩)) z := fun b o z => by
          simp only [Instr.fieldAt, Sem.run_bind, run_underlying hu, Result.andThen_ok, hfl, Instr.sureAddr, Sem.run_pure, fieldPlace, hi.size z]
          rw [if_neg hne]
          simp [jC]
         split at h
         · rename_i cs hx
           simp only [yes, Option.some.injEq, Prod.mk.injEq] at h
           obtain ⟨_, rfl⟩ := h
           have ex := (qp hI hx).p_inv
           obtain ⟨b, o, hu'⟩ := ex.rp_form
           rw [hu'] at ex ⊢
           exact qO (.p (ex.rp_drop fl.offset)) (run b o)
         · rename_i j o hx
           simp only [yes, Option.some.injEq, Prod.mk.injEq] at h
           obtain ⟨_, rfl⟩ := h
           obtain ⟨b, g, hu', h1, h2⟩ := (qp hI hx).ptr_form
           rw [hu']
           exact qO (.ptr h1 h2) (run b o)
         · rename_i j z k o hx
           simp only [yes, Option.some.injEq, Prod.mk.injEq] at h
           obtain ⟨_, rfl⟩ := h
           obtain ⟨b, g, hu', h1, h2⟩ := (qp hI hx).eptr_form
           rw [hu']
           refine qO (.eptr h1 h2) fun z => ?_
           rw [← Nat.add_assoc]; exact run b _ z
         · cases h
     · cases h
   · cases h
 · cases h
theorem rIndexAddr_ok {t : TypeId} {x i : Operand} {s : SV} {c : Prop} (h : wu T st t (evS st x) (evS st i) = some (c, s)) (hc : c) : Rd P K Sx γ st w (Instr.indexAt t (a.eval x) (a.eval i)) s := by
 unfold wu at h
 split at h
 · rename_i e _ _ ht
   have hu := (hT t _ ht).und
   simp only [je] at hu
   split at h
   · rename_i ei hei
     have hi := hT e ei hei
     split at h
     · rename_i z l k n hx hix
       cases hz : Nat.beq z ei.size with
       | false => rw [hz] at h; cases h
       | true =>
         rw [hz] at h
         simp only [cond_true, Option.some.injEq, Prod.mk.injEq] at h
         obtain ⟨rfl, rfl⟩ := h
         have hzz : z = ei.size := Nat.eq_of_beq_eq_true hz
         have hin : n.toNat < l.length := by omega
         have ex := (qp hI hx).p_inv
         have ei' := (qp hI hix).v_inv
         rw [ei']
         obtain ⟨A, c, hu', hlc, hm, he, hsl⟩ := ex.slat
         obtain ⟨b, o, rfl, hok, hlt, hel⟩ := hsl (by omega)
         obtain ⟨us, h1, h2, h3⟩ := hel n.toNat hin
         rw [hu']
         refine qO (s := .p (.rp (l.getD n.toNat []))) (v := .pointer (some ⟨b, o + n.toNat * ei.size, none⟩)) (.p ?_) fun y => ?_
         · have hg : l.getD n.toNat [] = l[n.toNat] := by simp [hin]
           rw [hg, ← hzz]
           refine .rp hok hlt (fun j hj => ?_) (fun j s u hj hu => ?_)
           · exact ⟨us[j]'(by rw [h3.1]; exact hj), h2 j _ (List.getElem?_eq_getElem _)⟩
           · have hjl : j < us.length := by rw [h3.1]; exact (List.getElem?_eq_some_iff.1 hj).1
             have h4 := h2 j _ (List.getElem?_eq_getElem hjl)
             rw [hu] at h4
             exact h3.2 j s u hj (by rw [List.getElem?_eq_getElem hjl]; exact h4.symm)
         · simp only [Instr.indexAt, asIntOf, Sem.run_bind, Sem.run_pure, Result.andThen_ok, run_underlying hu, hi.size y]
           rw [if_pos hc]
           simp [jC, hi.size y]
     · rename_i j k n hx hix
       split at h
       · rename_i e' z l hj
         cases hz : Nat.beq z ei.size with
         | false => rw [hz] at h; cases h
         | true =>
           rw [hz] at h
           simp only [cond_true, Option.some.injEq, Prod.mk.injEq] at h
           obtain ⟨rfl, rfl⟩ := h
           have hzz : z = ei.size := Nat.eq_of_beq_eq_true hz
           subst hzz
           have hin : n.toNat < l.length := by omega
           obtain ⟨b, us, hb, hlt, _⟩ := row_elem hI.heap hj hin
           have hpj : hp γ st.own j = some (γ j) := by unfold hp; rw [hj]
           have ei' := (qp hI hix).v_inv
           have ex := qp hI hx
           rw [ei']
           generalize a.eval x = u at ex ⊢
           cases ex with
           | row hg =>
             rw [hpj] at hg
             cases hg
             have hsh : ∃ c, γ j = .slice (some ⟨b, 0, none⟩) l.length c := by
              cases hI.heap.box j _ hj with
              | row hr he hm =>
                obtain ⟨css, h1, h2, h3⟩ := hr
                rcases h1.2 with ⟨hv', h0⟩ | ⟨g, cap, cur, hv', _⟩
                · omega
                · rw [hv'] at hb ⊢
                  simp only [qK, Option.some.injEq] at hb
                  subst hb
                  exact ⟨cap, by rw [h2]⟩
             obtain ⟨c, hsh⟩ := hsh
             have hv : (.pointer (some ⟨b, n.toNat * ei.size + 0, none⟩) : Value) = .pointer (some ⟨b, n.toNat * ei.size, none⟩) := rfl
             refine qO (s := .eptr j ei.size n.toNat 0) (.eptr hpj hb) fun y => ?_
             rw [hsh, hv]
             simp only [Instr.indexAt, asIntOf, Sem.run_bind, Sem.run_pure, Result.andThen_ok, run_underlying hu]
             rw [if_pos hc]
             simp [jC, hi.size y]
       · rename_i e' z pre mid post hj
         cases hz : Nat.beq z ei.size with
         | false => rw [hz] at h; cases h
         | true =>
           rw [hz] at h
           simp only [cond_true, Option.some.injEq, Prod.mk.injEq] at h
           obtain ⟨rfl, rfl⟩ := h
           have hzz : z = ei.size := Nat.eq_of_beq_eq_true hz
           subst hzz
           have ei' := (qp hI hix).v_inv
           have ex := qp hI hx
           rw [ei']
           obtain ⟨A, c, hsh, _, hA⟩ := rws_shape hI.heap hj
           obtain ⟨b, rfl⟩ := hA (by omega)
           have hpj : hp γ st.own j = some (γ j) := by unfold hp; rw [hj]
           generalize a.eval x = u at ex ⊢
           cases ex with
           | row hg =>
             rw [hpj] at hg
             cases hg
             refine qO (s := .ptr j (n.toNat * ei.size)) (v := .pointer (some ⟨b, n.toNat * ei.size, none⟩)) (.ptr hpj (by rw [hsh]; rfl)) fun y => ?_
             rw [hsh]
             simp only [Instr.indexAt, asIntOf, Sem.run_bind, Sem.run_pure, Result.andThen_ok, run_underlying hu]
             rw [if_pos hc]
             simp [jC, hi.size y]
       · cases h
     · rename_i j z lo hi' k n hx hix
       cases hz : Nat.beq z ei.size with
       | false => rw [hz] at h; cases h
       | true =>
         rw [hz] at h
         simp only [cond_true, Option.some.injEq, Prod.mk.injEq] at h
         obtain ⟨rfl, rfl⟩ := h
         have hzz : z = ei.size := Nat.eq_of_beq_eq_true hz
         subst hzz
         have ei' := (qp hI hix).v_inv
         have ex := qp hI hx
         rw [ei']
         generalize a.eval x = u at ex ⊢
         cases ex with
         | @view _ _ _ _ m c A A' hg h1 h2 h3 h4 =>
           obtain ⟨b, rfl⟩ := view_addr hI.heap hg (by omega)
           have hA' := h4 (Or.inl (by omega))
           rw [Option.map_some, jC] at hA'
           subst hA'
           refine qO (s := .eptr j ei.size (lo + n.toNat) 0) (.eptr hg rfl) fun y => ?_
           have hv : (.pointer (some ⟨b, (lo + n.toNat) * ei.size + 0, none⟩) : Value) = .pointer (some ⟨b, 0 + lo * ei.size + n.toNat * ei.size, none⟩) := by rw [Nat.add_mul, Nat.zero_add, Nat.add_zero]
           rw [hv]
           simp only [Instr.indexAt, asIntOf, Sem.run_bind, Sem.run_pure, Result.andThen_ok, run_underlying hu]
           rw [if_pos hc]
           simp [jC, hi.size y]
     · cases h
   · cases h
 · rename_i len e _ _ ht
   have hu := (hT t _ ht).und
   simp only [je] at hu
   split at h
   · rename_i ei hei
     have hi := hT e ei hei
     have run : ∀ b o k (n : Int) (y : World), 0 ≤ n ∧ n < len → (Instr.indexAt t (.pointer (some ⟨b, o, none⟩)) (.int k n)).run P y = .ok (.pointer (some ⟨b, o + n.toNat * ei.size, none⟩)) y := fun b o k n y hc => by
      simp only [Instr.indexAt, asIntOf, Sem.run_bind, Sem.run_pure, Result.andThen_ok, run_underlying hu, Instr.sureAddr]
      rw [if_pos hc]
      simp [jC, hi.size y]
     split at h
     · rename_i cs k n hx hix
       simp only [Option.some.injEq, Prod.mk.injEq] at h
       obtain ⟨rfl, rfl⟩ := h
       have ex := (qp hI hx).p_inv
       have ei' := (qp hI hix).v_inv
       obtain ⟨b, o, hu'⟩ := ex.rp_form
       rw [hu'] at ex ⊢
       rw [ei']
       exact qO (.p (ex.rp_drop _)) fun y => run b o k n y hc
     · rename_i j o k n hx hix
       simp only [Option.some.injEq, Prod.mk.injEq] at h
       obtain ⟨rfl, rfl⟩ := h
       have ei' := (qp hI hix).v_inv
       obtain ⟨b, g, hu', h1, h2⟩ := (qp hI hx).ptr_form
       rw [hu', ei']
       exact qO (.ptr h1 h2) fun y => run b o k n y hc
     · cases h
   · cases h
 · cases h
theorem rIndex_ok {t : TypeId} {x i : Operand} {s : SV} {c : Prop} (h : rIndex T t (evS st x) (evS st i) = some (c, s)) (hc : c) : Rd P K Sx γ st w (Instr.index t (a.eval x) (a.eval i)) s := by
 unfold rIndex at h
 split at h
 · rename_i ht
   have hu := (hT t _ ht).und
   simp only [je] at hu
   split at h
   · rename_i q k n hx hix
     simp only [Option.some.injEq, Prod.mk.injEq] at h
     obtain ⟨rfl, rfl⟩ := h
     have ex := (qp hI hx).v_inv
     have ei' := (qp hI hix).v_inv
     rw [ex, ei']
     refine qO (.p (.v rfl)) fun y => ?_
     have hlt : n.toNat < q.size := by omega
     have hg : q[n.toNat]? = some q[n.toNat] := by simp [hlt]
     simp only [Instr.index, asIntOf, Sem.run_bind, Sem.run_pure, Result.andThen_ok, run_underlying hu]
     rw [if_pos hc.1, hg]
     have : byteAt q n.toNat = (q[n.toNat]).toNat := by
      have h1 : q.data.getD n.toNat 0 = q.data[n.toNat]'hlt := by simp only [Array.getD, show n.toNat < q.data.size from hlt, dite_true, Array.getInternal_eq_getElem]
      unfold byteAt
      rw [h1]; rfl
     rw [this]
     rfl
   · cases h
 · rename_i len e _ _ ht
   have hu := (hT t _ ht).und
   simp only [je] at hu
   split at h
   · rename_i ei hei
     have hi := hT e ei hei
     split at h
     · rename_i cs k n hx hix
       split at h
       · rename_i s' hs
         simp only [Option.some.injEq, Prod.mk.injEq] at h
         obtain ⟨rfl, rfl⟩ := h
         have ex := (qp hI hx).p_inv
         have ei' := (qp hI hix).v_inv
         rw [ei']
         generalize a.eval x = u at ex ⊢
         cases ex with
         | @agg _ us hl hr =>
           obtain ⟨v, h1, h2, h3⟩ := takeT_list (us := us.drop (n.toNat * ei.size)) (ok := okO Sx γ st.own) (w := w) hi hs (by simp [hl]) (fun k s u hk hu => hr (n.toNat * ei.size + k) s u (by simpa [List.getElem?_drop] using hk) (by simpa [List.getElem?_drop] using hu))
           refine qO (.p h1) fun z => ?_
           simp only [Instr.index, asIntOf, Sem.run_bind, Sem.run_pure, Result.andThen_ok, run_underlying hu]
           rw [if_pos hc]
           simp only [Sem.run_bind, hi.size z, Result.andThen_ok]
           exact run_partT hi h2 h3 z
       · cases h
     · cases h
   · cases h
 · cases h
omit hT hI in
theorem run_bound {v : Value} {k : IntKind} {n : Int} (hv : v = .int k n) {y : Nat} {code : BoundsCode} (h : 0 ≤ n ∧ n ≤ y) (z : World) : (Instr.sliceBound v y code).run P z = .ok n.toNat z := by
 subst hv
 simp only [Instr.sliceBound, asIntOf, Sem.run_bind, Sem.run_pure, Result.andThen_ok]
 rw [if_pos h]; rfl
omit hT in
theorem intS_ok {o : Operand} {n : Int} (h : intS st o = some n) : ∃ k, a.eval o = .int k n := by
 unfold intS at h
 split at h
 · rename_i k n' ho
   simp only [Option.some.injEq] at h
   subst h
   exact ⟨k, (qp hI ho).v_inv⟩
 · cases h
omit hT in
theorem ends_ok {n cap : Nat} {isSlice : Bool} {lo hi : Option Operand} {l r : Int} (h : ends st n lo hi = some (l, r)) (hc : 0 ≤ l ∧ l ≤ r ∧ r ≤ n) (hcap : n ≤ cap) (z : World) :
 (Instr.sliceBounds isSlice n cap (lo.map a.eval) (hi.map a.eval) none).run P z = .ok (l.toNat, r.toNat, cap) z := by
 unfold ends at h
 cases lo with
 | none =>
   cases hi with
   | none =>
     simp only [Option.some.injEq, Prod.mk.injEq] at h
     obtain ⟨rfl, rfl⟩ := h
     simp [Instr.sliceBounds]
   | some q =>
     try simp only at h
     split at h
     · rename_i r' hq
       simp only [Option.some.injEq, Prod.mk.injEq] at h
       obtain ⟨rfl, rfl⟩ := h
       obtain ⟨k, hk⟩ := intS_ok hI hq
       simp only [Instr.sliceBounds, Option.map_some, Option.map_none, Sem.run_bind, Sem.run_pure, Result.andThen_ok, run_bound hk (P := P) (show 0 ≤ r' ∧ r' ≤ (cap : Int) by omega) z]
       rfl
     · cases h
 | some p =>
   try simp only at h
   cases hi with
   | none =>
     try simp only at h
     split at h
     · rename_i l' hp
       simp only [Option.some.injEq, Prod.mk.injEq] at h
       obtain ⟨rfl, rfl⟩ := h
       obtain ⟨k, hk⟩ := intS_ok hI hp
       simp only [Instr.sliceBounds, Option.map_some, Option.map_none, Sem.run_bind, Sem.run_pure, Result.andThen_ok, run_bound hk (P := P) (show 0 ≤ l' ∧ l' ≤ (n : Int) by omega) z]
       simp
     · cases h
   | some q =>
     try simp only at h
     split at h
     · rename_i l' hp
       split at h
       · rename_i r' hq
         simp only [Option.some.injEq, Prod.mk.injEq] at h
         obtain ⟨rfl, rfl⟩ := h
         obtain ⟨k, hk⟩ := intS_ok hI hp
         obtain ⟨k', hk'⟩ := intS_ok hI hq
         simp only [Instr.sliceBounds, Option.map_some, Sem.run_bind, Sem.run_pure, Result.andThen_ok, run_bound hk' (P := P) (show 0 ≤ r' ∧ r' ≤ (cap : Int) by omega) z, run_bound hk (P := P) (y := r'.toNat) (show 0 ≤ l' ∧ l' ≤ (r'.toNat : Int) by omega) z]
       · cases h
     · cases h
theorem rSlice_ok {t : TypeId} {x : Operand} {lo hi mx : Option Operand} {s : SV} {c : Prop} (h : rSlice T st t (evS st x) lo hi mx = some (c, s)) (hc : c) :
 Rd P K Sx γ st w (Instr.sliceAt t (a.eval x) (lo.map a.eval) (hi.map a.eval) (mx.map a.eval)) s := by
 unfold rSlice at h
 split at h
 · cases h
 · split at h
   · rename_i ht
     have hu := (hT t _ ht).und
     simp only [je] at hu
     split at h
     · rename_i q hx
       split at h
       · rename_i l r he
         simp only [Option.some.injEq, Prod.mk.injEq] at h
         obtain ⟨rfl, rfl⟩ := h
         have ex := (qp hI hx).v_inv
         rw [ex]
         refine qO (.p (.v rfl)) fun z => ?_
         simp only [Instr.sliceAt, Instr.slice, Sem.run_bind, run_underlying hu, Result.andThen_ok, Option.map_none, Option.isSome_none, Bool.false_eq_true, if_false, ends_ok hI (P := P) (isSlice := false) he hc (Nat.le_refl _) z, Sem.run_pure]
       · cases h
     · cases h
   · rename_i e _ _ ht
     have hu := (hT t _ ht).und
     simp only [je] at hu
     split at h
     · rename_i ei hei
       have hi' := hT e ei hei
       split at h
       · rename_i zz xs hx
         cases hz : Nat.beq zz ei.size with
         | false => rw [hz] at h; cases h
         | true =>
           rw [hz] at h
           simp only [cond_true] at h
           have hzz : zz = ei.size := Nat.eq_of_beq_eq_true hz
           split at h
           · rename_i l r he
             simp only [Option.some.injEq, Prod.mk.injEq] at h
             obtain ⟨rfl, rfl⟩ := h
             obtain ⟨A, c, hu', hlc, hm, hee, hsl⟩ := (qp hI hx).p_inv.slat
             rw [hu']
             have hlen : ((xs.drop l.toNat).take (r.toNat - l.toNat)).length = r.toNat - l.toNat := by simp; omega
             refine qO (s := .p (.sl zz ((xs.drop l.toNat).take (r.toNat - l.toNat)))) (v := .slice (if c = l.toNat then A else A.map (·.add (l.toNat * ei.size))) ((xs.drop l.toNat).take (r.toNat - l.toNat)).length (c - l.toNat)) (.p ?_) fun z => ?_
             · refine .of_slat (by rw [hlen]; omega) ⟨by rw [hlen]; omega, by omega⟩ (fun e he => hee e (List.mem_of_mem_drop (List.mem_of_mem_take he))) fun hl => ?_
               rw [hlen] at hl
               obtain ⟨b, o, rfl, hok, hlt, hel⟩ := hsl (by omega)
               refine ⟨b, o + l.toNat * ei.size, ?_, hok, hlt, fun i hi => ?_⟩
               · rw [if_neg (by omega)]; simp [jC]
               · rw [hlen] at hi
                 obtain ⟨us, h1, h2, h3⟩ := hel (l.toNat + i) (by omega)
                 refine ⟨us, h1, ?_, ?_⟩
                 · rw [Nat.add_assoc, ← hzz, ← Nat.add_mul]; exact h2
                 · simpa using h3
             · rw [hlen]
               simp only [Instr.sliceAt, Instr.slice, Sem.run_bind, run_underlying hu, Result.andThen_ok, Option.map_none, ends_ok hI (P := P) (isSlice := true) he hc hlc z, Sem.run_pure, hi'.size z]
           · cases h
       · rename_i j hx
         split at h
         · rename_i e' zz xs hj
           cases hz : Nat.beq zz ei.size with
           | false => rw [hz] at h; cases h
           | true =>
             rw [hz] at h
             simp only [cond_true] at h
             have hzz : zz = ei.size := Nat.eq_of_beq_eq_true hz
             split at h
             · rename_i l r he
               simp only [Option.some.injEq, Prod.mk.injEq] at h
               obtain ⟨rfl, rfl⟩ := h
               have ex := qp hI hx
               generalize a.eval x = u at ex ⊢
               cases ex with
               | row hg =>
                 cases hI.heap.box j _ hj with
                 | row hr hel hm =>
                   obtain ⟨A, c, hv, hlc, _⟩ := hr.shape
                   have hg' := hg
                   unfold hp at hg'
                   rw [hj] at hg'
                   cases hg'
                   rw [hv] at hg ⊢
                   refine qO (s := .view j zz l.toNat r.toNat) (v := .slice (if c = l.toNat then A else A.map (·.add (l.toNat * ei.size))) (r.toNat - l.toNat) (c - l.toNat)) (.view hg (by omega) (by omega) hlc fun hlt => by
                    split
                    · have h0 : l.toNat = 0 := by omega
                      rw [h0, Nat.zero_mul]
                      cases A with
                      | none => rfl
                      | some ad => simp [Addr.add]
                    · rw [hzz]) fun z => ?_
                   simp only [Instr.sliceAt, Instr.slice, Sem.run_bind, run_underlying hu, Result.andThen_ok, Option.map_none, ends_ok hI (P := P) (isSlice := true) he hc hlc z, Sem.run_pure, hi'.size z]
             · cases h
         · cases h
       · rename_i j zz lo0 hi0 hx
         cases hz : Nat.beq zz ei.size with
         | false => rw [hz] at h; cases h
         | true =>
           rw [hz] at h
           simp only [cond_true] at h
           have hzz : zz = ei.size := Nat.eq_of_beq_eq_true hz
           split at h
           · rename_i l r he
             simp only [Option.some.injEq, Prod.mk.injEq] at h
             obtain ⟨rfl, rfl⟩ := h
             have ex := qp hI hx
             generalize a.eval x = u at ex ⊢
             cases ex with
             | @view _ _ _ _ n c A A' hg h1 h2 h3 h4 =>
               have e1 : r.toNat - l.toNat = lo0 + r.toNat - (lo0 + l.toNat) := by omega
               have e2 : c - lo0 - l.toNat = c - (lo0 + l.toNat) := by omega
               refine qO (s := .view j zz (lo0 + l.toNat) (lo0 + r.toNat)) (v := .slice (if c - lo0 = l.toNat then A' else A'.map (·.add (l.toNat * ei.size))) (lo0 + r.toNat - (lo0 + l.toNat)) (c - (lo0 + l.toNat))) (.view hg (by omega) (by omega) h3 fun hlt => ?_) fun z => ?_
               · have e0 : (if c - lo0 = l.toNat then A' else A'.map (·.add (l.toNat * ei.size))) = A'.map (·.add (l.toNat * ei.size)) := by
                  split
                  · have h0 : l.toNat = 0 := by omega
                    rw [h0, Nat.zero_mul]
                    cases A' with
                    | none => rfl
                    | some ad => simp [Addr.add]
                  · rfl
                 rw [e0, h4 (by omega), hzz]
                 cases A with
                 | none => rfl
                 | some ad =>
                   simp only [Option.map_some, Option.some.injEq]
                   exact addr_add2 ad lo0 l.toNat ei.size
               · simp only [Instr.sliceAt, Instr.slice, Sem.run_bind, run_underlying hu, Result.andThen_ok, Option.map_none, ends_ok hI (P := P) (isSlice := true) (cap := c - lo0) he hc (by omega) z, Sem.run_pure, hi'.size z, e1, e2]
           · cases h
       · cases h
     · cases h
   · cases h
omit hT in
theorem evs_ok {l : List Operand} {ss : List SV} (h : evs st l = some ss) : l.length = ss.length ∧ ∀ (i : Nat) (s : SV) (u : Value), ss[i]? = some s → (l.map a.eval)[i]? = some u → RelS (okO Sx γ st.own) (hp γ st.own) w s u := by
 induction l generalizing ss with
 | nil => simp only [evs, Option.some.injEq] at h; subst h; simp
 | cons o l ih =>
   unfold evs at h
   split at h
   · rename_i s0 l0 h1 h2
     simp only [Option.some.injEq] at h
     subst h
     obtain ⟨i1, i2⟩ := ih h2
     refine ⟨by simp [i1], fun i s u hs hu => ?_⟩
     cases i with
     | zero => simp at hs hu; subst hs; subst hu; exact qp hI h1
     | succ i => exact i2 i s u (by simpa using hs) (by simpa using hu)
   · cases h
theorem rLen_ok {t ty : TypeId} {x : Operand} {s : SV} {c : Prop} (h : rLen T st t (evS st x) = some (c, s)) : Rd P K Sx γ st w (Builtin.len_ #[t] ty #[a.eval x]) s := by
 unfold rLen at h
 split at h
 · rename_i ht
   have hu := (hT t _ ht).und
   simp only [je] at hu
   split at h
   · rename_i q hx
     simp only [yes, Option.some.injEq, Prod.mk.injEq] at h
     obtain ⟨_, rfl⟩ := h
     rw [(qp hI hx).v_inv]
     refine qO (.p (.v rfl)) fun z => ?_
     simp [Builtin.len_, run_underlying hu, goInt]
   · cases h
 · rename_i e _ _ ht
   have hu := (hT t _ ht).und
   simp only [je] at hu
   have run : ∀ A n c (z : World), (Builtin.len_ #[t] ty #[.slice A n c]).run P z = .ok (.int .i64 n) z := fun A n c z => by
    simp [Builtin.len_, run_underlying hu, goInt]
   split at h
   · rename_i zz l hx
     simp only [yes, Option.some.injEq, Prod.mk.injEq] at h
     obtain ⟨_, rfl⟩ := h
     obtain ⟨A, c, hu', _⟩ := (qp hI hx).p_inv.slat
     rw [hu']
     exact qO (.p (.v rfl)) (run _ _ _)
   · rename_i hx
     simp only [yes, Option.some.injEq, Prod.mk.injEq] at h
     obtain ⟨_, rfl⟩ := h
     rw [(qp hI hx).v_inv]
     exact qO (.p (.v rfl)) (run _ _ _)
   · rename_i j hx
     split at h
     · rename_i e' z' l hj
       simp only [yes, Option.some.injEq, Prod.mk.injEq] at h
       obtain ⟨_, rfl⟩ := h
       have ex := qp hI hx
       generalize a.eval x = u at ex ⊢
       cases ex with
       | @row _ _ hg =>
         have e1 : u = γ j := by unfold hp at hg; rw [hj] at hg; simpa using hg.symm
         cases hI.heap.box j _ hj with
         | row hr he =>
           obtain ⟨A, c, hv, _⟩ := hr.shape
           rw [e1, hv]
           exact qO (.p (.v rfl)) (run _ _ _)
     · rename_i e' z pre mid post hj
       simp only [yes, Option.some.injEq, Prod.mk.injEq] at h
       obtain ⟨_, rfl⟩ := h
       have ex := qp hI hx
       generalize a.eval x = u at ex ⊢
       cases ex with
       | @row _ _ hg =>
         have e1 : u = γ j := by unfold hp at hg; rw [hj] at hg; simpa using hg.symm
         obtain ⟨A, c, hv, _⟩ := rws_shape hI.heap hj
         rw [e1, hv]
         exact qO (.p (.v rfl)) (run _ _ _)
     · cases h
   · rename_i lo hi hx
     simp only [yes, Option.some.injEq, Prod.mk.injEq] at h
     obtain ⟨_, rfl⟩ := h
     have ex := qp hI hx
     generalize a.eval x = u at ex ⊢
     cases ex with
     | view => exact qO (.p (.v rfl)) (run _ _ _)
   · cases h
 · cases h
omit hT in
theorem rMinMax_ok {mn : Bool} {x y : Operand} {s : SV} {c : Prop} {ts : Array TypeId} {ty : TypeId} (h : rMinMax mn (evS st x) (evS st y) = some (c, s)) :
 Rd P K Sx γ st w (match mn with | true => Builtin.min_ ts ty #[a.eval x, a.eval y] | false => Builtin.max_ ts ty #[a.eval x, a.eval y]) s := by
 unfold rMinMax at h
 split at h
 · rename_i k p k' q hx hy
   cases hr : maxF k p q with
   | none => rw [hr] at h; cases mn <;> cases h
   | some r =>
     rw [hr] at h
     cases mn with
     | true => cases h
     | false =>
       simp only [yes, Option.some.injEq, Prod.mk.injEq] at h
       obtain ⟨_, rfl⟩ := h
       rw [(qp hI hx).v_inv, (qp hI hy).v_inv]
       refine qO (.p (.v rfl)) fun z => ?_
       unfold maxF at hr
       split at hr <;> rename_i ho <;> first | (cases hr; done) | (obtain rfl := Option.some.inj hr; simp [Builtin.max_, Builtin.max2, ho])
 · rename_i k p k' q hx hy
   simp only [yes, Option.some.injEq, Prod.mk.injEq] at h
   obtain ⟨_, rfl⟩ := h
   rw [(qp hI hx).v_inv, (qp hI hy).v_inv]
   refine qO (.p (.v rfl)) fun z => ?_
   cases mn
   · simp [Builtin.max_, Builtin.max2]
   · simp [Builtin.min_, Builtin.min2]
 · cases h
omit hT hI in
theorem kd_und {t : TypeId} {d : Ty} {v : Value} (hu : je P t d) (h : kdOk d v = true) : ∃ td, P.underlying t = some td ∧ ∀ u, kdOk d u = true → MapKept.IsKey td u := by
 unfold kdOk at h
 split at h
 · refine ⟨.string, hu, fun u hu => ?_⟩
   cases u <;> first | exact True.intro | cases hu
 · rename_i k k' n
   refine ⟨.int k, hu, fun u hu => ?_⟩
   cases u <;> first | (simp [kdOk] at hu; done) | (simp only [kdOk, decide_eq_true_eq] at hu; exact hu)
 · cases h
omit hT hI in
theorem sameNow_eq {d : Ty} {td : TypeDesc} {a b : Value} (hd : ∀ u, kdOk d u = true → MapKept.IsKey td u) (ha : kdOk d a = true) (hb : kdOk d b = true) : Instr.sameNow td a b = some (keyEq a b) := by
 have h1 := hd a ha
 have h2 := hd b hb
 cases td <;> cases a <;> first | (exact h1.elim) | skip
 all_goals cases b <;> first | (exact h2.elim) | skip
 · exact (by cases d <;> cases ha)
 · rename_i k k1 n1 k2 n2
   have e1 : k1 = k := h1
   have e2 : k2 = k := h2
   subst e1
   subst e2
   simp [Instr.sameNow, keyEq]
   rw [Bool.eq_iff_iff, beq_iff_eq, decide_eq_true_iff]
 · rename_i x y
   have : (x == y) = decide (x = y) := by
    rw [Bool.eq_iff_iff, MapKept.bytes_beq, decide_eq_true_iff]
   simp [Instr.sameNow, keyEq, this]
omit hT hI in
theorem wi {d : Ty} {td : TypeDesc} {k : Value} (hd : ∀ u, kdOk d u = true → MapKept.IsKey td u) (hk : kdOk d k = true) : ∀ {es : List (Value × PV)} {ens : List MapEntry} (i : Nat), ens.length = es.length → (∀ (j : Nat) (x : Value × PV) (e : MapEntry), es[j]? = some x → ens[j]? = some e → e.key = x.1) →
 es.all (fun x => kdOk d x.1) = true → (mfind k es = none ∧ Instr.findNow td k ens i = some none) ∨ ∃ (j : Nat) (x : Value × PV) (e : MapEntry), mfind k es = some x.2 ∧ es[j]? = some x ∧ ens[j]? = some e ∧ Instr.findNow td k ens i = some (some (i + j, e.val))
 | [], [], i, _, _, _ => Or.inl ⟨rfl, rfl⟩
 | [], _ :: _, i, h, _, _ => by simp at h
 | _ :: _, [], i, h, _, _ => by simp at h
 | (k', p) :: es, e :: ens, i, hl, hr, ha => by
   simp only [List.all_cons, Bool.and_eq_true] at ha
   have e0 : e.key = k' := hr 0 _ _ rfl rfl
   have hs := sameNow_eq hd hk ha.1
   cases hq : keyEq k k' with
   | true =>
     refine Or.inr ⟨0, (k', p), e, by simp [mfind, hq], rfl, rfl, ?_⟩
     simp [Instr.findNow, e0, hs, hq]
   | false =>
     rcases wi hd hk (es := es) (ens := ens) (i + 1) (by simpa using hl) (fun j x e h1 h2 => hr (j + 1) x e (by simpa using h1) (by simpa using h2)) ha.2 with ⟨h1, h2⟩ | ⟨j, x, e2, h1, h2, h3, h4⟩
     · exact Or.inl ⟨by simp [mfind, hq, h1], by simp [Instr.findNow, e0, hs, hq, h2]⟩
     · exact Or.inr ⟨j + 1, x, e2, by simp [mfind, hq, h1], by simpa using h2, by simpa using h3, by simp only [Instr.findNow, e0, hs, hq, h4]; congr 3; omega⟩
theorem rLookup_ok {t : TypeId} {m k : Operand} {s : SV} {c : Prop} (h : rLookup T K st t (evS st m) (evS st k) = some (c, s)) (hc : c) : Rd P K Sx γ st w (Instr.lookup t (a.eval m) (a.eval k) true) s := by
 unfold rLookup at h
 split at h
 · rename_i kt et _ _ ht
   have hu := (hT t _ ht).und
   simp only [je] at hu
   split at h
   · rename_i ki ei hk he
     split at h
     · rename_i j kv hm hkv
       split at h
       · cases h
       · rename_i hK
         split at h
         · rename_i es hj
           cases hd : kdOk ki.d kv with
           | false => rw [hd] at h; cases h
           | true =>
             rw [hd] at h
             simp only [cond_true, Option.some.injEq, Prod.mk.injEq] at h
             obtain ⟨rfl, rfl⟩ := h
             obtain ⟨td, q1, q2⟩ := kd_und (hT kt _ hk).und hd
             obtain ⟨info, zv, z1, _, _, z2, z3⟩ := (hT et _ he).info
             cases hI.heap.box j _ hj with
             | @mp _ ens clock b hg hB hh hl hr =>
               have hkv' := (qp hI hkv).v_inv
               have hmv : a.eval m = .map (some b) := by
                have := qp hI hm
                generalize a.eval m = u at this ⊢
                cases this with
                | row h0 => unfold hp at h0; rw [hj] at h0; simp only [Option.some.injEq] at h0; rw [← h0, hg]
               have hlook : ∀ x : World, SameOn (vis K γ st.own) w x → x.heap[b]? = some (.map ens.toArray clock) := fun x hx => by
                rw [hx.block b (lt_of_block hh) fun i bx hi hKi hb => ?_]; exact hh
                have := hI.heap.inj i j _ _ b hi hj hb (by rw [hg]; rfl)
                subst this
                rw [hK] at hKi; cases hKi
               rw [hkv', hmv]
               rcases wi q2 hd (es := es) (ens := ens) 0 hl (fun j x e h1 h2 => (hr j x e h1 h2).1) hc with ⟨h1, h2⟩ | ⟨n, x, e, h1, h2, h3, h4⟩
               · refine ⟨.tuple #[zv, .bool false], ?_, fun x hx => ?_⟩
                 · rw [h1]
                   exact .tup (us := [zv, .bool false]) rfl fun i s u hs hu => by
                    match i with
                    | 0 =>
                      simp at hs hu
                      subst hs
                      subst hu
                      cases hz : ei.zero with
                      | nil =>
                        rw [hz] at z3
                        have : zv = .agg #[] := by
                         cases zv with
                         | agg cs =>
                           have : cs.toList = [] := z3
                           rw [Array.toList_eq_nil_iff.1 this]
                         | _ => cases z3
                        rw [this]
                        exact .p (.agg (us := []) rfl fun i s u hs _ => by simp at hs)
                      | cons => exact .junk
                    | 1 => simp at hs hu; subst hs; subst hu; exact .p (.v rfl)
                    | i + 2 => simp at hs
                 · simp [Instr.lookup, run_underlying hu, MapKept.run_getObj_map (hlook x hx), MapKept.run_checkKey q1 (q2 _ hd), MapKept.run_findKey q1 h2, zeroValue, typeInfo, z1, z2, Result.andThen]
               · refine ⟨.tuple #[e.val, .bool true], ?_, fun x hx => ?_⟩
                 · rw [h1]
                   exact .tup (us := [e.val, .bool true]) rfl fun i s u hs hu => by
                    match i with
                    | 0 => simp at hs hu; subst hs; subst hu; exact .p (hr n x e h2 h3).2
                    | 1 => simp at hs hu; subst hs; subst hu; exact .p (.v rfl)
                    | i + 2 => simp at hs
                 · simp [Instr.lookup, run_underlying hu, MapKept.run_getObj_map (hlook x hx), MapKept.run_checkKey q1 (q2 _ hd), MapKept.run_findKey q1 h4, Result.andThen]
         · cases h
     · cases h
   · cases h
 · cases h
omit hT hI in
theorem fold_set (off : Nat) : ∀ (vs : List Value) (k : Nat) (cs : Array Value), ((vs.zipIdx k).foldl (fun (cs : Array Value) (p : Value × Nat) => cs.setIfInBounds (off + p.2) p.1) cs).size = cs.size ∧
 ∀ i, ((vs.zipIdx k).foldl (fun (cs : Array Value) (p : Value × Nat) => cs.setIfInBounds (off + p.2) p.1) cs)[i]? = if off + k ≤ i ∧ i < off + k + vs.length ∧ i < cs.size then vs[i - (off + k)]? else cs[i]?
 | [], k, cs => ⟨rfl, fun i => by
   rw [if_neg (by simp; omega)]; rfl⟩
 | v :: vs, k, cs => by
   obtain ⟨h1, h2⟩ := fold_set off vs (k + 1) (cs.setIfInBounds (off + k) v)
   rw [List.zipIdx_cons, List.foldl_cons]
   refine ⟨by rw [h1]; simp, fun i => ?_⟩
   rw [h2 i, Array.size_setIfInBounds, List.length_cons]
   by_cases e : i = off + k
   · subst e
     rw [if_neg (by omega)]
     by_cases hlt : off + k < cs.size
     · rw [if_pos ⟨Nat.le_refl _, by omega, hlt⟩, Array.getElem?_setIfInBounds_self_of_lt hlt]; simp
     · rw [if_neg (by omega), Array.getElem?_eq_none (by simp; omega), Array.getElem?_eq_none (by omega)]
   · rw [Array.getElem?_setIfInBounds_ne (by omega)]
     by_cases hc : off + k ≤ i ∧ i < off + k + (vs.length + 1) ∧ i < cs.size
     · rw [if_pos hc, if_pos (by omega)]
       have : i - (off + k) = (i - (off + (k + 1))) + 1 := by omega
       rw [this, List.getElem?_cons_succ]
     · rw [if_neg hc, if_neg (by omega)]
omit hT in
theorem rParts_ok {fs : List (Nat × TypeId)} {places : Nat → Option (Nat × Nat)} (hp' : ∀ (i off : Nat) (ft : TypeId) (fi : TyI), fs[i]? = some (off, ft) → lk ft T = some fi → places i = some (off, fi.size)) : ∀ {parts : List (Nat × Operand)} {zs zs' : List SV} {cells : Array Value}, rParts T st fs parts zs = some zs' →
 cells.size = zs.length → (∀ (i : Nat) (s : SV) (u : Value), zs[i]? = some s → cells[i]? = some u → RelS (okO Sx γ st.own) (hp γ st.own) w s u) →
 ∃ cells', Instr.fill places cells (parts.map fun (i, x) => (i, a.eval x)) = some cells' ∧ cells'.size = zs'.length ∧ ∀ (i : Nat) (s : SV) (u : Value), zs'[i]? = some s → cells'[i]? = some u → RelS (okO Sx γ st.own) (hp γ st.own) w s u
 | [], zs, zs', cells, h, hl, hr => by
   simp only [rParts, Option.some.injEq] at h
   subst h
   exact ⟨cells, rfl, hl, hr⟩
 | (i, x) :: r, zs, zs', cells, h, hl, hr => by
   unfold rParts at h
   split at h
   · rename_i off ft hf
     split at h
     · rename_i fi hfi
       split at h
       · rename_i s hs
         split at h
         · rename_i xs hxs
           cases hb : (Nat.beq xs.length fi.size && Nat.ble (off + xs.length) zs.length) with
           | false => rw [hb] at h; cases h
           | true =>
             rw [hb] at h
             simp only [cond_true] at h
             simp only [Bool.and_eq_true] at hb
             have e1 : xs.length = fi.size := Nat.eq_of_beq_eq_true hb.1
             have e2 : off + xs.length ≤ zs.length := Nat.le_of_ble_eq_true hb.2
             obtain ⟨c1, c2⟩ := qai hI.heap.one (qp hI hs) hxs
             obtain ⟨q1, q2⟩ := fold_set off (a.eval x).cells.toList 0 cells
             have e3 : (a.eval x).cells.zipIdx.foldl (fun (cs : Array Value) (p : Value × Nat) => cs.setIfInBounds (off + p.2) p.1) cells = ((a.eval x).cells.toList.zipIdx 0).foldl (fun (cs : Array Value) (p : Value × Nat) => cs.setIfInBounds (off + p.2) p.1) cells := by
              rw [← Array.foldl_toList, Array.toList_zipIdx]
             have hsz : (a.eval x).cells.size = fi.size := by rw [← Array.length_toList, c1, e1]
             obtain ⟨cells', k1, k2, k3⟩ := rParts_ok hp' h (cells := (a.eval x).cells.zipIdx.foldl (fun (cs : Array Value) (p : Value × Nat) => cs.setIfInBounds (off + p.2) p.1) cells) (by rw [e3, q1]; simp; omega) (fun n s u hs' hu => by
              rw [e3, q2] at hu
              by_cases hn : off + 0 ≤ n ∧ n < off + 0 + (a.eval x).cells.toList.length ∧ n < cells.size
              · rw [if_pos hn] at hu
                rw [List.append_assoc, List.getElem?_append_right (by simp; omega), List.getElem?_append_left (by simp; omega)] at hs'
                refine c2 (n - off) s u ?_ (by simpa using hu)
                rw [← hs']; congr 1; simp; omega
              · rw [if_neg hn] at hu
                refine hr n s u ?_ hu
                rw [c1] at hn
                by_cases hlt : n < off
                · rw [List.append_assoc, List.getElem?_append_left (by simp; omega), List.getElem?_take, if_pos hlt] at hs'
                  exact hs'
                · have hge : off + xs.length ≤ n := by
                   rcases Nat.lt_or_ge n cells.size with h1 | h1
                   · omega
                   · rw [Array.getElem?_eq_none h1] at hu; cases hu
                  rw [List.getElem?_append_right (by simp; omega), List.getElem?_drop] at hs'
                  rw [← hs']; congr 1; simp; omega)
             refine ⟨cells', ?_, k2, k3⟩
             rw [List.map_cons, Instr.fill, hp' i off ft fi hf hfi]
             simp only
             rw [if_neg (by simp [hsz]; omega)]
             exact k1
         · cases h
       · cases h
     · cases h
   · cases h
theorem rBuild_ok {t : TypeId} {parts : Array (Nat × Operand)} {s : SV} {c : Prop} (h : rBuild T st t parts.toList = some (c, s)) : Rd P K Sx γ st w (Instr.build t (parts.map fun (i, x) => (i, a.eval x))) s := by
 unfold rBuild at h
 split at h
 · rename_i fs z eq ht
   have hu := (hT t _ ht).und
   simp only [je] at hu
   obtain ⟨fields, hu, hfs⟩ := hu
   obtain ⟨info, zv, z1, _, _, z2, z3⟩ := (hT t _ ht).info
   cases hb : (z.all plain && fs.all (fun f => (lk f.2 T).isSome)) with
   | false => rw [hb] at h; cases h
   | true =>
     rw [hb] at h
     simp only [cond_true] at h
     simp only [Bool.and_eq_true] at hb
     split at h
     · rename_i zs hzs
       simp only [yes, Option.some.injEq, Prod.mk.injEq] at h
       obtain ⟨_, rfl⟩ := h
       let szT : TypeId → Nat := fun t => match lk t T with | some i => i.size | none => 0
       have szs : ∀ {ft fi}, lk ft T = some fi → szT ft = fi.size := fun {ft fi} h => by
        show (match lk ft T with | some i => i.size | none => 0) = _
        rw [h]
       have gen : ∀ (x : World) (l : List Field), (∀ f ∈ l, (lk f.type T).isSome = true) → (l.mapM fun f => (do pure (f.offset, ← sizeOf f.type) : Sem (Nat × Nat))).run P x = .ok (l.map fun f => (f.offset, szT f.type)) x := by
        intro x l
        induction l with
        | nil => intro _; rfl
        | cons f l ih =>
          intro hl
          have p1 := ih fun g hg => hl g (List.mem_cons_of_mem _ hg)
          obtain ⟨fi, hfi⟩ := Option.isSome_iff_exists.1 (hl f List.mem_cons_self)
          rw [List.mapM_cons]
          simp only [Sem.run_bind, (hT _ _ hfi).size x, Result.andThen_ok, Sem.run_pure, p1, List.map_cons, szs hfi]
       have hmap : ∀ x : World, (fields.mapM fun f => (do pure (f.offset, ← sizeOf f.type) : Sem (Nat × Nat))).run P x = .ok (fields.toList.map fun f => (f.offset, szT f.type)).toArray x := fun x => by
        have e : fields = fields.toList.toArray := by simp
        have g := gen x fields.toList fun f hf => List.all_eq_true.1 hb.2 (f.offset, f.type) (by rw [← hfs]; exact List.mem_map.2 ⟨f, hf, rfl⟩)
        rw [e, List.mapM_toArray, Sem.run_map, g]; rfl
       obtain ⟨cells', k1, k2, k3⟩ := rParts_ok (T := T) hI (places := fun i => (fields.toList.map fun f => (f.offset, szT f.type)).toArray[i]?) (fun i off ft fi hi hfi => by
        rw [← hfs, List.getElem?_map] at hi
        obtain ⟨f, h1, h2⟩ := Option.map_eq_some_iff.1 hi
        cases h2
        have h1' : fields[i]? = some f := by simpa using h1
        simp [h1', szs hfi]) hzs (cells := zv.cells) (by rw [← Array.length_toList, z3]; simp) (fun i s u hs hu' => by
        rw [List.getElem?_map] at hs
        have : zv.cells.toList[i]? = some u := by simpa using hu'
        rw [z3] at this
        rw [this] at hs
        cases hs
        exact .p (.v (List.all_eq_true.1 hb.1 u (List.mem_of_getElem? this))))
       have hagg : RelS (okO Sx γ st.own) (hp γ st.own) w (mkAgg zs) (.agg cells'.toList.toArray) := relS_mkAgg (by simpa using k2) fun i s u hs hu => k3 i s u hs (by simpa using hu)
       refine ⟨_, hagg, fun x _ => ?_⟩
       have hmx := hmap x
       have hz0 : (zeroValue t).run P x = .ok zv x := by simp [zeroValue, typeInfo, z1, z2]
       have k1' : Instr.fill (fun i => (fields.toList.map fun f => (f.offset, szT f.type)).toArray[i]?) zv.cells (parts.map fun (i, x) => (i, a.eval x)).toList = some cells' := by
        rw [Array.toList_map]; exact k1
       unfold Instr.build
       rw [Sem.run_bind, hz0]
       simp only [Result.andThen_ok]
       rw [Sem.run_bind, run_underlying hu]
       simp only [Result.andThen_ok]
       rw [Sem.run_bind, hmx]
       simp only [Result.andThen_ok]
       rw [k1']
       simp
     · cases h
 · cases h
theorem opR_ok {o : Oper} {s : SV} {c : Prop} (h : opR T K st o.op = some (c, s)) (hc : c) :
 ∃ v, RelS (okO Sx γ st.own) (hp γ st.own) w s v ∧ ∀ x, SameOn (vis K γ st.own) w x → (execOp a.eval o).run P x = .ok (.value v) x := by
 have fin : ∀ {sem : Sem Value}, execOp a.eval o = (do pure (.value (← sem)) : Sem Next) → Rd P K Sx γ st w sem s → ∃ v, RelS (okO Sx γ st.own) (hp γ st.own) w s v ∧ ∀ x, SameOn (vis K γ st.own) w x → (execOp a.eval o).run P x = .ok (.value v) x := by
  intro sem he ⟨v, h1, h2⟩
  exact ⟨v, h1, fun x hx => by rw [he]; exact run_v (h2 x hx)⟩
 unfold opR at h
 split at h
 · rename_i x ho
   split at h
   · rename_i s' hx
     simp only [yes, Option.some.injEq, Prod.mk.injEq] at h
     obtain ⟨_, rfl⟩ := h
     exact ⟨_, qp hI hx, fun z _ => by simp only [execOp, ho]; rfl⟩
   · cases h
 · rename_i x ho
   split at h
   · rename_i s' hx
     simp only [yes, Option.some.injEq, Prod.mk.injEq] at h
     obtain ⟨_, rfl⟩ := h
     exact ⟨_, qp hI hx, fun z _ => by simp only [execOp, ho]; rfl⟩
   · cases h
 · rename_i x y z ho
   obtain ⟨v, h1, h2⟩ := rPick_ok (P := P) (K := K) hI h
   refine ⟨v, h1, fun x hx => ?_⟩
   have h3 := h2 x hx
   simp only [execOp, ho, Sem.run_bind] at h3 ⊢
   cases hb : (asBool (a.eval _)).run P x with
   | ok b w1 => rw [hb] at h3; simp only [Result.andThen_ok, Sem.run_pure, Result.ok.injEq] at h3 ⊢; exact ⟨by rw [h3.1], h3.2⟩
   | halt e w1 => rw [hb] at h3; cases h3
 · rename_i ho; exact fin (by simp only [execOp, ho]) (rBin_ok hT hI h hc)
 · rename_i ho
   split at h
   · rename_i v hx
     split at h
     · rename_i v' hv
       simp only [yes, Option.some.injEq, Prod.mk.injEq] at h
       obtain ⟨_, rfl⟩ := h
       have ex := (qp hI hx).v_inv
       exact fin (by simp only [execOp, ho, ex]) (qO (.p (.v (unS_ok (P := P) (x := w) hv).1)) fun z => (unS_ok hv).2)
     · cases h
   · cases h
 · rename_i ho; exact fin (by simp only [execOp, ho]) (rConv_ok hT hI h)
 · rename_i ho; exact fin (by simp only [execOp, ho]) (rField_ok hT hI h)
 · rename_i ho; exact fin (by simp only [execOp, ho]) (rFieldAddr_ok hT hI h)
 · rename_i ho; exact fin (by simp only [execOp, ho]) (rIndexAddr_ok hT hI h hc)
 · rename_i ho; exact fin (by simp only [execOp, ho]) (rIndex_ok hT hI h hc)
 · rename_i ho; exact fin (by simp only [execOp, ho]) (rSlice_ok hT hI h hc)
 · rename_i ho; exact fin (by simp only [execOp, ho]) (rLoad_ok hT hI h hc)
 · rename_i x n ho
   split at h
   · rename_i cs hx
     split at h
     · rename_i s' hs
       simp only [yes, Option.some.injEq, Prod.mk.injEq] at h
       obtain ⟨_, rfl⟩ := h
       have ex := qp hI hx
       have ho' : execOp a.eval o = (do pure (.value (← Instr.extract (a.eval x) n)) : Sem Next) := by simp only [execOp, ho]
       refine fin ho' ?_
       generalize a.eval x = u at ex ⊢
       cases ex with
       | @tup _ us hl hr =>
         have hn : n < us.length := by rw [hl]; exact (List.getElem?_eq_some_iff.1 hs).1
         refine qO (hr n _ us[n] hs (List.getElem?_eq_getElem hn)) fun z => ?_
         simp [Instr.extract, hn]
     · cases h
   · cases h
 · rename_i f first caps ho
   split at h
   · rename_i hsz
     have h0 : first = #[] := Array.eq_empty_of_size_eq_zero hsz
     subst h0
     split at h
     · rename_i l hl
       obtain ⟨h1, h2⟩ := evs_ok hI hl
       have ho' : execOp a.eval o = (do pure (.value (← Instr.makeFunc (.func f) #[] (caps.map a.eval))) : Sem Next) := by simp only [execOp, ho, List.map_toArray, List.map_nil]
       refine fin ho' ?_
       have hcap : caps.map a.eval = (caps.toList.map a.eval).toArray := by rw [← Array.toList_map, Array.toArray_toList]
       rw [hcap]
       split at h
       · rename_i ps hp'
         obtain ⟨g1, g2⟩ := qad hp'
         simp only [yes, Option.some.injEq, Prod.mk.injEq] at h
         obtain ⟨_, rfl⟩ := h
         refine qO (.p (.fn (us := caps.toList.map a.eval) (by rw [List.length_map, g1, ← h1]) fun i s u hs hu => (h2 i (.p s) u (by rw [g2, hs]; rfl) hu).p_inv)) fun z => rfl
       · simp only [yes, Option.some.injEq, Prod.mk.injEq] at h
         obtain ⟨_, rfl⟩ := h
         exact qO (.fn (by rw [List.length_map, h1]) h2) fun z => rfl
     · cases h
   · cases h
 · rename_i cl ho
   split at h
   · rename_i hcl
     split at h
     · rename_i x t hx ht
       have hx' : cl.args = #[x] := by rw [← Array.toArray_toList (xs := cl.args), hx]
       have ht' : cl.argTypes = #[t] := by rw [← Array.toArray_toList (xs := cl.argTypes), ht]
       refine fin (sem := Builtin.len_ #[t] o.type #[a.eval x]) ?_ (rLen_ok hT hI h)
       simp [execOp, ho, resolve, hcl, hx', ht', invoke, builtin]
     · cases h
   · rename_i hcl
     split at h
     · rename_i x y hx
       have hx' : cl.args = #[x, y] := by rw [← Array.toArray_toList (xs := cl.args), hx]
       refine fin (sem := Builtin.min_ cl.argTypes o.type #[a.eval x, a.eval y]) ?_ (rMinMax_ok (mn := true) hI h)
       simp [execOp, ho, resolve, hcl, hx', invoke, builtin]
     · cases h
   · rename_i hcl
     split at h
     · rename_i x y hx
       have hx' : cl.args = #[x, y] := by rw [← Array.toArray_toList (xs := cl.args), hx]
       refine fin (sem := Builtin.max_ cl.argTypes o.type #[a.eval x, a.eval y]) ?_ (rMinMax_ok (mn := false) hI h)
       simp [execOp, ho, resolve, hcl, hx', invoke, builtin]
     · cases h
   · rename_i hcl
     split at h
     · rename_i x hx
       have hx' : cl.args = #[x] := by rw [← Array.toArray_toList (xs := cl.args), hx]
       refine fin (sem := Builtin.real_ cl.argTypes o.type #[a.eval x]) (by simp [execOp, ho, resolve, hcl, hx', invoke, builtin]) ?_
       unfold rReal at h
       split at h
       · rename_i he
         simp only [yes, Option.some.injEq, Prod.mk.injEq] at h
         obtain ⟨_, rfl⟩ := h
         rw [(qp hI he).v_inv]
         exact qO (.p (.v rfl)) fun z => rfl
       · cases h
     · cases h
   · rename_i hcl
     split at h
     · rename_i x hx
       have hx' : cl.args = #[x] := by rw [← Array.toArray_toList (xs := cl.args), hx]
       refine fin (sem := Builtin.imag_ cl.argTypes o.type #[a.eval x]) (by simp [execOp, ho, resolve, hcl, hx', invoke, builtin]) ?_
       unfold rImag at h
       split at h
       · rename_i he
         simp only [yes, Option.some.injEq, Prod.mk.injEq] at h
         obtain ⟨_, rfl⟩ := h
         rw [(qp hI he).v_inv]
         exact qO (.p (.v rfl)) fun z => rfl
       · cases h
     · cases h
   · rename_i hcl
     split at h
     · rename_i x y hx
       have hx' : cl.args = #[x, y] := by rw [← Array.toArray_toList (xs := cl.args), hx]
       refine fin (sem := Builtin.complex_ cl.argTypes o.type #[a.eval x, a.eval y]) (by simp [execOp, ho, resolve, hcl, hx', invoke, builtin]) ?_
       unfold rCplx at h
       split at h
       · rename_i he1 he2
         simp only [yes, Option.some.injEq, Prod.mk.injEq] at h
         obtain ⟨_, rfl⟩ := h
         rw [(qp hI he1).v_inv, (qp hI he2).v_inv]
         exact qO (.p (.v rfl)) fun z => rfl
       · cases h
     · cases h
   · cases h
 · rename_i ho; exact fin (by simp only [execOp, ho]) (rLookup_ok hT hI h hc)
 · rename_i ho; exact fin (by simp only [execOp, ho]) (rBuild_ok hT hI h)
 · rename_i x ho
   split at h
   · rename_i j o' hx
     simp only [yes, Option.some.injEq, Prod.mk.injEq] at h
     obtain ⟨_, rfl⟩ := h
     have ex := qp hI hx
     obtain ⟨b, g, hu, _⟩ := ex.ptr_form
     exact ⟨_, ex, fun z _ => by simp only [execOp, ho, hu]; rfl⟩
   · rename_i j zz k o' hx
     simp only [yes, Option.some.injEq, Prod.mk.injEq] at h
     obtain ⟨_, rfl⟩ := h
     have ex := qp hI hx
     obtain ⟨b, g, hu, _⟩ := ex.eptr_form
     exact ⟨_, ex, fun z _ => by simp only [execOp, ho, hu]; rfl⟩
   · rename_i cs hx
     simp only [yes, Option.some.injEq, Prod.mk.injEq] at h
     obtain ⟨_, rfl⟩ := h
     have ex := qp hI hx
     obtain ⟨b, o', hu⟩ := ex.p_inv.rp_form
     exact ⟨_, ex, fun z _ => by simp only [execOp, ho, hu]; rfl⟩
   · cases h
 · cases h
end
def upd (γ : Nat → Value) (d : Nat) (g : Value) (i : Nat) : Value := if i = d then g else γ i
theorem RelS.live {ok : Nat → Prop} {H : Nat → Option Value} {w : World} {s : SV} {u : Value} {d : Nat} (hd : H d = none) (h : RelS ok H w s u) : s.noRef d = true := by
 have all : ∀ {cs : List SV} {us : List Value}, us.length = cs.length → (∀ (i : Nat) (s : SV) (u : Value), cs[i]? = some s → us[i]? = some u → s.noRef d = true) → noRefs d cs = true := by
  intro cs
  induction cs with
  | nil => intro us _ _; rfl
  | cons c cs ih =>
    intro us hl h
    cases us with
    | nil => simp at hl
    | cons u us =>
      simp only [noRefs, Bool.and_eq_true]
      exact ⟨h 0 c u rfl rfl, ih (by simpa using hl) fun i s u a b => h (i + 1) s u (by simpa using a) (by simpa using b)⟩
 induction h with
 | p h => rfl
 | agg hl h ih => exact all hl ih
 | tup hl h ih => exact all hl ih
 | fn hl h ih => exact all hl ih
 | junk => rfl
 | @row i u h =>
   have : i ≠ d := fun e => by subst e; rw [hd] at h; cases h
   simp [SV.noRef, wb this]
 | @ptr i off b g h hb =>
   have : i ≠ d := fun e => by subst e; rw [hd] at h; cases h
   simp [SV.noRef, wb this]
 | @eptr i z idx off b g h hb =>
   have : i ≠ d := fun e => by subst e; rw [hd] at h; cases h
   simp [SV.noRef, wb this]
 | @view i z lo hi n c A A' h =>
   have : i ≠ d := fun e => by subst e; rw [hd] at h; cases h
   simp [SV.noRef, wb this]
theorem RelS.keep2 {ok ok' : Nat → Prop} {H H' : Nat → Option Value} {w w' : World} (hsz : w.heap.size ≤ w'.heap.size) (hk : ∀ b, b < w.heap.size → ok b → w'.heap[b]? = w.heap[b]? ∧ ok' b) {s : SV} {u : Value}
 (h : RelS ok H w s u) (hH : ∀ i, s.noRef i = false → H' i = H i) : RelS ok' H' w' s u := by
 have h1 : RelS (fun b => ok b ∧ b < w.heap.size) H w s u := by
  have all : ∀ {x : PV} {u : Value}, RelP ok w x u → RelP (fun b => ok b ∧ b < w.heap.size) w x u := fun h => h.weak fun b hb hok => ⟨hok, hb⟩
  clear hH hk
  induction h with
  | p h => exact .p (all h)
  | agg hl h ih => exact .agg hl ih
  | tup hl h ih => exact .tup hl ih
  | fn hl h ih => exact .fn hl ih
  | junk => exact .junk
  | row h => exact .row h
  | ptr h hb => exact .ptr h hb
  | eptr h hb => exact .eptr h hb
  | view h h1 h2 h3 h4 => exact .view h h1 h2 h3 h4
 exact h1.keep ⟨hsz, fun b hb hok => (hk b hb hok.1).1⟩ (fun b _ hok => (hk b hok.2 hok.1).2) hH
theorem RelP.keep2 {ok ok' : Nat → Prop} {w w' : World} (hsz : w.heap.size ≤ w'.heap.size) (hk : ∀ b, b < w.heap.size → ok b → w'.heap[b]? = w.heap[b]? ∧ ok' b) {s : PV} {u : Value} (h : RelP ok w s u) : RelP ok' w' s u :=
 ((h.weak (ok' := fun b => ok b ∧ b < w.heap.size) fun b hb hok => ⟨hok, hb⟩).keep ⟨hsz, fun b hb hok => (hk b hb hok.1).1⟩).weak fun b _ hok => (hk b hok.2 hok.1).2
section
variable {B : Base} {Sx : Nat → Prop} {γ : Nat → Value} {own : List (Nat × Box)} {w w' : World}
theorem RowO.keep2 {R : RF (List PV)} (hR : Good R) {size : Nat} {ok ok' : Nat → Prop} {base : Nat} {e : TypeId} {v : Value} {l : List (List PV)} (h : RowO R size ok w base e v l) (hsz : w.heap.size ≤ w'.heap.size)
 (hv : ∀ b, v.ownBlock = some b → w'.heap[b]? = w.heap[b]?) (hk : ∀ b, b < w.heap.size → ok b → some b ≠ v.ownBlock → w'.heap[b]? = w.heap[b]? ∧ ok' b) : RowO R size ok' w' base e v l := by
 obtain ⟨css, h1, h2, h3⟩ := h
 refine ⟨css, ⟨h1.1, ?_⟩, h2, fun i a b => ?_⟩
 · rcases h1.2 with h | ⟨g, cap, cur, hv', hb, hg, r⟩
   · exact Or.inl h
   · refine Or.inr ⟨g, cap, cur, hv', hb, ?_, r⟩
     rw [hv g (by rw [hv']; rfl)]; exact hg
 · have h4 := hR.weak _ (fun b => okR ok v b ∧ b < w.heap.size) _ _ _ (fun b hb hok => ⟨hok, hb⟩) (h3 i a b)
   have h5 := hR.keep _ w w' _ _ ⟨hsz, fun b hb hok => (hk b hb hok.1.1 hok.1.2).1⟩ h4
   exact hR.weak _ _ _ _ _ (fun b _ hok => ⟨(hk b hok.2 hok.1.1 hok.1.2).2, hok.1.2⟩) h5
inductive Box.Rel (F : SV → SV → Prop) : Box → Box → Prop
 | row {e : TypeId} {z : Nat} {l : List (List PV)} : Box.Rel F (.row e z l) (.row e z l)
 | mp {es : List (Value × PV)} : Box.Rel F (.mp es) (.mp es)
 | cells {cs cs' : List SV} (hl : cs'.length = cs.length) (h : ∀ (j : Nat) (s' : SV), cs'[j]? = some s' → ∃ s, cs[j]? = some s ∧ F s s') : Box.Rel F (.cells cs) (.cells cs')
 | rws {e : TypeId} {z : Nat} {pre post : List (List PV)} {mid mid' : List SV} (hp : ∀ x : PV, F (.p x) (.p x)) (hl : mid'.length = mid.length) (h : ∀ (j : Nat) (s' : SV), mid'[j]? = some s' → ∃ s, mid[j]? = some s ∧ F s s') : Box.Rel F (.rws e z pre mid post) (.rws e z pre mid' post)
theorem rowF_p {l : List (List PV)} {j : Nat} {s : SV} (h : (rowF l)[j]? = some s) : ∃ x, s = .p x := by
 obtain ⟨y, _, hy⟩ := List.mem_flatMap.1 (List.mem_of_getElem? h)
 obtain ⟨x, _, rfl⟩ := List.mem_map.1 hy
 exact ⟨x, rfl⟩
theorem rwC_rel {F : SV → SV → Prop} {pre post : List (List PV)} {mid mid' : List SV} (hp : ∀ x : PV, F (.p x) (.p x)) (hl : mid'.length = mid.length) (h : ∀ (j : Nat) (s' : SV), mid'[j]? = some s' → ∃ s, mid[j]? = some s ∧ F s s') (j : Nat) (s' : SV) (hs : (rwC pre mid' post)[j]? = some s') : ∃ s, (rwC pre mid post)[j]? = some s ∧ F s s' := by
 unfold rwC at hs ⊢
 by_cases h1 : j < (rowF pre).length
 · rw [List.getElem?_append_left h1] at hs ⊢
   obtain ⟨x, rfl⟩ := rowF_p hs
   exact ⟨_, hs, hp x⟩
 · rw [List.getElem?_append_right (by omega)] at hs ⊢
   by_cases h2 : j - (rowF pre).length < mid.length
   · rw [List.getElem?_append_left (by omega)] at hs ⊢
     exact h _ s' hs
   · rw [List.getElem?_append_right (by omega)] at hs ⊢
     rw [hl] at hs
     obtain ⟨x, rfl⟩ := rowF_p hs
     exact ⟨_, hs, hp x⟩
def Box.mapS (f : SV → SV) : Box → Box
 | .row e z l => .row e z l
 | .mp es => .mp es
 | .cells cs => .cells (cs.map f)
 | .rws e z pre mid post => .rws e z pre (mid.map f) post
theorem Box.rel_map (f : SV → SV) (hf : ∀ x, f (.p x) = .p x) (bx : Box) : Box.Rel (fun s s' => s' = f s) bx (bx.mapS f) := by
 have key : ∀ (cs : List SV) (j : Nat) (s' : SV), (cs.map f)[j]? = some s' → ∃ s, cs[j]? = some s ∧ s' = f s := fun cs j s' h => by
  rw [List.getElem?_map] at h
  obtain ⟨s0, h0, rfl⟩ := Option.map_eq_some_iff.1 h
  exact ⟨s0, h0, rfl⟩
 cases bx with
 | row => exact .row
 | mp => exact .mp
 | cells cs => exact .cells (by simp) (key cs)
 | rws e z pre mid post => exact .rws (fun x => (hf x).symm) (by simp) (key mid)
theorem Box.rel_refl (bx : Box) : Box.Rel (fun s s' => s' = s) bx bx := by
 cases bx with
 | row => exact .row
 | mp => exact .mp
 | cells cs => exact .cells rfl fun j s h => ⟨s, h, rfl⟩
 | rws e z pre mid post => exact .rws (fun x => rfl) rfl fun j s h => ⟨s, h, rfl⟩
theorem BoxOk.keep {W W' : Base} {Sx Sx' : Nat → Prop} {γ γ' : Nat → Value} {own own' : List (Nat × Box)} {w w' : World} {i i' : Nat} {bx bx' : Box} {F : SV → SV → Prop} (h : BoxOk W Sx γ own w i bx) (hm : Box.Rel F bx bx') (hγ : γ' i' = γ i) (hsz : w.heap.size ≤ w'.heap.size)
 (hblk : ∀ b, qK (γ i) = some b → w'.heap[b]? = w.heap[b]? ∧ ¬ W'.kp b) (hok : ∀ b, b < w.heap.size → okO Sx γ own b → w'.heap[b]? = w.heap[b]? ∧ okO Sx' γ' own' b)
 (hS : ∀ s u s', RelS (okO Sx γ own) (hp γ own) w s u → F s s' → RelS (okO Sx' γ' own') (hp γ' own') w' s' u) : BoxOk W' Sx' γ' own' w' i' bx' := by
 have hb' : ∀ b, b < w.heap.size → okBut Sx γ own i b → qK (γ i) ≠ some b → w'.heap[b]? = w.heap[b]? ∧ okBut Sx' γ' own' i' b := fun b hb h1 hne => by
  obtain ⟨k1, k2⟩ := hok b hb ⟨h1.1, fun j bx hj hjb => by
   by_cases e : j = i
   · subst e; exact hne hjb
   · exact h1.2 j bx hj e hjb⟩
  exact ⟨k1, k2.1, fun j bx hj _ => k2.2 j bx hj⟩
 have hown : ∀ {n : Nat} {e : TypeId} {z : Nat} {xs : List Value}, w.ownsRow 0 e z (γ i) n xs → (γ i).ownBlock = qK (γ i) := fun h => by
  rcases h.2 with ⟨hv, _⟩ | ⟨g, cap, cur, hv, _⟩ <;> rw [hv] <;> rfl
 cases h with
 | row hr he hl hk =>
   cases hm
   have hoi : (γ i).ownBlock = qK (γ i) := by obtain ⟨css, h1, _⟩ := hr; exact hown h1
   refine .row ?_ he hl (fun b hb => (hblk b (by rwa [hγ] at hb)).2)
   rw [hγ]
   exact hr.keep2 good_PV hsz (fun b hb => (hblk b (by rw [← hoi]; exact hb)).1) fun b hb h1 hne => hb' b hb h1 fun e => hne (by rw [hoi, e])
 | cells hg hB hh hl hr h1 =>
   cases hm with
   | cells g1 g2 => exact .cells (by rw [hγ]; exact hg) (hblk _ (by rw [hg]; rfl)).2 (by rw [(hblk _ (by rw [hg]; rfl)).1]; exact hh) (by omega) (fun j s u hs hu => by
    obtain ⟨s0, p1, p2⟩ := g2 j s hs
    exact hS s0 u s (hr j s0 u p1 hu) p2) h1
 | mp hg hB hh hl hr =>
   cases hm
   exact .mp (by rw [hγ]; exact hg) (hblk _ (by rw [hg]; rfl)).2 (by rw [(hblk _ (by rw [hg]; rfl)).1]; exact hh) hl fun j x en hs hu => ⟨(hr j x en hs hu).1, (hr j x en hs hu).2.keep2 hsz hok⟩
 | @rws e z pre post mid css nm h1 hz hpp hn hmid hr hm' hk =>
   cases hm with
   | rws g0 g1 g2 =>
     refine .rws (css := css) (nm := nm) ?_ hz hpp hn (by omega) (fun j s u hs hu => ?_) hm' (fun b hb => (hblk b (by rwa [hγ] at hb)).2)
     · rw [hγ]
       refine ⟨h1.1, ?_⟩
       rcases h1.2 with h | ⟨g, cap, cur, hv', hb, hg, r⟩
       · exact Or.inl h
       · exact Or.inr ⟨g, cap, cur, hv', hb, by rw [(hblk g (by rw [hv']; rfl)).1]; exact hg, r⟩
     · obtain ⟨s0, p1, p2⟩ := rwC_rel g0 g1 g2 j s hs
       exact hS s0 u s (hr j s0 u p1 hu) p2
theorem HeapOk.add (h : HeapOk B Sx γ own w) (hw : Below w.heap.size w w') {d : Nat} {g : Value} {bx : Box} (hd : lk d own = none) (hdl : d < 1000000) (hg : ∀ b, qK g = some b → w.heap.size ≤ b)
 (hbx : BoxOk B Sx (upd γ d g) ((d, bx) :: own) w' d bx) : HeapOk B Sx (upd γ d g) ((d, bx) :: own) w' ∧ (∀ b, b < w.heap.size → okO Sx γ own b → okO Sx (upd γ d g) ((d, bx) :: own) b) ∧
  (∀ i, i ≠ d → hp (upd γ d g) ((d, bx) :: own) i = hp γ own i) ∧ (∀ K b, b < w.heap.size → vis K γ own b → vis K (upd γ d g) ((d, bx) :: own) b) := by
 have lkc : ∀ i, lk i ((d, bx) :: own) = if i = d then some bx else lk i own := fun i => qA i d bx own
 have hu : ∀ i, i ≠ d → upd γ d g i = γ i := fun i hi => if_neg hi
 have hud : upd γ d g d = g := if_pos rfl
 have okn : ∀ b, b < w.heap.size → okO Sx γ own b → okO Sx (upd γ d g) ((d, bx) :: own) b := fun b hb hok => ⟨hok.1, fun i by_ hi hbi => by
  rw [lkc] at hi
  by_cases e : i = d
  · subst e; rw [hud] at hbi; have := hg b hbi; omega
  · rw [if_neg e] at hi; rw [hu i e] at hbi; exact hok.2 i by_ hi hbi⟩
 have hpn : ∀ i, i ≠ d → hp (upd γ d g) ((d, bx) :: own) i = hp γ own i := fun i hi => by unfold hp; rw [lkc, if_neg hi, hu i hi]
 have hst : Stays B Sx (upd γ d g) ((d, bx) :: own) w' := h.sx.keep hw.size fun i by_ hi => by
  rw [lkc] at hi
  by_cases e : i = d
  · exact Or.inl (by omega)
  · rw [if_neg e] at hi; exact Or.inr ⟨hu i e, by rw [hi]; rfl⟩
 refine ⟨⟨fun i by_ hi => ?_, fun i j bi bj b hi hj hbi hbj => ?_, hst⟩, okn, hpn, fun K b hb hv i by_ hi hK hbi => ?_⟩
 · rw [lkc] at hi
   by_cases e : i = d
   · subst e; rw [if_pos rfl] at hi; cases hi; exact hbx
   · rw [if_neg e] at hi
     exact (h.box i by_ hi).keep (Box.rel_refl _) (hu i e) hw.size (fun b hb => ⟨hw.block b (h.blk hi hb).2, (h.blk hi hb).1⟩) (fun b hb hok => ⟨hw.block b hb, okn b hb hok⟩) fun s u s' this es => by
      subst es
      refine this.keep2 hw.size (fun b hb hok => ⟨hw.block b hb, okn b hb hok⟩) fun k hk => hpn k fun ek => ?_
      subst ek
      rw [this.live (jv hd)] at hk; cases hk
 · rw [lkc] at hi hj
   by_cases e : i = d
   · by_cases e2 : j = d
     · rw [e, e2]
     · subst e; rw [if_neg e2] at hj; rw [hud] at hbi; rw [hu j e2] at hbj
       have := hg b hbi; have := (h.blk hj hbj).2; omega
   · rw [if_neg e] at hi
     rw [hu i e] at hbi
     by_cases e2 : j = d
     · subst e2; rw [hud] at hbj
       have := hg b hbj; have := (h.blk hi hbi).2; omega
     · rw [if_neg e2] at hj; rw [hu j e2] at hbj; exact h.inj i j _ _ b hi hj hbi hbj
 · rw [lkc] at hi
   by_cases e : i = d
   · subst e; rw [hud] at hbi; have := hg b hbi; omega
   · rw [if_neg e] at hi; rw [hu i e] at hbi; exact hv i by_ hi hK hbi
end
def St.put (st : St) (dst : Option Tmp) (s : SV) : St := match dst with
 | some d => { st with fr := (d, s) :: st.fr }
 | none => st
def zl (st : St) (dst : Option Tmp) : Bool := match dst with
 | some d => Nat.blt d st.n
 | none => true
theorem Sim.put {w0 : Base} {Sx : Nat → Prop} {γ : Nat → Value} {st : St} {a : Act} {w : World} (hI : Sim w0 Sx γ st a w) {dst : Option Tmp} {s : SV} {v : Value} (hd : zl st dst = true) (h : RelS (okO Sx γ st.own) (hp γ st.own) w s v) :
 Sim w0 Sx γ (st.put dst s) (a.put dst v) w := by
 cases dst with
 | none => exact hI
 | some d =>
   have hlt : d < st.n := by simpa [zl, Nat.blt, Nat.lt_iff_add_one_le] using hd
   refine ⟨hI.below, ⟨by rw [put_size]; exact hI.size.1, hI.size.2⟩, by rw [put_defers]; exact hI.defers, fun t s' ht => ?_, hI.heap⟩
   have ht' : (if t = d then some s else lk t st.fr) = some s' := by rw [← qA]; exact ht
   rw [put_getD]
   by_cases e : t = d
   · subst e
     rw [if_pos rfl] at ht'
     cases ht'
     rw [if_pos ⟨rfl, by rw [hI.size.1]; exact hlt⟩]
     exact h
   · rw [if_neg e] at ht'
     rw [if_neg (fun h => e h.1.symm)]
     exact hI.fr t s' ht'
theorem run_append_row {P : Program} {α : Type} {R : RF α} {size : Nat} (hR : Good R) {ok : Nat → Prop} {w : World} (t : TypeId) (ty : TypeId)
 (base : Nat) (e : TypeId) (i : TypeInfo) (z : Value) (bytes : Nat) (ht : P.underlying t = some (.slice e)) (hi : P.info? e = some i) (hz : i.zero = some z)
 (hsize : i.size = size) (hby : i.bytes = bytes) (hzs : z.cells.size = size) (hsz : 0 < size)
 (v : Value) (l : List α) (hown : RowO R size ok w base e v l)
 (A : Option Addr) (c : Nat) (l₂ : List α) (hr : SlAt (fun w cs y => (∀ u ∈ cs, u.oneCell' = true) ∧ R (okR ok v) w cs y) size w A l₂)
 (h63 : l.length + l₂.length ≤ maxLen) (hbytes : (l.length + l₂.length) * bytes ≤ 140737488355328) (hbase : base ≤ w.heap.size) (hokn : ok w.heap.size) :
 ∃ v' w', (Builtin.append_ #[t, t] ty #[v, .slice A l₂.length c]).run P w = .ok v' w' ∧ RowO R size ok w' base e v' (l ++ l₂) ∧ w.grownBy w' v.ownBlock ∧ (v'.ownBlock = v.ownBlock ∨ v'.ownBlock = some w.heap.size) := by
 obtain ⟨css, h1, h2, h3⟩ := hown
 have hex : ∀ j : Nat, ∃ cs : Cel size, ∀ hj : j < l₂.length, R (okR ok v) w cs.val l₂[j] ∧ ∀ b o', A = some ⟨b, o', none⟩ → CellsAt w b (o' + j * size) cs.val := by
  intro j
  by_cases hj : j < l₂.length
  · obtain ⟨b, o', hA, _, hc⟩ := hr (by omega)
    obtain ⟨cs, a1, a2, a3, a4⟩ := hc j hj
    refine ⟨⟨cs, a1, a3⟩, fun _ => ⟨a4, fun b2 o2 hA2 => ?_⟩⟩
    have := hA.symm.trans hA2
    simp only [Option.some.injEq, Addr.mk.injEq] at this
    obtain ⟨rfl, rfl, _⟩ := this
    exact a2
  · exact ⟨⟨List.replicate size .nilIface, by simp, fun u hu => by rw [List.eq_of_mem_replicate hu]; rfl⟩, fun h => absurd h hj⟩
 obtain ⟨f, hf⟩ := Classical.axiomOfChoice hex
 let css₂ : List (Cel size) := (List.range l₂.length).map f
 have hlen2 : css₂.length = l₂.length := by simp [css₂]
 have hget : ∀ j (h : j < css₂.length), css₂[j] = f j := fun j h => by simp [css₂]
 have hraw : SlAt (fun _ cs (y : Cel size) => cs = y.val) size w A css₂ := fun hl => by
  obtain ⟨b, o', hA, hlt, _⟩ := hr (by omega)
  refine ⟨b, o', hA, hlt, fun j hj => ⟨_, (f j).2.1, ((hf j) (by omega)).2 b o' hA, by rw [hget]⟩⟩
 have key : ∃ v' w', (Builtin.append_ #[t, t] ty #[v, .slice A css₂.length c]).run P w = .ok v' w' ∧ OwnF Subtype.val size w' base e v' (css ++ css₂) ∧ w.grownBy w' v.ownBlock ∧ (v'.ownBlock = v.ownBlock ∨ v'.ownBlock = some w.heap.size) := by
  rcases Nat.eq_zero_or_pos css₂.length with h0 | hpos
  · have hn : css₂ = [] := List.eq_nil_of_length_eq_zero h0
    rw [hn]
    rcases A with _ | ad
    · exact ⟨v, w, run_append_none w t ty e i ht hi base size v _ _ h1 c, by simpa [OwnF] using h1, World.grownBy.refl w _, Or.inl rfl⟩
    · obtain ⟨v', w', hrun, g2, g3, _, g5⟩ := run_append_own_at (P := P) w base t ty e i z size bytes ht hi hz hsize hby hzs hsz v _ _ h1 ad 0 c [] (by simp) (by simp) (by simp) (by omega) (by rw [h2]; exact Nat.le_trans (Nat.mul_le_mul_right _ (by omega)) hbytes) hbase
      exact ⟨v', w', hrun, by simpa [OwnF] using g2, g3, g5⟩
  · obtain ⟨b, o', rfl, hlt, hc⟩ := hraw hpos
    have hcells : ∀ j u, (css₂.flatMap Subtype.val)[j]? = some u → w.cell? ((⟨b, o', none⟩ : Addr).add j) = some u := by
     intro j u hj
     have hjl : j < css₂.length * size := by rw [← zt (fun x : Cel size => x.2.1) css₂]; exact (List.getElem?_eq_some_iff.1 hj).1
     have hi' : j / size < css₂.length := (Nat.div_lt_iff_lt_mul hsz).2 hjl
     have hm : j % size < size := Nat.mod_lt _ hsz
     have hjj : j / size * size + j % size = j := by rw [Nat.mul_comm]; exact Nat.div_add_mod j size
     obtain ⟨cs, _, hcs, rfl⟩ := hc (j / size) hi'
     have g1 := flat_get (fun x : Cel size => x.2.1) css₂ (j / size) hi' (j % size) hm
     rw [hjj, hj] at g1
     have g2 := hcs (j % size) u g1.symm
     have e1 : (⟨b, o', none⟩ : Addr).add j = ⟨b, o' + j / size * size + j % size, none⟩ := by
      rw [Nat.add_assoc, hjj]
      unfold Addr.add; split
      · simp [*]
      · rfl
     rw [e1]; exact g2
    obtain ⟨v', w', hrun, g2, g3, _, g5⟩ := run_append_own_at (P := P) w base t ty e i z size bytes ht hi hz hsize hby hzs hsz v _ _ h1 ⟨b, o', none⟩ css₂.length c (css₂.flatMap Subtype.val) (zt (fun x : Cel size => x.2.1) css₂) hcells
     (fun u hu => by obtain ⟨x, _, hx⟩ := List.mem_flatMap.1 hu; exact x.2.2 u hx) (by omega) (by rw [h2, hlen2]; exact hbytes) hbase
    refine ⟨v', w', hrun, ?_, g3, g5⟩
    unfold OwnF
    rw [List.length_append, List.flatMap_append]
    exact g2
 obtain ⟨v', w', hrun, g2, g3, g5⟩ := key
 rw [hlen2] at hrun
 have hlt : ∀ b, b < w.heap.size → okR ok v b → okR ok v b ∧ okR ok v' b := fun b hb hk => ⟨hk, hk.1, by
  rcases g5 with g | g
  · rw [g]; exact hk.2
  · rw [g]; intro he; simp only [Option.some.injEq] at he; omega⟩
 have hsame : SameOn (fun b => okR ok v b ∧ okR ok v' b) w w' := ⟨g3.size, fun b hb hk => g3.block b hb hk.1.2⟩
 have fin : ∀ cs x, R (okR ok v) w cs x → R (okR ok v') w' cs x := fun cs x hx => hR.weak _ _ _ _ _ (fun _ _ h => h.2) (hR.keep _ _ _ _ _ hsame (hR.weak _ _ _ _ _ hlt hx))
 refine ⟨v', w', hrun, ⟨css ++ css₂, g2, by rw [List.length_append, List.length_append, h2, hlen2], fun j a1 a2 => ?_⟩, g3, g5⟩
 by_cases hj : j < css.length
 · rw [List.getElem_append_left hj, List.getElem_append_left (by omega)]
   exact fin _ _ (h3 j hj (by omega))
 · have hj2 : j - css.length < l₂.length := by rw [List.length_append] at a2; omega
   rw [List.getElem_append_right (by omega), List.getElem_append_right (by omega), hget]
   have := ((hf (j - css.length)) hj2).1
   simp only [h2] at this ⊢
   exact fin _ _ this
def ActOk (P : Program) (Ws : List Nat) (o : Oper) (st : St) (Q : St → Prop) : Prop := ∀ (w0 : Base) (Sx : Nat → Prop) (γ : Nat → Value) (a : Act) (w : World) (QQ : Exit → Act → World → Prop), Sim w0 Sx γ st a w →
 o.wp P a w (fun a' w' => ∃ γ' st', Q st' ∧ Sim w0 Sx γ' st' a' w' ∧ SameOn (vis Ws γ st.own) w w' ∧ ∀ K : List Nat, (∀ i ∈ Ws, i ∈ K) → ∀ b, b < w.heap.size → vis K γ st.own b → vis K γ' st'.own b) QQ
theorem Sim.addBox {w0 : Base} {Sx : Nat → Prop} {γ : Nat → Value} {st : St} {a : Act} {w w' : World} (hI : Sim w0 Sx γ st a w) (hw : Below w.heap.size w w') {d : Nat} {g : Value} {bx : Box} (hd : lk d st.own = none) (hn : Nat.blt d st.n = true)
 (hg : ∀ b, qK g = some b → w.heap.size ≤ b) (hbx : BoxOk w0 Sx (upd γ d g) ((d, bx) :: st.own) w' d bx) {s : SV} {v : Value}
 (hs : RelS (okO Sx (upd γ d g) ((d, bx) :: st.own)) (hp (upd γ d g) ((d, bx) :: st.own)) w' s v) :
 Sim w0 Sx (upd γ d g) ⟨st.n, (d, s) :: st.fr, (d, bx) :: st.own⟩ (a.put (some d) v) w' ∧ SameOn (vis [] γ st.own) w w' ∧ ∀ K : List Nat, (∀ i ∈ ([] : List Nat), i ∈ K) → ∀ b, b < w.heap.size → vis K γ st.own b → vis K (upd γ d g) ((d, bx) :: st.own) b := by
 have hdl : d < 1000000 := by have h5 := hI.size.2; have h6 : d < st.n := (by simpa [Nat.blt, Nat.lt_iff_add_one_le] using hn); omega
 obtain ⟨h1, h2, h3, h4⟩ := hI.heap.add hw hd hdl hg hbx
 have hI' : Sim w0 Sx (upd γ d g) ⟨st.n, st.fr, (d, bx) :: st.own⟩ a w' := by
  refine ⟨hI.below.grow hI.heap.sx hw, hI.size, hI.defers, fun t s' ht => ?_, h1⟩
  have hr := hI.fr t s' ht
  refine hr.keep2 hw.size (fun b hb hok => ⟨hw.block b hb, h2 b hb hok⟩) fun i hi => h3 i fun e => ?_
  subst e
  rw [hr.live (jv hd)] at hi; cases hi
 exact ⟨hI'.put (dst := some d) hn hs, ⟨hw.size, fun b hb _ => hw.block b hb⟩, fun K _ b hb hv => h4 K b hb hv⟩
section
variable {P : Program} {T : TT} (hT : qX P T) {st : St}
theorem act_new {w0 : Base} {Sx : Nat → Prop} {γ : Nat → Value} {a : Act} {w : World} (hI : Sim w0 Sx γ st a w) {d : Nat} (hd : lk d st.own = none) (hn : Nat.blt d st.n = true) {cs : List SV} {us : List Value} {ty : TypeId} (hl : us.length = cs.length)
 (hr : ∀ (i : Nat) (s : SV) (v : Value), cs[i]? = some s → us[i]? = some v → RelS (okO Sx γ st.own) (hp γ st.own) w s v) (h1 : cs.all oneS = true) :
 ∃ γ', Sim w0 Sx γ' ⟨st.n, (d, .ptr d 0) :: st.fr, (d, .cells cs) :: st.own⟩ (a.put (some d) (.pointer (some ⟨w.heap.size, 0, none⟩))) (w.alloc (.cells us.toArray ty)) ∧ SameOn (vis [] γ st.own) w (w.alloc (.cells us.toArray ty)) ∧
   ∀ K : List Nat, (∀ i ∈ ([] : List Nat), i ∈ K) → ∀ b, b < w.heap.size → vis K γ st.own b → vis K γ' ((d, .cells cs) :: st.own) b := by
 have hw : Below w.heap.size w (w.alloc (.cells us.toArray ty)) := (Below.refl _ w).alloc (Nat.le_refl _) _
 refine ⟨upd γ d (.pointer (some ⟨w.heap.size, 0, none⟩)), hI.addBox hw hd hn (fun b hb => by simp only [qK, Option.some.injEq] at hb; omega) ?_ ?_⟩
 · refine .cells (us := us) (ty := ty) (b := w.heap.size) (if_pos rfl) (fun hk => by have := hI.heap.sx.lt _ hk; omega) (heap_alloc_new w _) hl (fun j s u hs hu => ?_) fun u hu => ?_
   · have h2 := hr j s u hs hu
     refine h2.keep2 hw.size (fun b hb hok => ⟨hw.block b hb, hok.1, fun i by_ hi hbi => ?_⟩) fun i hi => ?_
     · have e : i ≠ d := fun e => by subst e; rw [h2.live (jv hd)] at hi; cases hi
       unfold hp; rw [qA, if_neg e]; simp only [upd, if_neg e]
     · rw [qA] at hi
       by_cases e : i = d
       · subst e; simp only [upd, if_true, qK, Option.some.injEq] at hbi; omega
       · rw [if_neg e] at hi; simp only [upd, if_neg e] at hbi; exact hok.2 i by_ hi hbi
   · obtain ⟨j, hj, rfl⟩ := List.mem_iff_getElem.1 hu
     exact (hr j cs[j] us[j] (List.getElem?_eq_getElem (by omega)) (List.getElem?_eq_getElem hj)).one hI.heap.one (List.all_eq_true.1 h1 _ (List.getElem_mem _))
 · exact .ptr (g := .pointer (some ⟨w.heap.size, 0, none⟩)) (by unfold hp; rw [qA, if_pos rfl]; simp [upd]) rfl
theorem act_box {o : Oper} {e : TypeId} {x : Operand} (ho : o.op = .box e x) {d : Nat} (hdst : o.dst = some d) {s : SV} (hx : evS st x = some s) {cs : List SV} (hc : cellsOf s = some cs) (h1 : cs.all oneS = true) (hd : lk d st.own = none) (hn : Nat.blt d st.n = true)
 {Q : St → Prop} (h : Q ⟨st.n, (d, .ptr d 0) :: st.fr, (d, .cells cs) :: st.own⟩) : ActOk P [] o st Q := by
 intro w0 Sx γ a w QQ hI
 obtain ⟨hl, hr⟩ := qai hI.heap.one (qp hI hx) hc
 obtain ⟨γ', g1, g2, g3⟩ := act_new hI hd hn (us := (a.eval x).cells.toList) (ty := e) hl hr h1
 unfold Oper.wp
 have : (execOp a.eval o).run P w = .ok (.value (.pointer (some ⟨w.heap.size, 0, none⟩))) (w.alloc (.cells (a.eval x).cells e)) := by
  simp [execOp, ho, Instr.box, newVar, newRow]
 rw [this, Oper.upon_value, hdst]
 simp only [Array.toArray_toList] at g1 g2
 exact ⟨γ', _, h, g1, g2, g3⟩
include hT in
theorem act_alloc {o : Oper} {e : TypeId} (ho : o.op = .alloc e) {d : Nat} (hdst : o.dst = some d) {i : TyI} (hi : lk e T = some i) (hz : i.zero.all plain = true) (hd : lk d st.own = none) (hn : Nat.blt d st.n = true)
 {Q : St → Prop} (h : Q ⟨st.n, (d, .ptr d 0) :: st.fr, (d, .cells (i.zero.map fun z => .p (.v z))) :: st.own⟩) : ActOk P [] o st Q := by
 intro w0 Sx γ a w QQ hI
 obtain ⟨info, zv, hinf, _, _, hzv, hzc⟩ := (hT e i hi).info
 obtain ⟨γ', g1, g2, g3⟩ := act_new hI hd hn (cs := i.zero.map fun z => .p (.v z)) (us := i.zero) (ty := e) (by simp) (fun j s v hs hv => by
  rw [List.getElem?_map, hv] at hs
  cases hs
  exact .p (.v (List.all_eq_true.1 hz v (List.mem_of_getElem? hv)))) (List.all_eq_true.2 fun s hs => by obtain ⟨z, _, rfl⟩ := List.mem_map.1 hs; rfl)
 unfold Oper.wp
 have : (execOp a.eval o).run P w = .ok (.value (.pointer (some ⟨w.heap.size, 0, none⟩))) (w.alloc (.cells i.zero.toArray e)) := by
  simp [execOp, ho, Instr.alloc, newVar, newRow, zeroValue, typeInfo, hinf, hzv, ← hzc]
 rw [this, Oper.upon_value, hdst]
 exact ⟨γ', _, h, g1, g2, g3⟩
end
def cellsP : SV → Option (List PV)
 | .p (.agg ps) => some ps
 | .p x => some [x]
 | _ => none
theorem cellsP_ok {ok : Nat → Prop} {H : Nat → Option Value} {w : World} {s : SV} {u : Value} (h : RelS ok H w s u) {ps : List PV} (hc : cellsP s = some ps) (h1 : ps.all oneP = true) : rPV ok w u.cells.toList ps ∧ ∀ v ∈ u.cells.toList, v.oneCell' = true := by
 have key : rPV ok w u.cells.toList ps := by
  have lone : ∀ {x : PV}, RelP ok w x u → oneP x = true → some [x] = some ps → rPV ok w u.cells.toList ps := by
   intro x h h1' hc
   cases hc
   have h2 : u.oneCell' = true := by rw [h.one]; exact h1'
   have : u.cells = #[u] := by cases u <;> first | rfl | cases h2
   rw [this]
   refine ⟨rfl, fun i s v a b => ?_⟩
   cases i with
   | zero => simp at a b; subst a; subst b; exact h
   | succ i => simp at a
  cases h with
  | @p x u h =>
    cases x with
    | agg ps' =>
      simp only [cellsP, Option.some.injEq] at hc
      subst hc
      cases h with
      | @agg _ us hl h => exact ⟨by simpa [Value.cells] using hl, by simpa [Value.cells] using h⟩
    | v x => exact lone h rfl hc
    | sl _ _ => exact lone h rfl hc
    | rp _ => exact lone h rfl hc
    | fn _ _ => exact lone h rfl hc
  | _ => cases hc
 refine ⟨key, fun v hv => ?_⟩
 obtain ⟨j, hj, rfl⟩ := List.mem_iff_getElem.1 hv
 have hj' : j < ps.length := by rw [← key.1]; exact hj
 rw [(key.2 j ps[j] _ (List.getElem?_eq_getElem hj') (List.getElem?_eq_getElem hj)).one]
 exact List.all_eq_true.1 h1 _ (List.getElem_mem _)
def zZ : Nat → List (Nat × Operand) → Option (List Operand)
 | _, [] => some []
 | k, (i, x) :: r => bif Nat.beq i k then (match zZ (k + 1) r with | some l => some (x :: l) | none => none) else none
theorem seqParts_ok {a : Act} : ∀ {k : Nat} {ps : List (Nat × Operand)} {xs : List Operand}, zZ k ps = some xs → (ps.map fun (i, x) => (i, a.eval x)) = ((xs.map a.eval).zipIdx k).map fun x => (x.2, x.1)
 | k, [], xs, h => by simp only [zZ, Option.some.injEq] at h; subst h; rfl
 | k, (i, x) :: r, xs, h => by
   unfold zZ at h
   cases hb : Nat.beq i k with
   | false => rw [hb] at h; cases h
   | true =>
     rw [hb] at h
     simp only [cond_true] at h
     split at h
     · rename_i l hl
       simp only [Option.some.injEq] at h
       subst h
       have := seqParts_ok (a := a) hl
       have e : i = k := Nat.eq_of_beq_eq_true hb
       subst e
       simp only [List.map_cons, List.zipIdx_cons]
       rw [this]
     · cases h
def bElems (st : St) (size : Nat) : List Operand → Option (List (List PV))
 | [] => some []
 | x :: r => match evS st x with
   | some s => match cellsP s with
     | some ps => bif Nat.beq ps.length size && ps.all oneP then (match bElems st size r with | some l => some (ps :: l) | none => none) else none
     | none => none
   | none => none
theorem bElems_ok {w0 : Base} {Sx : Nat → Prop} {γ : Nat → Value} {st : St} {a : Act} {w : World} (hI : Sim w0 Sx γ st a w) {size : Nat} : ∀ {xs : List Operand} {l : List (List PV)}, bElems st size xs = some l →
 l.length = xs.length ∧ (∀ e ∈ l, e.length = size ∧ ∀ s ∈ e, oneP s = true) ∧ ∃ css : List (Cel size), css.length = l.length ∧ (∀ (i : Nat) (h : i < css.length) (h2 : i < xs.length), css[i].val = (a.eval xs[i]).cells.toList) ∧
  ∀ (i : Nat) (h : i < css.length) (h2 : i < l.length), rPV (okO Sx γ st.own) w css[i].val l[i]
 | [], l, h => by simp only [bElems, Option.some.injEq] at h; subst h; exact ⟨rfl, by simp, [], rfl, fun i h => absurd h (by simp), fun i h => absurd h (by simp)⟩
 | x :: r, l, h => by
   unfold bElems at h
   split at h
   · rename_i s hs
     split at h
     · rename_i ps hps
       cases hb : (Nat.beq ps.length size && ps.all oneP) with
       | false => rw [hb] at h; cases h
       | true =>
         rw [hb] at h
         simp only [cond_true] at h
         simp only [Bool.and_eq_true] at hb
         have hsz : ps.length = size := Nat.eq_of_beq_eq_true hb.1
         split at h
         · rename_i l' hl'
           simp only [Option.some.injEq] at h
           subst h
           obtain ⟨i1, i2, css, i3, i4, i5⟩ := bElems_ok hI hl'
           obtain ⟨c1, c2⟩ := cellsP_ok (qp hI hs) hps hb.2
           refine ⟨by simp [i1], ?_, ⟨(a.eval x).cells.toList, by rw [c1.1, hsz], c2⟩ :: css, by simp [i3], fun i h h2 => ?_, fun i h h2 => ?_⟩
           · refine List.forall_mem_cons.2 ⟨⟨hsz, fun s hs => List.all_eq_true.1 hb.2 s hs⟩, i2⟩
           · cases i with
             | zero => rfl
             | succ i => exact i4 i (by simpa using h) (by simpa using h2)
           · cases i with
             | zero => exact c1
             | succ i => exact i5 i (by simpa using h) (by simpa using h2)
         · cases h
     · cases h
   · cases h
section
variable {P : Program} {T : TT} (hT : qX P T) {st : St}
include hT
theorem build_run {t e : TypeId} {len : Nat} {parts : Array (Nat × Operand)} {ti ei : TyI} (ht : lk t T = some ti) (hte : ti.d = .sl e) (he : lk e T = some ei) (hsz : Nat.blt 0 ei.size = true) (hsmall : Nat.ble (len * ei.size) 16777216 = true) {xs : List Operand} (hxs : zZ 0 parts.toList = some xs) (hlen' : xs.length = len)
 {a : Act} {w : World} {css : List (Cel ei.size)} (hcl : css.length = len) (i4 : ∀ (i : Nat) (h : i < css.length) (h2 : i < xs.length), css[i].val = (a.eval xs[i]).cells.toList) :
 (Instr.buildSlice t len (parts.map fun (i, x) => (i, a.eval x))).run P w = .ok (.slice (some ⟨w.heap.size, 0, none⟩) len len) (w.alloc (.cells (css.flatMap Subtype.val).toArray e)) := by
 obtain ⟨info, zv, hinf, hsize, _, hzv, hzc⟩ := (hT e ei he).info
 have hu := (hT t ti ht).und
 rw [hte] at hu
 simp only [je] at hu
 have hpos : 0 < ei.size := by simpa [Nat.blt, Nat.lt_iff_add_one_le] using hsz
 have hsm : len * ei.size ≤ 16777216 := Nat.le_of_ble_eq_true hsmall
 have hparts : (parts.map fun (i, x) => (i, a.eval x)).toList = ((xs.map a.eval).zipIdx 0).map fun x => (x.2, x.1) := by rw [Array.toList_map]; exact seqParts_ok hxs
 rcases Nat.eq_zero_or_pos len with h0 | hlp
 · subst h0
   have hc0 : css = [] := List.eq_nil_of_length_eq_zero hcl
   have hx0 : xs = [] := List.eq_nil_of_length_eq_zero hlen'
   rw [hx0] at hparts
   have hp0 : (parts.map fun (i, x) => (i, a.eval x)) = #[] := Array.toList_inj.1 hparts
   rw [hp0, hc0]
   simp [Instr.buildSlice, run_underlying hu, sizeOf, typeInfo, hinf, Instr.fill, newRow, show Array.range 0 = #[] from rfl]
 · have hvs : ∀ v ∈ xs.map a.eval, v.cells.size = ei.size := fun v hv => by
    obtain ⟨x, hx, rfl⟩ := List.mem_map.1 hv
    obtain ⟨i, hi, rfl⟩ := List.mem_iff_getElem.1 hx
    have := i4 i (by omega) hi
    have h2 := css[i].2.1
    rw [this, Array.length_toList] at h2
    exact h2
   obtain ⟨r, hr, hrs, hrk⟩ := Great.fill_dense hpos (xs.map a.eval) 0 ((Array.range (len * info.size)).map (zv.cells[· % zv.cells.size]!)) hvs (by simp [hlen', hsize])
   have hrun := run_buildSlice (P := P) w t e len (parts.map fun (i, x) => (i, a.eval x)) r info zv hu hinf hzv (by rw [hsize]; omega) (by rw [hsize]; exact Nat.ne_of_gt (Nat.mul_pos hlp hpos)) (by rw [hsize]; rw [hsize] at hr; rw [hparts]; exact hr)
   rw [hrun]
   have hrl : r.size = len * ei.size := by rw [hrs]; simp [hsize]
   have : r = (css.flatMap Subtype.val).toArray := by
    refine Array.ext (by rw [hrl, List.size_toArray, zt (fun x : Cel ei.size => x.2.1), hcl]) fun k hk1 hk2 => ?_
    have hk : k < len * ei.size := by rw [← hrl]; exact hk1
    have hdiv : k / ei.size < css.length := by rw [hcl]; exact (Nat.div_lt_iff_lt_mul hpos).2 hk
    have hmod : k % ei.size < ei.size := Nat.mod_lt _ hpos
    have hjj : k / ei.size * ei.size + k % ei.size = k := by rw [Nat.mul_comm]; exact Nat.div_add_mod k ei.size
    have g1 := flat_get (fun x : Cel ei.size => x.2.1) css (k / ei.size) hdiv (k % ei.size) hmod
    rw [hjj] at g1
    have g2 := hrk k
    rw [if_pos ⟨by omega, by simp [hlen']; exact hk⟩] at g2
    have g3 : (xs.map a.eval)[k / ei.size - 0]? = some (a.eval (xs[k / ei.size]'(by omega))) := by simp [List.getElem?_eq_getElem (show k / ei.size < xs.length by omega)]
    rw [g3] at g2
    simp only [Option.bind_some] at g2
    rw [i4 _ hdiv (by omega)] at g1
    have g4 : r[k]? = (css.flatMap Subtype.val)[k]? := by rw [g2, g1, Array.getElem?_toList]
    have e1 : r[k]? = some r[k] := Array.getElem?_eq_getElem hk1
    have e2 : (css.flatMap Subtype.val)[k]? = some ((css.flatMap Subtype.val)[k]'(by simpa using hk2)) := List.getElem?_eq_getElem (by simpa using hk2)
    rw [e1, e2] at g4
    simpa using g4
   rw [this]
theorem act_buildSlice {o : Oper} {t e : TypeId} {len : Nat} {parts : Array (Nat × Operand)} (ho : o.op = .buildSlice t len parts) {d : Nat} (hdst : o.dst = some d) {ti ei : TyI} (ht : lk t T = some ti) (hte : ti.d = .sl e) (he : lk e T = some ei)
 (hsz : Nat.blt 0 ei.size = true) (hsmall : Nat.ble (len * ei.size) 16777216 = true) {xs : List Operand} (hxs : zZ 0 parts.toList = some xs) (hlen : Nat.beq xs.length len = true) {l : List (List PV)} (hl : bElems st ei.size xs = some l)
 (hd : lk d st.own = none) (hn : Nat.blt d st.n = true) {Q : St → Prop} (h : Q ⟨st.n, (d, .row d) :: st.fr, (d, .row e ei.size l) :: st.own⟩) : ActOk P [] o st Q := by
 intro w0 Sx γ a w QQ hI
 obtain ⟨info, zv, hinf, hsize, _, hzv, hzc⟩ := (hT e ei he).info
 have hu := (hT t ti ht).und
 rw [hte] at hu
 simp only [je] at hu
 have hpos : 0 < ei.size := by simpa [Nat.blt, Nat.lt_iff_add_one_le] using hsz
 have hlen' : xs.length = len := Nat.eq_of_beq_eq_true hlen
 have hsm : len * ei.size ≤ 16777216 := Nat.le_of_ble_eq_true hsmall
 obtain ⟨i1, i2, css, i3, i4, i5⟩ := bElems_ok hI hl
 have hcl : css.length = len := by rw [i3, i1, hlen']
 have run : (Instr.buildSlice t len (parts.map fun (i, x) => (i, a.eval x))).run P w = .ok (.slice (some ⟨w.heap.size, 0, none⟩) len len) (w.alloc (.cells (css.flatMap Subtype.val).toArray e)) := build_run hT ht hte he hsz hsmall hxs hlen' hcl i4
 have hw : Below w.heap.size w (w.alloc (.cells (css.flatMap Subtype.val).toArray e)) := (Below.refl _ w).alloc (Nat.le_refl _) _
 have hll : l.length = len := by rw [i1, hlen']
 have hrow : BoxOk w0 Sx (upd γ d (.slice (some ⟨w.heap.size, 0, none⟩) len len)) ((d, .row e ei.size l) :: st.own) (w.alloc (.cells (css.flatMap Subtype.val).toArray e)) d (.row e ei.size l) := by
  have hlm : len ≤ 16777216 := Nat.le_trans (Nat.le_mul_of_pos_right len hpos) hsm
  refine .row ?_ i2 (by rw [hll]; unfold reachBytes; omega) (fun b hb hk => by simp only [upd, if_true, qK, Option.some.injEq] at hb; have := hI.heap.sx.lt _ hk; omega)
  rw [show upd γ d (.slice (some ⟨w.heap.size, 0, none⟩) len len) d = .slice (some ⟨w.heap.size, 0, none⟩) len len from if_pos rfl]
  refine ⟨css, ⟨by rw [zt (fun x : Cel ei.size => x.2.1)], Or.inr ⟨w.heap.size, len, _, by rw [hcl], Nat.zero_le _, heap_alloc_new w _, by omega, by unfold maxLen; omega, by rw [List.size_toArray, zt (fun x : Cel ei.size => x.2.1), hcl], ?_⟩⟩, i3, fun i a1 a2 => ?_⟩
  · show (css.flatMap Subtype.val).take (css.length * ei.size) = _
    rw [← zt (fun x : Cel ei.size => x.2.1) css, List.take_length]
  · refine ⟨(i5 i a1 a2).1, fun j s u hs hu => ?_⟩
    refine ((i5 i a1 a2).2 j s u hs hu).keep2 hw.size fun b hb hok => ⟨hw.block b hb, ⟨hok.1, fun k bx hk hkd hkb => ?_⟩, ?_⟩
    · rw [qA, if_neg hkd] at hk
      simp only [upd, if_neg hkd] at hkb
      exact hok.2 k bx hk hkb
    · simp only [Value.ownBlock, ne_eq, Option.some.injEq]; omega
 have key := hI.addBox hw hd hn (s := .row d) (v := .slice (some ⟨w.heap.size, 0, none⟩) len len) (fun b hb => by simp only [qK, Option.some.injEq] at hb; omega) hrow (.row (by unfold hp; rw [qA, if_pos rfl]; simp [upd]))
 unfold Oper.wp
 have : (execOp a.eval o).run P w = .ok (.value (.slice (some ⟨w.heap.size, 0, none⟩) len len)) (w.alloc (.cells (css.flatMap Subtype.val).toArray e)) := by
  simp only [execOp, ho, Sem.run_bind, run, Result.andThen_ok]; rfl
 rw [this, Oper.upon_value, hdst]
 exact ⟨_, _, h, key.1, key.2.1, key.2.2⟩
end
def setB (j : Nat) (bx : Box) : List (Nat × Box) → List (Nat × Box)
 | [] => []
 | (k, b) :: r => bif Nat.beq j k then (k, bx) :: r else (k, b) :: setB j bx r
theorem lk_setB (j : Nat) (bx : Box) (i : Nat) : ∀ own : List (Nat × Box), lk i (setB j bx own) = if i = j then (lk j own).map (fun _ => bx) else lk i own
 | [] => by simp [setB, lk]
 | (k, b) :: r => by
   rw [setB]
   by_cases h : j = k
   · subst h
     rw [zx, cond_true, qA, qA, qA]
     by_cases e : i = j
     · simp [e]
     · simp [e]
   · rw [wb h, cond_false, qA, lk_setB j bx i r, qA, qA]
     by_cases e : i = j
     · subst e; simp [h]
     · simp [e]
theorem RelS.ptr_inv {ok : Nat → Prop} {H : Nat → Option Value} {w : World} {i o b : Nat} {u : Value} (h : RelS ok H w (.ptr i o) u) (hg : H i = some (.pointer (some ⟨b, 0, none⟩))) : u = .pointer (some ⟨b, o, none⟩) := by
 cases h with
 | ptr h hb => rw [hg] at h; cases h; simp only [qK, Option.some.injEq] at hb; subst hb; rfl
section
variable {P : Program} {T : TT} (hT : qX P T) {st : St}
include hT
theorem act_store {o : Oper} {t : TypeId} {ad x : Operand} (ho : o.op = .store t ad x) (hdst : o.dst = none) {ti : TyI} (ht : lk t T = some ti) {j off : Nat} (had : evS st ad = some (.ptr j off)) {cs : List SV} (hj : lk j st.own = some (.cells cs))
 {s : SV} (hx : evS st x = some s) {xs : List SV} (hxs : cellsOf s = some xs) (h1 : xs.all oneS = true) (hlen : Nat.beq xs.length ti.size = true) (hfit : Nat.ble (off + xs.length) cs.length = true)
 {Q : St → Prop} (h : Q ⟨st.n, st.fr, setB j (.cells (cs.take off ++ xs ++ cs.drop (off + xs.length))) st.own⟩) : ActOk P [j] o st Q := by
 intro w0 Sx γ a w QQ hI
 have hlen' : xs.length = ti.size := Nat.eq_of_beq_eq_true hlen
 have hfit' : off + xs.length ≤ cs.length := Nat.le_of_ble_eq_true hfit
 cases hI.heap.box j _ hj with
 | @cells _ us ty b hg hB hh hl hr hone =>
 have hadv := (qp hI had).ptr_inv (by rw [qI hj, hg])
 obtain ⟨c1, c2⟩ := qai hI.heap.one (qp hI hx) hxs
 generalize hvs : (a.eval x).cells.toList = vs at c1 c2
 have hvl : vs.length = xs.length := c1
 have hv1 : ∀ v ∈ vs, v.oneCell' = true := fun v hv => by
  obtain ⟨i, hi, rfl⟩ := List.mem_iff_getElem.1 hv
  exact (c2 i (xs[i]'(by omega)) _ (List.getElem?_eq_getElem (by omega)) (List.getElem?_eq_getElem hi)).one hI.heap.one (List.all_eq_true.1 h1 _ (List.getElem_mem _))
 have hst := run_storeCells_at P b off ty vs 0 us.toArray w hh (by simp; omega) hv1
 simp only [Nat.add_zero] at hst
 let us' := us.take off ++ vs ++ us.drop (off + vs.length)
 have run : (execOp a.eval o).run P w = .ok .skip (w.setRow b us'.toArray) := by
  have hsz := (hT t ti ht).size w
  have hcs : (a.eval x).cells.size = ti.size := by rw [← Array.length_toList, hvs, hvl, hlen']
  simp only [execOp, ho, Instr.storeAt, hadv, Instr.sureAddr, storeVar, Sem.run_bind, Sem.run_pure, Result.andThen_ok, hsz, hcs, hvs]
  simp [hst, us']
 have hbl : b < w.heap.size := lt_of_block hh
 have hother : ∀ k, k ≠ b → (w.setRow b us'.toArray).heap[k]? = w.heap[k]? := fun k hk => setRow_other w b k _ hk
 have lk' : ∀ i, lk i (setB j (.cells (cs.take off ++ xs ++ cs.drop (off + xs.length))) st.own) = if i = j then some (.cells (cs.take off ++ xs ++ cs.drop (off + xs.length))) else lk i st.own := fun i => by
  rw [lk_setB, hj]; rfl
 have hsome : ∀ i, (lk i (setB j (.cells (cs.take off ++ xs ++ cs.drop (off + xs.length))) st.own)).isSome = (lk i st.own).isSome := fun i => by
  rw [lk']; split
  · rename_i e; subst e; rw [hj]; rfl
  · rfl
 generalize hown' : setB j (.cells (cs.take off ++ xs ++ cs.drop (off + xs.length))) st.own = own' at *
 have hp' : ∀ i, hp γ own' i = hp γ st.own i := fun i => by
  have := hsome i
  unfold hp
  cases h2 : lk i own' <;> cases h3 : lk i st.own <;> rw [h2, h3] at this <;> first | rfl | cases this
 have okc : ∀ c, okO Sx γ own' c ↔ okO Sx γ st.own c := fun c => by
  refine and_congr Iff.rfl ⟨fun hk i bx hi => ?_, fun hk i bx hi => ?_⟩
  · have := hsome i; rw [hi] at this
    obtain ⟨by_, h3⟩ := Option.isSome_iff_exists.1 this
    exact hk i by_ h3
  · have := hsome i; rw [hi] at this
    obtain ⟨by_, h3⟩ := Option.isSome_iff_exists.1 this.symm
    exact hk i by_ h3
 have okb : ∀ i c, okBut Sx γ own' i c ↔ okBut Sx γ st.own i c := fun i c => by
  refine and_congr Iff.rfl ⟨fun hk k bx hi => ?_, fun hk k bx hi => ?_⟩
  · have := hsome k; rw [hi] at this
    obtain ⟨by_, h3⟩ := Option.isSome_iff_exists.1 this
    exact hk k by_ h3
  · have := hsome k; rw [hi] at this
    obtain ⟨by_, h3⟩ := Option.isSome_iff_exists.1 this.symm
    exact hk k by_ h3
 have hblk : qK (γ j) = some b := by rw [hg]; rfl
 have keepS : ∀ {s : SV} {u : Value}, RelS (okO Sx γ st.own) (hp γ st.own) w s u → RelS (okO Sx γ own') (hp γ own') (w.setRow b us'.toArray) s u := fun h => by
  refine h.keep2 (by simp) (fun c hc hok => ⟨hother c fun e => ?_, (okc c).2 hok⟩) fun i _ => hp' i
  subst e; exact hok.2 j _ hj hblk
 unfold Oper.wp
 rw [run, Oper.upon_skip, hdst]
 refine ⟨γ, _, h, ⟨?_, hI.size, hI.defers, fun t s ht => keepS (hI.fr t s ht), ⟨fun i bx hi => ?_, fun i k bi bk c hi hk hbi hbk => ?_, hI.heap.sx.keep (by simp) fun i bx hi => Or.inr ⟨rfl, by rw [← hsome i, hi]; rfl⟩⟩⟩, ⟨by simp, fun c hc hv => hother c fun e => ?_⟩, fun K _ c hc hv i bx hi hK => ?_⟩
 · refine hI.below.step ⟨rfl, rfl, rfl, by simp, fun k hk => absurd hk (Nat.not_lt_zero _)⟩ fun k hk => hother k fun e => by subst e; exact hB hk
 · rw [lk'] at hi
   by_cases e : i = j
   · subst e
     rw [if_pos rfl] at hi
     cases hi
     refine .cells (us := us') (ty := ty) (b := b) hg hB (setRow_heap w b _ _ ty _ hh) (by simp [us', hvl, hl]) (fun k s u hs hu => ?_) fun u hu => ?_
     · -- a cell of the box
       have : RelS (okO Sx γ st.own) (hp γ st.own) w s u := by
        have ln : (us.take off ++ vs).length = (cs.take off ++ xs).length := by simp [hvl, hl]
        by_cases hk1 : k < (cs.take off ++ xs).length
        · rw [List.getElem?_append_left hk1] at hs
          rw [List.getElem?_append_left (by rw [ln]; exact hk1)] at hu
          have l2 : (us.take off).length = (cs.take off).length := by simp [hl]
          by_cases hk2 : k < (cs.take off).length
          · rw [List.getElem?_append_left hk2] at hs
            rw [List.getElem?_append_left (by rw [l2]; exact hk2)] at hu
            rw [List.getElem?_take] at hs hu
            split at hs
            · rename_i hlt; rw [if_pos hlt] at hu; exact hr k s u hs hu
            · cases hs
          · rw [List.getElem?_append_right (by omega)] at hs
            rw [List.getElem?_append_right (by omega), l2] at hu
            exact c2 _ s u hs hu
        · rw [List.getElem?_append_right (by omega)] at hs
          rw [List.getElem?_append_right (by omega), ln] at hu
          rw [List.getElem?_drop] at hs hu
          rw [hvl] at hu
          exact hr _ s u hs hu
       exact keepS this
     · simp only [us', List.mem_append] at hu
       rcases hu with (hu | hu) | hu
       · exact hone u (List.mem_of_mem_take hu)
       · exact hv1 u hu
       · exact hone u (List.mem_of_mem_drop hu)
   · rw [if_neg e] at hi
     exact (hI.heap.box i bx hi).keep (Box.rel_refl _) rfl (by simp) (fun c hc => ⟨hother c fun ec => by subst ec; exact e (hI.heap.inj i j _ _ c hi hj hc hblk), (hI.heap.blk hi hc).1⟩) (fun c hc hok => ⟨hother c fun ec => by subst ec; exact hok.2 j _ hj hblk, (okc c).2 hok⟩) fun s u s' hs es => by subst es; exact keepS hs
 · have h2 := hsome i; rw [hi] at h2
   have h3 := hsome k; rw [hk] at h3
   obtain ⟨x1, h4⟩ := Option.isSome_iff_exists.1 h2.symm
   obtain ⟨x2, h5⟩ := Option.isSome_iff_exists.1 h3.symm
   exact hI.heap.inj i k _ _ c h4 h5 hbi hbk
 · subst e; exact hv j _ hj (by simp) hblk
 · have h2 := hsome i; rw [hi] at h2
   obtain ⟨x1, h4⟩ := Option.isSome_iff_exists.1 h2.symm
   exact hv i x1 h4 hK
end
def kl (j : Nat) (s : SV) : SV := bif s.noRef j then s else .junk
def klB (j : Nat) (b : Box) : Box := b.mapS (kl j)
def killF (j : Nat) (fr : List (Nat × SV)) : List (Nat × SV) := fr.map fun p => (p.1, kl j p.2)
def killO (j : Nat) (own : List (Nat × Box)) : List (Nat × Box) := (del j own).map fun p => (p.1, klB j p.2)
theorem lk_map {α β : Type} (f : α → β) (t : Nat) : ∀ l : List (Nat × α), lk t (l.map fun p => (p.1, f p.2)) = (lk t l).map f
 | [] => rfl
 | (k, x) :: l => by
   rw [List.map_cons, qA, qA, lk_map f t l]
   split <;> rfl
theorem lk_killF (j t : Nat) (fr : List (Nat × SV)) : lk t (killF j fr) = (lk t fr).map (kl j) := lk_map _ _ _
theorem lk_killO (j i : Nat) (own : List (Nat × Box)) : lk i (killO j own) = if i = j then none else (lk i own).map (klB j) := by
 unfold killO
 rw [lk_map, lk_del]
 split <;> rfl
theorem RelS.kl {ok : Nat → Prop} {H : Nat → Option Value} {w : World} {s : SV} {u : Value} (j : Nat) (h : RelS ok H w s u) : RelS ok H w (kl j s) u := by
 unfold Proofs.YtkkbdgijfkocnaaGreatDoor.kl
 cases s.noRef j with
 | true => exact h
 | false => exact .junk
theorem noRef_kl (j : Nat) (s : SV) : (kl j s).noRef j = true := by
 unfold kl
 cases h : s.noRef j with
 | true => exact h
 | false => rfl
theorem qaI {i j : Nat} {s : SV} (h : (kl j s).noRef i = false) : s.noRef i = false ∧ kl j s = s := by
 unfold kl at *
 cases h2 : s.noRef j with
 | true => rw [h2] at h; exact ⟨h, rfl⟩
 | false => rw [h2] at h; cases h
def srcL (st : St) (esz : Nat) (j : Option Nat) : SV → Option (List (List PV))
 | .p (.sl z l) => bif Nat.beq z esz then some l else none
 | .p (.v (.slice none 0 0)) => some []
 | .row k => match j with
   | some j => bif Nat.beq k j then none else (match lk k st.own with
     | some (.row _ z l) => bif Nat.beq z esz then some l else none
     | _ => none)
   | none => match lk k st.own with
     | some (.row _ z l) => bif Nat.beq z esz then some l else none
     | _ => none
 | _ => none
theorem row_slat {B : Base} {Sx : Nat → Prop} {γ : Nat → Value} {own : List (Nat × Box)} {w : World} (h : HeapOk B Sx γ own w) {k : Nat} {e : TypeId} {z : Nat} {l : List (List PV)} (hk : lk k own = some (.row e z l)) :
 ∃ A c, γ k = .slice A l.length c ∧ l.length ≤ c ∧ (l.length ≤ reachBytes ∧ c ≤ maxLen) ∧ (∀ e ∈ l, e.length = z ∧ ∀ s ∈ e, oneP s = true) ∧ SlAt (fun w cs y => (∀ u ∈ cs, u.oneCell' = true) ∧ rPV (okO Sx γ own) w cs y) z w A l := by
 cases h.box k _ hk with
 | row hr he hm =>
   obtain ⟨A, c, hv, hlc, hcm⟩ := hr.shape
   refine ⟨A, c, hv, hlc, ⟨hm, hcm⟩, he, ?_⟩
   obtain ⟨css, h1, h2, h3⟩ := hr
   have h1' : OwnF Subtype.val z w 0 e (.slice A css.length c) css := by rw [h2, ← hv]; exact h1
   have hs := OwnF.slat (R := fun _ cs (y : Cel z) => cs = y.val) (fun x => x.2.1) h1' (fun x _ => rfl)
   intro hl
   obtain ⟨b, o, hA, hlt, hc⟩ := hs (by omega)
   refine ⟨b, o, hA, hlt, fun i hi => ?_⟩
   obtain ⟨cs, a1, a2, rfl⟩ := hc i (by omega)
   refine ⟨_, a1, a2, (css[i]'(by omega)).2.2, ?_⟩
   refine good_PV.weak _ _ _ _ _ (fun c _ hok => ⟨hok.1.1, fun j bx hj hjc => ?_⟩) (h3 i (by omega) hi)
   by_cases e : j = k
   · subst e
     refine hok.2 ?_
     rw [hv] at hjc ⊢
     rw [← hjc]; cases A <;> rfl
   · exact hok.1.2 j bx hj e hjc
theorem srcL_ok {w0 : Base} {Sx : Nat → Prop} {γ : Nat → Value} {st : St} {a : Act} {w : World} (hI : Sim w0 Sx γ st a w) {esz : Nat} {j : Option Nat} {x : Operand} {s : SV} (hx : evS st x = some s) {l : List (List PV)} (h : srcL st esz j s = some l) :
 ∃ A c, a.eval x = .slice A l.length c ∧ l.length ≤ reachBytes ∧ (∀ e ∈ l, e.length = esz ∧ ∀ s ∈ e, oneP s = true) ∧ SlAt (fun w cs y => (∀ u ∈ cs, u.oneCell' = true) ∧ rPV (okO Sx γ st.own) w cs y) esz w A l := by
 have hv := qp hI hx
 have rowc : ∀ {k : Nat}, s = .row k → (match lk k st.own with
  | some (.row _ z l) => bif Nat.beq z esz then some l else none
  | _ => none) = some l → ∃ A c, a.eval x = .slice A l.length c ∧ l.length ≤ reachBytes ∧ (∀ e ∈ l, e.length = esz ∧ ∀ s ∈ e, oneP s = true) ∧ SlAt (fun w cs y => (∀ u ∈ cs, u.oneCell' = true) ∧ rPV (okO Sx γ st.own) w cs y) esz w A l := by
  intro k hs h0
  clear h
  subst hs
  split at h0
  · rename_i e z l' hk
    cases hz : Nat.beq z esz with
    | false => rw [hz] at h0; cases h0
    | true =>
      rw [hz] at h0
      simp only [cond_true, Option.some.injEq] at h0
      subst h0
      have e1 : z = esz := Nat.eq_of_beq_eq_true hz
      subst e1
      obtain ⟨A, c, g1, g2, g3, g4, g5⟩ := row_slat hI.heap hk
      generalize a.eval x = u at hv ⊢
      cases hv with
      | row hg => rw [qI hk] at hg; cases hg; exact ⟨A, c, g1, g3.1, g4, g5⟩
  · cases h0
 unfold srcL at h
 split at h
 · rename_i z l'
   cases hz : Nat.beq z esz with
   | false => rw [hz] at h; cases h
   | true =>
     rw [hz] at h
     simp only [cond_true, Option.some.injEq] at h
     subst h
     have e1 : z = esz := Nat.eq_of_beq_eq_true hz
     subst e1
     obtain ⟨A, c, g1, g2, g3, g4, g5⟩ := hv.p_inv.slat
     refine ⟨A, c, g1, g3.1, g4, fun hl => ?_⟩
     obtain ⟨b, o, hA, hok, hlt, hc⟩ := g5 hl
     refine ⟨b, o, hA, hlt, fun i hi => ?_⟩
     obtain ⟨cs, a1, a2, a3⟩ := hc i hi
     refine ⟨cs, a1, a2, fun u hu => ?_, a3⟩
     obtain ⟨m, hm, rfl⟩ := List.mem_iff_getElem.1 hu
     have hm' : m < l'[i].length := by rw [← a3.1]; exact hm
     rw [(a3.2 m l'[i][m] cs[m] (List.getElem?_eq_getElem hm') (List.getElem?_eq_getElem hm)).one]
     exact (g4 _ (List.getElem_mem hi)).2 _ (List.getElem_mem hm')
 · simp only [Option.some.injEq] at h
   subst h
   rw [hv.v_inv]
   exact ⟨none, 0, rfl, Nat.zero_le _, by simp, fun h => absurd h (by simp)⟩
 · rename_i k
   cases j with
   | none => exact rowc rfl h
   | some j =>
     have h' : (bif Nat.beq k j then none else (match lk k st.own with
      | some (.row _ z l) => bif Nat.beq z esz then some l else none
      | _ => none)) = some l := h
     cases hz : Nat.beq k j with
     | true => rw [hz] at h'; cases h'
     | false => rw [hz] at h'; exact rowc rfl h'
 · cases h
section
variable {P : Program} {T : TT} (hT : qX P T) {st : St}
include hT
theorem act_append_nil {o : Oper} {sx xx : Operand} {t e : TypeId} {cl : Call} (ho : o.op = .call cl) (hcl : cl.callee = .builtin .append) (hargs : cl.args.toList = [sx, xx]) (hts : cl.argTypes.toList = [t, t]) {d : Nat} (hdst : o.dst = some d)
 {ti ei : TyI} (ht : lk t T = some ti) (hte : ti.d = .sl e) (he : lk e T = some ei) (hsz : Nat.blt 0 ei.size = true) (hz : Nat.beq ei.zero.length ei.size = true) (hs : evS st sx = some (.p (.v (.slice none 0 0))))
 {s2 : SV} (hx : evS st xx = some s2) {l2 : List (List PV)} (hl2 : srcL st ei.size none s2 = some l2) (hd : lk d st.own = none) (hn : Nat.blt d st.n = true) (hc : l2.length * ei.bytes ≤ 140737488355328)
 {Q : St → Prop} (h : Q ⟨st.n, (d, .row d) :: st.fr, (d, .row e ei.size l2) :: st.own⟩) : ActOk P [] o st Q := by
 intro w0 Sx γ a w QQ hI
 obtain ⟨info, zv, hinf, hsize, hby, hzv, hzc⟩ := (hT e ei he).info
 have hu := (hT t ti ht).und
 rw [hte] at hu
 simp only [je] at hu
 have hpos : 0 < ei.size := by simpa [Nat.blt, Nat.lt_iff_add_one_le] using hsz
 have hsv := (qp hI hs).v_inv
 obtain ⟨A, c, g1, g2, g3, g4⟩ := srcL_ok hI hx hl2
 have hown : RowO rPV ei.size (okO Sx γ st.own) w 0 e (.slice none 0 0) ([] : List (List PV)) := rowO_nil
 obtain ⟨v', w', hrun, k1, k2, k3⟩ := run_append_row (P := P) good_PV t o.type 0 e info zv ei.bytes hu hinf hzv hsize hby (by rw [← Array.length_toList, hzc]; exact Nat.eq_of_beq_eq_true hz) hpos
  (.slice none 0 0) [] hown A c l2 (fun hl => by
   obtain ⟨b, o', hA, hlt, hx⟩ := g4 hl
   refine ⟨b, o', hA, hlt, fun i hi => ?_⟩
   obtain ⟨cs, a1, a2, a3, a4⟩ := hx i hi
   exact ⟨cs, a1, a2, a3, good_PV.weak _ _ _ _ _ (fun b _ hok => ⟨hok, by simp [Value.ownBlock]⟩) a4⟩)
  (by simp only [List.length_nil, Nat.zero_add]; unfold maxLen; unfold reachBytes at g2; omega) (by simpa using hc) (Nat.zero_le _)
  ⟨fun hs => by have := hI.heap.sx.lt _ (hI.heap.sx.sub _ hs); omega, fun i bx hi hb => by have := (hI.heap.blk hi hb).2; omega⟩
 have hw : Below w.heap.size w w' := ⟨k2.os, k2.tape, k2.output, k2.size, fun b hb => k2.block b hb (by simp [Value.ownBlock])⟩
 rw [List.nil_append] at k1
 have hblk : ∀ b, qK v' = some b → w.heap.size ≤ b := fun b hb => by
  obtain ⟨A', c', hv', _⟩ := k1.shape
  rw [hv'] at hb k3
  rw [qam] at hb
  rcases k3 with k | k
  · rw [hb] at k; cases k
  · rw [hb] at k; cases k; exact Nat.le_refl _
 have hrow : BoxOk w0 Sx (upd γ d v') ((d, .row e ei.size l2) :: st.own) w' d (.row e ei.size l2) := by
  refine .row ?_ g3 g2 (fun b hb hk => by rw [show upd γ d v' d = v' from if_pos rfl] at hb; have := hblk b hb; have := hI.heap.sx.lt _ hk; omega)
  rw [show upd γ d v' d = v' from if_pos rfl]
  refine k1.keep2 good_PV (Nat.le_refl _) (fun _ _ => rfl) fun b _ hok _ => ⟨rfl, hok.1, fun k bx hk hkd hkb => ?_⟩
  rw [qA, if_neg hkd] at hk
  simp only [upd, if_neg hkd] at hkb
  exact hok.2 k bx hk hkb
 have key := hI.addBox hw hd hn (s := .row d) (v := v') hblk hrow (.row (by unfold hp; rw [qA, if_pos rfl]; simp [upd]))
 have hargs' : cl.args = #[sx, xx] := by rw [← Array.toArray_toList (xs := cl.args), hargs]
 have hts' : cl.argTypes = #[t, t] := by rw [← Array.toArray_toList (xs := cl.argTypes), hts]
 unfold Oper.wp
 have : (execOp a.eval o).run P w = .ok (.value v') w' := by
  simp only [execOp, ho, resolve, hcl, hargs', hts', Sem.run_bind, Sem.run_pure, Result.andThen_ok, invoke, builtin, List.map_toArray, List.map_cons, List.map_nil, hsv, g1, hrun]
 rw [this, Oper.upon_value, hdst]
 exact ⟨_, _, h, key.1, key.2.1, key.2.2⟩
theorem qg {o : Oper} {sx xx : Operand} {t e : TypeId} {cl : Call} (ho : o.op = .call cl) (hcl : cl.callee = .builtin .append) (hargs : cl.args.toList = [sx, xx]) (hts : cl.argTypes.toList = [t, t]) {d : Nat} (hdst : o.dst = some d)
 {ti ei : TyI} (ht : lk t T = some ti) (hte : ti.d = .sl e) (he : lk e T = some ei) (hsz : Nat.blt 0 ei.size = true) (hz : Nat.beq ei.zero.length ei.size = true) {j : Nat} (hs : evS st sx = some (.row j)) {l : List (List PV)} (hj : lk j st.own = some (.row e ei.size l))
 {s2 : SV} (hx : evS st xx = some s2) {l2 : List (List PV)} (hl2 : srcL st ei.size (some j) s2 = some l2) (hd : lk d (killO j st.own) = none) (hn : Nat.blt d st.n = true) (hr : l.length + l2.length ≤ reachBytes) (hc : (l.length + l2.length) * ei.bytes ≤ 140737488355328)
 {Q : St → Prop} (h : Q ⟨st.n, (d, .row d) :: killF j st.fr, (d, .row e ei.size (l ++ l2)) :: killO j st.own⟩) : ActOk P [j] o st Q := by
 intro w0 Sx γ a w QQ hI
 obtain ⟨info, zv, hinf, hsize, hby, hzv, hzc⟩ := (hT e ei he).info
 have hu := (hT t ti ht).und
 rw [hte] at hu
 simp only [je] at hu
 have hpos : 0 < ei.size := by simpa [Nat.blt, Nat.lt_iff_add_one_le] using hsz
 have hlt : d < st.n := by simpa [Nat.blt, Nat.lt_iff_add_one_le] using hn
 have hsv : a.eval sx = γ j := by
  have := qp hI hs
  generalize a.eval sx = u at this ⊢
  cases this with
  | row hg => rw [qI hj] at hg; cases hg; rfl
 obtain ⟨A, c, g1, g2, g3, g4⟩ := srcL_ok hI hx hl2
 cases hI.heap.box j _ hj with
 | row hrow hel hml hkj =>
 have okR_of : ∀ b, okO Sx γ st.own b → okR (okBut Sx γ st.own j) (γ j) b := fun b hok => ⟨⟨hok.1, fun k bx hk _ hb => hok.2 k bx hk hb⟩, fun hb => by
  obtain ⟨A', c', hv', _⟩ := hrow.shape
  refine hok.2 j _ hj ?_
  rw [hv'] at hb ⊢
  rw [qam]; exact hb.symm⟩
 obtain ⟨v', w', hrun, k1, k2, k3⟩ := run_append_row (P := P) good_PV t o.type 0 e info zv ei.bytes hu hinf hzv hsize hby (by rw [← Array.length_toList, hzc]; exact Nat.eq_of_beq_eq_true hz) hpos
  (γ j) l hrow A c l2 (fun hl => by
   obtain ⟨b, o', hA, hlt, hx⟩ := g4 hl
   refine ⟨b, o', hA, hlt, fun i hi => ?_⟩
   obtain ⟨cs, a1, a2, a3, a4⟩ := hx i hi
   exact ⟨cs, a1, a2, a3, good_PV.weak _ _ _ _ _ (fun b _ hok => okR_of b hok) a4⟩)
  (by unfold maxLen; unfold reachBytes at hr; omega) hc (Nat.zero_le _)
  ⟨fun hs => by have := hI.heap.sx.lt _ (hI.heap.sx.sub _ hs); omega, fun i bx hi _ hb => by have := (hI.heap.blk hi hb).2; omega⟩
 have hoj : (γ j).ownBlock = qK (γ j) := by obtain ⟨A', c', hv', _⟩ := hrow.shape; rw [hv', qam]
 have hov : v'.ownBlock = qK v' := by obtain ⟨A', c', hv', _⟩ := k1.shape; rw [hv', qam]
 have hvb : ∀ b, qK v' = some b → qK (γ j) = some b ∨ b = w.heap.size := fun b hb => by
  rw [← hov] at hb
  rcases k3 with k | k
  · rw [hb, hoj] at k; exact Or.inl k.symm
  · rw [hb] at k; cases k; exact Or.inr rfl
 generalize hown' : ((d, Box.row e ei.size (l ++ l2)) :: killO j st.own) = own' at *
 have lk' : ∀ i, lk i own' = if i = d then some (.row e ei.size (l ++ l2)) else if i = j then none else (lk i st.own).map (klB j) := fun i => by
  rw [← hown', qA, lk_killO]
 have old : ∀ {i bx}, lk i own' = some bx → i ≠ d → i ≠ j ∧ ∃ by_, lk i st.own = some by_ ∧ bx = klB j by_ := fun {i bx} hi hid => by
  rw [lk', if_neg hid] at hi
  by_cases e : i = j
  · rw [if_pos e] at hi; cases hi
  · rw [if_neg e] at hi
    cases h2 : lk i st.own with
    | none => rw [h2] at hi; cases hi
    | some by_ => rw [h2] at hi; cases hi; exact ⟨e, by_, rfl, rfl⟩
 have hud : upd γ d v' d = v' := if_pos rfl
 have huo : ∀ i, i ≠ d → upd γ d v' i = γ i := fun i hi => if_neg hi
 have same : ∀ b, b < w.heap.size → qK (γ j) ≠ some b → w'.heap[b]? = w.heap[b]? := fun b hb hne => k2.block b hb (by rw [hoj]; exact fun e => hne e.symm)
 have okn : ∀ b, b < w.heap.size → okO Sx γ st.own b → okO Sx (upd γ d v') own' b := fun b hb hok => ⟨hok.1, fun i bx hi hib => by
  by_cases e : i = d
  · subst e
    rw [hud] at hib
    rcases hvb b hib with h | h
    · exact hok.2 j _ hj h
    · omega
  · obtain ⟨_, by_, h2, _⟩ := old hi e
    rw [huo i e] at hib
    exact hok.2 i by_ h2 hib⟩
 have keepS : ∀ {s : SV} {u : Value}, RelS (okO Sx γ st.own) (hp γ st.own) w s u → RelS (okO Sx (upd γ d v') own') (hp (upd γ d v') own') w' (kl j s) u := fun {s u} h => by
  have h1 := h.kl j
  refine h1.keep2 k2.size (fun b hb hok => ⟨same b hb fun e => hok.2 j _ hj e, okn b hb hok⟩) fun i hi => ?_
  have hij : i ≠ j := fun e => by subst e; rw [noRef_kl] at hi; cases hi
  have hs := qaI hi
  have hlive : (lk i st.own).isSome = true := by
   cases h2 : lk i st.own with
   | some _ => rfl
   | none => rw [h.live (jv h2)] at hs; cases hs.1
  obtain ⟨by_, h2⟩ := Option.isSome_iff_exists.1 hlive
  have hid : i ≠ d := fun e => by
   subst e
   rw [lk_killO, if_neg hij, h2] at hd; cases hd
  rw [qI h2, qI (bx := klB j by_) (by rw [lk', if_neg hid, if_neg hij, h2]; rfl), huo i hid]
 have hbel : BelowB w0 w' := hI.below.step ⟨k2.os, k2.tape, k2.output, k2.size, fun b hb => absurd hb (Nat.not_lt_zero _)⟩ fun b hb => same b (hI.heap.sx.lt b hb) fun e => hkj b e hb
 have hdl : d < 1000000 := by have := hI.size.2; omega
 have hst : Stays w0 Sx (upd γ d v') own' w' := hI.heap.sx.keep k2.size fun i bx hi => by
  by_cases e : i = d
  · exact Or.inl (by omega)
  · obtain ⟨_, by_, h2, _⟩ := old hi e
    exact Or.inr ⟨huo i e, by rw [h2]; rfl⟩
 have hheap : HeapOk w0 Sx (upd γ d v') own' w' := by
  refine ⟨fun i bx hi => ?_, fun i k bi bk b hi hk hbi hbk => ?_, hst⟩
  · by_cases e : i = d
    · subst e
      rw [lk', if_pos rfl] at hi
      cases hi
      refine .row ?_ (fun x hx => ?_) (by rw [List.length_append]; exact hr) (fun b hb hk => by rw [hud] at hb; rcases hvb b hb with h | h; exact hkj b h hk; have := hI.heap.sx.lt _ hk; omega)
      · rw [hud]
        refine k1.keep2 good_PV (Nat.le_refl _) (fun _ _ => rfl) fun b _ hok _ => ⟨rfl, hok.1, fun k bx hk hkd hkb => ?_⟩
        obtain ⟨hkj, by_, h2, _⟩ := old hk hkd
        rw [huo k hkd] at hkb
        exact hok.2 k by_ h2 hkj hkb
      · rcases List.mem_append.1 hx with hx | hx
        · exact hel x hx
        · exact g3 x hx
    · obtain ⟨hij, by_, h2, rfl⟩ := old hi e
      exact (hI.heap.box i by_ h2).keep (Box.rel_map (kl j) (fun _ => rfl) by_) (huo i e) k2.size (fun b hb => ⟨same b (hI.heap.blk h2 hb).2 fun ej => hij (hI.heap.inj i j _ _ b h2 hj hb ej), (hI.heap.blk h2 hb).1⟩) (fun b hb hok => ⟨same b hb fun ej => hok.2 j _ hj ej, okn b hb hok⟩) fun s u s' hs es => by subst es; exact keepS hs
  · have blt : ∀ {m bm}, lk m own' = some bm → m ≠ d → qK (upd γ d v' m) = some b → m ≠ j ∧ b < w.heap.size ∧ ∃ b0, lk m st.own = some b0 ∧ qK (γ m) = some b := fun {m bm} hm hmd hmb => by
     obtain ⟨h1, by_, h2, _⟩ := old hm hmd
     rw [huo m hmd] at hmb
     exact ⟨h1, (hI.heap.blk h2 hmb).2, by_, h2, hmb⟩
    by_cases e : i = d
    · by_cases e2 : k = d
      · rw [e, e2]
      · exfalso
        obtain ⟨q1, q2, b0, q3, q4⟩ := blt hk e2 hbk
        subst e
        rw [hud] at hbi
        rcases hvb b hbi with h | h
        · exact q1 (hI.heap.inj k j _ _ b q3 hj q4 h)
        · omega
    · obtain ⟨p1, p2, c0, p3, p4⟩ := blt hi e hbi
      by_cases e2 : k = d
      · exfalso
        subst e2
        rw [hud] at hbk
        rcases hvb b hbk with h | h
        · exact p1 (hI.heap.inj i j _ _ b p3 hj p4 h)
        · omega
      · obtain ⟨q1, q2, b0, q3, q4⟩ := blt hk e2 hbk
        exact hI.heap.inj i k _ _ b p3 q3 p4 q4
 have hS : Sim w0 Sx (upd γ d v') ⟨st.n, killF j st.fr, own'⟩ a w' := ⟨hbel, hI.size, hI.defers, fun t s ht => by
  have ht' : (lk t st.fr).map (kl j) = some s := by rw [← lk_killF]; exact ht
  cases h2 : lk t st.fr with
  | none => rw [h2] at ht'; cases ht'
  | some s0 => rw [h2] at ht'; cases ht'; exact keepS (hI.fr t s0 h2), hheap⟩
 have hS2 := hS.put (dst := some d) (s := .row d) (v := v') (by simpa [zl, Nat.blt, Nat.lt_iff_add_one_le] using hlt) (.row (by rw [qI (bx := .row e ei.size (l ++ l2)) (by rw [lk', if_pos rfl]), hud]))
 have hargs' : cl.args = #[sx, xx] := by rw [← Array.toArray_toList (xs := cl.args), hargs]
 have hts' : cl.argTypes = #[t, t] := by rw [← Array.toArray_toList (xs := cl.argTypes), hts]
 unfold Oper.wp
 have : (execOp a.eval o).run P w = .ok (.value v') w' := by
  simp only [execOp, ho, resolve, hcl, hargs', hts', Sem.run_bind, Sem.run_pure, Result.andThen_ok, invoke, builtin, List.map_toArray, List.map_cons, List.map_nil, hsv, g1, hrun]
 rw [this, Oper.upon_value, hdst]
 refine ⟨_, _, h, hS2, ⟨k2.size, fun b hb hv => same b hb fun ej => hv j _ hj (by simp) ej⟩, fun K hK b hb hv i bx hi hiK hib => ?_⟩
 by_cases e : i = d
 · subst e
   rw [hud] at hib
   rcases hvb b hib with h | h
   · exact hv j _ hj (by have := hK j (by simp); simpa using this) h
   · omega
 · obtain ⟨_, by_, h2, _⟩ := old hi e
   rw [huo i e] at hib
   exact hv i by_ h2 hiK hib
end
end Go.Proofs.YtkkbdgijfkocnaaGreatDoor
