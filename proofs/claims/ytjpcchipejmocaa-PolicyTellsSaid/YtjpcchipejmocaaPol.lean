/-
  Policies as typed things: how they read in memory, how great they are. No program here.
-/
import Derived.Test.YtjpcchipejmocaaCnt
namespace Go.Proofs.Ytjpcchipejmocaa
set_option linter.unusedVariables false
set_option linter.unusedSimpArgs false
open Go.RowKit

structure Nod where
  op : Int
  val : Val
  attr : Atr
structure Obli where
  on : Int
  kind : Int
  arg : ByteArray
abbrev Tar := List (List (List Mat))
structure Rul where
  id : ByteArray
  deny : Bool
  target : Tar
  cond : List Nod
  obls : List Obli
inductive Pol where
  | mk (id : ByteArray) (set : Bool) (alg : Int) (target : Tar) (rules : List Rul) (kids : List Pol) (obls : List Obli)
def Pol.id : Pol → ByteArray | .mk x _ _ _ _ _ _ => x
def Pol.set : Pol → Bool | .mk _ x _ _ _ _ _ => x
def Pol.alg : Pol → Int | .mk _ _ x _ _ _ _ => x
def Pol.target : Pol → Tar | .mk _ _ _ x _ _ _ => x
def Pol.rules : Pol → List Rul | .mk _ _ _ _ x _ _ => x
def Pol.kids : Pol → List Pol | .mk _ _ _ _ _ x _ => x
def Pol.obls : Pol → List Obli | .mk _ _ _ _ _ _ x => x

structure Nod.Fit (x : Nod) : Prop where
  op : R64 x.op
  val : x.val.Fit
  attr : x.attr.Fit
structure Obli.Fit (x : Obli) : Prop where
  on : R64 x.on
  kind : R64 x.kind
  arg : x.arg.size ≤ reachBytes
def rNod : Rp Nod := fun _ cs x => cs = [.int .i64 x.op, .int .i64 x.val.kind, .int .i64 x.val.n, .string x.val.s, .int .i64 x.attr.cat, .string x.attr.name, .bool x.attr.must] ∧ x.Fit
def rObl : Rp Obli := fun _ cs x => cs = [.int .i64 x.on, .int .i64 x.kind, .string x.arg] ∧ x.Fit
theorem keeps_nod : Keeps rNod := fun _ _ _ _ _ h => h
theorem keeps_obl : Keeps rObl := fun _ _ _ _ _ h => h
/-- a slice in one cell -/
def SlV {α : Type} (R : Rp α) (size : Nat) (w : World) (v : Value) (l : List α) : Prop := ∃ A c, v = .slice A l.length c ∧ l.length ≤ c ∧ (l.length ≤ reachBytes ∧ c ≤ maxLen) ∧ SlAt R size w A l
theorem SlV.keep {α : Type} {R : Rp α} (hR : Keeps R) {size : Nat} {w w' : World} {v : Value} {l : List α} (hb : Below w.heap.size w w') (h : SlV R size w v l) : SlV R size w' v l := by
  obtain ⟨A, c, h1, h2, h3, h4⟩ := h
  exact ⟨A, c, h1, h2, h3, h4.keep hR hb⟩
theorem SlV.of {α : Type} {R : Rp α} {size : Nat} {w : World} {v : Value} {l : List α} (h : rSl R size w [v] l) : SlV R size w v l := by
  obtain ⟨A, c, h1, h2⟩ := h
  simp only [List.cons.injEq, and_true] at h1
  exact ⟨A, c, h1, h2⟩
theorem SlV.nil {α : Type} (R : Rp α) (size : Nat) (w : World) : SlV R size w (.slice none 0 0) [] := ⟨none, 0, rfl, Nat.le_refl _, ⟨Nat.zero_le _, Nat.zero_le _⟩, SlAt.nil⟩
def rRul : Rp Rul := fun w cs x => ∃ c2 c3 c4, cs = [.string x.id, .bool x.deny, c2, c3, c4] ∧ x.id.size ≤ reachBytes ∧ SlV rTar' 1 w c2 x.target ∧ SlV rNod 7 w c3 x.cond ∧ SlV rObl 3 w c4 x.obls
theorem keeps_rul : Keeps rRul := fun _ _ _ _ hb ⟨c2, c3, c4, h1, h2, h3, h4, h5⟩ => ⟨c2, c3, c4, h1, h2, h3.keep keeps_tar' hb, h4.keep keeps_nod hb, h5.keep keeps_obl hb⟩
def rPolN : Nat → Rp Pol
  | 0 => fun _ _ _ => False
  | n + 1 => fun w cs p => ∃ c3 c4 c5 c6, cs = [.string p.id, .bool p.set, .int .i64 p.alg, c3, c4, c5, c6] ∧ p.id.size ≤ reachBytes ∧ R64 p.alg ∧ SlV rTar' 1 w c3 p.target ∧ SlV rRul 5 w c4 p.rules ∧ SlV (rPolN n) 7 w c5 p.kids ∧ SlV rObl 3 w c6 p.obls
theorem keeps_polN : ∀ n, Keeps (rPolN n)
  | 0 => fun _ _ _ _ _ h => h
  | n + 1 => fun _ _ _ _ hb ⟨c3, c4, c5, c6, h1, h2, h3, h4, h5, h6, h7⟩ => ⟨c3, c4, c5, c6, h1, h2, h3, h4.keep keeps_tar' hb, h5.keep keeps_rul hb, h6.keep (keeps_polN n) hb, h7.keep keeps_obl hb⟩

section
variable {w0 w : World} {A : Option Addr}
theorem SlAt.nod {l : List Nod} (h : SlAt rNod 7 w A l) {k : Nat} (hk : k < l.length) :
    ∃ b o, A = some ⟨b, o, none⟩ ∧ b < w.heap.size ∧ w.cell? ⟨b, o + k * 7, none⟩ = some (.int .i64 l[k].op) ∧
      (w.cell? ⟨b, o + k * 7 + 1, none⟩ = some (.int .i64 l[k].val.kind) ∧ w.cell? ⟨b, o + k * 7 + 2, none⟩ = some (.int .i64 l[k].val.n) ∧ w.cell? ⟨b, o + k * 7 + 3, none⟩ = some (.string l[k].val.s)) ∧
      (w.cell? ⟨b, o + k * 7 + 4, none⟩ = some (.int .i64 l[k].attr.cat) ∧ w.cell? ⟨b, o + k * 7 + 5, none⟩ = some (.string l[k].attr.name) ∧ w.cell? ⟨b, o + k * 7 + 6, none⟩ = some (.bool l[k].attr.must)) ∧ l[k].Fit := by
  obtain ⟨b, o, cs, hA, hlt, _, hc, rfl, hf⟩ := h.at_ hk
  exact ⟨b, o, hA, hlt, hc 0 _ rfl, ⟨hc 1 _ rfl, hc 2 _ rfl, hc 3 _ rfl⟩, ⟨hc 4 _ rfl, hc 5 _ rfl, hc 6 _ rfl⟩, hf⟩
theorem SlAt.obl {l : List Obli} (h : SlAt rObl 3 w A l) {k : Nat} (hk : k < l.length) :
    ∃ b o, A = some ⟨b, o, none⟩ ∧ b < w.heap.size ∧ w.cell? ⟨b, o + k * 3, none⟩ = some (.int .i64 l[k].on) ∧ w.cell? ⟨b, o + k * 3 + 1, none⟩ = some (.int .i64 l[k].kind) ∧ w.cell? ⟨b, o + k * 3 + 2, none⟩ = some (.string l[k].arg) ∧ l[k].Fit := by
  obtain ⟨b, o, cs, hA, hlt, _, hc, rfl, hf⟩ := h.at_ hk
  exact ⟨b, o, hA, hlt, hc 0 _ rfl, hc 1 _ rfl, hc 2 _ rfl, hf⟩
/-- an element of five cells, its slices read where the row was -/
theorem SlAt.rul0 {l : List Rul} (h : SlAt rRul 5 w0 A l) (hB : Below w0.heap.size w0 w) {k : Nat} (hk : k < l.length) :
    ∃ b o c2 c3 c4, A = some ⟨b, o, none⟩ ∧ b < w0.heap.size ∧ w.cell? ⟨b, o + k * 5, none⟩ = some (.string l[k].id) ∧ w.cell? ⟨b, o + k * 5 + 1, none⟩ = some (.bool l[k].deny) ∧ w.cell? ⟨b, o + k * 5 + 2, none⟩ = some c2 ∧ w.cell? ⟨b, o + k * 5 + 3, none⟩ = some c3 ∧ w.cell? ⟨b, o + k * 5 + 4, none⟩ = some c4 ∧
      l[k].id.size ≤ reachBytes ∧ SlV rTar' 1 w0 c2 l[k].target ∧ SlV rNod 7 w0 c3 l[k].cond ∧ SlV rObl 3 w0 c4 l[k].obls := by
  obtain ⟨b, o, cs, hA, hlt, _, hc, c2, c3, c4, rfl, h1, h2, h3, h4⟩ := h.at_ hk
  have cell : ∀ j, w.cell? ⟨b, j, none⟩ = w0.cell? ⟨b, j, none⟩ := fun j => hB.cell (p := ⟨b, j, none⟩) hlt
  exact ⟨b, o, c2, c3, c4, hA, hlt, (cell _).trans (hc 0 _ rfl), (cell _).trans (hc 1 _ rfl), (cell _).trans (hc 2 _ rfl), (cell _).trans (hc 3 _ rfl), (cell _).trans (hc 4 _ rfl), h1, h2, h3, h4⟩
theorem SlAt.pol0 {n : Nat} {l : List Pol} (h : SlAt (rPolN n) 7 w0 A l) (hB : Below w0.heap.size w0 w) {k : Nat} (hk : k < l.length) :
    ∃ b o c3 c4 c5 c6, A = some ⟨b, o, none⟩ ∧ b < w0.heap.size ∧ w.cell? ⟨b, o + k * 7, none⟩ = some (.string l[k].id) ∧ w.cell? ⟨b, o + k * 7 + 1, none⟩ = some (.bool l[k].set) ∧ w.cell? ⟨b, o + k * 7 + 2, none⟩ = some (.int .i64 l[k].alg) ∧
      w.cell? ⟨b, o + k * 7 + 3, none⟩ = some c3 ∧ w.cell? ⟨b, o + k * 7 + 4, none⟩ = some c4 ∧ w.cell? ⟨b, o + k * 7 + 5, none⟩ = some c5 ∧ w.cell? ⟨b, o + k * 7 + 6, none⟩ = some c6 ∧
      rPolN n w0 [.string l[k].id, .bool l[k].set, .int .i64 l[k].alg, c3, c4, c5, c6] l[k] := by
  obtain ⟨b, o, cs, hA, hlt, _, hc, hr⟩ := h.at_ hk
  match n, hr with
  | n + 1, hr =>
    obtain ⟨c3, c4, c5, c6, rfl, h1, h2⟩ := hr
    have cell : ∀ j, w.cell? ⟨b, j, none⟩ = w0.cell? ⟨b, j, none⟩ := fun j => hB.cell (p := ⟨b, j, none⟩) hlt
    exact ⟨b, o, c3, c4, c5, c6, hA, hlt, (cell _).trans (hc 0 _ rfl), (cell _).trans (hc 1 _ rfl), (cell _).trans (hc 2 _ rfl), (cell _).trans (hc 3 _ rfl), (cell _).trans (hc 4 _ rfl), (cell _).trans (hc 5 _ rfl), (cell _).trans (hc 6 _ rfl), c3, c4, c5, c6, rfl, h1, h2⟩
end

theorem rPolN_form {n : Nat} {w : World} {s x a c3 c4 c5 c6 : Value} {p : Pol} (h : rPolN n w [s, x, a, c3, c4, c5, c6] p) :
    ∃ A3 d3 A4 d4 A5 d5 A6 d6, c3 = .slice A3 p.target.length d3 ∧ c4 = .slice A4 p.rules.length d4 ∧ c5 = .slice A5 p.kids.length d5 ∧ c6 = .slice A6 p.obls.length d6 := by
  match n, h with
  | n + 1, ⟨_, _, _, _, he, _, _, ⟨A3, d3, h3, _⟩, ⟨A4, d4, h4, _⟩, ⟨A5, d5, h5, _⟩, ⟨A6, d6, h6, _⟩⟩ =>
    simp only [List.cons.injEq, and_true] at he
    obtain ⟨_, _, _, rfl, rfl, rfl, rfl⟩ := he
    exact ⟨A3, d3, A4, d4, A5, d5, A6, d6, h3, h4, h5, h6⟩
/-! ### How great -/
def osz (l : List Obli) : Nat := l.length + sumBy (fun o => txt o.arg) l
def nsz (n : Nod) : Nat := txt n.attr.name + txt n.val.s
def rusz (r : Rul) : Nat := txt r.id + tsz r.target + r.cond.length + osz r.obls + sumBy nsz r.cond
mutual
def Pol.sz : Pol → Nat
  | .mk id _ _ t rs ks os => 1 + rs.length + txt id + tsz t + osz os + sumBy rusz rs + Pol.szs ks
def Pol.szs : List Pol → Nat
  | [] => 0
  | k :: ks => k.sz + Pol.szs ks
end
theorem Pol.szs_eq : ∀ l : List Pol, Pol.szs l = sumBy Pol.sz l
  | [] => rfl
  | k :: ks => by simp [Pol.szs, sumBy, Pol.szs_eq ks]
theorem Pol.sz_eq (p : Pol) : p.sz = 1 + p.rules.length + txt p.id + tsz p.target + osz p.obls + sumBy rusz p.rules + sumBy Pol.sz p.kids := by
  cases p with
  | mk id a b t rs ks os => rw [← Pol.szs_eq]; rfl
end Go.Proofs.Ytjpcchipejmocaa
