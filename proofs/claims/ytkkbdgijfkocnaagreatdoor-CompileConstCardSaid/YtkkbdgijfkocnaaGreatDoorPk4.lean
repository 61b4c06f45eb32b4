/-
  What the statement leans on, part 4: Key, KeyH, KeyP, WeaveP, FrzB, WeaveH, WeaveQ, Look, Build3, Shrink, SizeD, WayH, Nilc, Woven, WeaveR, Least, ConvV, Conv, ValueN, ValH, PolH, AskS, HasS, ExS, ExT, EvS, PolM, PolP, EvP, PolE, PolW, Data0, Data, Data2, Data3, Data4, PolF, SzS, VarP, AskG, LessH, Value, Fun, Fun2, Fun3, ExF, TgtH, Cnt, Small, FewH, GivO, HasH, ExH, ExN, ExV, EvQ, EvR.
-/
import Derived.WalkLawsBesides
import Derived.WalkSpells
import Derived.Deep.Cut
import Derived.Deep.Light
import Derived.Lib.ItoaLen
import Derived.Test.YtkkbdgijfkocnaaGreatDoorRows
import Derived.OneCell
import Derived.Test.YtkkbdgijfkocnaaGreatDoorPk1
import Derived.Test.YtkkbdgijfkocnaaGreatDoorPk2
import Derived.Test.YtkkbdgijfkocnaaGreatDoorPk3
namespace Go.Proofs.YtkkbdgijfkocnaaGreatDoor
open Go.RowKit
set_option linter.unusedSimpArgs false
set_option linter.unusedVariables false
attribute [local go_sem] wM js
attribute [local go_sem low] jp zo
def keyL (l : List Int) : List UInt8 := l.flatMap fun i => Lib.itoa i ++ [32]
theorem keyL_succ {l : List Int} {k : Nat} (hk : k < l.length) : keyL (l.take (k + 1)) = keyL (l.take k) ++ (Lib.itoa l[k] ++ [32]) := by
 unfold keyL
 rw [List.take_succ_eq_append_getElem hk, List.flatMap_append]; simp
def rI : Rp Int := fun _ cs x => cs = [.int .i64 x] ∧ R64 x
theorem keeps_I : Keeps rI := fun _ _ _ _ _ h => h
theorem SlAt.i {w : World} {A : Option Addr} {l : List Int} (h : SlAt rI 1 w A l) {k : Nat} (hk : k < l.length) : ∃ b o, A = some ⟨b, o, none⟩ ∧ b < w.heap.size ∧ w.cell? ⟨b, o + k * 1, none⟩ = some (.int .i64 l[k]) ∧ R64 l[k] := by
 obtain ⟨b, o, cs, hA, hlt, _, hc, rfl, hf⟩ := h.at_ hk
 exact ⟨b, o, hA, hlt, hc 0 _ rfl, hf⟩
theorem keyL_len : ∀ {l : List Int}, (∀ x ∈ l, R64 x) → (keyL l).length ≤ 22 * l.length
 | [], _ => Nat.zero_le _
 | x :: l, h => by
   have h1 := keyL_len (l := l) fun y hy => h y (by simp [hy])
   have h2 := Lib.itoa_length_le x (h x (by simp)).1 (h x (by simp)).2
   unfold keyL at h1 ⊢
   simp only [List.flatMap_cons, List.length_append, List.length_cons, List.length_nil] at h1 ⊢
   omega
set_option maxRecDepth 100000 in
set_option maxHeartbeats 2000000 in
theorem key_any (l : List Int) (A : Option Addr) (c : Nat) (w : World) (hn : l.length ≤ 100000) (h : SlAt rI 1 w A l) (hr : ∀ x ∈ l, R64 x) (htab : Lib.TabBelow Tryz.prog w.heap.size w "internal/strconv.uint64pow10" .u64 Lib.pow10Tab) :
 Calls Tryz.prog 96 #[.slice A l.length c] w fun e w' => e = .returned (.string ⟨(keyL l).toArray⟩) ∧ Below w.heap.size w w' := by
 obtain ⟨i0, zv, q1, q2, q3, q4, q5⟩ := ty5.info
 replace q5 : zv.cells.size = 1 := by rw [← Array.length_toList, q5]; rfl
 replace h := hide h
 replace htab := hide htab
 have h0 : w.ownsRow w.heap.size 5 1 (.slice none 0 0) (keyL (l.take 0)).length (Lib.byteCells (keyL (l.take 0))) := World.ownsRow_nil _ _ _ _
 replace h0 := hide h0
 go_enter Tryz.func96, Tryz.ntmps96
 go_wp2
 go_loopw [3, 5, 8] (fun v _ i wr => ∃ k : Nat, k ≤ l.length ∧ i = .int .i64 k ∧ Below w.heap.size w wr ∧ Hid (wr.ownsRow w.heap.size 5 1 v (keyL (l.take k)).length (Lib.byteCells (keyL (l.take k))))) (fun _ _ i _ => l.length - (intOf i).toNat)
 case atStart => exact ⟨0, Nat.zero_le _, rfl, Below.refl _ _, h0⟩
 case round =>
  clear h0
  obtain ⟨k, hk, rfl, hB, hO⟩ := hrel
  by_cases hlt : k < l.length
  · obtain ⟨b, o, rfl, hbb, c0, hf⟩ := (h.out.keep keeps_I hB).i hlt
    rw [Nat.mul_one] at c0
    have hlen := keyL_len (l := l.take k) fun x hx => hr x (List.mem_of_mem_take hx)
    rw [List.length_take] at hlen
    have hlen2 := Lib.itoa_length_le l[k] hf.1 hf.2
    have hsz := hB.size
    replace hlen : (keyL (l.take k)).length ≤ 2200000 := by omega
    go_upto_region 5 with (fail)
    go_wp2_with (first | (go_at_call 132; refine (appInt_any w.heap.size _ l[k] hf.1 hf.2 _ _ _ hO.out (by omega) (by omega) (htab.out.on hB)).mono ?_; rintro e w1 ⟨v1, rfl, hO1, hB1⟩; replace hO1 := hide hO1) | (at_builtin; refine wpList_append_own _ rfl _ _ 221 rfl w.heap.size 5 i0 zv 1 1 Tryz.underlying221 q1 q4 q2 q3 q5 (by decide) _ _ _ rfl (hO1.out.alloc _) ⟨w1.heap.size, 0, none⟩ 1 1 [Value.int .u8 32] rfl rfl (by intro j u' hj; match j, hj with | 0, hj => simp at hj; subst hj; simp [Addr.add]) (by intro u' hu'; simp at hu'; subst hu'; rfl) (by unfold maxLen; omega) (by omega) (by simp; have := hB1.size; omega) ?_; intro v2 w2 hO2 hg2 _))
    go_roundw
    case rel =>
     have e1 : (keyL (l.take (k + 1))).length = (keyL (l.take k)).length + (Lib.itoa l[k]).length + 1 := by
      rw [keyL_succ hlt]; simp only [List.length_append, List.length_cons, List.length_nil]; omega
     have e2 : Lib.byteCells (keyL (l.take (k + 1))) = Lib.byteCells (keyL (l.take k)) ++ Lib.byteCells (Lib.itoa l[k]) ++ [Value.int .u8 32] := by
      rw [keyL_succ hlt]; simp [Lib.byteCells]
     refine ⟨k + 1, by omega, by go_num, ((hB.trans hB1).alloc (by have := hB1.size; omega) _).grown hg2 (by simp; have := hB1.size; omega) (fun j hj => (hO1.out.lt j hj).1), hide ?_⟩
     rw [e1, e2]
     exact hO2
    case measure => simp [intOf]; omega
  · obtain rfl : k = l.length := by omega
    rw [List.take_length] at hO
    have hcv : (convert 221 9 u3).run Tryz.prog wr = .ok (.string ⟨(keyL l).toArray⟩) wr := by
     rcases hO.out with ⟨g0, ⟨rfl, g1⟩ | ⟨g, cap, cur, rfl, g1⟩⟩
     · have e : keyL l = [] := List.eq_nil_of_length_eq_zero g1
       rw [e]
       rw [run_convert_bytes_string wr _ _ 5 none 0 0 Tryz.underlying221 Tryz.underlying5 Tryz.underlying9]
       rfl
     · refine run_convert_bytes_back wr _ _ 5 ⟨g, 0, none⟩ cap (keyL l) Tryz.underlying221 Tryz.underlying5 Tryz.underlying9 fun j hj => ?_
       have := hO.out.cells rfl j (.int .u8 ((keyL l)[j].toNat : Int)) (by simp [Lib.byteCells, hj])
       exact this
    go_wp2
    go_ret
    exact ⟨rfl, hB⟩
end Go.Proofs.YtkkbdgijfkocnaaGreatDoor
namespace Go.Proofs.YtkkbdgijfkocnaaGreatDoor
set_option linter.unusedVariables false
set_option linter.unusedSimpArgs false
open Go.RowKit
abbrev zJ (l : List Int) : PV := .sl 1 (l.map fun i => [pI i])
def keyB (l : List Int) : ByteArray := ⟨(keyL l).toArray⟩
theorem ckey_h (l : List Int) (hn : l.length ≤ 100000) (hr : ∀ x ∈ l, R64 x) : Holds Tryz.prog 96 [zJ l] (.p (pS (keyB l))) [] :=
 .of_callsG Tryz.func96 (by kernel_rfl) rfl (fun w vs hg hl h => by
  obtain ⟨u, rfl⟩ : ∃ u, vs = [u] := by
   match vs, hl with
   | [u], _ => exact ⟨u, rfl⟩
  obtain ⟨A, c, rfl, h1, h2, h3⟩ := qaD (R := rI) (h 0 _ u rfl rfl) (fun x hx cs hcs => by
   exact ⟨rPV_plain (xs := [.int .i64 x]) hcs, hr x hx⟩)
  have htab : Lib.TabBelow Tryz.prog w.heap.size w "internal/strconv.uint64pow10" .u64 Lib.pow10Tab := fun w' hB => by
   obtain ⟨ty, m, hb⟩ := hg 3 _ rfl
   have hlt : 3 < w.heap.size := (Array.getElem?_eq_some_iff.1 hb).1
   have hb' := (hB.block _ hlt).trans hb
   unfold Lib.TabIs World.var?
   rw [show Tryz.prog.globalNamed "internal/strconv.uint64pow10" = some 3 from by kernel_rfl]
   simp only [Option.bind_some, hb']
   rfl
  exact key_any l A c w hn h3 hr htab) rfl fun w => .p (.v rfl)
def valD (l : List UInt8) : Nat := l.foldl (fun a c => a * 10 + (c.toNat - 48)) 0
theorem valD_snoc (l : List UInt8) (c : UInt8) : valD (l ++ [c]) = valD l * 10 + (c.toNat - 48) := by simp [valD]
theorem dig_toNat {u : Nat} (h : u < 10) : (UInt8.ofNat (48 + u)).toNat = 48 + u := by rw [UInt8.toNat_ofNat']; omega
theorem kdec_step (u : Nat) (h : ¬ u < 10) : Lib.decDigits u = Lib.decDigits (u / 10) ++ [UInt8.ofNat (48 + u % 10)] := by
 rw [Lib.decDigits, dif_neg h]
theorem dec_val (u : Nat) : valD (Lib.decDigits u) = u ∧ (∀ c ∈ Lib.decDigits u, 48 ≤ c.toNat ∧ c.toNat ≤ 57) := by
 induction u using Nat.strongRecOn with
 | ind u ih =>
   by_cases h : u < 10
   · rw [Lib.decDigits_one h]
     refine ⟨?_, fun c hc => ?_⟩
     · simp only [valD, List.foldl_cons, List.foldl_nil, dig_toNat h]; omega
     · rw [List.mem_singleton] at hc
       rw [hc, dig_toNat h]; omega
   · obtain ⟨h1, h2⟩ := ih (u / 10) (by omega)
     rw [kdec_step u h, valD_snoc, h1, dig_toNat (show u % 10 < 10 by omega)]
     refine ⟨by omega, fun c hc => ?_⟩
     rcases List.mem_append.1 hc with hc | hc
     · exact h2 c hc
     · rw [List.mem_singleton] at hc
       rw [hc, dig_toNat (show u % 10 < 10 by omega)]; omega
theorem dec_inj {u v : Nat} (h : Lib.decDigits u = Lib.decDigits v) : u = v := by rw [← (dec_val u).1, h, (dec_val v).1]
theorem dec_no {u : Nat} {c : UInt8} (h : c.toNat < 48) : c ∉ Lib.decDigits u := fun hc => by have := (dec_val u).2 c hc; omega
theorem itoa_sp (n : Int) : (32 : UInt8) ∉ Lib.itoa n := by
 by_cases h : n < 0
 · obtain ⟨u, hu, rfl⟩ : ∃ u : Nat, 1 ≤ u ∧ n = -(u : Int) := ⟨n.natAbs, by omega, by omega⟩
   rw [Lib.itoa_neg u hu, List.mem_cons]
   exact fun hc => hc.elim (by decide) (dec_no (by decide))
 · obtain ⟨u, rfl⟩ : ∃ u : Nat, n = u := ⟨n.toNat, by omega⟩
   rw [Lib.itoa_nonneg]
   exact dec_no (by decide)
theorem itoa_inj {n m : Int} (h : Lib.itoa n = Lib.itoa m) : n = m := by
 by_cases h1 : n < 0
 · obtain ⟨u, hu, rfl⟩ : ∃ u : Nat, 1 ≤ u ∧ n = -(u : Int) := ⟨n.natAbs, by omega, by omega⟩
   rw [Lib.itoa_neg u hu] at h
   by_cases h2 : m < 0
   · obtain ⟨v, hv, rfl⟩ : ∃ v : Nat, 1 ≤ v ∧ m = -(v : Int) := ⟨m.natAbs, by omega, by omega⟩
     rw [Lib.itoa_neg v hv, List.cons.injEq] at h
     rw [dec_inj h.2]
   · obtain ⟨v, rfl⟩ : ∃ v : Nat, m = v := ⟨m.toNat, by omega⟩
     rw [Lib.itoa_nonneg] at h
     exact absurd (h ▸ List.mem_cons_self : (45 : UInt8) ∈ Lib.decDigits v) (dec_no (by decide))
 · obtain ⟨u, rfl⟩ : ∃ u : Nat, n = u := ⟨n.toNat, by omega⟩
   rw [Lib.itoa_nonneg] at h
   by_cases h2 : m < 0
   · obtain ⟨v, hv, rfl⟩ : ∃ v : Nat, 1 ≤ v ∧ m = -(v : Int) := ⟨m.natAbs, by omega, by omega⟩
     rw [Lib.itoa_neg v hv] at h
     exact absurd (h ▸ List.mem_cons_self : (45 : UInt8) ∈ Lib.decDigits u) (dec_no (by decide))
   · obtain ⟨v, rfl⟩ : ∃ v : Nat, m = v := ⟨m.toNat, by omega⟩
     rw [Lib.itoa_nonneg] at h
     rw [dec_inj h]
theorem sp_split : ∀ {a b r s : List UInt8}, (32 : UInt8) ∉ a → (32 : UInt8) ∉ b → a ++ 32 :: r = b ++ 32 :: s → a = b ∧ r = s
 | [], [], r, s, _, _, h => ⟨rfl, by simpa using h⟩
 | [], y :: b, r, s, _, hb, h => by
   simp only [List.nil_append, List.cons_append, List.cons.injEq] at h
   exact absurd (by rw [← h.1]; simp) hb
 | x :: a, [], r, s, ha, _, h => by
   simp only [List.nil_append, List.cons_append, List.cons.injEq] at h
   exact absurd (by rw [h.1]; simp) ha
 | x :: a, y :: b, r, s, ha, hb, h => by
   simp only [List.cons_append, List.cons.injEq] at h
   obtain ⟨h1, h2⟩ := sp_split (fun hm => ha (List.mem_cons_of_mem _ hm)) (fun hm => hb (List.mem_cons_of_mem _ hm)) h.2
   exact ⟨by rw [h.1, h1], h2⟩
theorem keyL_inj : ∀ {l m : List Int}, keyL l = keyL m → l = m
 | [], [], _ => rfl
 | [], y :: m, h => by simp [keyL] at h
 | x :: l, [], h => by simp [keyL] at h
 | x :: l, y :: m, h => by
   have e : ∀ (x : Int) (l : List Int), keyL (x :: l) = Lib.itoa x ++ 32 :: keyL l := fun x l => by simp [keyL]
   rw [e, e] at h
   obtain ⟨h1, h2⟩ := sp_split (itoa_sp x) (itoa_sp y) h
   rw [itoa_inj h1, keyL_inj h2]
theorem keyB_inj {l m : List Int} (h : keyB l = keyB m) : l = m := by
 refine keyL_inj ?_
 have h1 := congrArg (fun s : ByteArray => s.data.toList) h
 simpa [keyB] using h1
structure Pt where
 m : Int
 l : List Br
 r : Int
def Pt.pv (p : Pt) : List PV := [dagP p.m p.l, pI p.r]
def ptsP (l : List Pt) : PV := .sl 2 (l.map Pt.pv)
def qq (x : List (Pt × Int)) : Int := x.foldl (fun a p => match brD p.1.l p.2 with
 | some b => min a b.atom
 | none => a) 64
def onB (p : Pt × Int) (a : Int) (j : Nat) : Int := match brD p.1.l p.2 with
 | some b => if b.atom = a then b.to j else p.2
 | none => p.2
def onW (x : List (Pt × Int)) (a : Int) (j : Nat) : List Int := x.map fun p => onB p a j
structure Wv (σ : Type) where
 d : List Br
 met : List (List Int × Int)
 rows : Int
 st : σ
def metF (m : List (List Int × Int)) (row : List Int) : Option Int := (m.find? fun p => decide (p.1 = row)).map (·.2)
def ents17 (m : List (List Int × Int)) : List (Value × PV) := m.map fun p => (.string (keyB p.1), pI p.2)
variable {σ : Type}
def wayW (ps : List Pt) (f : σ → List Int → Int × σ) : Nat → Wv σ → List Int → Int × Int × Wv σ
 | 0, w, _ => (0, 99, w)
 | n + 1, w, row =>
   match metF w.met row with
   | some v => (v, 0, w)
   | none =>
     if 6000 < w.rows + 1 then (0, 6, { w with rows := w.rows + 1 })
     else if qq (ps.zip row) = 64 then
      (-1 - (f w.st (row.map fun x => -1 - x)).1, 0, { w with rows := w.rows + 1, met := w.met ++ [(row, -1 - (f w.st (row.map fun x => -1 - x)).1)], st := (f w.st (row.map fun x => -1 - x)).2 })
     else
      let a := qq (ps.zip row)
      let r0 := wayW ps f n { w with rows := w.rows + 1 } (onW (ps.zip row) a 0)
      if r0.2.1 ≠ 0 then (0, r0.2.1, r0.2.2)
      else
       let r1 := wayW ps f n r0.2.2 (onW (ps.zip row) a 1)
       if r1.2.1 ≠ 0 then (0, r1.2.1, r1.2.2)
       else
        let r2 := wayW ps f n r1.2.2 (onW (ps.zip row) a 2)
        if r2.2.1 ≠ 0 then (0, r2.2.1, r2.2.2)
        else
         let k := zU 2000 r2.2.2.d ⟨a, r0.1, r1.1, r2.1⟩
         (k.1, k.2.1, { r2.2.2 with d := k.2.2, met := r2.2.2.met ++ [(row, k.1)] })
theorem jB (row : List Int) : ∀ m : List (List Int × Int), mfind (.string (keyB row)) (ents17 m) = (metF m row).map pI
 | [] => rfl
 | p :: m => by
   have ih := jB row m
   have hk : keyEq (.string (keyB row)) (.string (keyB p.1)) = decide (p.1 = row) := by
    show decide (keyB row = keyB p.1) = _
    by_cases h : p.1 = row
    · rw [decide_eq_true h, h, decide_eq_true rfl]
    · rw [decide_eq_false h, decide_eq_false (fun e => h (keyB_inj e).symm)]
   show (bif keyEq (.string (keyB row)) (.string (keyB p.1)) then some (pI p.2) else mfind (.string (keyB row)) (ents17 m)) = _
   rw [hk]
   unfold metF
   rw [List.find?_cons]
   by_cases h : p.1 = row
   · rw [decide_eq_true h]; rfl
   · rw [decide_eq_false h, cond_false, ih]; rfl
theorem zW : ∀ m : List (List Int × Int), (ents17 m).all (fun x => kdOk .str x.1) = true
 | [] => rfl
 | p :: m => by
   show (kdOk .str (.string (keyB p.1)) && (ents17 m).all (fun x => kdOk .str x.1)) = true
   rw [zW m]; rfl
theorem qap (m : List (List Int × Int)) (row : List Int) (v : Int) : ents17 m ++ [(.string (keyB row), pI v)] = ents17 (m ++ [(row, v)]) := by simp [ents17]
end Go.Proofs.YtkkbdgijfkocnaaGreatDoor
namespace Go.Proofs.YtkkbdgijfkocnaaGreatDoor
set_option linter.unusedVariables false
set_option linter.unusedSimpArgs false
open Go.RowKit
mutual
def SV.frzB (k : Nat) (l : List PV) : SV → SV
 | .agg cs => mkAgg (frzBs k l cs)
 | .tup cs => .tup (frzBs k l cs)
 | .fn f cs => .fn f (frzBs k l cs)
 | .row i => bif Nat.beq i k then .junk else .row i
 | .ptr i o => bif Nat.beq i k then .p (.rp (l.drop o)) else .ptr i o
 | .eptr i z j o => bif Nat.beq i k then .junk else .eptr i z j o
 | .view i z' lo hi => bif Nat.beq i k then .junk else .view i z' lo hi
 | .p x => .p x
 | .junk => .junk
def frzBs (k : Nat) (l : List PV) : List SV → List SV
 | [] => []
 | s :: r => s.frzB k l :: frzBs k l r
end
theorem frzBs_eq (k : Nat) (l : List PV) : ∀ cs : List SV, frzBs k l cs = cs.map (SV.frzB k l)
 | [] => rfl
 | s :: r => by rw [frzBs, frzBs_eq k l r]; rfl
def Box.frzB (k : Nat) (l : List PV) (b : Box) : Box := b.mapS (SV.frzB k l)
def St.frzB (st : St) (k : Nat) (l : List PV) : St := ⟨st.n, st.fr.map fun p => (p.1, p.2.frzB k l), (del k st.own).map fun p => (p.1, p.2.frzB k l)⟩
theorem sim_frzB {st : St} {k : Nat} {cs : List SV} {l : List PV} (hk : lk k st.own = some (.cells cs)) (hp0 : pures cs = some l) {w0 : Base} {Sx : Nat → Prop} {γ : Nat → Value} {a : Act} {w : World} (hI : Sim w0 Sx γ st a w) : Sim w0 Sx γ (st.frzB k l) a w := by
 have lk' : ∀ i, lk i (st.frzB k l).own = if i = k then none else (lk i st.own).map (Box.frzB k l) := fun i => by
  show lk i ((del k st.own).map fun p => (p.1, p.2.frzB k l)) = _
  rw [lk_map, lk_del]; split <;> rfl
 have old : ∀ {i bx}, lk i (st.frzB k l).own = some bx → i ≠ k ∧ ∃ b0, lk i st.own = some b0 ∧ bx = b0.frzB k l := fun {i bx} hi => by
  rw [lk'] at hi
  by_cases e : i = k
  · rw [if_pos e] at hi; cases hi
  · rw [if_neg e] at hi
    obtain ⟨b0, h1, rfl⟩ := Option.map_eq_some_iff.1 hi
    exact ⟨e, b0, h1, rfl⟩
 have okc : ∀ b, okO Sx γ st.own b → okO Sx γ (st.frzB k l).own b := fun b hok => ⟨hok.1, fun i bx hi hb => by
  obtain ⟨_, b0, h1, _⟩ := old hi
  exact hok.2 i b0 h1 hb⟩
 obtain ⟨pl, pg⟩ := qad hp0
 have hrow : ∃ b, γ k = .pointer (some ⟨b, 0, none⟩) ∧ ∀ o, RelP (okO Sx γ (st.frzB k l).own) w (.rp (l.drop o)) (.pointer (some ⟨b, o, none⟩)) := by
  cases hI.heap.box k _ hk with
  | @cells _ us ty b hg hB hh hl hr h1 =>
    refine ⟨b, hg, fun o => ?_⟩
    have hb : qK (γ k) = some b := by rw [hg]; rfl
    have hcell : ∀ j, w.cell? ⟨b, j, none⟩ = us[j]? := fun j => by unfold World.cell?; rw [hh]; simp
    refine .rp ⟨fun hs => hI.heap.nsx hk hb hs, fun i bx hi hib => ?_⟩ (lt_of_block hh) (fun j hj => ?_) (fun j s u hs hu => ?_)
    · obtain ⟨h1, b0, h2, _⟩ := old hi
      exact h1 (hI.heap.inj i k _ _ b h2 hk hib hb)
    · rw [hcell]
      rw [List.length_drop] at hj
      exact ⟨_, List.getElem?_eq_getElem (by omega)⟩
    · rw [hcell] at hu
      rw [List.getElem?_drop] at hs
      have h2 := hr (o + j) (.p s) u (by rw [pg, hs]; rfl) hu
      exact h2.p_inv.weak fun b _ => okc b
 obtain ⟨bk, hgk, hrow⟩ := hrow
 have keep : ∀ {s : SV} {u : Value}, RelS (okO Sx γ st.own) (hp γ st.own) w s u → RelS (okO Sx γ (st.frzB k l).own) (hp γ (st.frzB k l).own) w (s.frzB k l) u := fun {s u} h => by
  have hp' : ∀ {i g}, hp γ st.own i = some g → i ≠ k → hp γ (st.frzB k l).own i = some g := fun {i g} hi hik => by
   cases h1 : lk i st.own with
   | none => rw [jv h1] at hi; cases hi
   | some bx => rw [qI h1] at hi; rw [qI (bx := bx.frzB k l) (by rw [lk', if_neg hik, h1]; rfl)]; exact hi
  induction h with
  | p h => exact .p (h.weak fun b _ => okc b)
  | agg hl h ih =>
    rw [SV.frzB, frzBs_eq]
    refine relS_mkAgg (by simpa using hl) fun i s u hs hu => ?_
    rw [List.getElem?_map] at hs
    obtain ⟨s0, h0, rfl⟩ := Option.map_eq_some_iff.1 hs
    exact ih i s0 u h0 hu
  | tup hl h ih =>
    rw [SV.frzB, frzBs_eq]
    refine .tup (by simpa using hl) fun i s u hs hu => ?_
    rw [List.getElem?_map] at hs
    obtain ⟨s0, h0, rfl⟩ := Option.map_eq_some_iff.1 hs
    exact ih i s0 u h0 hu
  | fn hl h ih =>
    rw [SV.frzB, frzBs_eq]
    refine .fn (by simpa using hl) fun i s u hs hu => ?_
    rw [List.getElem?_map] at hs
    obtain ⟨s0, h0, rfl⟩ := Option.map_eq_some_iff.1 hs
    exact ih i s0 u h0 hu
  | junk => exact .junk
  | @row i u h =>
    rw [SV.frzB]
    by_cases e : i = k
    · subst e; rw [zx, cond_true]; exact .junk
    · rw [wb e, cond_false]; exact .row (hp' h e)
  | @ptr i off b g h hb =>
    rw [SV.frzB]
    by_cases e : i = k
    · subst e
      rw [zx, cond_true]
      rw [qI hk] at h
      cases h
      rw [hgk] at hb
      simp only [qK, Option.some.injEq] at hb
      subst hb
      exact .p (hrow off)
    · rw [wb e, cond_false]; exact .ptr (hp' h e) hb
  | @eptr i z' j o b g h hb =>
    rw [SV.frzB]
    by_cases e : i = k
    · subst e; rw [zx, cond_true]; exact .junk
    · rw [wb e, cond_false]; exact .eptr (hp' h e) hb
  | @view i z' lo hi n c A A' h h1 h2 h3 h4 =>
    rw [SV.frzB]
    by_cases e : i = k
    · subst e; rw [zx, cond_true]; exact .junk
    · rw [wb e, cond_false]; exact .view (hp' h e) h1 h2 h3 h4
 refine ⟨hI.below, hI.size, hI.defers, fun t s ht => ?_, fun i bx hi => ?_, fun i j bi bj b hi hj hib hjb => ?_, hI.heap.sx.keep (Nat.le_refl _) fun i bx hi => by obtain ⟨_, b0, h1, _⟩ := old hi; exact Or.inr ⟨rfl, by rw [h1]; rfl⟩⟩
 · have ht' : (lk t st.fr).map (SV.frzB k l) = some s := by rw [← lk_map]; exact ht
   obtain ⟨s0, h0, rfl⟩ := Option.map_eq_some_iff.1 ht'
   exact keep (hI.fr t s0 h0)
 · obtain ⟨hik, b0, h1, rfl⟩ := old hi
   exact (hI.heap.box i b0 h1).keep (Box.rel_map _ (fun _ => rfl) _) rfl (Nat.le_refl _) (fun b hb => ⟨rfl, (hI.heap.blk h1 hb).1⟩) (fun b _ hok => ⟨rfl, okc b hok⟩) fun s u s' hs es => by subst es; exact keep hs
 · obtain ⟨_, b0, h1, _⟩ := old hi
   obtain ⟨_, c0, h2, _⟩ := old hj
   exact hI.heap.inj i j _ _ b h1 h2 hib hjb
theorem wk_frzB {st : St} {k : Nat} {cs : List SV} {l : List PV} (hk : lk k st.own = some (.cells cs)) (hp : pures cs = some l) : Wk st (st.frzB k l) := fun _ _ γ _ _ hI => ⟨γ, sim_frzB hk hp hI⟩
set_option maxHeartbeats 4000000
def brGet (l : List Br) (i : Int) : Br := (brD l i).getD zeroBr
theorem jI (m : Int) (l : List Br) (hl : l.length ≤ 100000) (i : Int) : Holds Tryz.prog 23 [dagP m l, pI i] (.tup [.p (.agg (brGet l i).pv), .p (pB (brD l i).isSome)]) [] := by
 by_cases h : i < 0 ∨ (l.length : Int) ≤ i
 · have e : brD l i = none := by
    unfold brD
    by_cases h0 : i < 0
    · rw [if_pos h0]
    · rw [if_neg h0]; exact List.getElem?_eq_none (by omega)
   unfold brGet
   rw [e]
   exact dbranch_no m l (by omega) i h
 · obtain ⟨k, rfl⟩ : ∃ k : Nat, i = k := ⟨i.toNat, by omega⟩
   have hk : k < l.length := by omega
   have e : brD l (k : Int) = some l[k] := by
    unfold brD
    rw [if_neg (by omega), Int.toNat_natCast, List.getElem?_eq_getElem hk]
   unfold brGet
   rw [e]
   exact dbranch_h m l (by omega) k hk
def wvO (g : PV) (ps : List Pt) (rd : Nat) (d : List Br) (met : List (List Int × Int)) (rows : Int) : List (Nat × Box) :=
 [(1000000, .cells [.p (ptsP ps), .p g, .ptr 1000001 0, .row 1000003, .p (pI rows)]), (1000001, .cells [.p (pI 2000), .row rd]), (rd, .row 68 4 (d.map Br.pv)), (1000003, .mp (ents17 met))]
structure PsOk (ps : List Pt) (row : List Int) : Prop where
 len : ps.length = row.length
 few : ps.length ≤ 1000
 dag : ∀ p ∈ ps, p.l.length ≤ 100000
 ways : ∀ x ∈ row, -1099511627776 ≤ x ∧ x ≤ 1099511627776
theorem zip_at {ps : List Pt} {row : List Int} {k : Nat} (h : k < ps.length) (h2 : k < row.length) : (ps.zip row)[k]'(by rw [List.length_zip]; omega) = (ps[k], row[k]) := List.getElem_zip
theorem watom_h (g : PV) (ps : List Pt) (d : List Br) (met : List (List Int × Int)) (rows : Int) (row : List Int) (hp : PsOk ps row) : qJ Tryz.prog 97 [.ptr 1000000 0, .p (zJ row)] (wvO g ps 1000002 d met rows) (.p (pI (qq (ps.zip row)))) (wvO g ps 1000002 d met rows) := by
 have lp : (ps.map Pt.pv).length = ps.length := by simp
 have lr : (row.map fun i => [pI i]).length = row.length := by simp
 have hlen := hp.len
 have hfew := hp.few
 refine qD (ts := [4]) Tryz.func97 (by kernel_rfl) rfl rfl rfl ?_
 refine uA ?_
 refine uA ?_
 refine uA ?_
 refine uB ?_
 refine uZ [0, 1, 5, 10, 11, 12] [(1000000, 1000000), (1000001, 1000001), (1000002, 1000002), (1000003, 1000003)] ?_
 refine qw (fun m s => ∃ (k : Nat) (kk : Int) (a : Int), k ≤ row.length ∧ m = row.length - k ∧ kk = k ∧ a = qq ((ps.zip row).take k) ∧ s = ⟨37, [(0, .ptr 1000000 0), (1, .p (zJ row)), (5, .p (pI a)), (10, .p (zJ row)), (11, .p (pI (row.map fun i => [pI i]).length)), (12, .p (pI kk))], wvO g ps 1000002 d met rows⟩) row.length ⟨0, 0, 64, Nat.zero_le _, rfl, rfl, rfl, rfl⟩ ?_
 rintro m s ⟨k, _, a, hk, rfl, rfl, ha, rfl⟩
 refine uA ?_
 refine uC (fun hlt => ?_) (fun hlt => ?_)
 · refine qd ?_
   rw [lr] at hlt
   simp only [decide_eq_true_eq] at hlt
   have hlt' : k < row.length := by omega
   have hltp : k < ps.length := by omega
   have hzl : k < (ps.zip row).length := by rw [List.length_zip]; omega
   have hB := jI ps[k].m ps[k].l (hp.dag _ (List.getElem_mem hltp)) row[k]
   have hS := zQ (fun a (p : Pt × Int) => match brD p.1.l p.2 with
    | some b => min a b.atom
    | none => a) 64 (ps.zip row) k hzl
   change qq ((ps.zip row).take (k + 1)) = (match brD ((ps.zip row)[k]).1.l ((ps.zip row)[k]).2 with
    | some b => min (qq ((ps.zip row).take k)) b.atom
    | none => qq ((ps.zip row).take k)) at hS
   rw [← ha, zip_at hltp hlt'] at hS
   obtain ⟨p, hpe⟩ : ∃ p, p = ps[k] := ⟨_, rfl⟩
   obtain ⟨w, hwe⟩ : ∃ w, w = row[k] := ⟨_, rfl⟩
   rw [← hpe, ← hwe] at hB hS
   obtain ⟨pm, pl, pr⟩ := p
   simp only at hB hS
   refine uB ?_
   refine uR ?_
   refine qe qa rfl rfl (by rw [lr]; omega) rfl ?_
   rw [qm hlt', ← hwe]
   refine uS ?_
   refine qb ?_
   refine uR ?_
   refine qe qa rfl rfl (by rw [lp]; omega) rfl ?_
   rw [qm hltp, ← hpe]
   refine uS ?_
   refine uK hB ?_
   refine qb ?_
   refine uA ?_
   unfold brGet
   cases hb : brD pl w with
   | none =>
     rw [hb] at hS
     refine uC (fun h5 => ?_) (fun h5 => ?_)
     · cases h5
     refine qd ?_
     refine uA ?_
     refine ⟨_, _, ?_, qh [0, 1, 5, 10, 11, 12] [(1000000, 1000000), (1000001, 1000001), (1000002, 1000002), (1000003, 1000003)] rfl rfl, k + 1, _, _, hlt', rfl, qf hlt' (by omega), hS.symm, rfl⟩
     omega
   | some b =>
     rw [hb] at hS
     refine uC (fun h5 => ?_) (fun h5 => ?_)
     · have hM2 : (if b.atom < a then b.atom else a) = min a b.atom := by split <;> omega
       refine uA ?_
       refine uA ?_
       refine ⟨_, _, ?_, qh [0, 1, 5, 10, 11, 12] [(1000000, 1000000), (1000001, 1000001), (1000002, 1000002), (1000003, 1000003)] rfl rfl, k + 1, _, (if b.atom < a then b.atom else a), hlt', rfl, qf hlt' (by omega), by rw [hS, hM2], rfl⟩
       omega
     · cases h5
 · refine qt ?_
   rw [lr] at hlt
   simp only [decide_eq_false_iff_not] at hlt
   have hkk : k = row.length := by omega
   subst hkk
   rw [List.take_of_length_le (by rw [List.length_zip]; omega)] at ha
   rw [← ha]
   refine uA ?_
   refine uQ ?_
   exact uF [(1000000, 1000000), (1000001, 1000001), (1000002, 1000002), (1000003, 1000003)]
theorem cloneI_h (l : List Int) (hn : l.length ≤ 1000000) : Holds Tryz.prog 133 [zJ l] (.row 0) [(0, .row 3 1 (l.map fun i => [pI i]))] := by
 refine qo (ts := [2]) Tryz.func133 (by kernel_rfl) rfl rfl rfl ?_
 refine uA ?_
 refine uR ?_
 refine qy rfl (act_nilcmp qa rfl rfl rfl rfl rfl rfl (fun b hb => ?_))
 refine qb ?_
 refine uC (fun hc => ?_) (fun hc => ?_)
 · have hl := hb hc
   have hl' : l = [] := by simpa using hl
   subst hl'
   refine uA ?_
   refine uQ ?_
   exact ⟨Or.inr rfl, _, _, [(0, 0)], zp 2 0 3 1 rfl rfl, rfl, rfl, rfl, rfl⟩
 · refine qd ?_
   refine uR ?_
   refine qy rfl (qg qa rfl rfl rfl rfl rfl rfl rfl rfl rfl rfl rfl rfl rfl rfl rfl rfl (by simp [reachBytes]; omega) (by simp; omega) ?_)
   refine uS ?_
   refine qb ?_
   refine uQ ?_
   exact uF [(7, 0)]
def outK (x : List (Pt × Int)) (a : Int) (j k : Nat) : List Int := (x.take k).map (fun p => onB p a j) ++ (x.drop k).map (·.2)
theorem zb (x : List (Pt × Int)) (a : Int) (j k : Nat) : (outK x a j k).length = x.length := by
 unfold outK; rw [List.length_append, List.length_map, List.length_map, ← List.length_append, List.take_append_drop]
theorem outK_at {x : List (Pt × Int)} {a : Int} {j k : Nat} (hk : k < x.length) : (outK x a j k)[k]? = some x[k].2 := by
 unfold outK
 rw [List.getElem?_append_right (by rw [List.length_map, List.length_take]; omega), List.length_map, List.length_take, Nat.min_eq_left (by omega), Nat.sub_self, List.drop_eq_getElem_cons hk]
 rfl
theorem wv {x : List (Pt × Int)} {a : Int} {j k : Nat} (hk : k < x.length) : (outK x a j k).set k (onB x[k] a j) = outK x a j (k + 1) := by
 unfold outK
 have hl : ((x.take k).map (fun p => onB p a j)).length = k := by rw [List.length_map, List.length_take]; omega
 rw [List.set_append_right _ _ (by omega), hl, Nat.sub_self, List.drop_eq_getElem_cons hk, List.map_cons, List.set_cons_zero, List.take_succ_eq_append_getElem hk, List.map_append, List.append_assoc]
 rfl
theorem outK_stay {x : List (Pt × Int)} {a : Int} {j k : Nat} (hk : k < x.length) (h : onB x[k] a j = x[k].2) : outK x a j (k + 1) = outK x a j k := by
 rw [← wv hk, h]
 refine List.ext_getElem? fun i => ?_
 rw [List.getElem?_set]
 split
 · rename_i e
   subst e
   rw [if_pos (by rw [zb]; exact hk), outK_at hk]
 · rfl
theorem rowI_set (l : List Int) (k : Nat) (hk : k < l.length) (v : Int) : (l.map fun i => [pI i]).set k ((((l.map fun i => [pI i]).getD k []).take 0) ++ [pI v] ++ (((l.map fun i => [pI i]).getD k []).drop (0 + [pI v].length))) = (l.set k v).map fun i => [pI i] := by
 have e : (l.map fun i => [pI i]).getD k [] = [pI l[k]] := by simp [hk]
 rw [e, List.map_set]; rfl
theorem won_h (g : PV) (ps : List Pt) (d : List Br) (met : List (List Int × Int)) (rows : Int) (row : List Int) (hp : PsOk ps row) (a : Int) (j : Nat) (hj : j < 3) : qJ Tryz.prog 99 [.ptr 1000000 0, .p (zJ row), .p (pI a), .p (pI (j : Int))] (wvO g ps 1000002 d met rows) (.p (zJ (onW (ps.zip row) a j))) (wvO g ps 1000002 d met rows) := by
 have lp : (ps.map Pt.pv).length = ps.length := by simp
 have lr : (row.map fun i => [pI i]).length = row.length := by simp
 have hlen := hp.len
 have hfew := hp.few
 have hx2 : (ps.zip row).map (·.2) = row := by rw [List.map_snd_zip (by omega)]
 refine qD (ts := [8]) Tryz.func99 (by kernel_rfl) rfl rfl rfl ?_
 refine uA ?_
 refine uR ?_
 refine uO (cloneI_h row (by omega)) ?_
 refine qb ?_
 refine uA ?_
 refine uB ?_
 refine uZ [0, 1, 2, 3, 9, 16, 17, 18] ([(1000000, 1000000), (1000001, 1000001), (1000002, 1000002), (1000003, 1000003)] ++ [(15000 + 1000, 0)]) ?_
 refine qw (fun m s => ∃ (k : Nat) (kk : Int) (L : List (List PV)), k ≤ row.length ∧ m = row.length - k ∧ kk = k ∧ L = (outK (ps.zip row) a j k).map (fun i => [pI i]) ∧ s = ⟨52, [(0, .ptr 1000000 0), (1, .p (zJ row)), (2, .p (pI a)), (3, .p (pI j)), (9, .row 0), (16, .p (zJ row)), (17, .p (pI (row.map fun i => [pI i]).length)), (18, .p (pI kk))], wvO g ps 1000002 d met rows ++ [(0, .row 3 1 L)]⟩) row.length ⟨0, 0, _, Nat.zero_le _, rfl, rfl, by unfold outK; rw [List.take_zero, List.drop_zero, hx2]; rfl, rfl⟩ ?_
 rintro m s ⟨k, _, L, hk, rfl, rfl, hL, rfl⟩
 have hLl : L.length = (outK (ps.zip row) a j k).length := by rw [hL, List.length_map]
 refine uA ?_
 refine uC (fun hlt => ?_) (fun hlt => ?_)
 · refine qd ?_
   rw [lr] at hlt
   simp only [decide_eq_true_eq] at hlt
   have hlt' : k < row.length := by omega
   have hltp : k < ps.length := by omega
   have hzl : k < (ps.zip row).length := by rw [List.length_zip]; omega
   have hB := jI ps[k].m ps[k].l (hp.dag _ (List.getElem_mem hltp)) row[k]
   have hsv : onB (ps.zip row)[k] a j = (ps.zip row)[k].2 → (outK (ps.zip row) a j (k + 1)) = outK (ps.zip row) a j k := outK_stay hzl
   rw [zip_at hltp hlt'] at hsv
   obtain ⟨p, hpe⟩ : ∃ p, p = ps[k] := ⟨_, rfl⟩
   obtain ⟨w, hwe⟩ : ∃ w, w = row[k] := ⟨_, rfl⟩
   rw [← hpe, ← hwe] at hB hsv
   obtain ⟨pm, pl, pr⟩ := p
   simp only at hB hsv
   refine uB ?_
   refine uR ?_
   refine qe qa rfl rfl (by rw [lr]; omega) rfl ?_
   rw [qm hlt', ← hwe]
   refine uS ?_
   refine qb ?_
   refine uR ?_
   refine qe qa rfl rfl (by rw [lp]; omega) rfl ?_
   rw [qm hltp, ← hpe]
   refine uS ?_
   refine uK hB ?_
   refine qb ?_
   unfold brGet
   cases hb : brD pl w with
   | none =>
     refine uA ?_
     refine uC (fun h5 => ?_) (fun h5 => ?_)
     · cases h5
     refine qd ?_
     refine uA ?_
     refine ⟨_, _, ?_, qh [0, 1, 2, 3, 9, 16, 17, 18] ([(1000000, 1000000), (1000001, 1000001), (1000002, 1000002), (1000003, 1000003)] ++ [(0, 0)]) rfl rfl, k + 1, _, _, hlt', rfl, qf hlt' (by omega), ?_, rfl⟩
     · omega
     · rw [hsv (by unfold onB; simp only [hb])]; exact hL
   | some b =>
     refine uR ?_
     by_cases hat : b.atom = a
     · rw [show (((some b).getD zeroBr).atom == a) = true by simpa using hat]
       refine uS ?_
       refine qb ?_
       refine uC (fun h5 => ?_) (fun h5 => ?_)
       · match j, hj, L, hL, hLl, hsv with
         | 0, _, L, hL, hLl, hsv =>
           refine uR ?_
           refine qe qa rfl rfl (by decide) rfl ?_
           refine uS ?_
           refine qe qa rfl rfl (by rw [hLl, zb]; omega) rfl ?_
           refine uS ?_
           refine qy rfl (zi qa rfl rfl rfl rfl rfl (by rw [hLl, zb, Int.toNat_natCast]; omega) rfl rfl rfl rfl rfl ?_)
           refine uS ?_
           refine qb ?_
           refine uA ?_
           refine ⟨_, _, ?_, qh [0, 1, 2, 3, 9, 16, 17, 18] ([(1000000, 1000000), (1000001, 1000001), (1000002, 1000002), (1000003, 1000003)] ++ [(0, 0)]) rfl rfl, k + 1, _, _, hlt', rfl, qf hlt' (by omega), ?_, rfl⟩
           · omega
           · rw [hL, Int.toNat_natCast, rowI_set _ _ (by rw [zb]; exact hzl), ← wv hzl, zip_at hltp hlt', ← hpe, ← hwe]
             have e9 : onB (⟨pm, pl, pr⟩, w) a 0 = b.to 0 := by unfold onB; simp only [hb, hat, if_true]
             rw [e9]
             rfl
         | 1, _, L, hL, hLl, hsv =>
           refine uR ?_
           refine qe qa rfl rfl (by decide) rfl ?_
           refine uS ?_
           refine qe qa rfl rfl (by rw [hLl, zb]; omega) rfl ?_
           refine uS ?_
           refine qy rfl (zi qa rfl rfl rfl rfl rfl (by rw [hLl, zb, Int.toNat_natCast]; omega) rfl rfl rfl rfl rfl ?_)
           refine uS ?_
           refine qb ?_
           refine uA ?_
           refine ⟨_, _, ?_, qh [0, 1, 2, 3, 9, 16, 17, 18] ([(1000000, 1000000), (1000001, 1000001), (1000002, 1000002), (1000003, 1000003)] ++ [(0, 0)]) rfl rfl, k + 1, _, _, hlt', rfl, qf hlt' (by omega), ?_, rfl⟩
           · omega
           · rw [hL, Int.toNat_natCast, rowI_set _ _ (by rw [zb]; exact hzl), ← wv hzl, zip_at hltp hlt', ← hpe, ← hwe]
             have e9 : onB (⟨pm, pl, pr⟩, w) a 1 = b.to 1 := by unfold onB; simp only [hb, hat, if_true]
             rw [e9]
             rfl
         | 2, _, L, hL, hLl, hsv =>
           refine uR ?_
           refine qe qa rfl rfl (by decide) rfl ?_
           refine uS ?_
           refine qe qa rfl rfl (by rw [hLl, zb]; omega) rfl ?_
           refine uS ?_
           refine qy rfl (zi qa rfl rfl rfl rfl rfl (by rw [hLl, zb, Int.toNat_natCast]; omega) rfl rfl rfl rfl rfl ?_)
           refine uS ?_
           refine qb ?_
           refine uA ?_
           refine ⟨_, _, ?_, qh [0, 1, 2, 3, 9, 16, 17, 18] ([(1000000, 1000000), (1000001, 1000001), (1000002, 1000002), (1000003, 1000003)] ++ [(0, 0)]) rfl rfl, k + 1, _, _, hlt', rfl, qf hlt' (by omega), ?_, rfl⟩
           · omega
           · rw [hL, Int.toNat_natCast, rowI_set _ _ (by rw [zb]; exact hzl), ← wv hzl, zip_at hltp hlt', ← hpe, ← hwe]
             have e9 : onB (⟨pm, pl, pr⟩, w) a 2 = b.to 2 := by unfold onB; simp only [hb, hat, if_true]
             rw [e9]
             rfl
       · cases h5
     · rw [show (((some b).getD zeroBr).atom == a) = false by simpa using hat]
       refine uS ?_
       refine qb ?_
       refine uC (fun h5 => ?_) (fun h5 => ?_)
       · cases h5
       refine qd ?_
       refine uA ?_
       refine ⟨_, _, ?_, qh [0, 1, 2, 3, 9, 16, 17, 18] ([(1000000, 1000000), (1000001, 1000001), (1000002, 1000002), (1000003, 1000003)] ++ [(0, 0)]) rfl rfl, k + 1, _, _, hlt', rfl, qf hlt' (by omega), ?_, rfl⟩
       · omega
       · rw [hsv (by unfold onB; simp only [hb, if_neg hat])]; exact hL
 · refine qt ?_
   rw [lr] at hlt
   simp only [decide_eq_false_iff_not] at hlt
   have hkk : k = row.length := by omega
   subst hkk
   have e : outK (ps.zip row) a j row.length = onW (ps.zip row) a j := by
    unfold outK onW
    have hz : (ps.zip row).length = row.length := by rw [List.length_zip]; omega
    rw [← hz, List.take_length, List.drop_length]; simp
   rw [e] at hL
   subst hL
   refine uA ?_
   refine SW.wk (zg (k := 0) rfl) ?_
   refine uQ ?_
   exact uF [(1000000, 1000000), (1000001, 1000001), (1000002, 1000002), (1000003, 1000003)]
structure FlOk (F : FuncId) (fl : List Int → Int) : Prop where
 call : ∀ l : List Int, l.length ≤ 1000 → (∀ x ∈ l, -2199023255552 ≤ x ∧ x ≤ 2199023255552) → qJ Tryz.prog F [.row 1000000] [(1000000, .row 3 1 (l.map fun i => [pI i]))] (.p (pI (fl l))) []
 bd : ∀ l : List Int, (∀ x ∈ l, -2199023255552 ≤ x ∧ x ≤ 2199023255552) → -2199023255552 ≤ fl l ∧ fl l ≤ 2199023255552
theorem wend_h {F : FuncId} {fl : List Int → Int} (hF : FlOk F fl) (ps : List Pt) (d : List Br) (met : List (List Int × Int)) (rows : Int) (row : List Int) (hp : PsOk ps row) : qJ Tryz.prog 98 [.ptr 1000000 0, .p (zJ row)] (wvO (.fn F []) ps 1000002 d met rows) (.p (pI (-1 - fl (row.map fun x => -1 - x)))) (wvO (.fn F []) ps 1000002 d met rows) := by
 have lr : (row.map fun i => [pI i]).length = row.length := by simp
 have hfew : row.length ≤ 1000 := by have := hp.few; have := hp.len; omega
 refine qD (ts := [4]) Tryz.func98 (by kernel_rfl) rfl rfl rfl ?_
 refine uA ?_
 refine uA ?_
 refine uA ?_
 refine uB ?_
 refine SW.wk (zp 5 900 3 1 rfl rfl) ?_
 refine uZ [0, 5, 8, 9, 10] ([(1000000, 1000000), (1000001, 1000001), (1000002, 1000002), (1000003, 1000003)] ++ [(900, 0)]) ?_
 refine qw (fun m s => ∃ (k : Nat) (kk : Int), k ≤ row.length ∧ m = row.length - k ∧ kk = k ∧ s = ⟨27, [(0, .ptr 1000000 0), (5, .row 0), (8, .p (zJ row)), (9, .p (pI (row.map fun i => [pI i]).length)), (10, .p (pI kk))], wvO (.fn F []) ps 1000002 d met rows ++ [(0, .row 3 1 (((row.take k).map fun x => -1 - x).map fun i => [pI i]))]⟩) row.length ⟨0, 0, Nat.zero_le _, rfl, rfl, rfl⟩ ?_
 rintro m s ⟨k, _, hk, rfl, rfl, rfl⟩
 refine uA ?_
 refine uC (fun hlt => ?_) (fun hlt => ?_)
 · refine qd ?_
   rw [lr] at hlt
   simp only [decide_eq_true_eq] at hlt
   have hlt' : k < row.length := by omega
   have hw := hp.ways _ (List.getElem_mem hlt')
   obtain ⟨w, hwe⟩ : ∃ w, w = row[k] := ⟨_, rfl⟩
   rw [← hwe] at hw
   have e9 : ((row.take (k + 1)).map fun x => -1 - x).map (fun i => [pI i]) = ((row.take k).map fun x => -1 - x).map (fun i => [pI i]) ++ [[pI (-1 - w)]] := by
    rw [List.take_succ_eq_append_getElem hlt', ← hwe, List.map_append, List.map_append]; rfl
   refine uB ?_
   refine uR ?_
   refine qe qa rfl rfl (by rw [lr]; omega) rfl ?_
   rw [qm hlt', ← hwe]
   refine uS ?_
   refine qb ?_
   refine uR ?_
   rw [show IntKind.i64.wrap (-1 - w) = -1 - w from IntWalk.i64_in _ (by omega)]
   refine uS ?_
   refine qy rfl (qg qa rfl rfl rfl rfl rfl rfl rfl rfl rfl rfl rfl rfl rfl rfl rfl rfl (by simp only [List.length_append, List.length_map, List.length_take, List.length_cons, List.length_nil]; unfold reachBytes; omega) (by simp only [List.length_append, List.length_map, List.length_take, List.length_cons, List.length_nil]; omega) ?_)
   refine uS ?_
   refine qb ?_
   refine uA ?_
   refine ⟨_, _, ?_, qh [0, 5, 8, 9, 10] ([(1000000, 1000000), (1000001, 1000001), (1000002, 1000002), (1000003, 1000003)] ++ [(18, 0)]) rfl rfl, k + 1, _, hlt', rfl, qf hlt' (by omega), ?_⟩
   · omega
   · rw [e9]; rfl
 · refine qt ?_
   rw [lr] at hlt
   simp only [decide_eq_false_iff_not] at hlt
   have hkk : k = row.length := by omega
   subst hkk
   rw [List.take_length]
   have hways : ∀ x ∈ row.map (fun x => -1 - x), -2199023255552 ≤ x ∧ x ≤ 2199023255552 := fun x hx => by
    obtain ⟨y, hy, rfl⟩ := List.mem_map.1 hx
    have := hp.ways y hy
    omega
   have HC := hF.call (row.map fun x => -1 - x) (by simpa using hfew) hways
   have hb := hF.bd _ hways
   generalize row.map (fun x => -1 - x) = l at *
   refine uR ?_
   refine uW [(0, 1000000)] HC ?_
   rw [show IntKind.i64.wrap (-1 - fl l) = -1 - fl l from IntWalk.i64_in _ (by omega)]
   refine uS ?_
   refine qb ?_
   refine uQ ?_
   exact uF [(1000000, 1000000), (1000001, 1000001), (1000002, 1000002), (1000003, 1000003)]
def WfB (l : List Br) : Prop := ∀ (i : Nat) (h : i < l.length), 0 ≤ l[i].atom ∧ l[i].atom < 64 ∧ ∀ j, j < 3 → -1048576 ≤ l[i].to j ∧ (0 ≤ l[i].to j → ∃ (k : Nat) (hk : k < i), l[i].to j = k ∧ l[i].atom < (l[k]'(Nat.lt_trans hk h)).atom)
theorem zY {l : List Br} {w : Int} {b : Br} (h : brD l w = some b) : ∃ (k : Nat) (hk : k < l.length), w = k ∧ b = l[k] := by
 unfold brD at h
 split at h
 · cases h
 · obtain ⟨hk, e⟩ := List.getElem?_eq_some_iff.1 h
   exact ⟨w.toNat, hk, by omega, e.symm⟩
theorem brD_at {l : List Br} {k : Nat} (hk : k < l.length) : brD l (k : Int) = some l[k] := by
 unfold brD
 rw [if_neg (by omega), Int.toNat_natCast, List.getElem?_eq_getElem hk]
abbrev minF (a : Int) (p : Pt × Int) : Int := match brD p.1.l p.2 with
 | some b => min a b.atom
 | none => a
theorem minF_fold : ∀ (x : List (Pt × Int)) (a0 : Int), x.foldl minF a0 ≤ a0 ∧ (∀ p ∈ x, ∀ b, brD p.1.l p.2 = some b → x.foldl minF a0 ≤ b.atom) ∧ ∀ c, c ≤ a0 → (∀ p ∈ x, ∀ b, brD p.1.l p.2 = some b → c ≤ b.atom) → c ≤ x.foldl minF a0
 | [], a0 => ⟨Int.le_refl _, (fun p hp => nomatch hp), fun c h _ => h⟩
 | p :: x, a0 => by
   obtain ⟨h1, h2, h3⟩ := minF_fold x (minF a0 p)
   have h4 : minF a0 p ≤ a0 ∧ ∀ b, brD p.1.l p.2 = some b → minF a0 p ≤ b.atom := by
    unfold minF
    cases hb : brD p.1.l p.2 with
    | none => exact ⟨Int.le_refl _, fun b h => by cases h⟩
    | some b => exact ⟨Int.min_le_left _ _, fun b' h => by cases h; exact Int.min_le_right _ _⟩
   rw [List.foldl_cons]
   refine ⟨Int.le_trans h1 h4.1, fun q hq b hb => ?_, fun c hc hh => ?_⟩
   · rcases List.mem_cons.1 hq with rfl | hq
     · exact Int.le_trans h1 (h4.2 b hb)
     · exact h2 q hq b hb
   · refine h3 c ?_ fun q hq => hh q (List.mem_cons_of_mem _ hq)
     unfold minF
     cases hb : brD p.1.l p.2 with
     | none => exact hc
     | some b => exact Int.le_min.2 ⟨hc, hh p List.mem_cons_self b hb⟩
theorem atomW_le (x : List (Pt × Int)) : qq x ≤ 64 := (minF_fold x 64).1
theorem atomW_min {x : List (Pt × Int)} {p : Pt × Int} (hp : p ∈ x) {b : Br} (hb : brD p.1.l p.2 = some b) : qq x ≤ b.atom := (minF_fold x 64).2.1 p hp b hb
theorem atomW_ge {x : List (Pt × Int)} {c : Int} (h : c ≤ 64) (hh : ∀ p ∈ x, ∀ b, brD p.1.l p.2 = some b → c ≤ b.atom) : c ≤ qq x := (minF_fold x 64).2.2 c h hh
theorem atomW_some : ∀ (x : List (Pt × Int)) (a0 : Int), x.foldl minF a0 = a0 ∨ ∃ p ∈ x, ∃ b, brD p.1.l p.2 = some b ∧ x.foldl minF a0 = b.atom
 | [], a0 => .inl rfl
 | p :: x, a0 => by
   rw [List.foldl_cons]
   rcases atomW_some x (minF a0 p) with h | ⟨q, hq, b, hb, h⟩
   · rw [h]
     unfold minF
     cases hb : brD p.1.l p.2 with
     | none => exact .inl rfl
     | some b =>
       rcases Int.le_total a0 b.atom with hle | hle
       · exact .inl (Int.min_eq_left hle)
       · exact .inr ⟨p, List.mem_cons_self, b, hb, Int.min_eq_right hle⟩
   · exact .inr ⟨q, List.mem_cons_of_mem _ hq, b, hb, h⟩
theorem zip_on {ps : List Pt} {row : List Int} (h : ps.length = row.length) (a : Int) (j : Nat) : ps.zip (onW (ps.zip row) a j) = (ps.zip row).map fun p => (p.1, onB p a j) := by
 unfold onW
 induction ps generalizing row with
 | nil => rfl
 | cons p ps ih =>
   cases row with
   | nil => cases h
   | cons w row =>
     simp only [List.zip_cons_cons, List.map_cons, List.cons.injEq, true_and]
     exact ih (by simpa using h)
theorem onB_br {p : Pt × Int} (hw : WfB p.1.l) {a : Int} (ha : ∀ b, brD p.1.l p.2 = some b → a ≤ b.atom) {j : Nat} (hj : j < 3) {b' : Br} (hb : brD p.1.l (onB p a j) = some b') : a < b'.atom := by
 unfold onB at hb
 cases e : brD p.1.l p.2 with
 | none => rw [e] at hb; simp only at hb; rw [e] at hb; cases hb
 | some b =>
   rw [e] at hb
   simp only at hb
   split at hb
   · rename_i hat
     obtain ⟨k, hk, e1, e2⟩ := zY hb
     obtain ⟨i, hi, e3, e4⟩ := zY e
     have h1 := (hw i hi).2.2 j hj
     rw [← e4] at h1
     obtain ⟨k', hk', e5, e6⟩ := h1.2 (by omega)
     have : k' = k := by omega
     subst this
     rw [e2, ← hat]; exact e6
   · rename_i hat
     rw [e] at hb
     cases hb
     have := ha _ e
     omega
theorem atom_on {ps : List Pt} {row : List Int} (h : ps.length = row.length) (hw : ∀ p ∈ ps, WfB p.l) (ha : qq (ps.zip row) < 64) {j : Nat} (hj : j < 3) : qq (ps.zip row) < qq (ps.zip (onW (ps.zip row) (qq (ps.zip row)) j)) := by
 rw [zip_on h]
 have := atomW_ge (x := (ps.zip row).map fun p => (p.1, onB p (qq (ps.zip row)) j)) (c := qq (ps.zip row) + 1) (by omega) fun q hq b hb => by
  obtain ⟨p, hp, rfl⟩ := List.mem_map.1 hq
  have h1 := onB_br (hw p.1 (List.of_mem_zip (a := p.1) (b := p.2) hp).1) (fun b1 hb1 => atomW_min hp hb1) hj hb
  omega
 omega
theorem onB_bd {p : Pt × Int} (hw : WfB p.1.l) (hl : p.1.l.length ≤ 100000) (h2 : -1099511627776 ≤ p.2 ∧ p.2 ≤ 1099511627776) (a : Int) {j : Nat} (hj : j < 3) : -1099511627776 ≤ onB p a j ∧ onB p a j ≤ 1099511627776 := by
 unfold onB
 cases e : brD p.1.l p.2 with
 | none => exact h2
 | some b =>
   simp only
   split
   · obtain ⟨i, hi, e3, e4⟩ := zY e
     have h1 := (hw i hi).2.2 j hj
     rw [← e4] at h1
     refine ⟨by omega, ?_⟩
     by_cases h0 : 0 ≤ b.to j
     · obtain ⟨k, hk, e5, _⟩ := h1.2 h0
       omega
     · omega
   · exact h2
theorem PsOk.on {ps : List Pt} {row : List Int} (h : PsOk ps row) (hw : ∀ p ∈ ps, WfB p.l) (a : Int) {j : Nat} (hj : j < 3) : PsOk ps (onW (ps.zip row) a j) where
 len := by unfold onW; rw [List.length_map, List.length_zip]; have := h.len; omega
 few := h.few
 dag := h.dag
 ways := fun x hx => by
  obtain ⟨p, hp, rfl⟩ := List.mem_map.1 hx
  obtain ⟨h1, h2⟩ := List.of_mem_zip (a := p.1) (b := p.2) hp
  exact onB_bd (hw _ h1) (h.dag _ h1) (h.ways _ h2) a hj
theorem make_len {l : List Br} {x : Br} (h : l.length ≤ 2000) : (zU 2000 l x).2.2.length ≤ 2000 := by
 unfold zU
 repeat' split
 all_goals first | exact h | (simp only [List.length_append, List.length_singleton]; omega)
section
variable {σ : Type} {ps : List Pt} {f : σ → List Int → Int × σ} {n : Nat} {w : Wv σ} {row : List Int}
def Wv.inc (w : Wv σ) : Wv σ := { w with rows := w.rows + 1 }
theorem wG {v : Int} (h : metF w.met row = some v) : wayW ps f (n + 1) w row = (v, 0, w) := by
 rw [wayW, h]
theorem wy (h : metF w.met row = none) (h1 : 6000 < w.rows + 1) : wayW ps f (n + 1) w row = (0, 6, w.inc) := by
 rw [wayW, h]; simp only [if_pos h1]; rfl
def endV (f : σ → List Int → Int × σ) (w : Wv σ) (row : List Int) : Int := -1 - (f w.st (row.map fun x => -1 - x)).1
theorem qaJ (h : metF w.met row = none) (h1 : ¬ 6000 < w.rows + 1) (h2 : qq (ps.zip row) = 64) : wayW ps f (n + 1) w row = (endV f w row, 0, ⟨w.d, w.met ++ [(row, endV f w row)], w.rows + 1, (f w.st (row.map fun x => -1 - x)).2⟩) := by
 rw [wayW, h]; simp only [if_neg h1, if_pos h2]; rfl
variable (h : metF w.met row = none) (h1 : ¬ 6000 < w.rows + 1) (h2 : ¬ qq (ps.zip row) = 64)
include h h1 h2
theorem way_e0 {v0 e0 : Int} {w0 : Wv σ} (q0 : wayW ps f n w.inc (onW (ps.zip row) (qq (ps.zip row)) 0) = (v0, e0, w0)) (he : e0 ≠ 0) : wayW ps f (n + 1) w row = (0, e0, w0) := by
 unfold Wv.inc at q0
 rw [wayW, h]
 simp only [if_neg h1, if_neg h2, q0, if_pos he]
theorem way_e1 {v0 v1 e1 : Int} {w0 w1 : Wv σ} (q0 : wayW ps f n w.inc (onW (ps.zip row) (qq (ps.zip row)) 0) = (v0, 0, w0)) (q1 : wayW ps f n w0 (onW (ps.zip row) (qq (ps.zip row)) 1) = (v1, e1, w1)) (he : e1 ≠ 0) : wayW ps f (n + 1) w row = (0, e1, w1) := by
 unfold Wv.inc at q0
 rw [wayW, h]
 simp only [if_neg h1, if_neg h2, q0, ne_eq, not_true_eq_false, if_false, q1, if_neg (show ¬ (¬ e1 ≠ 0) from fun h => h he), if_pos he]
theorem way_e2 {v0 v1 v2 e2 : Int} {w0 w1 w2 : Wv σ} (q0 : wayW ps f n w.inc (onW (ps.zip row) (qq (ps.zip row)) 0) = (v0, 0, w0)) (q1 : wayW ps f n w0 (onW (ps.zip row) (qq (ps.zip row)) 1) = (v1, 0, w1))
 (q2 : wayW ps f n w1 (onW (ps.zip row) (qq (ps.zip row)) 2) = (v2, e2, w2)) (he : e2 ≠ 0) : wayW ps f (n + 1) w row = (0, e2, w2) := by
 unfold Wv.inc at q0
 rw [wayW, h]
 simp only [if_neg h1, if_neg h2, q0, ne_eq, not_true_eq_false, if_false, q1, q2, if_pos he]
theorem way_ok {v0 v1 v2 : Int} {w0 w1 w2 : Wv σ} (q0 : wayW ps f n w.inc (onW (ps.zip row) (qq (ps.zip row)) 0) = (v0, 0, w0)) (q1 : wayW ps f n w0 (onW (ps.zip row) (qq (ps.zip row)) 1) = (v1, 0, w1))
 (q2 : wayW ps f n w1 (onW (ps.zip row) (qq (ps.zip row)) 2) = (v2, 0, w2)) : wayW ps f (n + 1) w row = ((zU 2000 w2.d ⟨qq (ps.zip row), v0, v1, v2⟩).1, (zU 2000 w2.d ⟨qq (ps.zip row), v0, v1, v2⟩).2.1, ⟨(zU 2000 w2.d ⟨qq (ps.zip row), v0, v1, v2⟩).2.2, w2.met ++ [(row, (zU 2000 w2.d ⟨qq (ps.zip row), v0, v1, v2⟩).1)], w2.rows, w2.st⟩) := by
 unfold Wv.inc at q0
 rw [wayW, h]
 simp only [if_neg h1, if_neg h2, q0, ne_eq, not_true_eq_false, if_false, q1, q2]
end
structure WInv {σ : Type} (ps : List Pt) (w : Wv σ) (row : List Int) (r : Int × Int × Wv σ) : Prop where
 d : r.2.2.d.length ≤ 2000
 lo : w.rows ≤ r.2.2.rows
 hi : r.2.2.rows ≤ 6001
 ok : r.2.1 = 0 → r.2.2.rows ≤ 6000
 met : ∀ p ∈ r.2.2.met, p ∈ w.met ∨ qq (ps.zip row) ≤ qq (ps.zip p.1)
theorem wV {σ : Type} {ps : List Pt} {f : σ → List Int → Int × σ} (hw : ∀ p ∈ ps, WfB p.l) : ∀ (n : Nat) (w : Wv σ) (row : List Int), PsOk ps row → 64 - qq (ps.zip row) < n → w.d.length ≤ 2000 → w.rows ≤ 6000 → WInv ps w row (wayW ps f n w row)
 | 0, w, row, _, hn, _, _ => absurd hn (by have := atomW_le (ps.zip row); omega)
 | n + 1, w, row, hp, hn, hd, hr => by
   cases hm : metF w.met row with
   | some v =>
     rw [wG hm]
     exact ⟨hd, Int.le_refl _, by show w.rows ≤ 6001; omega, fun _ => hr, fun p hp => .inl hp⟩
   | none =>
     by_cases h1 : 6000 < w.rows + 1
     · rw [wy hm h1]
       exact ⟨hd, by show w.rows ≤ w.rows + 1; omega, by show w.rows + 1 ≤ 6001; omega, fun h => (by cases h), fun p hp => .inl hp⟩
     by_cases h2 : qq (ps.zip row) = 64
     · rw [qaJ hm h1 h2]
       refine ⟨hd, by show w.rows ≤ w.rows + 1; omega, by show w.rows + 1 ≤ 6001; omega, fun _ => by show w.rows + 1 ≤ 6000; omega, fun p hp => ?_⟩
       rcases List.mem_append.1 hp with hp | hp
       · exact .inl hp
       · rw [List.mem_singleton] at hp
         subst hp
         exact .inr (Int.le_refl _)
     have ha := atomW_le (ps.zip row)
     have hat := fun (j : Nat) (hj : j < 3) => atom_on hp.len hw (show qq (ps.zip row) < 64 by omega) hj
     have hps := fun (j : Nat) (hj : j < 3) => hp.on hw (qq (ps.zip row)) hj
     obtain ⟨⟨v0, e0, w0⟩, q0⟩ : ∃ r, wayW ps f n w.inc (onW (ps.zip row) (qq (ps.zip row)) 0) = r := ⟨_, rfl⟩
     have i0 := wV hw (f := f) n w.inc _ (hps 0 (by omega)) (by have := hat 0 (by omega); omega) hd (by show w.rows + 1 ≤ 6000; omega)
     rw [q0] at i0
     have k0 : w.inc.rows = w.rows + 1 := rfl
     have m0 : ∀ p ∈ w0.met, p ∈ w.met ∨ qq (ps.zip row) ≤ qq (ps.zip p.1) := fun p hp => (i0.met p hp).imp id fun h => by have := hat 0 (by omega); omega
     have l0 := i0.lo
     by_cases z0 : e0 = 0
     rotate_left
     · rw [way_e0 hm h1 h2 q0 z0]
       exact ⟨i0.d, by show w.rows ≤ w0.rows; simp only at l0; omega, i0.hi, i0.ok, m0⟩
     subst z0
     obtain ⟨⟨v1, e1, w1⟩, q1⟩ : ∃ r, wayW ps f n w0 (onW (ps.zip row) (qq (ps.zip row)) 1) = r := ⟨_, rfl⟩
     have i1 := wV hw (f := f) n w0 _ (hps 1 (by omega)) (by have := hat 1 (by omega); omega) i0.d (i0.ok rfl)
     rw [q1] at i1
     have m1 : ∀ p ∈ w1.met, p ∈ w.met ∨ qq (ps.zip row) ≤ qq (ps.zip p.1) := fun p hp => (i1.met p hp).elim (m0 p) fun h => .inr (by have := hat 1 (by omega); omega)
     have l1 := i1.lo
     by_cases z1 : e1 = 0
     rotate_left
     · rw [way_e1 hm h1 h2 q0 q1 z1]
       exact ⟨i1.d, by show w.rows ≤ w1.rows; simp only at l0 l1; omega, i1.hi, i1.ok, m1⟩
     subst z1
     obtain ⟨⟨v2, e2, w2⟩, q2⟩ : ∃ r, wayW ps f n w1 (onW (ps.zip row) (qq (ps.zip row)) 2) = r := ⟨_, rfl⟩
     have i2 := wV hw (f := f) n w1 _ (hps 2 (by omega)) (by have := hat 2 (by omega); omega) i1.d (i1.ok rfl)
     rw [q2] at i2
     have m2 : ∀ p ∈ w2.met, p ∈ w.met ∨ qq (ps.zip row) ≤ qq (ps.zip p.1) := fun p hp => (i2.met p hp).elim (m1 p) fun h => .inr (by have := hat 2 (by omega); omega)
     have l2 := i2.lo
     by_cases z2 : e2 = 0
     rotate_left
     · rw [way_e2 hm h1 h2 q0 q1 q2 z2]
       exact ⟨i2.d, by show w.rows ≤ w2.rows; simp only at l0 l1 l2; omega, i2.hi, i2.ok, m2⟩
     subst z2
     rw [way_ok hm h1 h2 q0 q1 q2]
     refine ⟨make_len i2.d, by show w.rows ≤ w2.rows; simp only at l0 l1 l2; omega, i2.hi, fun _ => i2.ok rfl, fun p hp => ?_⟩
     rcases List.mem_append.1 hp with hp | hp
     · exact m2 p hp
     · rw [List.mem_singleton] at hp
       subst hp
       exact .inr (Int.le_refl _)
section
variable {P : Program} {T : TT} (hT : qX P T) {st : St}
include hT
theorem act_lookupF {o : Oper} {t : TypeId} {m k : Operand} (ho : o.op = .lookup t m k false) {ti ki ei : TyI} {kt et : TypeId} (ht : lk t T = some ti) (hte : ti.d = .mp kt et) (hk : lk kt T = some ki) (he : lk et T = some ei) {j : Nat} (hm : evS st m = some (.row j)) {es : List (Value × PV)} (hj : lk j st.own = some (.mp es))
 {kv : Value} (hkv : evS st k = some (.p (.v kv))) (hd : kdOk ki.d kv = true) (hall : es.all (fun x => kdOk ki.d x.1) = true) {p : PV} (hfd : mfind kv es = some p) (hdst : zl st o.dst = true) {Q : St → Prop} (h : Q (st.put o.dst (.p p))) : ActOk P [] o st Q := by
 refine jl (K := []) (RdO.of_sem (sem := fun a => Instr.lookup t (a.eval m) (a.eval k) false) (fun a => by simp [execOp, ho]) fun w0 Sx γ a w hI => ?_) hdst h
 have hu := (hT t _ ht).und
 rw [hte] at hu
 simp only [je] at hu
 obtain ⟨td, q1, q2⟩ := kd_und (hT kt _ hk).und hd
 cases hI.heap.box j _ hj with
 | @mp _ ens clock b hg hB hh hl hr =>
   have hkv' := (qp hI hkv).v_inv
   have hmv : a.eval m = .map (some b) := by
    have := qp hI hm
    generalize a.eval m = u at this ⊢
    cases this with
    | row h0 => unfold hp at h0; rw [hj] at h0; simp only [Option.some.injEq] at h0; rw [← h0, hg]
   have hlook : ∀ x : World, SameOn (vis [] γ st.own) w x → x.heap[b]? = some (.map ens.toArray clock) := fun x hx => by
    rw [hx.block b (lt_of_block hh) fun i bx hi hKi hb => by cases hKi]; exact hh
   simp only [hkv', hmv]
   rcases wi q2 hd (es := es) (ens := ens) 0 hl (fun j x e h1 h2 => (hr j x e h1 h2).1) hall with ⟨h1, h2⟩ | ⟨n, x, e, h1, h2, h3, h4⟩
   · rw [h1] at hfd; cases hfd
   · rw [h1] at hfd
     cases hfd
     refine ⟨e.val, .p (hr n x e h2 h3).2, fun x hx => ?_⟩
     simp [Instr.lookup, run_underlying hu, MapKept.run_getObj_map (hlook x hx), MapKept.run_checkKey q1 (q2 _ hd), MapKept.run_findKey q1 h4, Result.andThen]
end
section
variable {P : Program} {T : TT} (hT : qX P T) {st : St} {K : List Nat}
include hT
theorem rdO_build3 {o : Oper} {t e : TypeId} {x y z : Int} (ho : o.op = .build t #[(0, .const (.int .i64 x)), (1, .const (.int .i64 y)), (2, .const (.int .i64 z))]) {m m2 : Nat} {q q2 : Bool} {z2 : List Value} (ht : lk t T = some ⟨3, m, .arr 3 e, [.int .i64 0, .int .i64 0, .int .i64 0], q⟩)
 (he : lk e T = some ⟨1, m2, .int .i64, z2, q2⟩) : RdO P K st o (.p (.agg [.v (.int .i64 x), .v (.int .i64 y), .v (.int .i64 z)])) := by
 refine RdO.of_sem (sem := fun a => Instr.build t #[(0, .int .i64 x), (1, .int .i64 y), (2, .int .i64 z)]) (fun a => by simp [execOp, ho, Act.eval]) fun w0 Sx γ a w hI => ?_
 have hu : P.underlying t = some (.array 3 e) := (hT t _ ht).und
 obtain ⟨info, zv, z1, _, _, z2', z3⟩ := (hT t _ ht).info
 have hzc : zv.cells = #[.int .i64 0, .int .i64 0, .int .i64 0] := by
  apply Array.toList_inj.1
  exact z3
 refine ⟨.agg #[.int .i64 x, .int .i64 y, .int .i64 z], .p (.agg (us := [.int .i64 x, .int .i64 y, .int .i64 z]) rfl fun i s u hs hu => ?_), fun w' _ => ?_⟩
 · match i, hs, hu with
   | 0, hs, hu => cases hs; cases hu; exact .v rfl
   | 1, hs, hu => cases hs; cases hu; exact .v rfl
   | 2, hs, hu => cases hs; cases hu; exact .v rfl
 · have hc : ∀ n, (Value.int .i64 n).cells = #[.int .i64 n] := fun _ => rfl
   simp [Instr.build, zeroValue, typeInfo, z1, z2', hzc, run_underlying hu, (hT e _ he).size, Instr.fill, hc, Result.andThen]
end
theorem swm_rdX {P : Program} {ops : List Oper} {K : List Nat} {st : St} {Q : St → Prop} {i : Nat} {r : List (Nat × Bool)} {o : Oper} {s : SV} (hi : nthO ops i = some o) (hw : ja ops st o = some true) (hr : RdO P K st o s) (hd : zl st o.dst = true) (h : SWM P ops K r Q (st.put o.dst s)) : SWM P ops K ((i, true) :: r) Q st := fun w0 Sx γ a w QQ hI hQ => by
 have hrest := fun v (hv : RelS (okO Sx γ st.own) (hp γ st.own) w s v) => h w0 Sx γ _ w QQ (hI.put (dst := o.dst) hd hv) hQ
 simp only [wS] at hrest
 obtain ⟨v, h1, h2⟩ := hr w0 Sx γ a w hI
 exact ⟨SameOn.refl _ _, o, v, (zG ops i).trans hi, Or.inl ⟨zw hI hw, h2⟩, hrest v h1⟩
theorem holdsE_sh {P : Program} {f : FuncId} {fn : Func} {c : Code} {args : List PV} {R : SV → Prop} {ts : List Tmp} (hf : P.funcs[f]? = some fn) (hname : (fn.name == "runtime.NumGoroutine") = false) (hb : fn.body = some c)
 (hres : fn.results = (ts.map ResultVar.tmp).toArray) (hn : (Nat.ble args.length fn.ntmps && Nat.ble fn.ntmps 900) = true) (h : SW P c (FinR ts fun r _ => R r ∧ flatS r = true) ⟨fn.ntmps, argFr 0 args, []⟩) : HoldsE P f args R := by
 refine ⟨⟨fn, hf, hname, by rw [hb]; rfl⟩, fun w Sx vs hSx hl hr => ?_⟩
 rw [← argFrS_p] at h
 refine (body_run (args := args.map .p) hf hb hres (by simpa using hn) h (belowB_entry.2 (Below.refl _ w)) (heap_nil hSx fun _ => .nilIface) (by simpa using hl) fun i s u hs hu => ?_).mono fun e w' he => ?_
 · rw [List.getElem?_map] at hs
   obtain ⟨x, hx, rfl⟩ := Option.map_eq_some_iff.1 hs
   exact .p ((hr i x u hx hu).weak fun b _ hok => ⟨hok, fun i bx hi => by cases hi⟩)
 · obtain ⟨v, γ', r', o', ⟨h0, hfl⟩, h1, h2, h3, h4⟩ := he
   exact ⟨r', v, h0, hfl, h1, belowB_entry.1 h2, h4.flat hfl⟩
theorem wk_shrink {st : St} (t : Tmp) {j z k : Nat} {e : TypeId} {l : List (List PV)} (d : Nat) (ht : lk t st.fr = some (.view j z 0 k)) (hj : lk j st.own = some (.row e z l)) (hd : lk d st.own = none) (hn : Nat.blt d 1000000 = true) :
 Wk st ⟨st.n, (t, .row d) :: killF j st.fr, (d, .row e z (l.take k)) :: killO j st.own⟩ := fun w0 Sx γ a w hI => by
 have hdj : d ≠ j := fun e => by subst e; rw [hj] at hd; cases hd
 have hlt : d < 1000000 := by simpa [Nat.blt, Nat.lt_iff_add_one_le] using hn
 have hv := hI.fr t _ ht
 generalize hu : a.tmps.getD t undef = u at hv
 cases hI.heap.box j _ hj with
 | row hrow hel hml hkj =>
 obtain ⟨A0, c0, hsh, hlc, _⟩ := hrow.shape
 have hub : ∃ c, u = .slice A0 k c ∧ k ≤ l.length ∧ c = c0 := by
  cases hv with
  | @view _ _ _ _ n c A A' hg h1 h2 h3 h4 =>
    rw [qI hj, hsh] at hg
    cases hg
    refine ⟨c0, ?_, h2, rfl⟩
    rw [h4 (Or.inr rfl), Nat.zero_mul]
    cases A0 with
    | none => rfl
    | some ad => simp [Addr.add]
 obtain ⟨c, rfl, hkl, rfl⟩ := hub
 have hublk : ∀ b, qK (.slice A0 k c) = some b → qK (γ j) = some b := fun b hb => by rw [hsh]; cases A0 <;> first | exact hb | cases hb
 generalize hown' : ((d, Box.row e z (l.take k)) :: killO j st.own) = own' at *
 have lk' : ∀ i, lk i own' = if i = d then some (.row e z (l.take k)) else if i = j then none else (lk i st.own).map (klB j) := fun i => by
  rw [← hown', qA, lk_killO]
 have hud : upd γ d (.slice A0 k c) d = .slice A0 k c := if_pos rfl
 have huo : ∀ i, i ≠ d → upd γ d (.slice A0 k c) i = γ i := fun i hi => if_neg hi
 have old : ∀ {i bx}, lk i own' = some bx → i ≠ d → i ≠ j ∧ ∃ by_, lk i st.own = some by_ ∧ bx = klB j by_ := fun {i bx} hi hid => by
  rw [lk', if_neg hid] at hi
  by_cases e : i = j
  · rw [if_pos e] at hi; cases hi
  · rw [if_neg e] at hi
    cases h2 : lk i st.own with
    | none => rw [h2] at hi; cases hi
    | some by_ => rw [h2] at hi; cases hi; exact ⟨e, by_, rfl, rfl⟩
 have okn : ∀ b, okO Sx γ st.own b → okO Sx (upd γ d (.slice A0 k c)) own' b := fun b hok => ⟨hok.1, fun i bx hi hib => by
  by_cases e : i = d
  · subst e; rw [hud] at hib; exact hok.2 j _ hj (hublk b hib)
  · obtain ⟨_, by_, h2, _⟩ := old hi e
    rw [huo i e] at hib; exact hok.2 i by_ h2 hib⟩
 have keepS : ∀ {s : SV} {u : Value}, RelS (okO Sx γ st.own) (hp γ st.own) w s u → RelS (okO Sx (upd γ d (.slice A0 k c)) own') (hp (upd γ d (.slice A0 k c)) own') w (kl j s) u := fun {s u} h => by
  have h1 := h.kl j
  refine h1.keep2 (Nat.le_refl _) (fun b _ hok => ⟨rfl, okn b hok⟩) fun i hi => ?_
  have hij : i ≠ j := fun e => by subst e; rw [noRef_kl] at hi; cases hi
  have hs := qaI hi
  cases h2 : lk i st.own with
  | none => rw [h.live (jv h2)] at hs; cases hs.1
  | some by_ =>
    have hid : i ≠ d := fun e => by subst e; rw [hd] at h2; cases h2
    rw [qI h2, qI (bx := klB j by_) (by rw [lk', if_neg hid, if_neg hij, h2]; rfl), huo i hid]
 have hS : Sim w0 Sx (upd γ d (.slice A0 k c)) ⟨st.n, (t, .row d) :: killF j st.fr, own'⟩ a w := by
  refine ⟨hI.below, hI.size, hI.defers, fun t' s ht' => ?_, fun i bx hi => ?_, fun i m bi bm b hi hm hbi hbm => ?_, hI.heap.sx.keep (Nat.le_refl _) fun i bx hi => ?_⟩
  · have ht2 : (if t' = t then some (SV.row d) else lk t' (killF j st.fr)) = some s := by rw [← qA]; exact ht'
    by_cases e1 : t' = t
    · rw [if_pos e1] at ht2
      cases ht2
      subst e1
      rw [hu]
      exact .row (by rw [qI (bx := .row e z (l.take k)) (by rw [lk', if_pos rfl]), hud])
    · rw [if_neg e1] at ht2
      have ht3 : (lk t' st.fr).map (kl j) = some s := by rw [← lk_killF]; exact ht2
      obtain ⟨s0, p1, rfl⟩ := Option.map_eq_some_iff.1 ht3
      exact keepS (hI.fr t' s0 p1)
  · by_cases e1 : i = d
    · subst e1
      rw [lk', if_pos rfl] at hi
      cases hi
      refine .row ?_ (fun x hx => hel x (List.mem_of_mem_take hx)) (by simp; omega) (fun b hb => by rw [hud] at hb; exact hkj b (hublk b hb))
      rw [hud]
      rw [hsh] at hrow
      refine (hrow.take hkl).keep2 good_PV (Nat.le_refl _) (fun _ _ => rfl) fun b _ hok _ => ⟨rfl, hok.1, fun m bm hm hmd hmb => ?_⟩
      obtain ⟨h1, by_, h2, _⟩ := old hm hmd
      rw [huo m hmd] at hmb
      exact hok.2 m by_ h2 h1 hmb
    · obtain ⟨hij, by_, h2, rfl⟩ := old hi e1
      exact (hI.heap.box i by_ h2).keep (Box.rel_map (kl j) (fun _ => rfl) by_) (huo i e1) (Nat.le_refl _) (fun b hb => ⟨rfl, (hI.heap.blk h2 hb).1⟩) (fun b hb hok => ⟨rfl, okn b hok⟩) fun s u s' hs es => by subst es; exact keepS hs
  · by_cases e1 : i = d
    · by_cases e2 : m = d
      · rw [e1, e2]
      · obtain ⟨q1, b0, q2, _⟩ := old hm e2
        subst e1
        rw [hud] at hbi
        rw [huo m e2] at hbm
        exact absurd (hI.heap.inj m j _ _ b q2 hj hbm (hublk b hbi)) q1
    · obtain ⟨p1, c1, p2, _⟩ := old hi e1
      rw [huo i e1] at hbi
      by_cases e2 : m = d
      · subst e2
        rw [hud] at hbm
        exact absurd (hI.heap.inj i j _ _ b p2 hj hbi (hublk b hbm)) p1
      · obtain ⟨q1, b0, q2, _⟩ := old hm e2
        rw [huo m e2] at hbm
        exact hI.heap.inj i m _ _ b p2 q2 hbi hbm
  · by_cases e1 : i = d
    · exact Or.inl (by omega)
    · obtain ⟨_, by_, h2, _⟩ := old hi e1
      exact Or.inr ⟨huo i e1, by rw [h2]; rfl⟩
 exact ⟨_, hS⟩
theorem opR_loadE {T : TT} {K : List Nat} {st : St} {t : TypeId} {ad : Operand} {i : TyI} {j z k : Nat} {e : TypeId} {l : List (List PV)} {x : List PV} {s : PV} (ht : lk t T = some i) (had : evS st ad = some (.eptr j z k 0)) (hK : K.contains j = false) (hj : lk j st.own = some (.row e z l)) (hx : l[k]? = some x) (hs : takeT i x = some s) : opR T K st (.load t ad) = some (k < l.length, .p s) := by
 show rLoad T K st t (evS st ad) = _
 unfold rLoad
 rw [had, ht]
 have h9 : l.getD k [] = x := by rw [List.getD_eq_getElem?_getD, hx]; rfl
 have hz : Nat.beq z z = true := Nat.beq_refl z
 simp only [hK, hj, hz, h9, List.drop_zero, hs, cond_true]
section
variable {P : Program} {T : TT} (hT : qX P T) {st : St} {K : List Nat}
include hT
theorem rdO_slA {o : Oper} {t e : TypeId} {x : Operand} {x1 x2 x3 : Int} (ho : o.op = .slice t x none none none) {m m2 : Nat} {q q2 : Bool} {z z2 : List Value} {r : List PV} (ht : lk t T = some ⟨3, m, .arr 3 e, z, q⟩) (he : lk e T = some ⟨1, m2, .int .i64, z2, q2⟩)
 (hx : evS st x = some (.p (.rp (pI x1 :: pI x2 :: pI x3 :: r)))) : RdO P K st o (.p (.sl 1 [[pI x1], [pI x2], [pI x3]])) := by
 refine RdO.of_sem (sem := fun a => Instr.sliceAt t (a.eval x) none none none) (fun a => by simp [execOp, ho]) fun w0 Sx γ ac w hI => ?_
 have hu : P.underlying t = some (.array 3 e) := (hT t _ ht).und
 have hsz := (hT e _ he).size
 have ex := qp hI hx
 generalize ac.eval x = u at ex ⊢
 cases ex.p_inv with
 | @rp cs b o hok hlt hxx h =>
   refine ⟨.slice (some ⟨b, o, none⟩) 3 3, .p (RelP.sl (l := [[pI x1], [pI x2], [pI x3]]) (Nat.le_refl _) ⟨by show 3 ≤ reachBytes; decide, by decide⟩ (fun e he => ?_) (fun _ => ⟨b, o, rfl, hok, hlt⟩) (fun b' o' i j hA hi hj => ?_) fun b' o' i j e s u hA hi hj hc => ?_), fun w' _ => ?_⟩
   · simp only [List.mem_cons, List.not_mem_nil, or_false] at he
     rcases he with rfl | rfl | rfl <;> exact ⟨rfl, fun s hs => by rw [List.mem_singleton.1 hs]; rfl⟩
   · cases hA
     obtain rfl : j = 0 := by omega
     have hi3 : i < 3 := hi
     rw [Nat.mul_one, Nat.add_zero]
     exact hxx i (by simp only [List.length_cons]; omega)
   · cases hA
     match i, hi with
     | 0, hi =>
       cases hi
       match j, hj with
       | 0, hj => cases hj; exact h 0 _ u rfl hc
     | 1, hi =>
       cases hi
       match j, hj with
       | 0, hj => cases hj; exact h 1 _ u rfl hc
     | 2, hi =>
       cases hi
       match j, hj with
       | 0, hj => cases hj; exact h 2 _ u rfl hc
   · simp [Instr.sliceAt, Instr.sliceBounds, Instr.sureAddr, run_underlying hu, hsz, Result.andThen, Addr.add]
theorem act_lenM {o : Oper} {cl : Call} {t : TypeId} {x : Operand} (ho : o.op = .call cl) (hcl : cl.callee = .builtin .len) (ha : cl.args = #[x]) (hat : cl.argTypes = #[t]) {ti : TyI} {kt et : TypeId} (ht : lk t T = some ti) (hte : ti.d = .mp kt et) {j : Nat} (hm : evS st x = some (.row j)) {es : List (Value × PV)} (hj : lk j st.own = some (.mp es))
 (hdst : zl st o.dst = true) {Q : St → Prop} (h : Q (st.put o.dst (.p (.v (.int .i64 es.length))))) : ActOk P [] o st Q := by
 refine jl (K := []) (RdO.of_sem (sem := fun a => Builtin.len_ #[t] o.type #[a.eval x]) (fun a => by simp [execOp, ho, resolve, hcl, ha, hat, invoke, builtin]) fun w0 Sx γ a w hI => ?_) hdst h
 have hu := (hT t _ ht).und
 rw [hte] at hu
 simp only [je] at hu
 cases hI.heap.box j _ hj with
 | @mp _ ens clock b hg hB hh hl hr =>
   have hmv : a.eval x = .map (some b) := by
    have := qp hI hm
    generalize a.eval x = u at this ⊢
    cases this with
    | row h0 => unfold hp at h0; rw [hj] at h0; simp only [Option.some.injEq] at h0; rw [← h0, hg]
   have hlook : ∀ x : World, SameOn (vis [] γ st.own) w x → x.heap[b]? = some (.map ens.toArray clock) := fun x hx => by
    rw [hx.block b (lt_of_block hh) fun i bx hi hKi hb => by cases hKi]; exact hh
   rw [hmv]
   refine ⟨.int .i64 es.length, .p (.v rfl), fun x hx => ?_⟩
   simp [Builtin.len_, run_underlying hu, MapKept.run_getObj_map (hlook x hx), goInt, hl, Result.andThen]
end
set_option maxHeartbeats 4000000
set_option maxRecDepth 100000
def seenE (S : List Int) : List (Value × PV) := S.map fun k => (.int .i64 k, .agg [])
theorem mfind_seen (w : Int) : ∀ S : List Int, mfind (.int .i64 w) (seenE S) = if w ∈ S then some (.agg []) else none
 | [] => rfl
 | k :: S => by
   have ih := mfind_seen w S
   have hk : keyEq (.int .i64 w) (.int .i64 k) = decide (w = k) := by
    show _ = _
    simp [keyEq]
   show (bif keyEq (.int .i64 w) (.int .i64 k) then some (.agg []) else mfind (.int .i64 w) (seenE S)) = _
   rw [hk, ih]
   by_cases h : w = k
   · subst h; simp
   · simp [h]
theorem seen_ok : ∀ S : List Int, (seenE S).all (fun x => kdOk (.int .i64) x.1) = true
 | [] => rfl
 | k :: S => by
   show (kdOk (.int .i64) (.int .i64 k) && (seenE S).all (fun x => kdOk (.int .i64) x.1)) = true
   rw [seen_ok S]; rfl
theorem seen_snoc (S : List Int) (w : Int) : seenE S ++ [(.int .i64 w, .agg [])] = seenE (S ++ [w]) := by simp [seenE]
structure SzInv (l : List Br) (root : Int) (S W : List Int) : Prop where
 nd : S.Nodup
 ok : ∀ k ∈ S, 0 ≤ k ∧ k < l.length
 yes : 0 ≤ root → root < l.length → S = [] → W = [root]
 no : ¬ (0 ≤ root ∧ root < l.length) → S = [] ∧ ∀ w ∈ W, w = root
theorem nodup_range {S : List Int} : ∀ {n : Nat}, S.Nodup → (∀ k ∈ S, 0 ≤ k ∧ k < n) → S.length ≤ n := by
 intro n
 induction n generalizing S with
 | zero =>
   intro _ h
   cases S with
   | nil => exact Nat.le_refl _
   | cons a S => exact absurd (h a (by simp)) (by omega)
 | succ n ih =>
   intro hd h
   have h1 := ih (S := S.erase (n : Int)) (hd.erase _) fun k hk => by
    have h2 := h k (List.mem_of_mem_erase hk)
    have h3 : k ≠ (n : Int) := fun e => by
     subst e
     exact (List.Nodup.not_mem_erase hd) hk
    omega
   have h4 : S.length ≤ (S.erase (n : Int)).length + 1 := by
    rw [List.length_erase]; split <;> omega
   omega
theorem dsize_h (m : Int) (l : List Br) (hl : l.length ≤ 100000) (root : Int) : HoldsE Tryz.prog 26 [dagP m l, pI root] (fun r => ∃ n : Nat, r = .p (pI (n : Int)) ∧ n ≤ l.length ∧ (n = 0 ↔ ¬ (0 ≤ root ∧ root < l.length))) := by
 refine holdsE_sh (ts := [4]) Tryz.func26 (by kernel_rfl) rfl rfl rfl ?_
 refine uA ?_
 refine uA ?_
 refine uA ?_
 refine uB ?_
 refine uZ [0, 5, 6] [(12, 0), (14, 1)] ?_
 refine qw (fun m' s => ∃ (S W : List Int), SzInv l root S W ∧ W.length ≤ 3 * S.length + 1 ∧ m' + 4 * S.length = 4 * l.length + W.length ∧ s = ⟨55, [(0, .p (dagP m l)), (5, .row 0), (6, .row 1)], [(0, .mp (seenE S)), (1, .row 3 1 (W.map fun i => [pI i]))]⟩) (4 * l.length + 1) ⟨[], [root], ⟨List.nodup_nil, (fun k hk => nomatch hk), (fun _ _ _ => rfl), fun _ => ⟨rfl, fun w hw => by simpa using hw⟩⟩, by simp, by simp, rfl⟩ ?_
 rintro m' s ⟨S, W, hI, hW9, hm, rfl⟩
 have hSl := nodup_range hI.nd hI.ok
 have lW : (W.map fun i => [pI i]).length = W.length := by simp
 refine uA ?_
 rw [lW]
 by_cases hW : W = []
 · subst hW
   refine uC (fun hc => ?_) (fun hc => ?_)
   · cases hc
   refine qt ?_
   have hQ : ∃ n : Nat, (SV.p (pI ((seenE S).length : Int))) = .p (pI (n : Int)) ∧ n ≤ l.length ∧ (n = 0 ↔ ¬ (0 ≤ root ∧ root < l.length)) := by
    refine ⟨S.length, by unfold seenE; rw [List.length_map], hSl, fun h => ?_, fun h => ?_⟩
    · intro hr
      have := hI.yes hr.1 hr.2 (List.eq_nil_of_length_eq_zero h)
      cases this
    · rw [(hI.no h).1]; rfl
   refine uR ?_
   refine qy rfl (act_lenM qa rfl rfl rfl rfl rfl rfl rfl rfl rfl ?_)
   refine uS ?_
   refine qb ?_
   refine uQ ?_
   exact ⟨Or.inr rfl, _, _, [], _, _, Wk.refl _, rfl, rfl, rfl, rfl, hQ, rfl⟩
 obtain ⟨V, w, rfl⟩ : ∃ V w, W = V ++ [w] := ⟨W.dropLast, W.getLast hW, (List.dropLast_concat_getLast hW).symm⟩
 have lV : (V ++ [w]).length = V.length + 1 := by simp
 have hV9 : V.length ≤ 400000 := by omega
 rw [lV]
 rw [show decide (((V.length + 1 : Nat) : Int) > 0) = true by simp]
 refine uC (fun hc => ?_) (fun hc => ?_)
 rotate_left
 · cases hc
 refine qd ?_
 refine uB ?_
 have e1 : IntKind.i64.wrap (((V.length + 1 : Nat) : Int) - 1) = ((V.length : Nat) : Int) := by rw [IntWalk.i64_in _ (by omega)]; omega
 refine uR ?_
 rw [lW, lV, e1]
 refine qe qa rfl rfl (by rw [lW, lV]; omega) rfl ?_
 refine uS ?_
 refine qe qa rfl (opR_loadE (x := [pI w]) rfl rfl rfl rfl (by simp) rfl) (by rw [lW, lV]; exact Nat.lt_succ_self _) rfl ?_
 refine uS ?_
 refine qb ?_
 refine uR ?_
 rw [lW, lV, e1]
 refine qe qa rfl rfl (by rw [lW, lV]; omega) rfl ?_
 refine uS ?_
 refine qb ?_
 refine SW.wk (wk_shrink 6 (k := V.length) 2 rfl rfl rfl rfl) ?_
 refine uZ [0, 5, 6, 7] [(0, 0), (2, 1)] ?_
 change SW _ _ _ ⟨55, [(0, .p (dagP m l)), (5, .row 0), (6, .row 1), (7, .p (pI w))], [(0, .mp (seenE S)), (1, .row 3 1 (((V ++ [w]).map fun i => [pI i]).take V.length))]⟩
 rw [show ((V ++ [w]).map fun i => [pI i]).take V.length = V.map fun i => [pI i] by simp]
 have hB := jI m l hl w
 have hI2 : w ∈ S ∨ brD l w = none → SzInv l root S V := fun hor => by
  refine ⟨hI.nd, hI.ok, fun h1 h2 hS => ?_, fun h => ⟨(hI.no h).1, fun x hx => (hI.no h).2 x (by simp [hx])⟩⟩
  have h3 := hI.yes h1 h2 hS
  subst hS
  have h4 : V = [] ∧ w = root := by
   cases V with
   | nil => simpa using h3
   | cons a V => simp at h3
  rcases hor with h5 | h5
  · cases h5
  · have hk : w.toNat < l.length := by omega
    have := brD_at hk
    rw [show ((w.toNat : Nat) : Int) = w by omega] at this
    rw [this] at h5; cases h5
 refine uR ?_
 refine uK hB ?_
 refine qb ?_
 refine uR ?_
 refine qe qa rfl rfl (seen_ok S) rfl ?_
 rw [mfind_seen]
 by_cases hin : w ∈ S
 · rw [if_pos hin]
   refine uS ?_
   refine qb ?_
   refine uA ?_
   refine uC (fun hx => ?_) (fun hx => ?_)
   rotate_left
   · cases hx
   refine qt ?_
   exact ⟨m' - 1, _, by omega, qh [0, 5, 6] [(0, 0), (1, 1)] rfl rfl, S, V, hI2 (.inl hin), by omega, by omega, rfl⟩
 · rw [if_neg hin]
   refine uS ?_
   refine qb ?_
   unfold brGet
   cases hb : brD l w with
   | none =>
     refine uA ?_
     refine uC (fun hx => ?_) (fun hx => ?_)
     rotate_left
     · cases hx
     refine qt ?_
     exact ⟨m' - 1, _, by omega, qh [0, 5, 6] [(0, 0), (1, 1)] rfl rfl, S, V, hI2 (.inr hb), by omega, by omega, rfl⟩
   | some b =>
     rw [show ((some b).getD zeroBr) = b from rfl]
     refine uA ?_
     refine uC (fun hx => ?_) (fun hx => ?_)
     · cases hx
     refine qd ?_
     obtain ⟨k, hk, hwk, _⟩ := zY hb
     have hI3 : SzInv l root (S ++ [w]) (V ++ [b.a, b.b, b.c]) := by
      refine ⟨?_, fun x hx => ?_, fun h1 h2 hS => by simp at hS, fun h => ?_⟩
      · rw [List.nodup_append]
        exact ⟨hI.nd, by simp, fun y hy z hz e => hin (by rw [List.mem_singleton.1 hz] at e; exact e ▸ hy)⟩
      · rcases List.mem_append.1 hx with hx | hx
        · exact hI.ok x hx
        · rw [List.mem_singleton.1 hx]; omega
      · have := (hI.no h).2 w (by simp)
        omega
     have hS2 := nodup_range hI3.nd hI3.ok
     have lS : (S ++ [w]).length = S.length + 1 := by simp
     refine SW.wk (wk_frzB (k := 8) rfl rfl) ?_
     refine uR ?_
     refine qy rfl (zh qa rfl rfl rfl rfl rfl rfl rfl rfl rfl (seen_ok S) (by rw [mfind_seen, if_neg hin]) rfl ?_)
     refine uS ?_
     refine qb ?_
     refine uR ?_
     refine qy rfl (jl (K := []) (rdO_slA qa rfl rfl rfl rfl) rfl ?_)
     refine uS ?_
     refine qy rfl (qg qa rfl rfl rfl rfl rfl rfl rfl rfl rfl rfl rfl rfl rfl rfl rfl rfl (by simp only [List.length_append, List.length_map, List.length_take, List.length_cons, List.length_nil]; unfold reachBytes; omega) (by simp only [List.length_append, List.length_map, List.length_take, List.length_cons, List.length_nil]; omega) ?_)
     refine uS ?_
     refine qb ?_
     refine ⟨m' - 2, _, by omega, qh [0, 5, 6] [(0, 0), (52, 1)] rfl rfl, S ++ [w], V ++ [b.a, b.b, b.c], hI3, by (simp only [List.length_append, List.length_cons, List.length_nil] at *; omega), by (simp only [List.length_append, List.length_cons, List.length_nil] at *; omega), ?_⟩
     rw [← seen_snoc, List.map_append]; rfl
set_option maxHeartbeats 4000000
theorem metF_no {m : List (List Int × Int)} {row : List Int} (h : ∀ p ∈ m, p.1 ≠ row) : metF m row = none := by
 unfold metF
 rw [Option.map_eq_none_iff, List.find?_eq_none]
 intro p hp
 simpa using h p hp
theorem metF_mem {m : List (List Int × Int)} {row : List Int} (h : metF m row = none) : ∀ p ∈ m, p.1 ≠ row := fun p hp e => by
 unfold metF at h
 rw [Option.map_eq_none_iff, List.find?_eq_none] at h
 exact h p hp (by simpa using e)
theorem metF_snoc {m : List (List Int × Int)} {row : List Int} (h : metF m row = none) (v : Int) : metF (m ++ [(row, v)]) row = some v := by
 have := metF_mem h
 unfold metF at h ⊢
 rw [Option.map_eq_none_iff] at h
 rw [List.find?_append, h]
 simp
def jV (fl : List Int → Int) : Unit → List Int → Int × Unit := fun _ l => (fl l, ())
def WayOk (F : FuncId) (fl : List Int → Int) (ps : List Pt) (n : Nat) : Prop := ∀ (w : Wv Unit) (row : List Int), PsOk ps row → 64 - qq (ps.zip row) < n → w.d.length ≤ 2000 → 0 ≤ w.rows → w.rows ≤ 6000 →
 qJ Tryz.prog 67 [.ptr 1000000 0, .p (zJ row)] (wvO (.fn F []) ps 1000002 w.d w.met w.rows) (.tup [.p (pI (wayW ps (jV fl) n w row).1), .p (pI (wayW ps (jV fl) n w row).2.1)])
  (wvO (.fn F []) ps 0 (wayW ps (jV fl) n w row).2.2.d (wayW ps (jV fl) n w row).2.2.met (wayW ps (jV fl) n w row).2.2.rows)
def TurnW (ps : List Pt) (f : Unit → List Int → Int × Unit) (n : Nat) (w : Wv Unit) (row : List Int) : Nat → Int → Int → Int → Wv Unit → Prop
 | 0, b0, b1, b2, w' => b0 = 0 ∧ b1 = 0 ∧ b2 = 0 ∧ w' = w.inc
 | 1, b0, b1, b2, w' => wayW ps f n w.inc (onW (ps.zip row) (qq (ps.zip row)) 0) = (b0, 0, w') ∧ b1 = 0 ∧ b2 = 0
 | 2, b0, b1, b2, w' => ∃ w0, wayW ps f n w.inc (onW (ps.zip row) (qq (ps.zip row)) 0) = (b0, 0, w0) ∧ wayW ps f n w0 (onW (ps.zip row) (qq (ps.zip row)) 1) = (b1, 0, w') ∧ b2 = 0
 | _, b0, b1, b2, w' => ∃ w0 w1, wayW ps f n w.inc (onW (ps.zip row) (qq (ps.zip row)) 0) = (b0, 0, w0) ∧ wayW ps f n w0 (onW (ps.zip row) (qq (ps.zip row)) 1) = (b1, 0, w1) ∧ wayW ps f n w1 (onW (ps.zip row) (qq (ps.zip row)) 2) = (b2, 0, w')
theorem way_step {F : FuncId} {fl : List Int → Int} (hF : FlOk F fl) (ps : List Pt) (hw : ∀ p ∈ ps, WfB p.l) (n : Nat) (IH : WayOk F fl ps n) : WayOk F fl ps (n + 1) := by
 rintro ⟨d, met, rows, ⟨⟩⟩ row hp hn hd hr0 hr
 have HK := ckey_h row (by have := hp.few; have := hp.len; omega) (fun x hx => by have := hp.ways x hx; exact ⟨by omega, by omega⟩)
 have HA := watom_h (.fn F []) ps d met (rows + 1) row hp
 have HE := wend_h hF ps d met (rows + 1) row hp
 simp only at hd hr0 hr
 refine qD (ts := [4,5]) Tryz.func67 (by kernel_rfl) rfl rfl rfl ?_
 refine uA ?_
 refine uR ?_
 refine uK HK ?_
 refine qb ?_
 refine uR ?_
 refine qe qa rfl rfl (zW met) rfl ?_
 rw [jB]
 cases hm : metF met row with
 | some v =>
   rw [wG (w := ⟨d, met, rows, ()⟩) hm]
   refine uS ?_
   refine qb ?_
   refine uA ?_
   refine uC (fun h3 => ?_) (fun h3 => ?_)
   · refine uA ?_
     refine uQ ?_
     exact uF [(1000000, 1000000), (1000001, 1000001), (1000002, 0), (1000003, 1000003)]
   · cases h3
 | none =>
   refine uS ?_
   refine qb ?_
   refine uA ?_
   refine uC (fun h3 => ?_) (fun h3 => ?_)
   · cases h3
   refine qd ?_
   refine uR ?_
   rw [show IntKind.i64.wrap (rows + 1) = rows + 1 from IntWalk.i64_in _ (by omega)]
   refine uS ?_
   refine qb ?_
   refine uZ [0, 1, 6] [(1000000, 1000000), (1000001, 1000001), (1000002, 1000002), (1000003, 1000003)] ?_
   change SW _ _ _ ⟨100, [(0, .ptr 1000000 0), (1, .p (zJ row)), (6, .p (pS (keyB row)))], wvO (.fn F []) ps 1000002 d met (rows + 1)⟩
   refine uA ?_
   by_cases h1 : 6000 < rows + 1
   · rw [wy (w := ⟨d, met, rows, ()⟩) hm h1, show decide (rows + 1 > 6000) = true from decide_eq_true h1]
     refine uC (fun h4 => ?_) (fun h4 => ?_)
     · refine uA ?_
       refine uQ ?_
       exact uF [(1000000, 1000000), (1000001, 1000001), (1000002, 0), (1000003, 1000003)]
     · cases h4
   rw [show decide (rows + 1 > 6000) = false from decide_eq_false h1]
   refine uC (fun h4 => ?_) (fun h4 => ?_)
   · cases h4
   refine qd ?_
   refine uR ?_
   refine uW [(1000000, 1000000), (1000001, 1000001), (1000002, 1000002), (1000003, 1000003)] HA ?_
   refine qb ?_
   refine uA ?_
   by_cases h2 : qq (ps.zip row) = 64
   · rw [qaJ (w := ⟨d, met, rows, ()⟩) hm h1 h2, show (qq (ps.zip row) == 64) = true by simpa using h2]
     refine uC (fun h5 => ?_) (fun h5 => ?_)
     · refine uZ [0, 1, 6] [(1000000, 1000000), (1000001, 1000001), (1000002, 1000002), (1000003, 1000003)] ?_
       change SW _ _ _ ⟨100, [(0, .ptr 1000000 0), (1, .p (zJ row)), (6, .p (pS (keyB row)))], wvO (.fn F []) ps 1000002 d met (rows + 1)⟩
       (repeat refine qH ?_); refine zC 9 rfl (by kernel_rfl) ?_
       refine qT (i := 0) (K := [1000000, 1000001, 1000002, 1000003]) (by kernel_rfl) (by kernel_rfl) rfl rfl (qs qa rfl (by exact True.intro)) rfl ?_
       refine qT (i := 1) (K := [1000000, 1000001, 1000002, 1000003]) (by kernel_rfl) (by kernel_rfl) rfl rfl (qs qa rfl (by exact True.intro)) rfl ?_
       refine qT (i := 2) (K := [1000000, 1000001, 1000002, 1000003]) (by kernel_rfl) (by kernel_rfl) rfl rfl (qs qa rfl (by exact True.intro)) rfl ?_
       refine qT (i := 4) (K := [1000000, 1000001, 1000002, 1000003]) (by kernel_rfl) (by kernel_rfl) rfl rfl (qs qa rfl (by exact True.intro)) rfl ?_
       refine qT (i := 5) (K := [1000000, 1000001, 1000002, 1000003]) (by kernel_rfl) (by kernel_rfl) rfl rfl (qs qa rfl (by exact True.intro)) rfl ?_
       refine qT (i := 6) (K := [1000000, 1000001, 1000002, 1000003]) (by kernel_rfl) (by kernel_rfl) rfl rfl (qs qa rfl (by exact True.intro)) rfl ?_
       refine swb_fork2 3 7 (by kernel_rfl) ?_ ?_
       first | refine qr rfl rfl rfl (aM (h := ?_)) | refine qr rfl rfl rfl (aB (h := ?_)) | refine qr rfl rfl rfl (aA (h := ?_)) | refine qr rfl rfl rfl (aS (h := ?_)) | refine qr rfl rfl rfl (aL (h := ?_)) | refine qr rfl rfl rfl (jl (K := []) (qs qa rfl (by exact True.intro)) rfl ?_)
       refine qQ 7 (by kernel_rfl) ?_
       refine qr rfl rfl rfl (qaj [(1000000, 1000000), (1000001, 1000001), (1000002, 1000002), (1000003, 1000003)] rfl rfl rfl rfl rfl rfl (HE) rfl rfl rfl ?_)
       refine qQ 8 (by kernel_rfl) ?_
       refine qr rfl rfl rfl (zh qa rfl rfl rfl rfl rfl rfl rfl rfl rfl (zW met) (by rw [jB, hm]; rfl) rfl ?_)
       refine wR (by kernel_rfl) ?_
       refine SW.wk (qh [0, 6] [(1000000, 1000000), (1000001, 1000001), (1000002, 1000002), (1000003, 1000003)] rfl rfl) ?_
       refine ?fk10_98
       rotate_left
       refine qr rfl rfl rfl (qaj [(1000000, 1000000), (1000001, 1000001), (1000002, 1000002), (1000003, 1000003)] rfl rfl rfl rfl rfl rfl (HE) rfl rfl rfl ?_)
       refine qQ 3 (by kernel_rfl) ?_
       first | refine qr rfl rfl rfl (aM (h := ?_)) | refine qr rfl rfl rfl (aB (h := ?_)) | refine qr rfl rfl rfl (aA (h := ?_)) | refine qr rfl rfl rfl (aS (h := ?_)) | refine qr rfl rfl rfl (aL (h := ?_)) | refine qr rfl rfl rfl (jl (K := []) (qs qa rfl (by exact True.intro)) rfl ?_)
       refine qQ 8 (by kernel_rfl) ?_
       refine qr rfl rfl rfl (zh qa rfl rfl rfl rfl rfl rfl rfl rfl rfl (zW met) (by rw [jB, hm]; rfl) rfl ?_)
       refine wR (by kernel_rfl) ?_
       refine SW.wk (qh [0, 6] [(1000000, 1000000), (1000001, 1000001), (1000002, 1000002), (1000003, 1000003)] rfl rfl) ?_
       exact ?fk10_98
       obtain ⟨v, hv⟩ : ∃ v, v = endV (jV fl) ⟨d, met, rows, ()⟩ row := ⟨_, rfl⟩
       change SW _ _ _ ⟨100, [(0, .ptr 1000000 0), (6, .p (pS (keyB row)))], [(1000000, .cells [.p (ptsP ps), .p (.fn F []), .ptr 1000001 0, .row 1000003, .p (pI (rows + 1))]), (1000001, .cells [.p (pI 2000), .row 1000002]), (1000002, .row 68 4 (d.map Br.pv)), (1000003, .mp (ents17 met ++ [(.string (keyB row), pI (endV (jV fl) ⟨d, met, rows, ()⟩ row))]))]⟩
       rw [← hv, qap]
       refine uR ?_
       refine qy rfl (act_lookupF qa rfl rfl rfl rfl rfl rfl rfl rfl rfl (zW _) (by rw [jB, metF_snoc hm]; rfl) rfl ?_)
       refine uS ?_
       refine qb ?_
       refine uQ ?_
       exact uF [(1000000, 1000000), (1000001, 1000001), (1000002, 0), (1000003, 1000003)]
     · cases h5
   rw [show (qq (ps.zip row) == 64) = false by simpa using h2]
   refine uC (fun h5 => ?_) (fun h5 => ?_)
   · cases h5
   refine qd ?_
   obtain ⟨A, hA0⟩ : ∃ A, A = qq (ps.zip row) := ⟨_, rfl⟩
   rw [← hA0]
   have ha := atomW_le (ps.zip row)
   have hat := fun (j : Nat) (hj : j < 3) => atom_on hp.len hw (show qq (ps.zip row) < 64 by omega) hj
   have hps := fun (j : Nat) (hj : j < 3) => hp.on hw (qq (ps.zip row)) hj
   refine uA ?_
   refine uA ?_
   refine uB ?_
   refine uZ [0, 1, 6, 9, 10, 62] [(10, 10), (1000000, 1000000), (1000001, 1000001), (1000002, 0), (1000003, 1000003)] ?_
   refine qw (fun m s => ∃ (k : Nat) (kk b0 b1 b2 : Int) (w' : Wv Unit), k ≤ 3 ∧ m = 3 - k ∧ kk = k ∧ TurnW ps (jV fl) n ⟨d, met, rows, ()⟩ row k b0 b1 b2 w' ∧ (w'.d.length ≤ 2000 ∧ 0 ≤ w'.rows ∧ w'.rows ≤ 6000 ∧ ∀ p ∈ w'.met, p ∈ met ∨ qq (ps.zip row) < qq (ps.zip p.1)) ∧
    s = ⟨100, [(0, .ptr 1000000 0), (1, .p (zJ row)), (6, .p (pS (keyB row))), (9, .p (pI A)), (10, .ptr 10 0), (62, .p (pI kk))], (10, .cells [.p (pI A), .p (pI b0), .p (pI b1), .p (pI b2)]) :: wvO (.fn F []) ps 0 w'.d w'.met w'.rows⟩) 3
    ⟨0, 0, 0, 0, 0, Wv.inc ⟨d, met, rows, ()⟩, by omega, rfl, rfl, ⟨rfl, rfl, rfl, rfl⟩, ⟨hd, by show 0 ≤ rows + 1; omega, by show rows + 1 ≤ 6000; omega, fun p hp => .inl hp⟩, rfl⟩ ?_
   rintro m s ⟨k, _, b0, b1, b2, w', hk, rfl, rfl, hT, ⟨g1, g2, g3, g4⟩, rfl⟩
   match k, hk, hT with
   | 0, _, hT =>
     obtain ⟨rfl, rfl, rfl, rfl⟩ := hT
     have HO := won_h (.fn F []) ps (Wv.inc ⟨d, met, rows, ()⟩).d (Wv.inc ⟨d, met, rows, ()⟩).met (Wv.inc ⟨d, met, rows, ()⟩).rows row hp (qq (ps.zip row)) 0 (by omega)
     have HC := IH (Wv.inc ⟨d, met, rows, ()⟩) (onW (ps.zip row) (qq (ps.zip row)) 0) (hps 0 (by omega)) (by have := hat 0 (by omega); omega) g1 g2 g3
     have hi := wV hw (f := jV fl) n (Wv.inc ⟨d, met, rows, ()⟩) _ (hps 0 (by omega)) (by have := hat 0 (by omega); omega) g1 g3
     obtain ⟨⟨v, e, w2⟩, q⟩ : ∃ r, wayW ps (jV fl) n (Wv.inc ⟨d, met, rows, ()⟩) (onW (ps.zip row) (qq (ps.zip row)) 0) = r := ⟨_, rfl⟩
     rw [q] at HC hi
     rw [← hA0] at HO HC
     have hlo := hi.lo
     have hmt : ∀ p ∈ w2.met, p ∈ met ∨ qq (ps.zip row) < qq (ps.zip p.1) := fun p hp => (hi.met p hp).elim (g4 p) fun h => .inr (by have := hat 0 (by omega); omega)
     simp only at HC hlo
     refine uA ?_
     refine uC (fun hlt => ?_) (fun hlt => ?_)
     rotate_left
     · cases hlt
     refine qd ?_
     refine uB ?_
     refine uA ?_
     refine uR ?_
     refine uW [(1000000, 1000000), (1000001, 1000001), (0, 1000002), (1000003, 1000003)] HO ?_
     refine uW [(1000000, 1000000), (1000001, 1000001), (0, 1000002), (1000003, 1000003)] HC ?_
     refine qb ?_
     refine uA ?_
     by_cases he : e = 0
     rotate_left
     · rw [show (e != 0) = true by simpa using he]
       refine uC (fun h6 => ?_) (fun h6 => ?_)
       · rw [way_e0 (w := ⟨d, met, rows, ()⟩) hm h1 h2 q he]
         refine uA ?_
         refine uQ ?_
         exact uF [(1000000, 1000000), (1000001, 1000001), (73000, 0), (1000003, 1000003)]
       · cases h6
     subst he
     refine uC (fun h6 => ?_) (fun h6 => ?_)
     · cases h6
     refine qd ?_
     refine uR ?_
     refine qe qa rfl rfl (by decide) rfl ?_
     refine uS ?_
     refine qb ?_
     refine uA ?_
     refine ⟨_, _, ?_, qh [0, 1, 6, 9, 10, 62] [(10, 10), (1000000, 1000000), (1000001, 1000001), (73000, 0), (1000003, 1000003)] rfl rfl, 0 + 1, _, v, 0, 0, w2, by omega, rfl, rfl, ⟨q, rfl, rfl⟩, ⟨hi.d, by omega, hi.ok rfl, hmt⟩, rfl⟩
     omega
   | 1, _, hT =>
     obtain ⟨q0, rfl, rfl⟩ := hT
     have HO := won_h (.fn F []) ps w'.d w'.met w'.rows row hp (qq (ps.zip row)) 1 (by omega)
     have HC := IH w' (onW (ps.zip row) (qq (ps.zip row)) 1) (hps 1 (by omega)) (by have := hat 1 (by omega); omega) g1 g2 g3
     have hi := wV hw (f := jV fl) n w' _ (hps 1 (by omega)) (by have := hat 1 (by omega); omega) g1 g3
     obtain ⟨⟨v, e, w2⟩, q⟩ : ∃ r, wayW ps (jV fl) n w' (onW (ps.zip row) (qq (ps.zip row)) 1) = r := ⟨_, rfl⟩
     rw [q] at HC hi
     rw [← hA0] at HO HC
     have hlo := hi.lo
     have hmt : ∀ p ∈ w2.met, p ∈ met ∨ qq (ps.zip row) < qq (ps.zip p.1) := fun p hp => (hi.met p hp).elim (g4 p) fun h => .inr (by have := hat 1 (by omega); omega)
     simp only at HC hlo
     refine uA ?_
     refine uC (fun hlt => ?_) (fun hlt => ?_)
     rotate_left
     · cases hlt
     refine qd ?_
     refine uB ?_
     refine uA ?_
     refine uR ?_
     refine uW [(1000000, 1000000), (1000001, 1000001), (0, 1000002), (1000003, 1000003)] HO ?_
     refine uW [(1000000, 1000000), (1000001, 1000001), (0, 1000002), (1000003, 1000003)] HC ?_
     refine qb ?_
     refine uA ?_
     by_cases he : e = 0
     rotate_left
     · rw [show (e != 0) = true by simpa using he]
       refine uC (fun h6 => ?_) (fun h6 => ?_)
       · rw [way_e1 (w := ⟨d, met, rows, ()⟩) hm h1 h2 q0 q he]
         refine uA ?_
         refine uQ ?_
         exact uF [(1000000, 1000000), (1000001, 1000001), (73000, 0), (1000003, 1000003)]
       · cases h6
     subst he
     refine uC (fun h6 => ?_) (fun h6 => ?_)
     · cases h6
     refine qd ?_
     refine uR ?_
     refine qe qa rfl rfl (by decide) rfl ?_
     refine uS ?_
     refine qb ?_
     refine uA ?_
     refine ⟨_, _, ?_, qh [0, 1, 6, 9, 10, 62] [(10, 10), (1000000, 1000000), (1000001, 1000001), (73000, 0), (1000003, 1000003)] rfl rfl, 1 + 1, _, b0, v, 0, w2, by omega, rfl, rfl, ⟨_, q0, q, rfl⟩, ⟨hi.d, by omega, hi.ok rfl, hmt⟩, rfl⟩
     omega
   | 2, _, hT =>
     obtain ⟨w0, q0, q1, rfl⟩ := hT
     have HO := won_h (.fn F []) ps w'.d w'.met w'.rows row hp (qq (ps.zip row)) 2 (by omega)
     have HC := IH w' (onW (ps.zip row) (qq (ps.zip row)) 2) (hps 2 (by omega)) (by have := hat 2 (by omega); omega) g1 g2 g3
     have hi := wV hw (f := jV fl) n w' _ (hps 2 (by omega)) (by have := hat 2 (by omega); omega) g1 g3
     obtain ⟨⟨v, e, w2⟩, q⟩ : ∃ r, wayW ps (jV fl) n w' (onW (ps.zip row) (qq (ps.zip row)) 2) = r := ⟨_, rfl⟩
     rw [q] at HC hi
     rw [← hA0] at HO HC
     have hlo := hi.lo
     have hmt : ∀ p ∈ w2.met, p ∈ met ∨ qq (ps.zip row) < qq (ps.zip p.1) := fun p hp => (hi.met p hp).elim (g4 p) fun h => .inr (by have := hat 2 (by omega); omega)
     simp only at HC hlo
     refine uA ?_
     refine uC (fun hlt => ?_) (fun hlt => ?_)
     rotate_left
     · cases hlt
     refine qd ?_
     refine uB ?_
     refine uA ?_
     refine uR ?_
     refine uW [(1000000, 1000000), (1000001, 1000001), (0, 1000002), (1000003, 1000003)] HO ?_
     refine uW [(1000000, 1000000), (1000001, 1000001), (0, 1000002), (1000003, 1000003)] HC ?_
     refine qb ?_
     refine uA ?_
     by_cases he : e = 0
     rotate_left
     · rw [show (e != 0) = true by simpa using he]
       refine uC (fun h6 => ?_) (fun h6 => ?_)
       · rw [way_e2 (w := ⟨d, met, rows, ()⟩) hm h1 h2 q0 q1 q he]
         refine uA ?_
         refine uQ ?_
         exact uF [(1000000, 1000000), (1000001, 1000001), (73000, 0), (1000003, 1000003)]
       · cases h6
     subst he
     refine uC (fun h6 => ?_) (fun h6 => ?_)
     · cases h6
     refine qd ?_
     refine uR ?_
     refine qe qa rfl rfl (by decide) rfl ?_
     refine uS ?_
     refine qb ?_
     refine uA ?_
     refine ⟨_, _, ?_, qh [0, 1, 6, 9, 10, 62] [(10, 10), (1000000, 1000000), (1000001, 1000001), (73000, 0), (1000003, 1000003)] rfl rfl, 2 + 1, _, b0, b1, v, w2, by omega, rfl, rfl, ⟨_, _, q0, q1, q⟩, ⟨hi.d, by omega, hi.ok rfl, hmt⟩, rfl⟩
     omega
   | 3, _, hT =>
     obtain ⟨w0, w1, q0, q1, q2⟩ := hT
     have hno : metF w'.met row = none := metF_no fun p hp e => (g4 p hp).elim (fun h => metF_mem hm p h e) fun h => by rw [e] at h; omega
     rw [way_ok (w := ⟨d, met, rows, ()⟩) hm h1 h2 q0 q1 q2, ← hA0]
     have HM := dmake_h 2000 w'.d (by omega) ⟨A, b0, b1, b2⟩
     generalize zU 2000 w'.d ⟨A, b0, b1, b2⟩ = r at *
     obtain ⟨v, e, d2⟩ := r
     simp only at HM
     refine uA ?_
     refine uC (fun hlt => ?_) (fun hlt => ?_)
     · cases hlt
     refine qt ?_
     refine uD [1000001, 0] [1, 3, 5, 7, 9, 10, 13, 15, 17, 19, 21] ?_
     refine uw [(1000001, 1000000), (0, 1000001)] HM ?_
     refine uT ?_
     refine qY ?_
     refine uR ?_
     refine qy rfl (zh qa rfl rfl rfl rfl rfl rfl rfl rfl rfl (zW w'.met) (by rw [jB, hno]; rfl) rfl ?_)
     rw [qap]
     refine uS ?_
     refine qb ?_
     refine uA ?_
     refine uQ ?_
     exact uF [(1000000, 1000000), (1000001, 1000001), (90000, 0), (1000003, 1000003)]
theorem wk_nilc {st : St} (j i d : Nat) (e : TypeId) (z : Nat) {cs : List SV} (hj : lk j st.own = some (.cells cs)) (hi : cs[i]? = some (.p (.v (.slice none 0 0)))) (hd : lk d st.own = none) (hdl : Nat.blt d 1000000 = true := by rfl) :
 Wk st ⟨st.n, st.fr, setB j (.cells (cs.set i (.row d))) ((d, .row e z []) :: st.own)⟩ := fun w0 Sx γ a w hI => by
 have hbx : BoxOk w0 Sx (upd γ d (.slice none 0 0)) ((d, .row e z []) :: st.own) w d (.row e z []) := by
  refine .row ?_ (by simp) (Nat.zero_le _) (fun b hb => by simp [upd, qK] at hb)
  rw [show upd γ d (.slice none 0 0) d = .slice none 0 0 from if_pos rfl]
  exact rowO_nil
 obtain ⟨h1, h2, h3, _⟩ := hI.heap.add (Below.refl _ w) hd (by simpa [Nat.blt, Nat.lt_iff_add_one_le] using hdl) (g := .slice none 0 0) (fun b hb => by cases hb) hbx
 have hdj : j ≠ d := fun h => by subst h; rw [hj] at hd; cases hd
 have hI1 : Sim w0 Sx (upd γ d (.slice none 0 0)) ⟨st.n, st.fr, (d, .row e z []) :: st.own⟩ a w := by
  refine ⟨hI.below, hI.size, hI.defers, fun k s hk => ?_, h1⟩
  have hr := hI.fr k s hk
  refine hr.keep2 (Nat.le_refl _) (fun b hb hok => ⟨rfl, h2 b hb hok⟩) fun i hi => h3 i fun e => ?_
  subst e
  rw [hr.live (jv hd)] at hi; cases hi
 have hj1 : lk j ((d, Box.row e z []) :: st.own) = some (.cells cs) := by rw [qA, if_neg hdj]; exact hj
 cases hI1.heap.box j _ hj1 with
 | @cells _ us ty b hg hB hh hl h hone =>
   have := hI1.setBox (bx' := .cells (cs.set i (.row d))) hj1 (b := b) (by rw [hg]; rfl) (Below.refl 0 w) (fun _ _ => rfl) (fun own' e1 e2 e3 => .cells (us := us) hg hB hh (by simpa using hl) (fun k s u hs hu => by
    by_cases hk : k = i
    · subst hk
      have hkl : k < cs.length := (List.getElem?_eq_some_iff.1 hi).1
      rw [List.getElem?_set_self hkl] at hs
      cases hs
      have h0 := (h k _ u hi hu).v_inv
      rw [h0]
      exact e3 (.row (by unfold hp; rw [qA, if_pos rfl]; simp [upd]))
    · rw [List.getElem?_set_ne (Ne.symm hk)] at hs
      exact e3 (h k s u hs hu)) hone)
   exact ⟨_, this.1⟩
set_option maxHeartbeats 4000000
theorem way_all {F : FuncId} {fl : List Int → Int} (hF : FlOk F fl) (ps : List Pt) (hw : ∀ p ∈ ps, WfB p.l) : ∀ n, WayOk F fl ps n
 | 0 => fun w row _ hn => absurd hn (by have := atomW_le (ps.zip row); omega)
 | n + 1 => way_step hF ps hw n (way_all hF ps hw n)
theorem dnew_h (m : Int) (h1 : 1 ≤ m) (h2 : m ≤ 2000) : Holds Tryz.prog 66 [pI m] (.tup [.ptr 0 0, .p (pI 0)]) [(0, .cells [.p (pI m), .p (.v (.slice none 0 0))])] := by
 refine qo (ts := [2,3]) Tryz.func66 (by kernel_rfl) rfl rfl rfl ?_
 refine uA ?_
 refine uR ?_
 rw [show decide (m < 1) = false from decide_eq_false (by omega)]
 refine uS ?_
 rw [show decide (m > 2000) = false from decide_eq_false (by omega)]
 refine uS ?_
 refine qb ?_
 refine uC (fun hc => ?_) (fun hc => ?_)
 · cases hc
 refine qd ?_
 refine uA ?_
 refine uQ ?_
 exact uF [(12, 0)]
def jg (ps : List Pt) (fl : List Int → Int) : Int × Int × Wv Unit := wayW ps (jV fl) 66 ⟨[], [], 0, ()⟩ (ps.map Pt.r)
def wovenP (r : Int × Int × Wv Unit) : Pt := ⟨2000, r.2.2.d, r.1⟩
theorem woven_h {F : FuncId} {fl : List Int → Int} (hF : FlOk F fl) (ps : List Pt) (hw : ∀ p ∈ ps, WfB p.l) (hp : PsOk ps (ps.map Pt.r)) : Holds Tryz.prog 39 [.fn F [], ptsP ps] (.tup [.p (.agg (wovenP (jg ps fl)).pv), .p (pI (jg ps fl).2.1)]) [] := by
 have lp : (ps.map Pt.pv).length = ps.length := by simp
 have hfew := hp.few
 have HW := way_all hF ps hw 66 ⟨[], [], 0, ()⟩ (ps.map Pt.r) hp (by
  have := atomW_ge (x := ps.zip (ps.map Pt.r)) (c := 0) (by omega) fun p hp b hb => by
   obtain ⟨k, hk, e1, e2⟩ := zY hb
   have h1 := hw p.1 (List.of_mem_zip (a := p.1) (b := p.2) hp).1 k hk
   rw [e2]; exact h1.1
  omega) (by show 0 ≤ 2000; omega) (Int.le_refl _) (by show (0 : Int) ≤ 6000; omega)
 change qJ _ _ _ _ (.tup [.p (pI (jg ps fl).1), .p (pI (jg ps fl).2.1)]) (wvO (.fn F []) ps 0 (jg ps fl).2.2.d (jg ps fl).2.2.met (jg ps fl).2.2.rows) at HW
 generalize jg ps fl = r at *
 obtain ⟨v, e, w⟩ := r
 simp only at HW
 refine .ofW ?_
 refine qz (T := TTab) qa Tryz.func39 (by kernel_rfl) rfl rfl rfl ?_
 refine uA ?_
 refine uR ?_
 refine uO (dnew_h 2000 (by omega) (by omega)) ?_
 refine qb ?_
 refine uA ?_
 refine uA ?_
 refine uA ?_
 refine uB ?_
 refine SW.wk (zp 9 900 3 1 rfl rfl) ?_
 refine SW.wk (wk_nilc 16000 1 901 68 4 rfl rfl rfl) ?_
 refine uZ [4, 6, 8, 9, 24, 25, 26] [(4, 4), (16000, 1), (23, 2), (21, 3), (901, 5), (900, 0)] ?_
 refine qw (fun m s => ∃ (k : Nat) (kk : Int), k ≤ ps.length ∧ m = ps.length - k ∧ kk = k ∧ s = ⟨46, [(4, .ptr 4 0), (6, .ptr 1 0), (8, .ptr 2 0), (9, .row 0), (24, .p (ptsP ps)), (25, .p (pI (ps.map Pt.pv).length)), (26, .p (pI kk))],
  [(4, .cells [.p (.v (.pointer none)), .p (pI 0)]), (1, .cells [.p (pI 2000), .row 5]), (2, .cells [.p (ptsP ps), .p (.fn F []), .ptr 1 0, .row 3, .p (pI 0)]), (3, .mp []), (5, .row 68 4 []), (0, .row 3 1 (((ps.take k).map Pt.r).map fun i => [pI i]))]⟩) ps.length ⟨0, 0, Nat.zero_le _, rfl, rfl, rfl⟩ ?_
 rintro m s ⟨k, _, hk, rfl, rfl, rfl⟩
 refine uA ?_
 refine uC (fun hlt => ?_) (fun hlt => ?_)
 · refine qd ?_
   rw [lp] at hlt
   simp only [decide_eq_true_eq] at hlt
   have hlt' : k < ps.length := by omega
   have e9 : ((ps.take (k + 1)).map Pt.r).map (fun i => [pI i]) = ((ps.take k).map Pt.r).map (fun i => [pI i]) ++ [[pI ps[k].r]] := by
    rw [List.take_succ_eq_append_getElem hlt', List.map_append, List.map_append]; rfl
   obtain ⟨x, hx⟩ : ∃ x, x = ps[k] := ⟨_, rfl⟩
   rw [← hx] at e9
   refine uB ?_
   refine uR ?_
   refine qe qa rfl rfl (by rw [lp]; omega) rfl ?_
   rw [qm hlt', ← hx]
   refine uS ?_
   refine qb ?_
   refine uR ?_
   refine qy rfl (qg qa rfl rfl rfl rfl rfl rfl rfl rfl rfl rfl rfl rfl rfl rfl rfl rfl (by simp only [List.length_append, List.length_map, List.length_take, List.length_cons, List.length_nil]; unfold reachBytes; omega) (by simp only [List.length_append, List.length_map, List.length_take, List.length_cons, List.length_nil]; omega) ?_)
   refine uS ?_
   refine qb ?_
   refine uA ?_
   refine ⟨_, _, ?_, qh [4, 6, 8, 9, 24, 25, 26] [(4, 4), (1, 1), (2, 2), (3, 3), (5, 5), (34, 0)] rfl rfl, k + 1, _, hlt', rfl, qf hlt' (by omega), ?_⟩
   · omega
   · rw [e9]; rfl
 · refine qt ?_
   rw [lp] at hlt
   simp only [decide_eq_false_iff_not] at hlt
   have hkk : k = ps.length := by omega
   subst hkk
   rw [List.take_length]
   refine SW.wk (zg (k := 0) rfl) ?_
   refine uR ?_
   refine uW [(2, 1000000), (1, 1000001), (5, 1000002), (3, 1000003)] HW ?_
   refine qb ?_
   refine uZ [4, 6, 12, 13] [(4, 4), (1, 1), (40000, 5)] ?_
   refine SW.wk (zg (k := 5) rfl) ?_
   refine SW.wk (wk_frzB (k := 1) rfl rfl) ?_
   refine uA ?_
   refine uQ ?_
   exact ⟨Or.inr rfl, _, _, [], _, Wk.refl _, rfl, rfl, .refl _, rfl, rfl⟩
theorem may_ok {l : List Br} {a w : Int} (h : mayD l a w = true) : -1048576 ≤ w ∧ (0 ≤ w → ∃ (k : Nat) (hk : k < l.length), w = k ∧ a < l[k].atom) := by
 unfold mayD at h
 split at h
 · rename_i h0
   have := of_decide_eq_true h
   exact ⟨this, fun h1 => by omega⟩
 · rename_i h0
   simp only [Bool.and_eq_true, decide_eq_true_eq] at h
   refine ⟨by omega, fun _ => ?_⟩
   have hk : w.toNat < l.length := by omega
   refine ⟨w.toNat, hk, by omega, ?_⟩
   rw [List.getD_eq_getElem?_getD, List.getElem?_eq_getElem hk] at h
   exact h.2
theorem wfB_snoc {l : List Br} {x : Br} (h : WfB l) (h1 : ¬ (x.atom < 0 ∨ 64 ≤ x.atom)) (h2 : zI l x = true) : WfB (l ++ [x]) := by
 intro i hi
 rw [List.length_append, List.length_singleton] at hi
 by_cases hil : i < l.length
 · have e : (l ++ [x])[i]'(by rw [List.length_append, List.length_singleton]; exact hi) = l[i] := List.getElem_append_left hil
   rw [e]
   obtain ⟨a, b, c⟩ := h i hil
   refine ⟨a, b, fun j hj => ⟨(c j hj).1, fun h0 => ?_⟩⟩
   obtain ⟨k, hk, e1, e2⟩ := (c j hj).2 h0
   refine ⟨k, hk, e1, ?_⟩
   rw [List.getElem_append_left (Nat.lt_trans hk hil)]
   exact e2
 · have hil : i = l.length := by omega
   subst hil
   have e : (l ++ [x])[l.length]'(by rw [List.length_append, List.length_singleton]; exact hi) = x := by simp
   rw [e]
   unfold zI at h2
   simp only [Bool.and_eq_true] at h2
   have key : ∀ j, j < 3 → mayD l x.atom (x.to j) = true := fun j hj => by
    match j, hj with
    | 0, _ => exact h2.1.1
    | 1, _ => exact h2.1.2
    | 2, _ => exact h2.2
   refine ⟨by omega, by omega, fun j hj => ?_⟩
   obtain ⟨q1, q2⟩ := may_ok (key j hj)
   refine ⟨q1, fun h0 => ?_⟩
   obtain ⟨k, hk, e1, e2⟩ := q2 h0
   refine ⟨k, hk, e1, ?_⟩
   rw [List.getElem_append_left hk]
   exact e2
theorem wfB_make {m : Int} {l : List Br} {x : Br} (h : WfB l) : WfB (zU m l x).2.2 := by
 by_cases h1 : x.atom < 0 ∨ 64 ≤ x.atom
 · rw [mk_atom h1]; exact h
 cases h2 : zI l x with
 | false => rw [mk_ways h1 h2]; exact h
 | true =>
   by_cases h3 : x.b = x.a ∧ x.c = x.a
   · rw [mk_same h1 h2 h3]; exact h
   by_cases h4 : l.findIdx (fun y => decide (y = x)) < l.length
   · rw [mk_found h1 h2 h3 h4]; exact h
   by_cases h5 : m ≤ l.length
   · rw [mk_full h1 h2 h3 h4 h5]; exact h
   · rw [mk_new h1 h2 h3 h4 h5]; exact wfB_snoc h h1 h2
def VB (v : Int) : Prop := -1099511627776 ≤ v ∧ v ≤ 1099511627776
theorem make_vb {m : Int} {l : List Br} {x : Br} (hl : l.length ≤ 2000) (hx : VB x.a) : VB (zU m l x).1 := by
 unfold zU
 repeat' split
 all_goals first | exact hx | (unfold VB; exact ⟨by decide, by decide⟩) | (unfold VB; simp only; omega)
structure WWf {σ : Type} (w : Wv σ) : Prop where
 d : WfB w.d
 few : w.d.length ≤ 2000
 met : ∀ p ∈ w.met, VB p.2
theorem metF_vb {m : List (List Int × Int)} {row : List Int} {v : Int} (h : metF m row = some v) (hm : ∀ p ∈ m, VB p.2) : VB v := by
 unfold metF at h
 obtain ⟨p, hp, rfl⟩ := Option.map_eq_some_iff.1 h
 exact hm p (List.mem_of_find?_eq_some hp)
theorem way_wf {σ : Type} {ps : List Pt} {f : σ → List Int → Int × σ} (hf : ∀ (s : σ) (row : List Int), (∀ x ∈ row, VB x) → VB (-1 - (f s (row.map fun x => -1 - x)).1)) (hw : ∀ p ∈ ps, WfB p.l) : ∀ (n : Nat) (w : Wv σ) (row : List Int), PsOk ps row → WWf w → WWf (wayW ps f n w row).2.2 ∧ VB (wayW ps f n w row).1
 | 0, w, row, _, h => ⟨h, by show VB 0; exact ⟨by decide, by decide⟩⟩
 | n + 1, w, row, hp, h => by
   have z : VB 0 := ⟨by decide, by decide⟩
   cases hm : metF w.met row with
   | some v => rw [wG hm]; exact ⟨h, metF_vb hm h.met⟩
   | none =>
     by_cases h1 : 6000 < w.rows + 1
     · rw [wy hm h1]; exact ⟨⟨h.d, h.few, h.met⟩, z⟩
     by_cases h2 : qq (ps.zip row) = 64
     · rw [qaJ hm h1 h2]
       have hv : VB (endV f w row) := hf w.st row hp.ways
       refine ⟨⟨h.d, h.few, fun p hp => ?_⟩, hv⟩
       rcases List.mem_append.1 hp with hp | hp
       · exact h.met p hp
       · rw [List.mem_singleton] at hp
         rw [hp]; exact hv
     have hps := fun (j : Nat) (hj : j < 3) => hp.on hw (qq (ps.zip row)) hj
     obtain ⟨⟨v0, e0, w0⟩, q0⟩ : ∃ r, wayW ps f n w.inc (onW (ps.zip row) (qq (ps.zip row)) 0) = r := ⟨_, rfl⟩
     have i0 := way_wf hf hw n w.inc _ (hps 0 (by omega)) ⟨h.d, h.few, h.met⟩
     rw [q0] at i0
     by_cases z0 : e0 = 0
     rotate_left
     · rw [way_e0 hm h1 h2 q0 z0]; exact ⟨i0.1, z⟩
     subst z0
     obtain ⟨⟨v1, e1, w1⟩, q1⟩ : ∃ r, wayW ps f n w0 (onW (ps.zip row) (qq (ps.zip row)) 1) = r := ⟨_, rfl⟩
     have i1 := way_wf hf hw n w0 _ (hps 1 (by omega)) i0.1
     rw [q1] at i1
     by_cases z1 : e1 = 0
     rotate_left
     · rw [way_e1 hm h1 h2 q0 q1 z1]; exact ⟨i1.1, z⟩
     subst z1
     obtain ⟨⟨v2, e2, w2⟩, q2⟩ : ∃ r, wayW ps f n w1 (onW (ps.zip row) (qq (ps.zip row)) 2) = r := ⟨_, rfl⟩
     have i2 := way_wf hf hw n w1 _ (hps 2 (by omega)) i1.1
     rw [q2] at i2
     by_cases z2 : e2 = 0
     rotate_left
     · rw [way_e2 hm h1 h2 q0 q1 q2 z2]; exact ⟨i2.1, z⟩
     subst z2
     rw [way_ok hm h1 h2 q0 q1 q2]
     have hv := make_vb (m := 2000) (x := ⟨qq (ps.zip row), v0, v1, v2⟩) i2.1.few i0.2
     refine ⟨⟨wfB_make i2.1.d, make_len i2.1.few, fun p hp => ?_⟩, hv⟩
     rcases List.mem_append.1 hp with hp | hp
     · exact i2.1.met p hp
     · rw [List.mem_singleton] at hp
       rw [hp]; exact hv
set_option maxHeartbeats 4000000
def minI : List Int → Int
 | [] => 0
 | x :: r => r.foldl min x
def maxI : List Int → Int
 | [] => 0
 | x :: r => r.foldl max x
theorem sliceMin_h (x : Int) (r : List Int) (hl : r.length ≤ 100000) : Holds Tryz.prog 94 [zJ (x :: r)] (.p (pI (minI (x :: r)))) [] := by
 have ll : ((x :: r).map fun i => [pI i]).length = r.length + 1 := by simp
 refine qo (ts := [2]) Tryz.func94 (by kernel_rfl) rfl rfl rfl ?_
 refine uA ?_
 refine uR ?_
 rw [ll, show decide (((r.length + 1 : Nat) : Int) < 1) = false from decide_eq_false (by omega)]
 refine uS ?_
 refine qb ?_
 refine uC (fun hc => ?_) (fun hc => ?_)
 · cases hc
 refine qd ?_
 refine uR ?_
 refine qe qa rfl rfl (by rw [ll]; omega) rfl ?_
 rw [show ((x :: r).map fun i => [pI i]).getD (Int.toNat 0) [] = [pI x] from rfl]
 refine uS ?_
 refine qb ?_
 refine uA ?_
 refine uB ?_
 refine uZ [0, 3, 4] [] ?_
 refine qw (fun m s => ∃ (k : Nat) (kk a : Int), k ≤ r.length ∧ m = r.length - k ∧ kk = ((k + 1 : Nat) : Int) ∧ a = (r.take k).foldl min x ∧ s = ⟨25, [(0, .p (zJ (x :: r))), (3, .p (pI a)), (4, .p (pI kk))], []⟩) r.length ⟨0, 1, x, Nat.zero_le _, rfl, rfl, rfl, rfl⟩ ?_
 rintro m s ⟨k, _, a, hk, rfl, rfl, ha, rfl⟩
 refine uA ?_
 rw [ll]
 refine uC (fun hlt => ?_) (fun hlt => ?_)
 · refine qd ?_
   have hlt' : k < r.length := by
    have := of_decide_eq_true hlt
    omega
   have hS := zQ min x r k hlt'
   rw [← ha] at hS
   have e9 : ((x :: r).map fun i => [pI i]).getD (Int.toNat ((k + 1 : Nat) : Int)) [] = [pI r[k]] := by simp [hlt']
   obtain ⟨y, hy⟩ : ∃ y, y = r[k] := ⟨_, rfl⟩
   rw [← hy] at hS e9
   refine uB ?_
   refine uR ?_
   refine qe qa rfl rfl (by rw [ll]; omega) rfl ?_
   rw [e9]
   refine uS ?_
   refine qb ?_
   refine uA ?_
   refine ⟨_, _, ?_, qh [0, 3, 4] [] rfl rfl, k + 1, _, (if y < a then y else a), hlt', rfl, qf (show k + 1 < r.length + 1 by omega) (by omega), by rw [hS]; split <;> omega, rfl⟩
   omega
 · refine qt ?_
   have hkk : k = r.length := by
    have := of_decide_eq_false hlt
    omega
   subst hkk
   rw [List.take_length] at ha
   rw [show minI (x :: r) = a from ha.symm]
   refine uA ?_
   refine uQ ?_
   exact uF []
theorem sliceMax_h (x : Int) (r : List Int) (hl : r.length ≤ 100000) : Holds Tryz.prog 95 [zJ (x :: r)] (.p (pI (maxI (x :: r)))) [] := by
 have ll : ((x :: r).map fun i => [pI i]).length = r.length + 1 := by simp
 refine qo (ts := [2]) Tryz.func95 (by kernel_rfl) rfl rfl rfl ?_
 refine uA ?_
 refine uR ?_
 rw [ll, show decide (((r.length + 1 : Nat) : Int) < 1) = false from decide_eq_false (by omega)]
 refine uS ?_
 refine qb ?_
 refine uC (fun hc => ?_) (fun hc => ?_)
 · cases hc
 refine qd ?_
 refine uR ?_
 refine qe qa rfl rfl (by rw [ll]; omega) rfl ?_
 rw [show ((x :: r).map fun i => [pI i]).getD (Int.toNat 0) [] = [pI x] from rfl]
 refine uS ?_
 refine qb ?_
 refine uA ?_
 refine uB ?_
 refine uZ [0, 3, 4] [] ?_
 refine qw (fun m s => ∃ (k : Nat) (kk a : Int), k ≤ r.length ∧ m = r.length - k ∧ kk = ((k + 1 : Nat) : Int) ∧ a = (r.take k).foldl max x ∧ s = ⟨25, [(0, .p (zJ (x :: r))), (3, .p (pI a)), (4, .p (pI kk))], []⟩) r.length ⟨0, 1, x, Nat.zero_le _, rfl, rfl, rfl, rfl⟩ ?_
 rintro m s ⟨k, _, a, hk, rfl, rfl, ha, rfl⟩
 refine uA ?_
 rw [ll]
 refine uC (fun hlt => ?_) (fun hlt => ?_)
 · refine qd ?_
   have hlt' : k < r.length := by
    have := of_decide_eq_true hlt
    omega
   have hS := zQ max x r k hlt'
   rw [← ha] at hS
   have e9 : ((x :: r).map fun i => [pI i]).getD (Int.toNat ((k + 1 : Nat) : Int)) [] = [pI r[k]] := by simp [hlt']
   obtain ⟨y, hy⟩ : ∃ y, y = r[k] := ⟨_, rfl⟩
   rw [← hy] at hS e9
   refine uB ?_
   refine uR ?_
   refine qe qa rfl rfl (by rw [ll]; omega) rfl ?_
   rw [e9]
   refine uS ?_
   refine qb ?_
   refine uA ?_
   refine ⟨_, _, ?_, qh [0, 3, 4] [] rfl rfl, k + 1, _, (if a < y then y else a), hlt', rfl, qf (show k + 1 < r.length + 1 by omega) (by omega), by rw [hS]; split <;> omega, rfl⟩
   omega
 · refine qt ?_
   have hkk : k = r.length := by
    have := of_decide_eq_false hlt
    omega
   subst hkk
   rw [List.take_length] at ha
   rw [show maxI (x :: r) = a from ha.symm]
   refine uA ?_
   refine uQ ?_
   exact uF []
def wZ (l : List Int) : Int := minI (l ++ [2])
def greatL (l : List Int) : Int := maxI (l ++ [0])
theorem qas {f : Int → Int → Int} (hf : ∀ a b, f a b = a ∨ f a b = b) : ∀ (l : List Int) (a : Int), l.foldl f a = a ∨ l.foldl f a ∈ l
 | [], a => .inl rfl
 | x :: l, a => by
   rw [List.foldl_cons]
   rcases qas hf l (f a x) with h | h
   · rw [h]
     rcases hf a x with h | h
     · exact .inl h
     · rw [h]; exact .inr List.mem_cons_self
   · exact .inr (List.mem_cons_of_mem _ h)
theorem least_ok : FlOk 62 wZ where
 call := fun l hl hb => by
  obtain ⟨x, r, e⟩ : ∃ x r, l ++ [2] = x :: r := by
   cases l with
   | nil => exact ⟨_, _, rfl⟩
   | cons x r => exact ⟨_, _, rfl⟩
  have hr : r.length ≤ 100000 := by
   have := congrArg List.length e
   simp only [List.length_append, List.length_cons, List.length_nil] at this
   omega
  have H := sliceMin_h x r hr
  rw [← e] at H
  change Holds _ _ _ (.p (pI (wZ l))) _ at H
  have e9 : (l ++ [2]).map (fun i => [pI i]) = l.map (fun i => [pI i]) ++ [[pI 2]] := by simp
  unfold zJ at H
  rw [e9] at H
  have lm : (l.map fun i => [pI i]).length = l.length := by simp
  generalize wZ l = v at *
  refine qD (ts := [2]) Tryz.func62 (by kernel_rfl) rfl rfl rfl ?_
  refine uA ?_
  refine uR ?_
  refine qy rfl (qg qa rfl rfl rfl rfl rfl rfl rfl rfl rfl rfl rfl rfl rfl rfl rfl rfl (by simp only [List.length_map, List.length_cons, List.length_nil]; unfold reachBytes; omega) (by simp only [List.length_map, List.length_cons, List.length_nil]; omega) ?_)
  refine uK H ?_
  refine qb ?_
  refine uQ ?_
  exact uF []
 bd := fun l hb => by
  unfold wZ
  cases l with
  | nil => show _ ≤ (2 : Int) ∧ (2 : Int) ≤ _; omega
  | cons x r =>
    have hx := hb x List.mem_cons_self
    rcases qas (f := min) (fun a b => by omega) (r ++ [2]) x with h | h
    · show _ ≤ (r ++ [2]).foldl min x ∧ (r ++ [2]).foldl min x ≤ _
      rw [h]; exact hx
    · show _ ≤ (r ++ [2]).foldl min x ∧ (r ++ [2]).foldl min x ≤ _
      rcases List.mem_append.1 h with h | h
      · exact hb _ (List.mem_cons_of_mem _ h)
      · rw [List.mem_singleton] at h
        rw [h]; omega
theorem great_ok : FlOk 63 greatL where
 call := fun l hl hb => by
  obtain ⟨x, r, e⟩ : ∃ x r, l ++ [0] = x :: r := by
   cases l with
   | nil => exact ⟨_, _, rfl⟩
   | cons x r => exact ⟨_, _, rfl⟩
  have hr : r.length ≤ 100000 := by
   have := congrArg List.length e
   simp only [List.length_append, List.length_cons, List.length_nil] at this
   omega
  have H := sliceMax_h x r hr
  rw [← e] at H
  change Holds _ _ _ (.p (pI (greatL l))) _ at H
  have e9 : (l ++ [0]).map (fun i => [pI i]) = l.map (fun i => [pI i]) ++ [[pI 0]] := by simp
  unfold zJ at H
  rw [e9] at H
  have lm : (l.map fun i => [pI i]).length = l.length := by simp
  generalize greatL l = v at *
  refine qD (ts := [2]) Tryz.func63 (by kernel_rfl) rfl rfl rfl ?_
  refine uA ?_
  refine uR ?_
  refine qy rfl (qg qa rfl rfl rfl rfl rfl rfl rfl rfl rfl rfl rfl rfl rfl rfl rfl rfl (by simp only [List.length_map, List.length_cons, List.length_nil]; unfold reachBytes; omega) (by simp only [List.length_map, List.length_cons, List.length_nil]; omega) ?_)
  refine uK H ?_
  refine qb ?_
  refine uQ ?_
  exact uF []
 bd := fun l hb => by
  unfold greatL
  cases l with
  | nil => show _ ≤ (0 : Int) ∧ (0 : Int) ≤ _; omega
  | cons x r =>
    have hx := hb x List.mem_cons_self
    rcases qas (f := max) (fun a b => by omega) (r ++ [0]) x with h | h
    · show _ ≤ (r ++ [0]).foldl max x ∧ (r ++ [0]).foldl max x ≤ _
      rw [h]; exact hx
    · show _ ≤ (r ++ [0]).foldl max x ∧ (r ++ [0]).foldl max x ≤ _
      rcases List.mem_append.1 h with h | h
      · exact hb _ (List.mem_cons_of_mem _ h)
      · rw [List.mem_singleton] at h
        rw [h]; omega
theorem SlAt.fit {α : Type} {R : Rp α} {size : Nat} {w : World} {A : Option Addr} {l : List α} {F : α → Prop} (h : SlAt R size w A l) (hR : ∀ cs x, R w cs x → F x) : ∀ x ∈ l, F x := fun x hx => by
 obtain ⟨i, hi, rfl⟩ := List.mem_iff_getElem.1 hx
 obtain ⟨b, o, _, _, hc⟩ := h (by omega)
 obtain ⟨cs, _, _, h3⟩ := hc i hi
 exact hR cs _ h3
theorem mat_back {ok : Nat → Prop} {w : World} {cs : List Value} {x : Mat} (h : rPV ok w cs x.pv) : cs = x.cells := rPV_plain (xs := x.cells) h
theorem mat_pv {w : World} {cs : List Value} {x : Mat} (h : rMat w cs x) : rPV (fun _ => True) w cs x.pv := by
 obtain ⟨rfl, _⟩ := h
 exact plain_rPV (xs := x.cells) (fun v hv => by simp [Mat.cells, Atr.cells, Val.cells] at hv; rcases hv with rfl | rfl | rfl | rfl | rfl | rfl | rfl <;> rfl)
theorem mats_typed {ok : Nat → Prop} {w : World} {u : Value} {l : List Mat} (h : RelP ok w (wq l) u) (hf : ∀ x ∈ l, x.Fit) : ∃ A c, u = .slice A l.length c ∧ l.length ≤ c ∧ (l.length ≤ reachBytes ∧ c ≤ maxLen) ∧ SlAt rMat 7 w A l :=
 qaD h fun x hx cs hcs => ⟨mat_back hcs, hf x hx⟩
structure Giv.Fit (x : Giv) : Prop where
 cat : R64 x.cat
 name : x.name.size ≤ reachBytes
 bag : ∀ v ∈ x.bag, v.Fit
theorem any_back {ok : Nat → Prop} {w : World} {cs : List Value} {x : List Mat} (h : rPV ok w cs [wq x]) (hf : ∀ m ∈ x, m.Fit) : rSl rMat 7 w cs x := by
 have h0 := h.1
 match cs, h0 with
 | [a], _ =>
   obtain ⟨A, d, rfl, g1, g2, g3⟩ := mats_typed (h.2 0 _ a rfl rfl) hf
   exact ⟨A, d, rfl, g1, g2, g3⟩
theorem mats_pv {w : World} {cs : List Value} {x : List Mat} (h : rSl rMat 7 w cs x) : rPV (fun _ => True) w cs [wq x] := by
 obtain ⟨A, c, rfl, h1, h2, h3⟩ := h
 refine ⟨rfl, fun j s u hs hu => ?_⟩
 match j with
 | 0 => cases hs; cases hu; exact rel_sl h3 h1 h2 (fun _ => ⟨rfl, rfl⟩) fun x _ cs hcs => mat_pv hcs
 | j + 1 => simp at hs
theorem anys_back {ok : Nat → Prop} {w : World} {cs : List Value} {x : List (List Mat)} (h : rPV ok w cs [anyP x]) (hf : ∀ l ∈ x, ∀ m ∈ l, m.Fit) : rTar' w cs x := by
 have h0 := h.1
 match cs, h0 with
 | [a], _ =>
   obtain ⟨A, d, rfl, g1, g2, g3⟩ := qaD (R := rSl rMat 7) (h.2 0 _ a rfl rfl) fun y hy cs hcs => any_back hcs (hf y hy)
   exact ⟨A, d, rfl, g1, g2, g3⟩
theorem anys_pv {w : World} {cs : List Value} {x : List (List Mat)} (h : rTar' w cs x) : rPV (fun _ => True) w cs [anyP x] := by
 obtain ⟨A, c, rfl, h1, h2, h3⟩ := h
 refine ⟨rfl, fun j s u hs hu => ?_⟩
 match j with
 | 0 => cases hs; cases hu; exact rel_sl h3 h1 h2 (fun _ => ⟨rfl, rfl⟩) fun x _ cs hcs => mats_pv hcs
 | j + 1 => simp at hs
theorem tgt_typed {ok : Nat → Prop} {w : World} {u : Value} {t : Tar} (h : RelP ok w (tgtP t) u) (hf : ∀ x ∈ t, ∀ l ∈ x, ∀ m ∈ l, m.Fit) : ∃ A c, u = .slice A t.length c ∧ t.length ≤ c ∧ (t.length ≤ reachBytes ∧ c ≤ maxLen) ∧ SlAt rTar' 1 w A t :=
 qaD h fun x hx cs hcs => anys_back hcs (hf x hx)
theorem tgt_rel {w : World} {A : Option Addr} {c : Nat} {t : Tar} (h : SlAt rTar' 1 w A t) (hl : t.length ≤ c) (hc : t.length ≤ reachBytes ∧ c ≤ maxLen) : RelP (fun _ => True) w (tgtP t) (.slice A t.length c) :=
 rel_sl h hl hc (fun _ => ⟨rfl, rfl⟩) fun x _ cs hcs => anys_pv hcs
theorem tgt_fit {w : World} {A : Option Addr} {t : Tar} (h : SlAt rTar' 1 w A t) : ∀ x ∈ t, ∀ l ∈ x, ∀ m ∈ l, m.Fit :=
 h.fit fun cs x ⟨_, _, _, _, _, h1⟩ => h1.fit fun cs y ⟨_, _, _, _, _, h2⟩ => h2.fit fun _ _ h => h.2
attribute [local go_sem] wM js
attribute [local go_sem low] jp zo
theorem eql_val (a b : Int) (s : ByteArray) (a' b' : Int) (s' : ByteArray) (w : World) :
 (binOp .eql 76 (.agg #[.int .i64 a, .int .i64 b, .string s]) (.agg #[.int .i64 a', .int .i64 b', .string s'])).run Tryz.prog w = .ok (.bool (jW ⟨a, b, s⟩ ⟨a', b', s'⟩)) w := by
 unfold jW
 by_cases h1 : a = a'
 · by_cases h2 : b = b'
   · by_cases h3 : s = s'
     · subst h1; subst h2; subst h3
       go_simp
     · have : s.toList ≠ s'.toList := fun h => h3 (toList_inj h)
       subst h1; subst h2
       go_simp
   · subst h1
     go_simp
 · go_simp
set_option maxHeartbeats 2000000 in
theorem name_any (s : ByteArray) (w : World) (hs : s.size ≤ reachBytes) :
 Calls Tryz.prog 124 #[.string s] w fun e w' => e = .returned (.bool (nameS s)) ∧ w = w' := by
 unfold reachBytes at hs
 go_enter Tryz.func124, Tryz.ntmps124
 go_wp2
 go_loop [3, 4, 5, 6, 9] (fun _ _ _ _ i => ∃ k : Nat, k ≤ s.size ∧ i = .int .i64 k ∧ Hid (∀ i (h : i < s.size), i < k → okC (i == 0) s[i].toNat = true)) (fun _ _ _ _ i => s.size - (intOf i).toNat)
 case atStart => exact ⟨0, Nat.zero_le _, rfl, fun i _ h => absurd h (by omega)⟩
 case round =>
  obtain ⟨k, hk, rfl, hok⟩ := hrel
  by_cases hlt : k < s.size
  · skip
    go_upto_region 5 with (fail)
    refine wp_spec (by kernel_rfl) ?_
    repeat (refine qF ?_; intro K hK; go_big_quiet_op; go_big_quiet_on)
    refine zr ?_
    intro us
    simp only [junk, Act.put, List.setIfInBounds_toArray, List.set_cons_zero, List.set_cons_succ]
    go_upto_region 6 with (fail)
    refine wp_spec (by kernel_rfl) ?_
    repeat (refine qF ?_; intro K hK; go_big_quiet_op; go_big_quiet_on)
    refine zr ?_
    intro us
    simp only [junk, Act.put, List.setIfInBounds_toArray, List.set_cons_zero, List.set_cons_succ]
    go_upto_region 7 with (fail)
    refine wp_spec (by kernel_rfl) ?_
    repeat (refine qF ?_; intro K hK; go_big_quiet_op; go_big_quiet_on)
    refine zr ?_
    intro us
    simp only [junk, Act.put, List.setIfInBounds_toArray, List.set_cons_zero, List.set_cons_succ]
    go_wp2
    · go_ret
      refine ⟨wh (nameS_no hlt ?_).symm, rfl⟩
      go_light
      simp [okC] at *
      omega
    · go_round
      case rel =>
       refine ⟨k + 1, by omega, by go_num, name_step hlt hok.out ?_⟩
       go_light
       simp [okC] at *
       omega
      case measure => simp [intOf]; omega
  · obtain rfl : k = s.size := by omega
    have e1 := hide (nameS_end hok.out)
    go_upto_region 10 with (fail)
    refine wp_spec (by kernel_rfl) ?_
    repeat (refine qF ?_; intro K hK; go_big_quiet_op; go_big_quiet_on)
    refine zr ?_
    intro us
    simp only [junk, Act.put, List.setIfInBounds_toArray, List.set_cons_zero, List.set_cons_succ]
    go_wp2
    go_ret
    refine ⟨wh ?_, rfl⟩
    rw [e1.out, qaz, Bool.eq_iff_iff]
    simp only [Bool.and_eq_true, decide_eq_true_eq, Bool.not_eq_true', decide_eq_false_iff_not]
    omega
theorem right_any (k n : Int) (s : ByteArray) (w : World) (hs : s.size ≤ reachBytes) :
 Calls Tryz.prog 155 #[.agg #[.int .i64 k, .int .i64 n, .string s]] w fun e w' => e = .returned (.bool (Val.right ⟨k, n, s⟩)) ∧ Below w.heap.size w w' := by
 unfold reachBytes at hs
 have hs' : s.size ≤ reachBytes := hs
 go_enter Tryz.func155, Tryz.ntmps155
 go_wp2_with (go_at_call 124; refine (name_any _ _ hs').mono ?_; rintro e w1 ⟨rfl, rfl⟩)
 all_goals
  go_ret
  refine ⟨wh ?_, (Below.refl _ _).alloc (Nat.le_refl _) _⟩
  go_light
  simp only [beq_iff_eq, beq_eq_false_iff_ne, ne_eq] at *
  simp [Val.right, qaz, *]
  try omega
end Go.Proofs.YtkkbdgijfkocnaaGreatDoor
namespace Go.Proofs.YtkkbdgijfkocnaaGreatDoor
set_option linter.unusedVariables false
set_option linter.unusedSimpArgs false
open Go.RowKit
set_option maxHeartbeats 1000000
theorem one_arg {vs : List Value} (h : vs.length = 1) : ∃ u, vs = [u] := by
 match vs, h with
 | [u], _ => exact ⟨u, rfl⟩
theorem name_h (s : ByteArray) (hs : s.size ≤ reachBytes) : Holds Tryz.prog 124 [pS s] (.p (pB (nameS s))) [] :=
 .of_calls Tryz.func124 (by kernel_rfl) rfl (fun w vs hl hr => by
  obtain ⟨u, rfl⟩ := one_arg hl
  have h := jd (hr 0 _ u rfl rfl) rfl
  subst h
  exact (name_any s w hs).mono fun e w' ⟨h1, h2⟩ => ⟨h1, h2 ▸ Below.refl _ _⟩) rfl fun w => .p (.v rfl)
theorem qaw (v : Val) (hs : v.s.size ≤ reachBytes) : Holds Tryz.prog 155 [.agg v.pv] (.p (pB v.right)) [] :=
 .of_calls Tryz.func155 (by kernel_rfl) rfl (fun w vs hl hr => by
  obtain ⟨u, rfl⟩ := one_arg hl
  have h := jd (hr 0 _ u rfl rfl) rfl
  subst h
  exact right_any v.kind v.n v.s w hs) rfl fun w => .p (.v rfl)
set_option maxHeartbeats 1000000
def Nod.pv (x : Nod) : List PV := [pI x.op, pI x.val.kind, pI x.val.n, pS x.val.s, pI x.attr.cat, pS x.attr.name, pB x.attr.must]
def Obli.pv (x : Obli) : List PV := [pI x.on, pI x.kind, pS x.arg]
def nodsP (l : List Nod) : PV := .sl 7 (l.map Nod.pv)
def jc (l : List Obli) : PV := .sl 3 (l.map Obli.pv)
def jK (l : List Bool) : List (List PV) := l.map fun b => [pB b]
def zy (r : Rul) : List PV := [pS r.id, pB r.deny, tgtP r.target, nodsP r.cond, jc r.obls]
theorem attr_h (a : Atr) (ha : a.name.size ≤ reachBytes) : Holds Tryz.prog 178 [.agg a.pv] (.p (pB (attrS a))) [] := by
 refine qo (ts := [2]) Tryz.func178 (by kernel_rfl) rfl rfl rfl ?_
 refine uA ?_
 (repeat refine qH ?_); refine ql (by kernel_rfl) ?_
 repeat (refine qi qa rfl (by exact True.intro) rfl ?_)
 refine zf rfl rfl rfl rfl (name_h a.name ha) rfl rfl ?_
 repeat (refine qi qa rfl (by exact True.intro) rfl ?_)
 refine qP ?_
 refine uQ ?_
 refine jJ rfl ?_
 unfold attrS
 cases h1 : decide (1 ≤ a.cat) <;> cases h2 : decide (a.cat ≤ 4) <;> simp_all
theorem many_h (n : Nat) : Holds Tryz.prog 157 [pI n] (.p (pI (manyS n))) [] := by
 refine qo (ts := [2]) Tryz.func157 (by kernel_rfl) rfl rfl rfl ?_
 refine uA ?_
 refine uB ?_
 refine uA ?_
 refine uC (fun h => ?_) (fun h => ?_)
 · have h0 : n = 0 := by simpa using h
   subst h0
   refine uA ?_
   refine uQ ?_
   exact qZ rfl rfl
 · have h0 : n ≠ 0 := by simpa using h
   refine uA ?_
   refine uC (fun h2 => ?_) (fun h2 => ?_)
   · refine uA ?_
     refine uQ ?_
     refine qZ rfl ?_
     simp at h2
     simp [manyS, h0]; omega
   · refine qd ?_
     refine uA ?_
     refine uQ ?_
     refine qZ rfl ?_
     simp at h2
     simp [manyS, h0]; omega
theorem match_h (m : Mat) (hm : m.Fit) : Holds Tryz.prog 177 [.agg m.pv] (.p (pB (matchS m))) [] := by
 refine qo (ts := [2]) Tryz.func177 (by kernel_rfl) rfl rfl rfl ?_
 refine uA ?_
 (repeat refine qH ?_); refine ql (by kernel_rfl) ?_
 repeat (refine qi qa rfl (by exact True.intro) rfl ?_)
 refine zf rfl rfl rfl rfl (attr_h m.attr hm.attr.name) rfl rfl ?_
 repeat (refine qi qa rfl (by exact True.intro) rfl ?_)
 refine zf rfl rfl rfl rfl (qaw m.val hm.val.s) rfl rfl ?_
 repeat (refine qi qa rfl (by exact True.intro) rfl ?_)
 refine qP ?_
 refine uQ ?_
 refine jJ rfl ?_
 unfold matchS
 cases attrS m.attr <;> cases h1 : decide (1 ≤ m.op) <;> cases h2 : decide (m.op ≤ 3) <;> simp_all
theorem allOf_h (l : List Mat) (hf : ∀ x ∈ l, x.Fit) : Holds Tryz.prog 158 [wq l] (.p (pI (allOfS l))) [] := by
 refine qo (ts := [2]) Tryz.func158 (by kernel_rfl) rfl rfl rfl ?_
 refine sw_len (t := 0) (z := 7) (l := l.map Mat.pv) rfl fun hlen => ?_
 rw [List.length_map] at hlen
 unfold reachBytes at hlen
 refine uA ?_
 refine uR ?_
 refine uK (many_h (l.map Mat.pv).length) ?_
 refine qb ?_
 refine uA ?_
 rw [List.length_map]
 refine uC (fun hm => ?_) (fun hm => ?_)
 · refine uA ?_
   refine uQ ?_
   refine qZ rfl ?_
   have h0 : manyS l.length ≠ 0 := by simpa using hm
   simp [allOfS, h0]
 · refine qd ?_
   have h0 : manyS l.length = 0 := by simpa using hm
   refine uA ?_
   refine uB ?_
   refine uZ [12, 13, 14] [] ?_
   refine qw (fun n s => ∃ (k : Nat) (kk : Int), k ≤ l.length ∧ n = l.length - k ∧ kk = k ∧ (∀ x ∈ l.take k, (fun m => okE (matchS m)) x = 0) ∧ s = ⟨22, [(12, .p (wq l)), (13, .p (pI (l.map Mat.pv).length)), (14, .p (pI kk))], []⟩) l.length ⟨0, 0, Nat.zero_le _, rfl, rfl, by simp, rfl⟩ ?_
   rintro n s ⟨k, _, hk, rfl, rfl, ha, rfl⟩
   refine uA ?_
   refine uC (fun hlt => ?_) (fun hlt => ?_)
   · refine qd ?_
     simp only [List.length_map, decide_eq_true_eq] at hlt
     have hlt' : k < l.length := by omega
     refine uB ?_
     refine uR ?_
     refine qe qa rfl rfl (by simp only [List.length_map]; omega) rfl ?_
     rw [qm hlt']
     refine uS ?_
     refine qb ?_
     refine uR ?_
     refine uK (match_h l[k] (hf _ (List.getElem_mem hlt'))) ?_
     refine qb ?_
     refine uC (fun hp => ?_) (fun hp => ?_)
     · refine uA ?_
       refine uQ ?_
       refine qZ rfl ?_
       have hq : okE (matchS l[k]) = 1 := by simpa [okE] using hp
       rw [allOfS, if_pos h0, qag (f := fun m => okE (matchS m)) hlt' ha (by rw [hq]; decide), hq]
     · refine qd ?_
       refine uA ?_
       refine ⟨_, _, ?_, qh [12, 13, 14] [] rfl rfl, k + 1, _, hlt', rfl, qf hlt' (by omega), take_ok hlt' ha (by simpa [okE] using hp), rfl⟩
       omega
   · refine qt ?_
     simp only [List.length_map, decide_eq_false_iff_not] at hlt
     have hkk : k = l.length := by omega
     subst hkk
     rw [List.take_length] at ha
     refine uA ?_
     refine uQ ?_
     refine qZ rfl ?_
     simp [allOfS, h0, qaa ha]
theorem anyOf_h (l : List (List Mat)) (hf : ∀ x ∈ l, ∀ m ∈ x, m.Fit) : Holds Tryz.prog 125 [anyP l] (.p (pI (anyOfS l))) [] := by
 refine qo (ts := [2]) Tryz.func125 (by kernel_rfl) rfl rfl rfl ?_
 refine sw_len (t := 0) (z := 1) (l := l.map (fun x => [wq x])) rfl fun hlen => ?_
 rw [List.length_map] at hlen
 unfold reachBytes at hlen
 refine uA ?_
 refine uR ?_
 refine uK (many_h (l.map (fun x => [wq x])).length) ?_
 refine qb ?_
 refine uA ?_
 rw [List.length_map]
 refine uC (fun hm => ?_) (fun hm => ?_)
 · refine uA ?_
   refine uQ ?_
   refine qZ rfl ?_
   have h0 : manyS l.length ≠ 0 := by simpa using hm
   simp [anyOfS, h0]
 · refine qd ?_
   have h0 : manyS l.length = 0 := by simpa using hm
   refine uA ?_
   refine uB ?_
   refine uZ [13, 14, 15] [] ?_
   refine qw (fun n s => ∃ (k : Nat) (kk : Int), k ≤ l.length ∧ n = l.length - k ∧ kk = k ∧ (∀ x ∈ l.take k, allOfS x = 0) ∧ s = ⟨25, [(13, .p (anyP l)), (14, .p (pI (l.map (fun x => [wq x])).length)), (15, .p (pI kk))], []⟩) l.length ⟨0, 0, Nat.zero_le _, rfl, rfl, by simp, rfl⟩ ?_
   rintro n s ⟨k, _, hk, rfl, rfl, ha, rfl⟩
   refine uA ?_
   refine uC (fun hlt => ?_) (fun hlt => ?_)
   · refine qd ?_
     simp only [List.length_map, decide_eq_true_eq] at hlt
     have hlt' : k < l.length := by omega
     refine uB ?_
     refine uR ?_
     refine qe qa rfl rfl (by simp only [List.length_map]; omega) rfl ?_
     rw [qm hlt']
     refine uS ?_
     refine qb ?_
     refine uR ?_
     refine uK (allOf_h l[k] (hf _ (List.getElem_mem hlt'))) ?_
     refine qb ?_
     refine uA ?_
     refine uC (fun hp => ?_) (fun hp => ?_)
     · refine uA ?_
       refine uQ ?_
       refine qZ rfl ?_
       have hq : allOfS l[k] ≠ 0 := by simpa using hp
       rw [anyOfS, if_pos h0, qag hlt' ha hq]
     · refine qd ?_
       refine uA ?_
       refine ⟨_, _, ?_, qh [13, 14, 15] [] rfl rfl, k + 1, _, hlt', rfl, qf hlt' (by omega), take_ok hlt' ha (by simpa using hp), rfl⟩
       omega
   · refine qt ?_
     simp only [List.length_map, decide_eq_false_iff_not] at hlt
     have hkk : k = l.length := by omega
     subst hkk
     rw [List.take_length] at ha
     refine uA ?_
     refine uQ ?_
     refine qZ rfl ?_
     simp [anyOfS, h0, qaa ha]
theorem target_h (l : List (List (List Mat))) (hf : ∀ x ∈ l, ∀ y ∈ x, ∀ m ∈ y, m.Fit) : Holds Tryz.prog 87 [tgtP l] (.p (pI (zF l))) [] := by
 refine qo (ts := [2]) Tryz.func87 (by kernel_rfl) rfl rfl rfl ?_
 refine sw_len (t := 0) (z := 1) (l := l.map (fun x => [anyP x])) rfl fun hlen => ?_
 rw [List.length_map] at hlen
 unfold reachBytes at hlen
 refine uA ?_
 refine uA ?_
 rw [List.length_map]
 refine uC (fun hm => ?_) (fun hm => ?_)
 · refine uA ?_
   refine uQ ?_
   refine qZ rfl ?_
   have h0 : 8 < l.length := by simp at hm; omega
   simp [zF, h0]
 · refine qd ?_
   have h0 : ¬ 8 < l.length := by simp at hm; omega
   refine uA ?_
   refine uB ?_
   refine uZ [9, 10, 11] [] ?_
   refine qw (fun n s => ∃ (k : Nat) (kk : Int), k ≤ l.length ∧ n = l.length - k ∧ kk = k ∧ (∀ x ∈ l.take k, anyOfS x = 0) ∧ s = ⟨21, [(9, .p (tgtP l)), (10, .p (pI (l.map (fun x => [anyP x])).length)), (11, .p (pI kk))], []⟩) l.length ⟨0, 0, Nat.zero_le _, rfl, rfl, by simp, rfl⟩ ?_
   rintro n s ⟨k, _, hk, rfl, rfl, ha, rfl⟩
   refine uA ?_
   refine uC (fun hlt => ?_) (fun hlt => ?_)
   · refine qd ?_
     simp only [List.length_map, decide_eq_true_eq] at hlt
     have hlt' : k < l.length := by omega
     refine uB ?_
     refine uR ?_
     refine qe qa rfl rfl (by simp only [List.length_map]; omega) rfl ?_
     rw [qm hlt']
     refine uS ?_
     refine qb ?_
     refine uR ?_
     refine uK (anyOf_h l[k] (hf _ (List.getElem_mem hlt'))) ?_
     refine qb ?_
     refine uA ?_
     refine uC (fun hp => ?_) (fun hp => ?_)
     · refine uA ?_
       refine uQ ?_
       refine qZ rfl ?_
       have hq : anyOfS l[k] ≠ 0 := by simpa using hp
       rw [zF, if_neg h0, qag hlt' ha hq]
     · refine qd ?_
       refine uA ?_
       refine ⟨_, _, ?_, qh [9, 10, 11] [] rfl rfl, k + 1, _, hlt', rfl, qf hlt' (by omega), take_ok hlt' ha (by simpa using hp), rfl⟩
       omega
   · refine qt ?_
     simp only [List.length_map, decide_eq_false_iff_not] at hlt
     have hkk : k = l.length := by omega
     subst hkk
     rw [List.take_length] at ha
     refine uA ?_
     refine uQ ?_
     refine qZ rfl ?_
     simp [zF, h0, qaa ha]
theorem oblS_eq (o : Obli) : (!oblS o) = (decide (o.on < 1) || decide (2 < o.on) || decide (o.kind < 1) || decide (4 < o.kind) || !nameS o.arg) := by
 rw [Bool.eq_iff_iff]
 simp [oblS]
theorem obls_h (l : List Obli) (hf : ∀ x ∈ l, x.Fit) : Holds Tryz.prog 88 [jc l] (.p (pI (oblsS l))) [] := by
 refine qo (ts := [2]) Tryz.func88 (by kernel_rfl) rfl rfl rfl ?_
 refine sw_len (t := 0) (z := 3) (l := l.map Obli.pv) rfl fun hlen => ?_
 rw [List.length_map] at hlen
 unfold reachBytes at hlen
 refine uA ?_
 refine uA ?_
 rw [List.length_map]
 refine uC (fun hm => ?_) (fun hm => ?_)
 · refine uA ?_
   refine uQ ?_
   refine qZ rfl ?_
   have h0 : 8 < l.length := by simp at hm; omega
   simp [oblsS, h0]
 · refine qd ?_
   have h0 : ¬ 8 < l.length := by simp at hm; omega
   refine uA ?_
   refine uB ?_
   refine uZ [8, 9, 10] [] ?_
   refine qw (fun n s => ∃ (k : Nat) (kk : Int), k ≤ l.length ∧ n = l.length - k ∧ kk = k ∧ (∀ x ∈ l.take k, (fun m => okE (oblS m)) x = 0) ∧ s = ⟨39, [(8, .p (jc l)), (9, .p (pI (l.map Obli.pv).length)), (10, .p (pI kk))], []⟩) l.length ⟨0, 0, Nat.zero_le _, rfl, rfl, by simp, rfl⟩ ?_
   rintro n s ⟨k, _, hk, rfl, rfl, ha, rfl⟩
   refine uA ?_
   refine uC (fun hlt => ?_) (fun hlt => ?_)
   · refine qd ?_
     simp only [List.length_map, decide_eq_true_eq] at hlt
     have hlt' : k < l.length := by omega
     refine uB ?_
     refine uR ?_
     refine qe qa rfl rfl (by simp only [List.length_map]; omega) rfl ?_
     rw [qm hlt']
     refine uS ?_
     refine qb ?_
     (repeat refine qH ?_); refine ql (by kernel_rfl) ?_
     repeat (refine qi qa rfl (by exact True.intro) rfl ?_)
     refine zf rfl rfl rfl rfl (name_h l[k].arg (hf _ (List.getElem_mem hlt')).arg) rfl rfl ?_
     repeat (refine qi qa rfl (by exact True.intro) rfl ?_)
     refine qP ?_
     refine uC (fun hp => ?_) (fun hp => ?_)
     · refine uA ?_
       refine uQ ?_
       refine qZ rfl ?_
       have hq : okE (oblS l[k]) = 1 := by
        have := oblS_eq l[k]
        cases h1 : oblS l[k] with
        | false => rfl
        | true =>
          exfalso
          rw [h1] at this
          simp at this hp
          rcases hp with ((((h | h) | h) | h) | h) <;> first | omega | simp_all
       rw [oblsS, if_neg h0, qag (f := fun m => okE (oblS m)) hlt' ha (by rw [hq]; decide), hq]
     · refine qd ?_
       refine uA ?_
       refine ⟨_, _, ?_, qh [8, 9, 10] [] rfl rfl, k + 1, _, hlt', rfl, qf hlt' (by omega), take_ok hlt' ha ?_, rfl⟩
       · omega
       · have := oblS_eq l[k]
         cases h1 : oblS l[k] with
         | true => simp [okE, h1]
         | false =>
           exfalso
           rw [h1] at this
           simp at this hp
           rcases this with ((((h | h) | h) | h) | h) <;> first | omega | simp_all
   · refine qt ?_
     simp only [List.length_map, decide_eq_false_iff_not] at hlt
     have hkk : k = l.length := by omega
     subst hkk
     rw [List.take_length] at ha
     refine uA ?_
     refine uQ ?_
     refine qZ rfl ?_
     simp [oblsS, h0, qaa ha]
theorem wk_nilp {st : St} (t d : Nat) (e : TypeId) (z : Nat) (ht : lk t st.fr = some (.p (.v (.slice none 0 0)))) (hd : lk d st.own = none) (hdl : Nat.blt d 1000000 = true := by rfl) : Wk st (St.frz ⟨st.n, (t, .row d) :: st.fr, (d, .row e z []) :: st.own⟩ d z []) :=
 (zp t d e z ht hd hdl).trans (zg (e := e) (by show lk d ((d, Box.row e z []) :: st.own) = _; rw [qA, if_pos rfl]))
theorem wants_h (op : Int) : Holds Tryz.prog 159 [pI op] (.tup [.p (.sl 1 (jK ((jt op).getD []))), .p (pB (jt op).isSome)]) [] := by
 refine qo (ts := [2,3]) Tryz.func159 (by kernel_rfl) rfl rfl rfl ?_
 refine uA ?_
 refine uB ?_
 (repeat refine qH ?_); refine ql (by kernel_rfl) ?_
 repeat (refine qi qa rfl (by exact True.intro) rfl ?_)
 refine qP ?_
 refine uC (fun h => ?_) (fun h => ?_)
 · have e : jt op = some [] := by
    unfold jt; rw [if_pos (by simpa using h)]
   rw [e]
   refine uA ?_
   refine uQ ?_
   exact ⟨Or.inr rfl, _, _, [], wk_nilp 2 0 4 1 rfl rfl, rfl, rfl, rfl, rfl⟩
 · have n1 : ¬ (op = 1 ∨ op = 2) := by simpa using h
   (repeat refine qH ?_); refine ql (by kernel_rfl) ?_
   repeat (refine qi qa rfl (by exact True.intro) rfl ?_)
   refine qP ?_
   refine uC (fun h => ?_) (fun h => ?_)
   · have e : jt op = some [true] := by
      unfold jt; rw [if_neg n1, if_pos (by simpa using h)]
     rw [e]
     refine uA ?_
     refine uQ ?_
     exact ⟨Or.inr rfl, _, _, [], zg (k := 18) rfl, rfl, rfl, rfl, rfl⟩
   · have n2 : ¬ (op = 3 ∨ op = 4) := by simpa using h
     refine uA ?_
     refine uC (fun h => ?_) (fun h => ?_)
     · have e : jt op = some [true, false] := by
        unfold jt; rw [if_neg n1, if_neg n2, if_pos (by simpa using h)]
       rw [e]
       refine uA ?_
       refine uQ ?_
       exact ⟨Or.inr rfl, _, _, [], zg (k := 22) rfl, rfl, rfl, rfl, rfl⟩
     · have n3 : ¬ op = 5 := by simpa using h
       refine uA ?_
       refine uC (fun h => ?_) (fun h => ?_)
       · have e : jt op = some [false] := by
          unfold jt; rw [if_neg n1, if_neg n2, if_neg n3, if_pos (by simpa using h)]
         rw [e]
         refine uA ?_
         refine uQ ?_
         exact ⟨Or.inr rfl, _, _, [], zg (k := 26) rfl, rfl, rfl, rfl, rfl⟩
       · have n4 : ¬ op = 11 := by simpa using h
         (repeat refine qH ?_); refine ql (by kernel_rfl) ?_
         repeat (refine qi qa rfl (by exact True.intro) rfl ?_)
         refine qP ?_
         refine uC (fun h => ?_) (fun h => ?_)
         · have e : jt op = some [false, false] := by
            unfold jt; rw [if_neg n1, if_neg n2, if_neg n3, if_neg n4, if_pos (by simp at h; omega)]
           rw [e]
           refine uA ?_
           refine uQ ?_
           exact ⟨Or.inr rfl, _, _, [], zg (k := 34) rfl, rfl, rfl, rfl, rfl⟩
         · have e : jt op = none := by
            unfold jt; rw [if_neg n1, if_neg n2, if_neg n3, if_neg n4, if_neg (by simp at h; omega)]
           rw [e]
           refine qd ?_
           refine uA ?_
           refine uQ ?_
           exact ⟨Or.inr rfl, _, _, [], wk_nilp 2 0 4 1 rfl rfl, rfl, rfl, rfl, rfl⟩
theorem noVal_eq (v : Val) : (v.kind == 0 && (v.n == 0 && v.s.toList.isEmpty)) = isNoVal v := by
 rw [qaz, Bool.eq_iff_iff]
 simp [isNoVal, and_assoc]
theorem noAtr_eq (a : Atr) : (a.cat == 0 && (a.name.toList.isEmpty && !a.must)) = isNoAtr a := by
 rw [qaz, Bool.eq_iff_iff]
 simp [isNoAtr, and_assoc]
theorem fields_h (n : Nod) (hn : n.Fit) : Holds Tryz.prog 160 [.agg n.pv] (.p (pB (fieldsS n))) [] := by
 refine qo (ts := [2]) Tryz.func160 (by kernel_rfl) rfl rfl rfl ?_
 refine uA ?_
 refine uA ?_
 refine uB ?_
 refine uA ?_
 refine uC (fun h => ?_) (fun h => ?_)
 · have h1 : n.op = 1 := by simpa using h
   (repeat refine qH ?_); refine ql (by kernel_rfl) ?_
   repeat (refine qi qa rfl (by exact True.intro) rfl ?_)
   refine zf rfl rfl rfl rfl (qaw n.val hn.val.s) rfl rfl ?_
   repeat (refine qi qa rfl (by exact True.intro) rfl ?_)
   refine qi qa rfl (rfl) rfl ?_
   repeat (refine qi qa rfl (by exact True.intro) rfl ?_)
   refine qP ?_
   refine uQ ?_
   refine jJ rfl ?_
   unfold fieldsS
   rw [if_pos h1]
   cases n.val.right <;> simp [← noAtr_eq]
 · have n1 : ¬ n.op = 1 := by simpa using h
   refine uA ?_
   refine uC (fun h => ?_) (fun h => ?_)
   · have h2 : n.op = 2 := by simpa using h
     (repeat refine qH ?_); refine ql (by kernel_rfl) ?_
     repeat (refine qi qa rfl (by exact True.intro) rfl ?_)
     refine zf rfl rfl rfl rfl (attr_h n.attr hn.attr.name) rfl rfl ?_
     repeat (refine qi qa rfl (by exact True.intro) rfl ?_)
     refine qi qa rfl (rfl) rfl ?_
     repeat (refine qi qa rfl (by exact True.intro) rfl ?_)
     refine qP ?_
     refine uQ ?_
     refine jJ rfl ?_
     unfold fieldsS
     rw [if_neg n1, if_pos h2]
     cases attrS n.attr <;> simp [← noVal_eq]
   · have n2 : ¬ n.op = 2 := by simpa using h
     refine qd ?_
     (repeat refine qH ?_); refine ql (by kernel_rfl) ?_
     repeat (refine qi qa rfl (by exact True.intro) rfl ?_)
     refine qi qa rfl (rfl) rfl ?_
     repeat (refine qi qa rfl (by exact True.intro) rfl ?_)
     refine qi qa rfl (rfl) rfl ?_
     repeat (refine qi qa rfl (by exact True.intro) rfl ?_)
     refine qP ?_
     refine uQ ?_
     refine jJ rfl ?_
     unfold fieldsS
     rw [if_neg n1, if_neg n2]
     simp [← noVal_eq, ← noAtr_eq]
def isG (cat : Int) (name : ByteArray) (g : Giv) : Bool := decide (g.cat = cat) && decide (g.name = name)
def bagS (cat : Int) (name : ByteArray) (l : List Giv) : List Val := match l.find? (isG cat name) with | some g => g.bag | none => []
def getS (a : Atr) (l : List Giv) : List Val × Int := if (bagS a.cat a.name l).isEmpty && a.must then ([], 4) else (bagS a.cat a.name l, 0)
end Go.Proofs.YtkkbdgijfkocnaaGreatDoor
namespace Go.Proofs.YtkkbdgijfkocnaaGreatDoor
set_option linter.unusedVariables false
set_option linter.unusedSimpArgs false
def hasV (l : List Val) (v : Val) : Bool := l.any fun x => jW v x
open Go.RowKit
structure Itm where
 bag : List Val
 v : Val
 e : Int
def Itm.pv (x : Itm) : List PV := [valsP x.bag, pI x.v.kind, pI x.v.n, pS x.v.s, pI x.e]
def noItm : Itm := ⟨[], noVal, 0⟩
def itmT (b : Bool) : Itm := ⟨[], truthS b, 0⟩
def isT (v : Val) (n : Int) : Bool := jW v ⟨1, n, ⟨#[]⟩⟩
def Itm.is (x : Itm) (n : Int) : Bool := decide (x.e = 0) && isT x.v n
def zn (op : Int) : Nat := if op = 1 ∨ op = 2 then 0 else if op = 3 ∨ op = 4 ∨ op = 11 then 1 else 2
def decS (op : Int) (l : List Itm) : Bool := (decide (op = 12) || decide (op = 13)) && ((l.getD 0 noItm).is (op - 12) || (l.getD 1 noItm).is (op - 12))
def errS : List Itm → Int
 | [] => 0
 | x :: r => if x.e = 0 then errS r else x.e
def lastS (op : Int) (l : List Itm) : Itm :=
 if op = 3 then (if (l.getD 0 noItm).bag.length = 1 then ⟨[], (l.getD 0 noItm).bag.getD 0 noVal, 0⟩ else ⟨[], noVal, 4⟩)
 else if op = 4 then ⟨[], ⟨2, (l.getD 0 noItm).bag.length, ⟨#[]⟩⟩, 0⟩
 else if op = 5 then itmT (hasV (l.getD 0 noItm).bag (l.getD 1 noItm).v)
 else ⟨[], (zD op (l.map Itm.v)).1, (zD op (l.map Itm.v)).2⟩
def wU (n : Nod) (l : List Itm) (g : List Giv) : Itm :=
 if n.op = 1 then ⟨[], n.val, 0⟩
 else if n.op = 2 then ⟨(getS n.attr g).1, noVal, (getS n.attr g).2⟩
 else if decS n.op l then itmT (decide (n.op = 13))
 else if errS l ≠ 0 then ⟨[], noVal, errS l⟩
 else lastS n.op l
def stepI (g : List Giv) (s : List Itm) (n : Nod) : List Itm := s.take (s.length - zn n.op) ++ [wU n (s.drop (s.length - zn n.op)) g]
def evalI (g : List Giv) (l : List Nod) : List Itm := l.foldl (stepI g) []
def valueS (l : List Nod) (g : List Giv) : Val × Int :=
 if l = [] ∨ exprS l ≠ 0 then (noVal, 1) else (((evalI g l).getD 0 noItm).v, ((evalI g l).getD 0 noItm).e)
def condV (x : Val × Int) : Int := if (Itm.mk [] x.1 x.2).is 1 then 2 else if (Itm.mk [] x.1 x.2).is 0 then 0 else 1
def condS (l : List Nod) (g : List Giv) : Int := if l = [] then 2 else condV (valueS l g)
theorem condS_range (l : List Nod) (g : List Giv) : 0 ≤ condS l g ∧ condS l g ≤ 2 := by
 unfold condS condV
 repeat' split
 all_goals omega
section
variable {s : ByteArray} (hs : nameS s = true)
include hs
end
def againstT (m : Mat) (v : Val) : Bool × Int :=
 if m.op = 1 then (if v.kind ≠ m.val.kind then (false, 2) else (jW v m.val, 0)) else if m.op = 2 then lessS v m.val else lessS m.val v
def okT (m : Mat) (v : Val) : Bool := (againstT m v).1
def badT (m : Mat) (v : Val) : Bool := decide ((againstT m v).2 ≠ 0)
def jG (m : Mat) (l : List Giv) : Int :=
 if (getS m.attr l).2 ≠ 0 then 1 else if (getS m.attr l).1.any (okT m) then 2 else if (getS m.attr l).1.any (badT m) then 1 else 0
theorem matchT_range (m : Mat) (l : List Giv) : 0 ≤ jG m l ∧ jG m l ≤ 2 := by
 unfold jG
 split
 · omega
 · split
   · omega
   · split <;> omega
abbrev Mk := Nat × Nat
def mks : List Mk := [(0, 0), (2, 0), (0, 2), (1, 0), (0, 1), (1, 1)]
def wJ (a b : Mk) : Mk := (max a.1 b.1, max a.2 b.2)
def overM (j : Mk) : Mk := if j.2 = 2 then (0, 2) else if j.2 = 1 ∧ 1 ≤ j.1 then (1, 1) else if j.2 = 1 then (0, 1) else if j.1 = 2 then (2, 0) else if j.1 = 1 then (1, 0) else (0, 0)
def turnM (j : Mk) : Mk := (j.2, j.1)
def indetM (m : Mk) : Mk := if m = (2, 0) then (1, 0) else if m = (0, 2) then (0, 1) else m
def joinL (l : List Mk) : Mk := l.foldl wJ (0, 0)
def jP : List Mk → Mk
 | [] => (0, 0)
 | m :: r => if m = (0, 0) then jP r else m
def sureM (m : Mk) : Bool := decide (m = (0, 0)) || decide (m = (2, 0)) || decide (m = (0, 2))
def stepJ (j m : Mk) : Mk := if j = (0, 0) then m else if m ≠ (0, 0) then (1, 1) else j
def onlyM : Mk → List Mk → Mk
 | j, [] => j
 | j, m :: r => if sureM m then onlyM (stepJ j m) r else (1, 1)
def wW (l : List Mk) (m other : Mk) : Mk := if other ∈ l then other else m
def allM (alg : Int) (l : List Mk) : Mk :=
 if alg = 1 then overM (joinL l) else if alg = 2 then turnM (overM (turnM (joinL l))) else if alg = 3 then jP l
 else if alg = 4 then onlyM (0, 0) l else if alg = 5 then wW l (0, 2) (2, 0) else if alg = 6 then wW l (2, 0) (0, 2) else (0, 0)
theorem overM_mem (j : Mk) : overM j ∈ mks := by
 unfold overM mks
 repeat' split
 all_goals simp
theorem turnM_mem {j : Mk} (h : j ∈ mks) : turnM j ∈ mks := by
 unfold mks at h ⊢
 simp only [List.mem_cons, List.not_mem_nil, or_false] at h
 rcases h with rfl | rfl | rfl | rfl | rfl | rfl <;> simp [turnM]
theorem indetM_mem {j : Mk} (h : j ∈ mks) : indetM j ∈ mks := by
 unfold mks at h ⊢
 simp only [List.mem_cons, List.not_mem_nil, or_false] at h
 rcases h with rfl | rfl | rfl | rfl | rfl | rfl <;> simp [indetM]
theorem firstM_mem : ∀ {l : List Mk}, (∀ m ∈ l, m ∈ mks) → jP l ∈ mks
 | [], _ => by simp [jP, mks]
 | m :: r, h => by
   rw [jP]
   split
   · exact firstM_mem fun x hx => h x (List.mem_cons_of_mem _ hx)
   · exact h m (by simp)
theorem onlyM_mem : ∀ {l : List Mk} {j : Mk}, j ∈ mks → (∀ m ∈ l, m ∈ mks) → onlyM j l ∈ mks
 | [], j, hj, _ => hj
 | m :: r, j, hj, h => by
   rw [onlyM]
   split
   · refine onlyM_mem ?_ fun x hx => h x (List.mem_cons_of_mem _ hx)
     unfold stepJ
     split
     · exact h m (by simp)
     · split
       · simp [mks]
       · exact hj
   · simp [mks]
theorem allM_mem {alg : Int} {l : List Mk} (h : ∀ m ∈ l, m ∈ mks) : allM alg l ∈ mks := by
 unfold allM wW
 repeat' split
 all_goals first | exact overM_mem _ | exact turnM_mem (overM_mem _) | exact firstM_mem h | exact onlyM_mem (by simp [mks]) h | (simp [mks])
structure Rs where
 m : Mk
 obls : List Obli
def noRs : Rs := ⟨(0, 0), []⟩
def dutyS (m : Mk) (o : Obli) : Bool := (decide (o.on = 1) && decide (m = (2, 0))) || (decide (o.on = 2) && decide (m = (0, 2)))
def jZ (l : List Obli) (m : Mk) : List Obli := l.filter (dutyS m)
def effM (r : Rul) : Mk := if r.deny then (0, 2) else (2, 0)
def zE (r : Rul) (t c : Int) : Rs :=
 if t = 0 ∨ (t = 2 ∧ c = 0) then ⟨(0, 0), []⟩ else if t = 1 ∨ c = 1 then ⟨indetM (effM r), []⟩ else ⟨effM r, jZ r.obls (effM r)⟩
def wC (alg : Int) (m : Mk) : List Rs → List Obli
 | [] => []
 | x :: r => if x.m = m then (if alg = 3 then x.obls else x.obls ++ wC alg m r) else wC alg m r
def zO (p : Pol) (t : Int) (parts : List Rs) : Rs :=
 if t = 0 then ⟨(0, 0), []⟩ else if t = 1 then ⟨indetM (allM p.alg (parts.map Rs.m)), []⟩
 else if allM p.alg (parts.map Rs.m) ≠ (2, 0) ∧ allM p.alg (parts.map Rs.m) ≠ (0, 2) then ⟨allM p.alg (parts.map Rs.m), []⟩
 else ⟨allM p.alg (parts.map Rs.m), wC p.alg (allM p.alg (parts.map Rs.m)) parts ++ jZ p.obls (allM p.alg (parts.map Rs.m))⟩
theorem effM_mem (r : Rul) : effM r ∈ mks := by unfold effM mks; split <;> simp
theorem effectS_mem (r : Rul) (t c : Int) : (zE r t c).m ∈ mks := by
 unfold zE
 repeat' split
 · simp [mks]
 · exact indetM_mem (effM_mem r)
 · exact effM_mem r
theorem joinR_mem {p : Pol} {t : Int} {l : List Rs} (h : ∀ x ∈ l, x.m ∈ mks) : (zO p t l).m ∈ mks := by
 have h0 : allM p.alg (l.map Rs.m) ∈ mks := allM_mem fun m hm => by
  obtain ⟨x, hx, rfl⟩ := List.mem_map.1 hm
  exact h x hx
 unfold zO
 repeat' split
 · simp [mks]
 · exact indetM_mem h0
 · exact h0
 · exact h0
def Rs.ok (x : Rs) : Prop := x.m ∈ mks ∧ (x.m ≠ (2, 0) → x.m ≠ (0, 2) → x.obls = [])
end Go.Proofs.YtkkbdgijfkocnaaGreatDoor
namespace Go.Proofs.YtkkbdgijfkocnaaGreatDoor
set_option linter.unusedVariables false
set_option linter.unusedSimpArgs false
def Wlk.le (w v : Wlk) : Prop := (∀ s, hasS w.met s = true → hasS v.met s = true) ∧ w.rules ≤ v.rules
theorem Wlk.le_refl (w : Wlk) : w.le w := ⟨fun _ h => h, Int.le_refl _⟩
theorem hasS_snoc (m : List ByteArray) (s t : ByteArray) : hasS (m ++ [s]) t = (hasS m t || decide (t = s)) := by simp [hasS]
theorem Wlk.le_snoc {w v : Wlk} (h : w.le v) (s : ByteArray) {a b : Int} (hab : a ≤ b) : Wlk.le ⟨w.met ++ [s], a⟩ ⟨v.met ++ [s], b⟩ := by
 refine ⟨fun t ht => ?_, hab⟩
 simp only [hasS_snoc, Bool.or_eq_true] at ht ⊢
 exact ht.imp (h.1 t) id
theorem nameOk_le {w v : Wlk} (h : w.le v) {s : ByteArray} (hs : jF v.met s = true) : jF w.met s = true := by
 unfold jF at hs ⊢
 simp only [Bool.and_eq_true, Bool.not_eq_true'] at hs ⊢
 refine ⟨?_, hs.2⟩
 cases hw : hasS w.met s with
 | false => rfl
 | true => rw [h.1 s hw] at hs; cases hs.1
theorem ruleS_le {w v : Wlk} (h : w.le v) {r : Rul} (h0 : (zu v r).1 = 0) : (zu w r).1 = 0 ∧ (zu w r).2.le (zu v r).2 := by
 unfold zu at h0 ⊢
 by_cases hv : jF v.met r.id = true
 · have hw := nameOk_le h hv
   rw [if_pos hv] at h0 ⊢
   rw [if_pos hw]
   have h2 := h.2
   simp only at h0 ⊢
   by_cases h64 : 64 < v.rules + 1
   · rw [if_pos h64] at h0; cases h0
   · rw [if_neg h64] at h0
     rw [if_neg (by omega)]
     exact ⟨h0, Wlk.le_snoc h r.id (by omega)⟩
 · rw [if_neg hv] at h0; cases h0
theorem headS_le {w v : Wlk} (h : w.le v) {p : Pol} (h0 : (zT v p).1 = 0) : (zT w p).1 = 0 ∧ (zT w p).2.le (zT v p).2 := by
 unfold zT at h0 ⊢
 by_cases hv : jF v.met p.id = true
 · have hw := nameOk_le h hv
   simp only [hv, hw, Bool.true_and, nameM, if_true] at h0 ⊢
   exact ⟨h0, Wlk.le_snoc h p.id h.2⟩
 · simp [hv] at h0
theorem seqS_le {α : Type} {f f' : Wlk → α → Int × Wlk} (hf : ∀ w v x, w.le v → (f v x).1 = 0 → (f' w x).1 = 0 ∧ (f' w x).2.le (f v x).2) : ∀ {l : List α} {w v : Wlk}, w.le v → (seqS f v l).1 = 0 → (seqS f' w l).1 = 0 ∧ (seqS f' w l).2.le (seqS f v l).2
 | [], w, v, h, _ => ⟨rfl, h⟩
 | x :: r, w, v, h, h0 => by
   rw [seqS] at h0 ⊢
   rw [seqS]
   by_cases hx : (f v x).1 = 0
   · rw [if_pos hx] at h0 ⊢
     obtain ⟨h1, h2⟩ := hf w v x h hx
     rw [if_pos h1]
     exact seqS_le hf h2 h0
   · rw [if_neg hx] at h0; exact absurd h0 hx
theorem polS_le : ∀ {n m : Nat} (_ : n ≤ m) {w v : Wlk} {p : Pol}, w.le v → (polS n v p).1 = 0 → (polS m w p).1 = 0 ∧ (polS m w p).2.le (polS n v p).2
 | 0, m, _, w, v, p, h, h0 => by rw [polS] at h0; cases h0
 | n + 1, 0, hnm, _, _, _, _, _ => by omega
 | n + 1, m + 1, hnm, w, v, p, h, h0 => by
   rw [polS] at h0 ⊢
   rw [polS]
   by_cases h1 : (zT v p).1 = 0
   · rw [if_pos h1] at h0 ⊢
     obtain ⟨g1, g2⟩ := headS_le h h1
     rw [if_pos g1]
     by_cases h2 : (seqS zu (zT v p).2 p.rules).1 = 0
     · rw [if_pos h2] at h0 ⊢
       obtain ⟨k1, k2⟩ := seqS_le (f := zu) (f' := zu) (fun w v x h h0 => ruleS_le h h0) g2 h2
       rw [if_pos k1]
       exact seqS_le (f := polS n) (f' := polS m) (fun w v x h h0 => polS_le (by omega) h h0) k2 h0
     · rw [if_neg h2] at h0; exact absurd h0 h2
   · rw [if_neg h1] at h0; exact absurd h0 h1
theorem seqS_each {α : Type} {f : Wlk → α → Int × Wlk} {Q : α → Prop} (hf : ∀ w x, (f w x).1 = 0 → Q x) : ∀ {l : List α} {w : Wlk}, (seqS f w l).1 = 0 → ∀ x ∈ l, Q x
 | [], w, _, x, hx => by simp at hx
 | y :: r, w, h0, x, hx => by
   rw [seqS] at h0
   by_cases hy : (f w y).1 = 0
   · rw [if_pos hy] at h0
     rcases List.mem_cons.1 hx with rfl | hx
     · exact hf w _ hy
     · exact seqS_each hf h0 x hx
   · rw [if_neg hy] at h0; exact absurd h0 hy
theorem le_start (w : Wlk) (h : 0 ≤ w.rules) : Wlk.le ⟨[], 0⟩ w := ⟨fun s hs => by simp [hasS] at hs, h⟩
theorem ruleS_lim {w : Wlk} {r : Rul} (hw : 0 ≤ w.rules ∧ w.rules ≤ 64) (h : (zu w r).1 = 0) : 0 ≤ (zu w r).2.rules ∧ (zu w r).2.rules ≤ 64 := by
 unfold zu at h ⊢
 split at h
 · rename_i hn
   rw [if_pos hn]
   simp only at h ⊢
   split at h
   · cases h
   · omega
 · cases h
theorem wN {α : Type} {f : Wlk → α → Int × Wlk} {P : Wlk → Prop} (hf : ∀ w x, P w → (f w x).1 = 0 → P (f w x).2) : ∀ {l : List α} {w : Wlk}, P w → (seqS f w l).1 = 0 → P (seqS f w l).2
 | [], w, hw, _ => hw
 | x :: r, w, hw, h => by
   rw [seqS] at h ⊢
   by_cases h0 : (f w x).1 = 0
   · rw [if_pos h0] at h ⊢
     exact wN hf (hf w x hw h0) h
   · rw [if_neg h0] at h; exact absurd h h0
abbrev lim (w : Wlk) : Prop := 0 ≤ w.rules ∧ w.rules ≤ 64
theorem polS_lim : ∀ (n : Nat) (w : Wlk) (p : Pol), lim w → (polS n w p).1 = 0 → lim (polS n w p).2
 | 0, w, p, _, h => by cases h
 | n + 1, w, p, hw, h => by
   have h1 : lim (zT w p).2 := hw
   rw [polS] at h ⊢
   split at h
   · rename_i h2
     rw [if_pos h2]
     split at h
     · rename_i h3
       rw [if_pos h3]
       exact wN (P := lim) (fun w x hw h => polS_lim n w x hw h) (wN (P := lim) (fun w x hw h => ruleS_lim hw h) h1 h3) h
     · rename_i h3; exact absurd h h3
   · rename_i h2; exact absurd h h2
open Go.RowKit
mutual
def Pol.nr : Pol → Nat
 | .mk _ _ _ _ rs ks _ => rs.length + Pol.nrs ks
def Pol.nrs : List Pol → Nat
 | [] => 0
 | k :: ks => k.nr + Pol.nrs ks
end
theorem sumBy_one {α : Type} : ∀ l : List α, qB (fun _ => 1) l = l.length
 | [] => rfl
 | x :: r => by have := sumBy_one r; unfold qB at this ⊢; simp; omega
theorem sumBy_take {α : Type} (f : α → Nat) (l : List α) (k : Nat) : qB f (l.take k) ≤ qB f l := by
 have h : qB f (l.take k ++ l.drop k) = qB f (l.take k) + qB f (l.drop k) := by simp only [qB, List.map_append, List.sum_append]
 rw [List.take_append_drop] at h
 omega
def Dp : Nat → Pol → Prop
 | 0, _ => False
 | n + 1, p => ∀ k ∈ p.kids, Dp n k
theorem wX {n : Nat} {w : Wlk} {p : Pol} (h : (polS (n + 1) w p).1 = 0) : (zT w p).1 = 0 ∧ (seqS zu (zT w p).2 p.rules).1 = 0 ∧ (seqS (polS n) (seqS zu (zT w p).2 p.rules).2 p.kids).1 = 0 := by
 rw [polS] at h
 split at h
 · rename_i h2
   split at h
   · rename_i h3; exact ⟨h2, h3, h⟩
   · rename_i h3; exact absurd h h3
 · rename_i h2; exact absurd h h2
theorem polS_dp : ∀ (n : Nat) {w : Wlk} {p : Pol}, (polS n w p).1 = 0 → Dp n p
 | 0, w, p, h => by cases h
 | n + 1, w, p, h => seqS_each (fun w x h => polS_dp n h) (wX h).2.2
theorem seqS_eachP {α : Type} {f : Wlk → α → Int × Wlk} {P : Wlk → Prop} {Q : α → Prop} (hf : ∀ w x, P w → (f w x).1 = 0 → P (f w x).2 ∧ Q x) : ∀ {l : List α} {w : Wlk}, P w → (seqS f w l).1 = 0 → ∀ x ∈ l, Q x
 | [], w, _, _, x, hx => by simp at hx
 | y :: r, w, hw, h0, x, hx => by
   rw [seqS] at h0
   by_cases hy : (f w y).1 = 0
   · rw [if_pos hy] at h0
     rcases List.mem_cons.1 hx with rfl | hx
     · exact (hf w _ hw hy).2
     · exact seqS_eachP hf (hf w y hw hy).1 h0 x hx
   · rw [if_neg hy] at h0; exact absurd h0 hy
theorem right_kids {p : Pol} (h : zj p = 0) : ∀ k ∈ p.kids, zj k = 0 := by
 obtain ⟨h1, h2, h3⟩ := wX h
 have l1 : lim (zT ⟨[], 0⟩ p).2 := ⟨by show (0 : Int) ≤ 0; omega, by show (0 : Int) ≤ 64; omega⟩
 have l2 := wN (P := lim) (fun w x hw h => ruleS_lim hw h) l1 h2
 exact seqS_eachP (P := lim) (Q := fun k => zj k = 0) (fun w x hw h => ⟨polS_lim 3 w x hw h, (polS_le (n := 3) (m := 4) (by omega) (le_start w hw.1) h).1⟩) l2 h3
theorem right_name {p : Pol} (h : zj p = 0) : jF [] p.id = true ∧ (zT ⟨[], 0⟩ p).1 = headE p ∧ headE p = 0 ∧ 1 ≤ p.alg ∧ p.alg ≤ 6 := by
 have h1 := (wX h).1
 unfold zT at h1 ⊢
 simp only at h1 ⊢
 split at h1
 · rename_i hc
   rw [if_pos hc]
   simp only [Bool.and_eq_true, decide_eq_true_eq] at hc
   exact ⟨hc.1.1, rfl, h1, hc.1.2, hc.2⟩
 · cases h1
theorem right_dp {p : Pol} (h : zj p = 0) : Dp 4 p := polS_dp 4 h
set_option maxHeartbeats 1000000
def stepR : Option (List Bool) → SV
 | some _ => .tup [.row 0, .p (pB true)]
 | none => .tup [.p (.v (.slice none 0 0)), .p (pB false)]
def stepO : Option (List Bool) → List (Nat × Box)
 | some l => [(0, .row 4 1 (jK l))]
 | none => []
theorem step_h (l : List Bool) (hl : l.length ≤ 1000000) (n : Nod) (hn : n.Fit) : qJ Tryz.prog 126 [.row 1000000, .p (.agg n.pv)] [(1000000, .row 4 1 (jK l))] (stepR (wg l n)) (stepO (wg l n)) := by
 have H1 := wants_h n.op
 cases hw : jt n.op with
 | none =>
   rw [hw] at H1
   simp only [Option.getD_none, Option.isSome_none] at H1
   have e : wg l n = none := by simp [wg, hw]
   rw [e]
   refine qD (ts := [4,5]) Tryz.func126 (by kernel_rfl) rfl rfl rfl ?_
   refine uA ?_
   refine uR ?_
   refine uO H1 ?_
   refine qb ?_
   (repeat refine qH ?_); refine ql (by kernel_rfl) ?_
   repeat (refine qi qa rfl (by exact True.intro) rfl ?_)
   refine zf rfl rfl rfl rfl (fields_h n hn) rfl rfl ?_
   repeat (refine qi qa rfl (by exact True.intro) rfl ?_)
   refine qP ?_
   refine uC (fun h => ?_) (fun h => ?_)
   · refine uA ?_
     refine uQ ?_
     exact uF []
   · simp at h
 | some w =>
   rw [hw] at H1
   simp only [Option.getD_some, Option.isSome_some] at H1
   have hwl : w.length ≤ 2 := by
    unfold jt at hw
    repeat' split at hw
    all_goals (cases hw; try simp)
   refine qD (ts := [4,5]) Tryz.func126 (by kernel_rfl) rfl rfl rfl ?_
   refine uA ?_
   refine uR ?_
   refine uO H1 ?_
   refine qb ?_
   (repeat refine qH ?_); refine ql (by kernel_rfl) ?_
   repeat (refine qi qa rfl (by exact True.intro) rfl ?_)
   refine zf rfl rfl rfl rfl (fields_h n hn) rfl rfl ?_
   repeat (refine qi qa rfl (by exact True.intro) rfl ?_)
   refine qP ?_
   have ll : (jK l).length = l.length := by simp [jK]
   have lw : (jK w).length = w.length := by simp [jK]
   refine uC (fun h => ?_) (fun h => ?_)
   · have e : wg l n = none := by
      simp only [wg, hw]
      rw [if_neg]
      intro ⟨h1, h2, _⟩
      simp [h1, ll, lw] at h
      omega
     rw [e]
     refine uA ?_
     refine uQ ?_
     exact uF []
   · have hf : fieldsS n = true := by
      cases hq : fieldsS n with
      | true => rfl
      | false => simp [hq] at h
     have hle : w.length ≤ l.length := by
      simp [hf, ll, lw] at h
      omega
     obtain ⟨left, hleft⟩ : ∃ left : Nat, left = l.length - w.length := ⟨_, rfl⟩
     refine qd ?_
     refine uA ?_
     refine uA ?_
     refine uB ?_
     refine uZ [0, 3, 8, 36, 37, 38] [(1000000, 1000000), (3, 3)] ?_
     refine qw (fun m s => ∃ (k : Nat) (kk L : Int), k ≤ w.length ∧ m = w.length - k ∧ kk = k ∧ L = left ∧ (l.drop left).take k = w.take k ∧ s = ⟨60, [(0, .row 1000000), (3, .ptr 3 0), (8, .p (pI L)), (36, .p (.sl 1 (jK w))), (37, .p (pI (jK w).length)), (38, .p (pI kk))], [(1000000, .row 4 1 (jK l)), (3, .cells (n.pv.map .p))]⟩) w.length ⟨0, 0, _, Nat.zero_le _, rfl, rfl, ?_, by simp, rfl⟩ ?_
     · show IntKind.i64.wrap (((jK l).length : Int) - (jK w).length) = _
       rw [ll, lw, IntWalk.i64_in _ (by omega)]; omega
     rintro m s ⟨k, _, _, hk, rfl, rfl, rfl, ha, rfl⟩
     refine uA ?_
     refine uC (fun hlt => ?_) (fun hlt => ?_)
     · refine qd ?_
       rw [lw] at hlt
       simp only [decide_eq_true_eq] at hlt
       have hlt' : k < w.length := by omega
       have hk2 : left + k < l.length := by omega
       refine uB ?_
       refine uR ?_
       refine qe qa rfl rfl (by rw [lw]; omega) rfl ?_
       rw [show (jK w).getD (Int.toNat (k : Int)) [] = [pB w[k]] from qm hlt']
       refine uS ?_
       refine qb ?_
       refine uR ?_
       have ew : IntKind.i64.wrap ((left : Int) + k) = ((left + k : Nat) : Int) := by rw [IntWalk.i64_in _ (by omega)]; omega
       rw [ew]
       refine qe qa rfl rfl (by rw [ll]; omega) rfl ?_
       refine uS ?_
       refine qe qa rfl (qU rfl rfl rfl rfl rfl (show (jK l).getD (Int.toNat ((left + k : Nat) : Int)) [] = [pB l[left + k]] from qm hk2) rfl) (by rw [ll]; simp; omega) rfl ?_
       refine uS ?_
       refine qb ?_
       refine uC (fun hp => ?_) (fun hp => ?_)
       · have e : wg l n = none := by
          simp only [wg, hw]
          rw [if_neg]
          intro ⟨_, _, h3⟩
          rw [← hleft] at h3
          have h4 : w[k] = l[left + k] := by
           have := congrArg (fun x => x[k]?) h3
           simp only [List.getElem?_drop] at this
           rw [List.getElem?_eq_getElem hk2, List.getElem?_eq_getElem hlt'] at this
           exact (Option.some.inj this).symm
          rw [h4] at hp
          simp at hp
         rw [e]
         refine uA ?_
         refine uQ ?_
         exact uF []
       · refine qd ?_
         refine uA ?_
         refine ⟨_, _, ?_, qh [0, 3, 8, 36, 37, 38] [(1000000, 1000000), (3, 3)] rfl rfl, k + 1, _, _, hlt', rfl, qf hlt' (by omega), rfl, ?_, rfl⟩
         · omega
         · have h4 : l[left + k] = w[k] := by simpa using hp
           rw [List.take_succ_eq_append_getElem hlt', List.take_succ_eq_append_getElem (by simp; omega), ha, List.getElem_drop, h4]
     · refine qt ?_
       rw [lw] at hlt
       simp only [decide_eq_false_iff_not] at hlt
       have hkk : k = w.length := by omega
       subst hkk
       have hd : l.drop left = w := by
        rw [List.take_length] at ha
        rw [← ha, List.take_of_length_le (by simp; omega)]
       have e : wg l n = some (l.take left ++ [decide (n.op = 2)]) := by
        simp only [wg, hw]
        rw [if_pos ⟨hf, hle, by rw [← hleft]; exact hd⟩, hleft]
       rw [e]
       refine uD [1000000] [1, 3, 5, 7, 9, 11, 12, 14, 17, 19] ?_
       refine qx qa rfl rfl rfl (by rw [ll]; omega) rfl ?_
       refine uT ?_
       refine swm_act rfl rfl rfl (ActOk.shrink 54 999 rfl rfl rfl rfl (qg qa rfl rfl rfl rfl rfl rfl rfl rfl rfl rfl rfl rfl rfl rfl rfl rfl (by simp [reachBytes, jK]; omega) (by simp [jK]; omega) ?_))
       refine uT ?_
       refine qY ?_
       refine uQ ?_
       have e2 : List.take (Int.toNat (left : Int)) (jK l) ++ [[pB (n.op == 2)]] = jK (l.take left ++ [decide (n.op = 2)]) := by
        have : (n.op == 2) = decide (n.op = 2) := by rw [Bool.eq_iff_iff]; simp
        rw [this]
        simp [jK, List.map_take]
       refine ⟨Or.inr rfl, _, _, [(59, 0)], Wk.refl _, rfl, rfl, ?_, rfl⟩
       show some [(0, Box.row 4 1 (List.take (Int.toNat (left : Int)) (jK l) ++ [[pB (n.op == 2)]]))] = _
       rw [e2]; rfl
theorem stepsS_some : ∀ {l : List Nod} {a m : List Bool} {k : Nat} (hk : k < l.length), jh a (l.take k) = some m → jh a (l.take (k + 1)) = wg m l[k]
 | n :: r, a, m, 0, _, h => by
   simp [jh] at h
   subst h
   simp only [Nat.zero_add, List.take_succ_cons, List.take_zero, jh, List.getElem_cons_zero]
   cases wg a n <;> rfl
 | n :: r, a, m, k + 1, hk, h => by
   rw [List.take_succ_cons, jh] at h ⊢
   cases hs : wg a n with
   | none => rw [hs] at h; cases h
   | some b =>
     rw [hs] at h
     simp only at h ⊢
     rw [stepsS_some (by simpa using hk) h]; rfl
theorem stepsS_none : ∀ {l : List Nod} {a : List Bool} (k : Nat), jh a (l.take k) = none → jh a l = none
 | [], a, k, h => by simp [jh] at h
 | n :: r, a, 0, h => by simp [jh] at h
 | n :: r, a, k + 1, h => by
   rw [List.take_succ_cons, jh] at h
   rw [jh]
   cases hs : wg a n with
   | none => rfl
   | some b => rw [hs] at h; simp only at h ⊢; exact stepsS_none k h
theorem stepS_len {l l' : List Bool} {n : Nod} (h : wg l n = some l') : l'.length ≤ l.length + 1 := by
 unfold wg at h
 split at h
 · cases h
 · split at h
   · cases h; simp
   · cases h
theorem expr_h (l : List Nod) (hf : ∀ x ∈ l, x.Fit) : Holds Tryz.prog 89 [nodsP l] (.p (pI (exprS l))) [] := by
 refine qo (ts := [2]) Tryz.func89 (by kernel_rfl) rfl rfl rfl ?_
 refine sw_len (t := 0) (z := 7) (l := l.map Nod.pv) rfl fun hlen => ?_
 rw [List.length_map] at hlen
 unfold reachBytes at hlen
 have lm : (l.map Nod.pv).length = l.length := by simp
 refine uA ?_
 refine uA ?_
 rw [lm]
 refine uC (fun h => ?_) (fun h => ?_)
 · refine uA ?_
   refine uQ ?_
   refine qZ rfl ?_
   have h0 : 32 < l.length := by simp at h; omega
   simp [exprS, h0]
 · have h0 : ¬ 32 < l.length := by simp at h; omega
   refine qd ?_
   refine uA ?_
   refine uA ?_
   refine uA ?_
   refine uB ?_
   refine SW.wk (zp 3 900 4 1 rfl rfl) ?_
   refine uZ [0, 3, 10, 11, 12] [(900, 0)] ?_
   refine qw (fun m s => ∃ (k : Nat) (kk : Int) (made : List Bool), k ≤ l.length ∧ m = l.length - k ∧ kk = k ∧ jh [] (l.take k) = some made ∧ made.length ≤ k ∧ s = ⟨38, [(0, .p (nodsP l)), (3, .row 0), (10, .p (nodsP l)), (11, .p (pI l.length)), (12, .p (pI kk))], [(0, .row 4 1 (jK made))]⟩) l.length ⟨0, 0, [], Nat.zero_le _, rfl, rfl, by simp [jh], Nat.le_refl _, by rw [← lm]; rfl⟩ ?_
   rintro m s ⟨k, _, made, hk, rfl, rfl, ha, hml, rfl⟩
   refine uA ?_
   refine uC (fun hlt => ?_) (fun hlt => ?_)
   · refine qd ?_
     simp only [decide_eq_true_eq] at hlt
     have hlt' : k < l.length := by omega
     have hst := stepsS_some hlt' ha
     refine uB ?_
     refine uR ?_
     refine qe qa rfl rfl (by rw [lm]; omega) rfl ?_
     rw [qm hlt']
     refine uS ?_
     refine qb ?_
     have H := step_h made (by omega) l[k] (hf _ (List.getElem_mem hlt'))
     cases hs : wg made l[k] with
     | none =>
       rw [hs] at H
       refine uR ?_
       refine uW [(0, 1000000)] H ?_
       refine qb ?_
       refine uA ?_
       refine uC (fun h => ?_) (fun h => ?_)
       · refine uA ?_
         refine uQ ?_
         refine qZ rfl ?_
         rw [exprS, if_neg h0, stepsS_none (k + 1) (by rw [hst, hs])]
       · cases h
     | some l' =>
       rw [hs] at H
       refine uR ?_
       refine uW [(0, 1000000)] H ?_
       refine qb ?_
       refine uA ?_
       refine uC (fun h => ?_) (fun h => ?_)
       · cases h
       · refine qd ?_
         refine uA ?_
         refine ⟨_, _, ?_, qh [0, 3, 10, 11, 12] [(20000, 0)] rfl rfl, k + 1, _, l', hlt', rfl, qf hlt' (by omega), by rw [hst, hs], ?_, rfl⟩
         · omega
         · have := stepS_len hs; omega
   · refine qt ?_
     simp only [decide_eq_false_iff_not] at hlt
     have hkk : k = l.length := by omega
     subst hkk
     rw [List.take_length] at ha
     have ex : exprS l = if l = [] ∨ made = [false] then 0 else 1 := by rw [exprS, if_neg h0, ha]
     cases l with
     | nil =>
       refine uA ?_
       refine uC (fun h => ?_) (fun h => ?_)
       · cases h
       · refine qd ?_
         refine uA ?_
         refine uQ ?_
         exact qZ rfl (by rw [ex]; rfl)
     | cons n r =>
       refine uR ?_
       rw [show decide ((((n :: r).map Nod.pv).length : Int) > 0) = true by simp]
       refine uS ?_
       by_cases h1 : made.length = 1
       · obtain ⟨b, rfl⟩ : ∃ b, made = [b] := List.length_eq_one_iff.1 h1
         refine uS ?_
         refine qe qa rfl rfl (by simp [jK]) rfl ?_
         refine uS ?_
         refine qe qa rfl rfl (by simp [jK]) rfl ?_
         refine uS ?_
         refine qb ?_
         refine uC (fun h => ?_) (fun h => ?_)
         · have hb : b = true := by simpa [jK] using h
           refine uA ?_
           refine uQ ?_
           exact qZ rfl (by rw [ex, hb]; rfl)
         · have hb : b = false := by simpa [jK] using h
           refine qd ?_
           refine uA ?_
           refine uQ ?_
           exact qZ rfl (by rw [ex, hb]; rfl)
       · rw [show (((jK made).length : Int) != 1) = true by simp [jK]; omega]
         refine uS ?_
         refine qb ?_
         refine uC (fun h => ?_) (fun h => ?_)
         · refine uA ?_
           refine uQ ?_
           exact qZ rfl (by rw [ex, if_neg (by rintro (h | rfl); cases h; exact h1 rfl)])
         · cases h
set_option maxHeartbeats 2000000
def ents (m : List ByteArray) : List (Value × PV) := m.map fun s => (.string s, .agg [])
def wlkO (w : Wlk) : List (Nat × Box) := [(1000000, .cells [.row 1000001, .p (pI w.rules)]), (1000001, .mp (ents w.met))]
abbrev wlkR : List (Nat × Nat) := [(1000000, 1000000), (1000001, 1000001)]
theorem ents_ok : ∀ m : List ByteArray, (ents m).all (fun x => kdOk .str x.1) = true
 | [] => rfl
 | s :: m => by
   have := ents_ok m
   simp only [ents, List.map_cons, List.all_cons, Bool.and_eq_true] at this ⊢
   exact ⟨rfl, this⟩
theorem mfind_ents (s : ByteArray) : ∀ m : List ByteArray, mfind (.string s) (ents m) = if hasS m s then some (.agg []) else none
 | [] => rfl
 | t :: m => by
   have ih := mfind_ents s m
   show (bif keyEq (.string s) (.string t) then some (PV.agg []) else mfind (.string s) (ents m)) = _
   rw [ih]
   by_cases e : s = t
   · subst e; simp [keyEq, hasS]
   · have e' : ∀ i : Decidable (s = t), @decide (s = t) i = false := fun i => by
      cases i with
      | isTrue h => exact absurd h e
      | isFalse h => rfl
     rw [show keyEq (.string s) (.string t) = false from e' _]
     unfold hasS
     rw [List.any_cons, e', cond_false, Bool.false_or]
theorem ents_snoc (m : List ByteArray) (s : ByteArray) : ents m ++ [(.string s, .agg [])] = ents (m ++ [s]) := by simp [ents]
theorem wname_h (m : List ByteArray) (n : Int) (s : ByteArray) (hs : s.size ≤ reachBytes) : qJ Tryz.prog 86 [.ptr 1000000 0, .p (pS s)] (wlkO ⟨m, n⟩) (.p (pB (jF m s))) (wlkO ⟨nameM m s, n⟩) := by
 by_cases hm : hasS m s = true
 · have e1 : jF m s = false := by simp [jF, hm]
   have e2 : nameM m s = m := by simp [nameM, e1]
   rw [e1, e2]
   refine qD (ts := [4]) Tryz.func86 (by kernel_rfl) rfl rfl rfl ?_
   refine uA ?_
   refine uR ?_
   refine qe qa rfl rfl (ents_ok m) rfl ?_
   rw [mfind_ents, if_pos hm]
   refine uS ?_
   refine qb ?_
   (repeat refine qH ?_); refine ql (by kernel_rfl) ?_
   repeat (refine qi qa rfl (by exact True.intro) rfl ?_)
   refine zf rfl rfl rfl rfl (name_h s hs) rfl rfl ?_
   repeat (refine qi qa rfl (by exact True.intro) rfl ?_)
   refine qP ?_
   refine uC (fun h => ?_) (fun h => ?_)
   · refine uA ?_
     refine uQ ?_
     exact ⟨Or.inr rfl, _, _, wlkR, Wk.refl _, rfl, rfl, rfl, rfl⟩
   · cases h
 · refine qD (ts := [4]) Tryz.func86 (by kernel_rfl) rfl rfl rfl ?_
   refine uA ?_
   refine uR ?_
   refine qe qa rfl rfl (ents_ok m) rfl ?_
   rw [mfind_ents, if_neg hm]
   refine uS ?_
   refine qb ?_
   (repeat refine qH ?_); refine ql (by kernel_rfl) ?_
   repeat (refine qi qa rfl (by exact True.intro) rfl ?_)
   refine zf rfl rfl rfl rfl (name_h s hs) rfl rfl ?_
   repeat (refine qi qa rfl (by exact True.intro) rfl ?_)
   refine qP ?_
   refine uC (fun h => ?_) (fun h => ?_)
   · have e0 : nameS s = false := by simpa using h
     have e1 : jF m s = false := by simp [jF, e0]
     have e2 : nameM m s = m := by simp [nameM, e1]
     rw [e1, e2]
     refine uA ?_
     refine uQ ?_
     exact ⟨Or.inr rfl, _, _, wlkR, Wk.refl _, rfl, rfl, rfl, rfl⟩
   · have e0 : nameS s = true := by simpa using h
     have e1 : jF m s = true := by simp [jF, e0, hm]
     have e2 : nameM m s = m ++ [s] := by simp [nameM, e1]
     rw [e1, e2]
     refine qd ?_
     refine uR ?_
     refine qy rfl (zh qa rfl rfl rfl rfl rfl rfl rfl rfl rfl (ents_ok m) (by rw [mfind_ents, if_neg hm]) rfl ?_)
     rw [ents_snoc]
     refine uS ?_
     refine qb ?_
     refine uA ?_
     refine uQ ?_
     exact ⟨Or.inr rfl, _, _, wlkR, Wk.refl _, rfl, rfl, rfl, rfl⟩
def TarFit (t : Tar) : Prop := ∀ x ∈ t, ∀ y ∈ x, ∀ m ∈ y, m.Fit
structure RulFit (r : Rul) : Prop where
 id : r.id.size ≤ reachBytes
 tgt : TarFit r.target
 cond : ∀ n ∈ r.cond, n.Fit
 obls : ∀ o ∈ r.obls, o.Fit
theorem wrule_h (w : Wlk) (hw : 0 ≤ w.rules ∧ w.rules ≤ 64) (r : Rul) (hr : RulFit r) : qJ Tryz.prog 54 [.ptr 1000000 0, .p (.agg (zy r))] (wlkO w) (.p (pI (zu w r).1)) (wlkO (zu w r).2) := by
 have H := wname_h w.met w.rules r.id hr.id
 cases hn : jF w.met r.id with
 | false =>
   have e : zu w r = (1, w) := by simp [zu, hn]
   have e2 : nameM w.met r.id = w.met := by simp [nameM, hn]
   rw [hn, e2] at H
   rw [e]
   refine qD (ts := [4]) Tryz.func54 (by kernel_rfl) rfl rfl rfl ?_
   refine uA ?_
   refine uR ?_
   refine uW wlkR H ?_
   refine qb ?_
   refine uC (fun h => ?_) (fun h => ?_)
   · refine uA ?_
     refine uQ ?_
     exact ⟨Or.inr rfl, _, _, wlkR, Wk.refl _, rfl, rfl, rfl, rfl⟩
   · cases h
 | true =>
   have e2 : nameM w.met r.id = w.met ++ [r.id] := by simp [nameM, hn]
   rw [hn, e2] at H
   have e : zu w r = (if 64 < w.rules + 1 then 6 else ruleE r, ⟨w.met ++ [r.id], w.rules + 1⟩) := by simp [zu, hn]
   rw [e]
   refine qD (ts := [4]) Tryz.func54 (by kernel_rfl) rfl rfl rfl ?_
   refine uA ?_
   refine uR ?_
   refine uW wlkR H ?_
   refine qb ?_
   refine uC (fun h => ?_) (fun h => ?_)
   · cases h
   · refine qd ?_
     refine uA ?_
     rw [show IntKind.i64.wrap (w.rules + 1) = w.rules + 1 from IntWalk.i64_in _ (by omega)]
     refine uA ?_
     refine uC (fun h => ?_) (fun h => ?_)
     · have h1 : 64 < w.rules + 1 := by simp at h; omega
       rw [if_pos h1]
       refine uA ?_
       refine uQ ?_
       exact ⟨Or.inr rfl, _, _, wlkR, Wk.refl _, rfl, rfl, rfl, rfl⟩
     · have h1 : ¬ 64 < w.rules + 1 := by simp at h; omega
       rw [if_neg h1]
       unfold ruleE
       refine qd ?_
       refine uR ?_
       refine uK (target_h r.target hr.tgt) ?_
       refine qb ?_
       refine uA ?_
       refine uC (fun h => ?_) (fun h => ?_)
       · have h2 : ¬ zF r.target = 0 := by simpa using h
         rw [if_neg h2]
         refine uA ?_
         refine uQ ?_
         exact ⟨Or.inr rfl, _, _, wlkR, Wk.refl _, rfl, rfl, rfl, rfl⟩
       · have h2 : zF r.target = 0 := by simpa using h
         rw [if_pos h2]
         refine qd ?_
         refine uR ?_
         refine uK (expr_h r.cond hr.cond) ?_
         refine qb ?_
         refine uA ?_
         refine uC (fun h => ?_) (fun h => ?_)
         · have h3 : ¬ exprS r.cond = 0 := by simpa using h
           rw [if_neg h3]
           refine uA ?_
           refine uQ ?_
           exact ⟨Or.inr rfl, _, _, wlkR, Wk.refl _, rfl, rfl, rfl, rfl⟩
         · have h3 : exprS r.cond = 0 := by simpa using h
           rw [if_pos h3]
           refine qd ?_
           refine uR ?_
           refine uK (obls_h r.obls hr.obls) ?_
           refine qb ?_
           refine uQ ?_
           exact ⟨Or.inr rfl, _, _, wlkR, Wk.refl _, rfl, rfl, rfl, rfl⟩
mutual
def polP : Pol → List PV
 | .mk id set alg target rules kids obls => [pS id, pB set, pI alg, tgtP target, .sl 5 (rules.map zy), .sl 7 (polPs kids), jc obls]
def polPs : List Pol → List (List PV)
 | [] => []
 | k :: r => polP k :: polPs r
end
theorem polPs_eq : ∀ l : List Pol, polPs l = l.map polP
 | [] => rfl
 | k :: r => by rw [polPs, polPs_eq r]; rfl
theorem qG (p : Pol) : polP p = [pS p.id, pB p.set, pI p.alg, tgtP p.target, .sl 5 (p.rules.map zy), .sl 7 (p.kids.map polP), jc p.obls] := by
 cases p
 rw [polP, polPs_eq]; rfl
structure HeadFit (p : Pol) : Prop where
 id : p.id.size ≤ reachBytes
 tgt : TarFit p.target
 rules : ∀ r ∈ p.rules, RulFit r
 obls : ∀ o ∈ p.obls, o.Fit
 nr : p.rules.length ≤ reachBytes
 nk : p.kids.length ≤ reachBytes
theorem whead_h (w : Wlk) (p : Pol) (hp : HeadFit p) : qJ Tryz.prog 53 [.ptr 1000000 0, .p (.agg (polP p))] (wlkO w) (.p (pI (zT w p).1)) (wlkO (zT w p).2) := by
 have H := wname_h w.met w.rules p.id hp.id
 have l1 : ((p.rules.map zy).length) = p.rules.length := by simp
 have l2 : ((p.kids.map polP).length) = p.kids.length := by simp
 rw [qG]
 unfold zT
 cases hn : jF w.met p.id with
 | false =>
   rw [hn] at H
   simp only [Bool.false_and, Bool.false_eq_true, if_false]
   refine qD (ts := [4]) Tryz.func53 (by kernel_rfl) rfl rfl rfl ?_
   refine uA ?_
   refine uR ?_
   refine uW wlkR H ?_
   refine qb ?_
   refine uC (fun h => ?_) (fun h => ?_)
   · refine uA ?_
     refine uQ ?_
     exact ⟨Or.inr rfl, _, _, wlkR, Wk.refl _, rfl, rfl, rfl, rfl⟩
   · cases h
 | true =>
   rw [hn] at H
   refine qD (ts := [4]) Tryz.func53 (by kernel_rfl) rfl rfl rfl ?_
   refine uA ?_
   refine uR ?_
   refine uW wlkR H ?_
   by_cases h1 : p.alg < 1
   · rw [show decide (p.alg < 1) = true from decide_eq_true h1]
     refine uS ?_
     refine qb ?_
     refine uC (fun h => ?_) (fun h => ?_)
     · rw [if_neg (by simp; omega)]
       refine uA ?_
       refine uQ ?_
       exact ⟨Or.inr rfl, _, _, wlkR, Wk.refl _, rfl, rfl, rfl, rfl⟩
     · cases h
   · rw [show decide (p.alg < 1) = false from decide_eq_false h1]
     refine uS ?_
     refine qb ?_
     refine uC (fun h => ?_) (fun h => ?_)
     · have h2 : 6 < p.alg := by simpa using h
       rw [if_neg (by simp; omega)]
       refine uA ?_
       refine uQ ?_
       exact ⟨Or.inr rfl, _, _, wlkR, Wk.refl _, rfl, rfl, rfl, rfl⟩
     · have h2 : ¬ 6 < p.alg := by simpa using h
       rw [if_pos (by simp; omega)]
       unfold headE
       refine qd ?_
       (repeat refine qH ?_); refine ql (by kernel_rfl) ?_
       repeat (refine qi qa rfl (by exact True.intro) rfl ?_)
       refine qP ?_
       rw [l1, l2]
       refine uC (fun h => ?_) (fun h => ?_)
       · rw [if_pos (by revert h; cases p.set <;> simp)]
         refine uA ?_
         refine uQ ?_
         exact ⟨Or.inr rfl, _, _, wlkR, Wk.refl _, rfl, rfl, rfl, rfl⟩
       · rw [if_neg (by revert h; cases p.set <;> simp)]
         refine qd ?_
         refine uR ?_
         refine uK (target_h p.target hp.tgt) ?_
         refine qb ?_
         refine uA ?_
         refine uC (fun h => ?_) (fun h => ?_)
         · have h3 : ¬ zF p.target = 0 := by simpa using h
           rw [if_neg h3]
           refine uA ?_
           refine uQ ?_
           exact ⟨Or.inr rfl, _, _, wlkR, Wk.refl _, rfl, rfl, rfl, rfl⟩
         · have h3 : zF p.target = 0 := by simpa using h
           rw [if_pos h3]
           refine qd ?_
           refine uR ?_
           refine uK (obls_h p.obls hp.obls) ?_
           refine qb ?_
           refine uA ?_
           refine uC (fun h => ?_) (fun h => ?_)
           · have h4 : ¬ oblsS p.obls = 0 := by simpa using h
             rw [if_neg h4]
             refine uA ?_
             refine uQ ?_
             exact ⟨Or.inr rfl, _, _, wlkR, Wk.refl _, rfl, rfl, rfl, rfl⟩
           · have h4 : oblsS p.obls = 0 := by simpa using h
             rw [if_pos h4]
             refine qd ?_
             (repeat refine qH ?_); refine ql (by kernel_rfl) ?_
             repeat (refine qi qa rfl (by exact True.intro) rfl ?_)
             refine qP ?_
             rw [l1, l2]
             refine uC (fun h => ?_) (fun h => ?_)
             · rw [if_pos (by simp at h; omega)]
               refine uA ?_
               refine uQ ?_
               exact ⟨Or.inr rfl, _, _, wlkR, Wk.refl _, rfl, rfl, rfl, rfl⟩
             · rw [if_neg (by simp at h; omega)]
               refine qd ?_
               refine uA ?_
               refine uQ ?_
               exact ⟨Or.inr rfl, _, _, wlkR, Wk.refl _, rfl, rfl, rfl, rfl⟩
def PolFit : Nat → Pol → Prop
 | 0, _ => True
 | n + 1, p => HeadFit p ∧ ∀ k ∈ p.kids, PolFit n k
theorem wpol_h : ∀ (n : Nat) (hn : n ≤ 4) (w : Wlk) (p : Pol), lim w → PolFit n p → qJ Tryz.prog 28 [.ptr 1000000 0, .p (.agg (polP p)), .p (pI (5 - n))] (wlkO w) (.p (pI (polS n w p).1)) (wlkO (polS n w p).2)
 | 0, _, w, p, _, _ => by
   rw [qG]
   refine qD (ts := [6]) Tryz.func28 (by kernel_rfl) rfl rfl rfl ?_
   refine uA ?_
   refine uA ?_
   refine uC (fun h => ?_) (fun h => ?_)
   · refine uA ?_
     refine uQ ?_
     exact ⟨Or.inr rfl, _, _, wlkR, Wk.refl _, rfl, rfl, rfl, rfl⟩
   · cases h
 | n + 1, hn, w, p, hw, hf => by
   have H := whead_h w p hf.1
   have IH := fun w k hw hk => wpol_h n (by omega) w k hw hk
   have l1 : ((p.rules.map zy).length) = p.rules.length := by simp
   have l2 : ((p.kids.map polP).length) = p.kids.length := by simp
   rw [qG] at H ⊢
   rw [polS]
   have hlen := hf.1.nr
   have hlen2 := hf.1.nk
   unfold reachBytes at hlen hlen2
   refine qD (ts := [6]) Tryz.func28 (by kernel_rfl) rfl rfl rfl ?_
   refine uA ?_
   refine uA ?_
   refine uC (fun h => ?_) (fun h => ?_)
   · exfalso
     simp at h
     omega
   · refine qd ?_
     refine uR ?_
     refine uW wlkR H ?_
     refine qb ?_
     refine uA ?_
     refine uC (fun h => ?_) (fun h => ?_)
     · have h1 : ¬ (zT w p).1 = 0 := by simpa using h
       rw [if_neg h1]
       refine uA ?_
       refine uQ ?_
       exact ⟨Or.inr rfl, _, _, wlkR, Wk.refl _, rfl, rfl, rfl, rfl⟩
     · have h1 : (zT w p).1 = 0 := by simpa using h
       rw [if_pos h1]
       have hw1 : lim (zT w p).2 := hw
       generalize (zT w p).2 = w1 at *
       refine qd ?_
       refine uA ?_
       refine uB ?_
       refine uZ [0, 2, 4, 23, 24, 25] [(1000000, 1000000), (1000001, 1000001), (4, 4)] ?_
       refine qw (fun m s => ∃ (k : Nat) (kk : Int) (wk : Wlk), k ≤ p.rules.length ∧ m = p.rules.length - k ∧ kk = k ∧ (seqS zu w1 (p.rules.take k)).1 = 0 ∧ wk = (seqS zu w1 (p.rules.take k)).2 ∧
        s = ⟨52, [(0, .ptr 1000000 0), (2, .p (pI (5 - (n + 1 : Nat)))), (4, .ptr 4 0), (23, .p (.sl 5 (p.rules.map zy))), (24, .p (pI p.rules.length)), (25, .p (pI kk))], wlkO wk ++ [(4, .cells ([pS p.id, pB p.set, pI p.alg, tgtP p.target, .sl 5 (p.rules.map zy), .sl 7 (p.kids.map polP), jc p.obls].map .p))]⟩) p.rules.length ⟨0, 0, w1, Nat.zero_le _, rfl, rfl, rfl, rfl, by rw [← l1]; rfl⟩ ?_
       rintro m s ⟨k, _, wk, hk, rfl, rfl, ha, hwk, rfl⟩
       have hlk : lim wk := by rw [hwk]; exact wN (P := lim) (fun w x hw h => ruleS_lim hw h) hw1 ha
       refine uA ?_
       refine uC (fun hlt => ?_) (fun hlt => ?_)
       · refine qd ?_
         simp only [decide_eq_true_eq] at hlt
         have hlt' : k < p.rules.length := by omega
         have hst := seqS_some hlt' ha
         rw [← hwk] at hst
         refine uB ?_
         refine uR ?_
         refine qe qa rfl rfl (by rw [l1]; omega) rfl ?_
         rw [qm hlt']
         refine uS ?_
         refine qb ?_
         have H2 := wrule_h wk hlk p.rules[k] (hf.1.rules _ (List.getElem_mem hlt'))
         refine uR ?_
         refine uW wlkR H2 ?_
         refine qb ?_
         refine uA ?_
         refine uC (fun h => ?_) (fun h => ?_)
         · have h2 : ¬ (zu wk p.rules[k]).1 = 0 := by simpa using h
           have e : seqS zu w1 p.rules = zu wk p.rules[k] := by rw [seqS_stop (k + 1) (by rw [hst]; exact h2), hst]
           rw [e, if_neg h2]
           refine uA ?_
           refine uQ ?_
           exact ⟨Or.inr rfl, _, _, wlkR, Wk.refl _, rfl, rfl, rfl, rfl⟩
         · have h2 : (zu wk p.rules[k]).1 = 0 := by simpa using h
           refine qd ?_
           refine uA ?_
           refine ⟨_, _, ?_, qh [0, 2, 4, 23, 24, 25] [(1000000, 1000000), (1000001, 1000001), (4, 4)] rfl rfl, k + 1, _, _, hlt', rfl, qf hlt' (by omega), by rw [hst]; exact h2, by rw [hst], rfl⟩
           omega
       · refine qt ?_
         simp only [decide_eq_false_iff_not] at hlt
         have hkk : k = p.rules.length := by omega
         subst hkk
         rw [List.take_length] at ha hwk
         rw [if_pos ha, ← hwk]
         clear hwk
         refine uA ?_
         refine uB ?_
         refine uZ [0, 2, 37, 38, 39] [(1000000, 1000000), (1000001, 1000001)] ?_
         refine qw (fun m s => ∃ (k : Nat) (kk : Int) (w2 : Wlk), k ≤ p.kids.length ∧ m = p.kids.length - k ∧ kk = k ∧ (seqS (polS n) wk (p.kids.take k)).1 = 0 ∧ w2 = (seqS (polS n) wk (p.kids.take k)).2 ∧
          s = ⟨52, [(0, .ptr 1000000 0), (2, .p (pI (5 - (n + 1 : Nat)))), (37, .p (.sl 7 (p.kids.map polP))), (38, .p (pI p.kids.length)), (39, .p (pI kk))], wlkO w2⟩) p.kids.length ⟨0, 0, wk, Nat.zero_le _, rfl, rfl, rfl, rfl, by rw [← l2]; rfl⟩ ?_
         rintro m s ⟨k, _, w2, hk, rfl, rfl, ha, hwk, rfl⟩
         have hl2 : lim w2 := by rw [hwk]; exact wN (P := lim) (fun w x hw h => polS_lim n w x hw h) hlk ha
         refine uA ?_
         refine uC (fun hlt => ?_) (fun hlt => ?_)
         · refine qd ?_
           simp only [decide_eq_true_eq] at hlt
           have hlt' : k < p.kids.length := by omega
           have hst := seqS_some hlt' ha
           rw [← hwk] at hst
           refine uB ?_
           refine uR ?_
           refine qe qa rfl rfl (by rw [l2]; omega) rfl ?_
           rw [qm hlt', qG]
           refine uS ?_
           refine qb ?_
           have H2 := IH w2 p.kids[k] hl2 (hf.2 _ (List.getElem_mem hlt'))
           rw [qG] at H2
           refine uR ?_
           rw [show IntKind.i64.wrap ((5 : Int) - (n + 1 : Nat) + 1) = 5 - (n : Int) by rw [IntWalk.i64_in _ (by omega)]; omega]
           refine uW wlkR H2 ?_
           refine qb ?_
           refine uA ?_
           refine uC (fun h => ?_) (fun h => ?_)
           · have h2 : ¬ (polS n w2 p.kids[k]).1 = 0 := by simpa using h
             have e : seqS (polS n) wk p.kids = polS n w2 p.kids[k] := by rw [seqS_stop (k + 1) (by rw [hst]; exact h2), hst]
             rw [e]
             refine uA ?_
             refine uQ ?_
             exact ⟨Or.inr rfl, _, _, wlkR, Wk.refl _, rfl, rfl, rfl, rfl⟩
           · have h2 : (polS n w2 p.kids[k]).1 = 0 := by simpa using h
             refine qd ?_
             refine uA ?_
             refine ⟨_, _, ?_, qh [0, 2, 37, 38, 39] [(1000000, 1000000), (1000001, 1000001)] rfl rfl, k + 1, _, _, hlt', rfl, qf hlt' (by omega), by rw [hst]; exact h2, by rw [hst], rfl⟩
             omega
         · refine qt ?_
           simp only [decide_eq_false_iff_not] at hlt
           have hkk : k = p.kids.length := by omega
           subst hkk
           rw [List.take_length] at ha hwk
           rw [ha, ← hwk]
           refine uA ?_
           refine uQ ?_
           exact ⟨Or.inr rfl, _, _, wlkR, Wk.refl _, rfl, rfl, rfl, rfl⟩
theorem right_h (p : Pol) (hf : PolFit 4 p) : Holds Tryz.prog 12 [.agg (polP p)] (.p (pI (zj p))) [] := by
 have H := wpol_h 4 (Nat.le_refl _) ⟨[], 0⟩ p ⟨Int.le_refl _, by decide⟩ hf
 rw [qG] at H ⊢
 refine qo (ts := [2]) Tryz.func12 (by kernel_rfl) rfl rfl rfl ?_
 refine uA ?_
 refine uA ?_
 refine uR ?_
 refine uW [(6, 1000000), (4, 1000001)] H ?_
 refine qb ?_
 refine uQ ?_
 exact uF []
theorem opens_tint : Opens Tryz.prog 3 1 rInt := opens_int Tryz.underlying3 (by kernel_rfl)
theorem opens_tstr : Opens Tryz.prog 9 1 rStr := opens_str Tryz.underlying9 (by kernel_rfl)
theorem opens_tbool : Opens Tryz.prog 4 1 rBool := opens_bool Tryz.underlying4 (by kernel_rfl)
set_option maxRecDepth 100000 in
theorem opens_val : Opens Tryz.prog 76 3 rVal := by
 refine ⟨by kernel_rfl, fun H enc w fuel cs x h hw => ?_⟩
 obtain ⟨hlen, m, _, hf⟩ := jo Tryz.underlying76 h hw
 have hc : Tryz.prog.cellsOf 76 = 3 := by kernel_rfl
 rw [hc] at hlen
 match cs, hlen with
 | [c0, c1, c2], _ =>
   obtain ⟨k, hk⟩ := opens_tint.field (off := 0) (hf 0 _ rfl)
   obtain ⟨n, hn⟩ := opens_tint.field (off := 1) (hf 1 _ rfl)
   obtain ⟨s, hs⟩ := opens_tstr.field (off := 2) (hf 2 _ rfl)
   simp only [rInt, rStr, List.drop_succ_cons, List.drop_zero, List.take_succ_cons, List.take_zero, List.cons.injEq, and_true] at hk hn hs
   obtain ⟨rfl, hk⟩ := hk
   obtain ⟨rfl, hn⟩ := hn
   obtain ⟨rfl, hs⟩ := hs
   exact ⟨⟨k, n, s⟩, rfl, hk, hn, hs⟩
set_option maxRecDepth 100000 in
theorem opens_atr : Opens Tryz.prog 74 3 rAtr := by
 refine ⟨by kernel_rfl, fun H enc w fuel cs x h hw => ?_⟩
 obtain ⟨hlen, m, _, hf⟩ := jo Tryz.underlying74 h hw
 have hc : Tryz.prog.cellsOf 74 = 3 := by kernel_rfl
 rw [hc] at hlen
 match cs, hlen with
 | [c0, c1, c2], _ =>
   obtain ⟨k, hk⟩ := opens_tint.field (off := 0) (hf 0 _ rfl)
   obtain ⟨n, hn⟩ := opens_tstr.field (off := 1) (hf 1 _ rfl)
   obtain ⟨s, hs⟩ := opens_tbool.field (off := 2) (hf 2 _ rfl)
   simp only [rInt, rStr, rBool, List.drop_succ_cons, List.drop_zero, List.take_succ_cons, List.take_zero, List.cons.injEq, and_true] at hk hn hs
   obtain ⟨rfl, hk⟩ := hk
   obtain ⟨rfl, hn⟩ := hn
   obtain rfl := hs
   exact ⟨⟨k, n, s⟩, rfl, hk, hn⟩
set_option maxRecDepth 100000 in
theorem opens_mat : Opens Tryz.prog 78 7 rMat := by
 refine ⟨by kernel_rfl, fun H enc w fuel cs x h hw => ?_⟩
 obtain ⟨hlen, m, _, hf⟩ := jo Tryz.underlying78 h hw
 have hc : Tryz.prog.cellsOf 78 = 7 := by kernel_rfl
 rw [hc] at hlen
 match cs, hlen with
 | [c0, c1, c2, c3, c4, c5, c6], _ =>
   obtain ⟨a, ha⟩ := opens_atr.field (off := 0) (hf 0 _ rfl)
   obtain ⟨o, ho⟩ := opens_tint.field (off := 3) (hf 1 _ rfl)
   obtain ⟨v, hv⟩ := opens_val.field (off := 4) (hf 2 _ rfl)
   simp only [rInt, rAtr, rVal, Atr.cells, Val.cells, List.drop_succ_cons, List.drop_zero, List.take_succ_cons, List.take_zero, List.cons.injEq, and_true] at ha ho hv
   obtain ⟨⟨rfl, rfl, rfl⟩, ha⟩ := ha
   obtain ⟨rfl, ho⟩ := ho
   obtain ⟨⟨rfl, rfl, rfl⟩, hv⟩ := hv
   exact ⟨⟨a, o, v⟩, rfl, ha, ho, hv⟩
theorem opens_mats : Opens Tryz.prog 143 1 (rSl rMat 7) := wQ Tryz.underlying143 (by kernel_rfl) (by decide +kernel) (by omega) opens_mat
theorem opens_matss : Opens Tryz.prog 142 1 (rSl (rSl rMat 7) 1) := wQ Tryz.underlying142 (by kernel_rfl) (by decide +kernel) (by omega) opens_mats
theorem opens_tar : Opens Tryz.prog 27 1 (rSl (rSl (rSl rMat 7) 1) 1) := wQ Tryz.underlying27 (by kernel_rfl) (by decide +kernel) (by omega) opens_matss
set_option maxRecDepth 100000 in
theorem opens_obl : Opens Tryz.prog 98 3 rObl := by
 refine ⟨by kernel_rfl, fun H enc w fuel cs x h hw => ?_⟩
 obtain ⟨hlen, m, _, hf⟩ := jo Tryz.underlying98 h hw
 have hc : Tryz.prog.cellsOf 98 = 3 := by kernel_rfl
 rw [hc] at hlen
 match cs, hlen with
 | [c0, c1, c2], _ =>
   obtain ⟨k, hk⟩ := opens_tint.field (off := 0) (hf 0 _ rfl)
   obtain ⟨n, hn⟩ := opens_tint.field (off := 1) (hf 1 _ rfl)
   obtain ⟨s, hs⟩ := opens_tstr.field (off := 2) (hf 2 _ rfl)
   simp only [rInt, rStr, List.drop_succ_cons, List.drop_zero, List.take_succ_cons, List.take_zero, List.cons.injEq, and_true] at hk hn hs
   obtain ⟨rfl, hk⟩ := hk
   obtain ⟨rfl, hn⟩ := hn
   obtain ⟨rfl, hs⟩ := hs
   exact ⟨⟨k, n, s⟩, rfl, hk, hn, hs⟩
set_option maxRecDepth 100000 in
theorem opens_nod : Opens Tryz.prog 137 7 rNod := by
 refine ⟨by kernel_rfl, fun H enc w fuel cs x h hw => ?_⟩
 obtain ⟨hlen, m, _, hf⟩ := jo Tryz.underlying137 h hw
 have hc : Tryz.prog.cellsOf 137 = 7 := by kernel_rfl
 rw [hc] at hlen
 match cs, hlen with
 | [c0, c1, c2, c3, c4, c5, c6], _ =>
   obtain ⟨o, ho⟩ := opens_tint.field (off := 0) (hf 0 _ rfl)
   obtain ⟨v, hv⟩ := opens_val.field (off := 1) (hf 1 _ rfl)
   obtain ⟨a, ha⟩ := opens_atr.field (off := 4) (hf 2 _ rfl)
   simp only [rInt, rAtr, rVal, Atr.cells, Val.cells, List.drop_succ_cons, List.drop_zero, List.take_succ_cons, List.take_zero, List.cons.injEq, and_true] at ha ho hv
   obtain ⟨⟨rfl, rfl, rfl⟩, ha⟩ := ha
   obtain ⟨rfl, ho⟩ := ho
   obtain ⟨⟨rfl, rfl, rfl⟩, hv⟩ := hv
   exact ⟨⟨o, v, a⟩, rfl, ho, hv, ha⟩
theorem opens_obls : Opens Tryz.prog 30 1 (rSl rObl 3) := wQ Tryz.underlying30 (by kernel_rfl) (by decide +kernel) (by omega) opens_obl
theorem opens_nods : Opens Tryz.prog 79 1 (rSl rNod 7) := wQ Tryz.underlying79 (by kernel_rfl) (by decide +kernel) (by omega) opens_nod
theorem obl_pv {w : World} {cs : List Value} {x : Obli} (h : rObl w cs x) : rPV (fun _ => True) w cs x.pv := by
 rw [h.1]; exact plain_rPV (xs := [.int .i64 x.on, .int .i64 x.kind, .string x.arg]) (by simp [plain])
theorem nod_pv {w : World} {cs : List Value} {x : Nod} (h : rNod w cs x) : rPV (fun _ => True) w cs x.pv := by
 rw [h.1]; exact plain_rPV (xs := [.int .i64 x.op, .int .i64 x.val.kind, .int .i64 x.val.n, .string x.val.s, .int .i64 x.attr.cat, .string x.attr.name, .bool x.attr.must]) (by simp [plain])
theorem SlV.rel {α : Type} {R : Rp α} {f : α → List PV} {z : Nat} {w : World} {v : Value} {l : List α} (h : SlV R z w v l) (hz : ∀ x, (f x).length = z ∧ (f x).all oneP = true) (hf : ∀ x ∈ l, ∀ cs, R w cs x → rPV (fun _ => True) w cs (f x)) : RelP (fun _ => True) w (.sl z (l.map f)) v := by
 obtain ⟨A, c, rfl, h1, h2, h3⟩ := h
 exact rel_sl h3 h1 h2 hz hf
theorem SlV.fit {α : Type} {R : Rp α} {size : Nat} {w : World} {v : Value} {l : List α} {F : α → Prop} (h : SlV R size w v l) (hR : ∀ cs x, R w cs x → F x) : (∀ x ∈ l, F x) ∧ l.length ≤ reachBytes := by
 obtain ⟨A, c, rfl, h1, h2, h3⟩ := h
 exact ⟨h3.fit hR, h2.1⟩
theorem jm {ok : Nat → Prop} {w : World} {c : Value} {cs : List Value} {p : PV} {ps : List PV} (h : RelP ok w p c) (t : rPV ok w cs ps) : rPV ok w (c :: cs) (p :: ps) := by
 refine ⟨by simp [t.1], fun j s u hs hu => ?_⟩
 cases j with
 | zero => simp at hs hu; subst hs; subst hu; exact h
 | succ j => exact t.2 j s u (by simpa using hs) (by simpa using hu)
theorem rPV_nil {ok : Nat → Prop} {w : World} : rPV ok w [] [] := ⟨rfl, fun j s u hs _ => by simp at hs⟩
set_option maxRecDepth 100000 in
theorem opens_rul : Opens Tryz.prog 109 5 rRul := by
 refine ⟨by kernel_rfl, fun H enc w fuel cs x h hw => ?_⟩
 obtain ⟨hlen, m, _, hf⟩ := jo Tryz.underlying109 h hw
 have hc : Tryz.prog.cellsOf 109 = 5 := by kernel_rfl
 rw [hc] at hlen
 match cs, hlen with
 | [c0, c1, c2, c3, c4], _ =>
   obtain ⟨o, ho⟩ := opens_tstr.field (off := 0) (hf 0 _ rfl)
   obtain ⟨b, hb⟩ := opens_tbool.field (off := 1) (hf 1 _ rfl)
   obtain ⟨t, h2⟩ := opens_tar.field (off := 2) (hf 2 _ rfl)
   obtain ⟨n, h3⟩ := opens_nods.field (off := 3) (hf 3 _ rfl)
   obtain ⟨l, h4⟩ := opens_obls.field (off := 4) (hf 4 _ rfl)
   simp only [rStr, rBool, List.drop_succ_cons, List.drop_zero, List.take_succ_cons, List.take_zero, List.cons.injEq, and_true] at ho hb h2 h3 h4
   obtain ⟨rfl, ho⟩ := ho
   subst hb
   exact ⟨⟨o, b, t, n, l⟩, c2, c3, c4, rfl, ho, .of h2, .of h3, .of h4⟩
theorem opens_ruls : Opens Tryz.prog 28 1 (rSl rRul 5) := wQ Tryz.underlying28 (by kernel_rfl) (by decide +kernel) (by omega) opens_rul
theorem tar_pv {w : World} {v : Value} {t : Tar} (h : SlV rTar' 1 w v t) : RelP (fun _ => True) w (tgtP t) v := by
 obtain ⟨A, c, rfl, h1, h2, h3⟩ := h
 exact tgt_rel h3 h1 h2
theorem rul_pv {w : World} {cs : List Value} {x : Rul} (h : rRul w cs x) : rPV (fun _ => True) w cs (zy x) := by
 obtain ⟨c2, c3, c4, rfl, _, h2, h3, h4⟩ := h
 exact jm (.v rfl) (jm (.v rfl) (jm (tar_pv h2) (jm (h3.rel (fun x => ⟨rfl, rfl⟩) fun x _ cs h => nod_pv h) (jm (h4.rel (fun x => ⟨rfl, rfl⟩) fun x _ cs h => obl_pv h) rPV_nil))))
theorem rul_fit {w : World} {cs : List Value} {x : Rul} (h : rRul w cs x) : RulFit x := by
 obtain ⟨c2, c3, c4, rfl, h1, ⟨A, c, rfl, _, _, h2⟩, h3, h4⟩ := h
 exact ⟨h1, tgt_fit h2, (h3.fit fun _ _ h => h.2).1, (h4.fit fun _ _ h => h.2).1⟩
def rPolX : Rp Pol := fun w cs p => ∃ n, rPolN n w cs p
def OpensS {α : Type} (P : Program) (t : TypeId) (size : Nat) (R : Rp α) (s : Nat) : Prop :=
 P.cellsOf t = size ∧ ∀ (H : Type) (enc : TypeId × Value → H) (w : World) (fuel : Nat) (cs : List Value) (x : DataW H × List MemPlace), SizeOf.sizeOf x.1 < s →
  DataW.trod enc P w 0 (fun _ => true) true fuel t cs = some x → (∀ n ∈ x.1.weights P t, n ≤ reachBytes) → ∃ y, R w cs y
theorem sl_openS {α : Type} {P : Program} {t e : TypeId} {size s : Nat} {R : Rp α} (ht : P.underlying t = some (.slice e)) (hb : 1 ≤ P.bytesOf e) (hs : 1 ≤ size) (he : OpensS P e size R s)
 {H : Type} {enc : TypeId × Value → H} {w : World} {fuel : Nat} {cs : List Value} {x : DataW H × List MemPlace} (hx : SizeOf.sizeOf x.1 ≤ s) (h : DataW.trod enc P w 0 (fun _ => true) true fuel t cs = some x) (hw : ∀ n ∈ x.1.weights P t, n ≤ reachBytes) : ∃ y, rSl R size w cs y := by
 rcases Go.Deep.open_slice ht h with ⟨rfl, _⟩ | ⟨a, len, cap, m, n, D, Pl, rfl, _, hlc, hcm, hm, rfl, hel⟩
 · exact ⟨[], none, 0, rfl, Nat.le_refl _, ⟨Nat.zero_le _, Nat.zero_le _⟩, SlAt.nil⟩
 · simp only [if_true] at hm
   subst hm
   have hcap : m ≤ reachBytes := by
    have h1 := hw ((((List.range len).map D).length + ((List.range (m - len)).map fun j => D (len + j)).length) * P.bytesOf e) (by simp [DataW.weights, ht])
    simp only [List.length_map, List.length_range] at h1
    have h2 : len + (m - len) = m := by omega
    rw [h2] at h1
    exact Nat.le_trans (Nat.le_mul_of_pos_right m hb) h1
   have hcap' : m ≤ maxLen := by unfold maxLen; unfold reachBytes at hcap; omega
   have hsz : ∀ i, i < m → SizeOf.sizeOf (D i) < s := fun i hi => by
    simp only [DataW.slice.sizeOf_spec] at hx
    rcases Nat.lt_or_ge i len with hil | hil
    · have : D i ∈ (List.range len).map D := List.mem_map.2 ⟨i, List.mem_range.2 hil, rfl⟩
      have := List.sizeOf_lt_of_mem this
      omega
    · have : D i ∈ (List.range (m - len)).map fun j => D (len + j) := List.mem_map.2 ⟨i - len, List.mem_range.2 (by omega), by rw [show len + (i - len) = i by omega]⟩
      have := List.sizeOf_lt_of_mem this
      omega
   have hcell : ∀ i, i < m → ∃ cs', cs'.length = size ∧ (∀ j u, cs'[j]? = some u → w.cell? ((a.add (i * size)).add j) = some u) ∧ ∃ y, R w cs' y := fun i hi => by
    obtain ⟨cs', h1, h2⟩ := hel i hi
    rw [he.1] at h1
    obtain ⟨_, h3, h4⟩ := World.cells?_some h1
    refine ⟨cs', h3, fun j u hj => ?_, ?_⟩
    · have : j < size := by rw [← h3]; exact (List.getElem?_eq_some_iff.1 hj).1
      rw [h4 j this, hj]
    · refine he.2 H enc w n cs' _ (hsz i hi) h2 fun k hk => hw k ?_
      simp only [DataW.weights, ht, List.mem_cons, List.mem_append]
      rcases Nat.lt_or_ge i len with hil | hil
      · exact Or.inr (Or.inl (jf (List.mem_map.2 ⟨i, List.mem_range.2 hil, rfl⟩) k hk))
      · refine Or.inr (Or.inr (jf (d := D i) (List.mem_map.2 ⟨i - len, List.mem_range.2 (by omega), ?_⟩) k hk))
        rw [show len + (i - len) = i by omega]
   rcases Nat.eq_zero_or_pos len with h0 | hpos
   · subst h0
     exact ⟨[], some a, m, rfl, Nat.zero_le _, ⟨Nat.zero_le _, hcap'⟩, SlAt.nil⟩
   · have hsp : a.spot = none ∧ a.block < w.heap.size := by
      obtain ⟨cs', h1, h2, _⟩ := hcell 0 (by omega)
      obtain ⟨u, hu⟩ : ∃ u, cs'[0]? = some u := ⟨cs'[0]'(by omega), List.getElem?_eq_getElem _⟩
      have h3 := h2 0 u hu
      simp only [Nat.zero_mul, Addr.add, if_true] at h3
      exact ⟨(lt_of_cell h3).2, (lt_of_cell h3).1⟩
     obtain ⟨b, o, sp⟩ := a
     obtain ⟨rfl, hlt⟩ := hsp
     have hadd : ∀ o k : Nat, (⟨b, o, none⟩ : Addr).add k = ⟨b, o + k, none⟩ := fun o k => by
      unfold Addr.add; split
      · simp [*]
      · rfl
     have hex : ∀ i : Nat, ∃ y : α, i < m → ∃ cs', cs'.length = size ∧ CellsAt w b (o + i * size) cs' ∧ R w cs' y := fun i => by
      by_cases hi : i < m
      · obtain ⟨cs', h1, h2, y, hy⟩ := hcell i hi
        refine ⟨y, fun _ => ⟨cs', h1, fun j u hj => ?_, hy⟩⟩
        have := h2 j u hj
        rw [hadd, hadd] at this
        exact this
      · obtain ⟨_, _, _, y, _⟩ := hcell 0 (by omega)
        exact ⟨y, fun h => absurd h hi⟩
     obtain ⟨f, hf⟩ := Classical.axiomOfChoice hex
     refine ⟨(List.range len).map f, some ⟨b, o, none⟩, m, by simp, by simpa using hlc, ⟨by simp; omega, hcap'⟩, fun _ => ⟨b, o, rfl, hlt, fun i hi => ?_⟩⟩
     have hi' : i < len := by simpa using hi
     obtain ⟨cs', h1, h2, h3⟩ := hf i (by omega)
     exact ⟨cs', h1, h2, by simpa using h3⟩
theorem struct_openS {H : Type} {enc : TypeId × Value → H} {P : Program} {w : World} {fuel : Nat} {t : TypeId} {fs : Array Field} {cs : List Value} {x : DataW H × List MemPlace} (ht : P.underlying t = some (.struct fs))
 (h : DataW.trod enc P w 0 (fun _ => true) true fuel t cs = some x) (hw : ∀ n ∈ x.1.weights P t, n ≤ reachBytes) :
 cs.length = P.cellsOf t ∧ ∃ m, ∀ (i : Nat) (f : Field), fs[i]? = some f → ∃ y, DataW.trod enc P w 0 (fun _ => true) true m f.type ((cs.drop f.offset).take (P.cellsOf f.type)) = some y ∧ (∀ n ∈ y.1.weights P f.type, n ≤ reachBytes) ∧ SizeOf.sizeOf y.1 < SizeOf.sizeOf x.1 := by
 obtain ⟨xs, n, hn, hx, hlen, hxl, hf⟩ := DataW.trod_struct ht h
 refine ⟨hlen, n, fun i f hi => ?_⟩
 have hil : i < fs.size := (Array.getElem?_eq_some_iff.1 hi).1
 have hy : xs[i]? = some (xs[i]'(by omega)) := List.getElem?_eq_getElem (by omega)
 refine ⟨_, (hf i f hi).trans hy, fun k hk => hw k ?_, ?_⟩
 · subst hx
   simp only [DataW.weights, ht]
   refine DataW.weights_mem_each (j := i) (t := f.type) (d := (xs[i]'(by omega)).1) ?_ ?_ k hk
   · rw [List.getElem?_map, Array.getElem?_toList, hi]; rfl
   · rw [List.getElem?_map, hy]; rfl
 · subst hx
   have h1 : (xs[i]'(by omega)).1 ∈ xs.map (·.1) := List.mem_map.2 ⟨_, List.getElem_mem _, rfl⟩
   have h2 := List.sizeOf_lt_of_mem h1
   simp only [DataW.agg.sizeOf_spec]
   omega
theorem hd3 {α : Type} {P : α → Prop} {Q R : α → Prop} (h : ∃ y, P y ∧ Q y ∧ R y) : ∃ y, P y ∧ Q y := by
 obtain ⟨y, a, b, _⟩ := h; exact ⟨y, a, b⟩
set_option maxRecDepth 100000 in
theorem opens_polS : ∀ s, OpensS Tryz.prog 32 7 (rPolN s) s := by
 intro s
 induction s with
 | zero => exact ⟨by kernel_rfl, fun H enc w fuel cs x hx => absurd hx (Nat.not_lt_zero _)⟩
 | succ s ih =>
   refine ⟨by kernel_rfl, fun H enc w fuel cs x hx h hw => ?_⟩
   obtain ⟨hlen, m, hf⟩ := struct_openS Tryz.underlying32 h hw
   have hc : Tryz.prog.cellsOf 32 = 7 := by kernel_rfl
   rw [hc] at hlen
   match cs, hlen with
   | [c0, c1, c2, c3, c4, c5, c6], _ =>
     obtain ⟨o, ho⟩ := opens_tstr.field (off := 0) (hd3 (hf 0 _ rfl))
     obtain ⟨b, hb⟩ := opens_tbool.field (off := 1) (hd3 (hf 1 _ rfl))
     obtain ⟨n, hn⟩ := opens_tint.field (off := 2) (hd3 (hf 2 _ rfl))
     obtain ⟨t, h3⟩ := opens_tar.field (off := 3) (hd3 (hf 3 _ rfl))
     obtain ⟨r, h4⟩ := opens_ruls.field (off := 4) (hd3 (hf 4 _ rfl))
     obtain ⟨l, h6⟩ := opens_obls.field (off := 6) (hd3 (hf 6 _ rfl))
     obtain ⟨y, h5, hy1, hy2⟩ := hf 5 _ rfl
     obtain ⟨k, h5⟩ := sl_openS Tryz.underlying29 (by decide +kernel) (by omega) ih (by omega) h5 hy1
     have hc1 : Tryz.prog.cellsOf 29 = 1 := by kernel_rfl
     simp only [rStr, rBool, rInt, hc1, List.drop_succ_cons, List.drop_zero, List.take_succ_cons, List.take_zero, List.cons.injEq, and_true] at ho hb hn h3 h4 h5 h6
     obtain ⟨rfl, ho⟩ := ho
     subst hb
     obtain ⟨rfl, hn⟩ := hn
     exact ⟨.mk o b n t r k l, c3, c4, c5, c6, rfl, ho, hn, .of h3, .of h4, .of h5, .of h6⟩
theorem opens_pol : Opens Tryz.prog 32 7 rPolX := ⟨(opens_polS 0).1, fun H enc w fuel cs x h hw => by
 obtain ⟨p, hp⟩ := (opens_polS (SizeOf.sizeOf x.1 + 1)).2 H enc w fuel cs x (Nat.lt_succ_self _) h hw
 exact ⟨p, _, hp⟩⟩
theorem polP_shape (x : Pol) : (polP x).length = 7 ∧ (polP x).all oneP = true := by rw [qG]; exact ⟨rfl, rfl⟩
theorem pol_pv : ∀ (n : Nat) {w : World} {cs : List Value} {p : Pol}, rPolN n w cs p → rPV (fun _ => True) w cs (polP p)
 | n + 1, w, cs, p, ⟨c3, c4, c5, c6, he, _, _, h3, h4, h5, h6⟩ => by
   subst he
   rw [qG]
   exact jm (.v rfl) (jm (.v rfl) (jm (.v rfl) (jm (tar_pv h3) (jm (h4.rel (fun x => ⟨rfl, rfl⟩) fun x _ cs h => rul_pv h)
    (jm (h5.rel polP_shape fun x _ cs h => pol_pv n h) (jm (h6.rel (fun x => ⟨rfl, rfl⟩) fun x _ cs h => obl_pv h) rPV_nil))))))
theorem pol_fit : ∀ (m : Nat) {n : Nat} {w : World} {cs : List Value} {p : Pol}, rPolN n w cs p → PolFit m p
 | 0, _, _, _, _, _ => trivial
 | m + 1, n + 1, w, cs, p, ⟨c3, c4, c5, c6, he, hid, _, ⟨A, c, ha, _, _, h3⟩, h4, h5, h6⟩ => by
   have k4 := h4.fit (F := RulFit) fun _ _ h => rul_fit h
   have k5 := h5.fit (F := PolFit m) fun _ _ h => pol_fit m h
   have k6 := h6.fit (F := Obli.Fit) fun _ _ h => h.2
   exact ⟨⟨hid, tgt_fit h3, k4.1, k6.1, k4.2, k5.2⟩, k5.1⟩
def PolF : Nat → Pol → Prop
 | 0, _ => False
 | n + 1, p => HeadFit p ∧ R64 p.alg ∧ ∀ k ∈ p.kids, PolF n k
theorem qaE : ∀ (m : Nat) {n : Nat} {p : Pol}, PolF n p → PolFit m p
 | 0, _, _, _ => True.intro
 | m + 1, n + 1, p, h => ⟨h.1, fun k hk => qaE m (h.2.2 k hk)⟩
theorem polF_of : ∀ {n : Nat} {w : World} {cs : List Value} {p : Pol}, rPolN n w cs p → PolF n p
 | n + 1, w, cs, p, h => by
   have h1 := pol_fit 1 h
   obtain ⟨c3, c4, c5, c6, he, hid, ha, _, _, h5, _⟩ := h
   exact ⟨h1.1, ha, (h5.fit (F := PolF n) fun _ _ h => polF_of h).1⟩
theorem SWT.wk {P : Program} {ops l : List Oper} {Q : St → Prop} {st st' : St} (h : Wk st st') (h' : SWT P ops l Q st') : SWT P ops l Q st := fun w0 Sx γ a w QQ hI hQ => by
 obtain ⟨γ', hI'⟩ := h w0 Sx γ a w hI
 exact h' w0 Sx γ' a w QQ hI' hQ
theorem xsz_le {t : Tar} {x : List (List Mat)} (h : x ∈ t) : xsz x ≤ tsz t := by
 have := wd (f := xsz) h
 unfold tsz; omega
theorem len_sumBy {α : Type} (f : α → Nat) (h : ∀ x, 1 ≤ f x) : ∀ l : List α, l.length ≤ qB f l
 | [] => Nat.zero_le _
 | x :: r => by
   have h1 := len_sumBy f h r
   have h2 := h x
   simp only [qB, List.map_cons, List.sum_cons, List.length_cons] at h1 ⊢
   omega
instance decVal : DecidableEq Val := fun a b => decidable_of_iff (a.kind = b.kind ∧ a.n = b.n ∧ a.s = b.s) ⟨fun h => by cases a; cases b; simp only at h; simp [h], fun h => by subst h; simp⟩
instance decAtr : DecidableEq Atr := fun a b => decidable_of_iff (a.cat = b.cat ∧ a.name = b.name ∧ a.must = b.must) ⟨fun h => by cases a; cases b; simp only at h; simp [h], fun h => by subst h; simp⟩
instance decMat : DecidableEq Mat := fun a b => decidable_of_iff (a.attr = b.attr ∧ a.op = b.op ∧ a.val = b.val) ⟨fun h => by cases a; cases b; simp only at h; simp [h], fun h => by subst h; simp⟩
instance decNod : DecidableEq Nod := fun a b => decidable_of_iff (a.op = b.op ∧ a.val = b.val ∧ a.attr = b.attr) ⟨fun h => by cases a; cases b; simp only at h; simp [h], fun h => by subst h; simp⟩
structure Atm where
 m : Mat
 c : List Nod
instance decAtm : DecidableEq Atm := fun a b => decidable_of_iff (a.m = b.m ∧ a.c = b.c) ⟨fun h => by cases a; cases b; simp only at h; simp [h], fun h => by subst h; simp⟩
def jU (l : List Atm) (a : Atm) : Int := if l.findIdx (fun x => decide (x = a)) < l.length then ((l.findIdx fun x => decide (x = a) : Nat) : Int) else -1
def moreA (l : List Atm) (a : Atm) : List Atm := if a ∈ l then l else l ++ [a]
def addA (l bs : List Atm) : List Atm := bs.foldl moreA l
def zeroM : Mat := ⟨⟨0, ⟨#[]⟩, false⟩, 0, ⟨0, 0, ⟨#[]⟩⟩⟩
def allA (y : List Mat) : List Atm := y.map fun m => ⟨m, []⟩
def anyA (x : List (List Mat)) : List Atm := x.flatMap allA
def tarA (t : Tar) : List Atm := t.flatMap anyA
def condA (c : List Nod) : List Atm := if c = [] then [] else [⟨zeroM, c⟩]
def rulA (r : Rul) : List Atm := tarA r.target ++ condA r.cond
def polA : Nat → Pol → List Atm
 | 0, _ => []
 | n + 1, p => tarA p.target ++ (p.rules.flatMap rulA ++ p.kids.flatMap (polA n))
theorem findA_mem {l : List Atm} {a : Atm} : a ∈ l ↔ l.findIdx (fun x => decide (x = a)) < l.length := by
 rw [List.findIdx_lt_length]
 constructor
 · intro h; exact ⟨a, h, by simp⟩
 · rintro ⟨x, h1, h2⟩
   have : x = a := by simpa using h2
   subst this; exact h1
theorem findA_no {l : List Atm} {a : Atm} (h : a ∉ l) : jU l a = -1 := by
 unfold jU; rw [if_neg (fun h2 => h (findA_mem.2 h2))]
theorem findA_yes {l : List Atm} {a : Atm} (h : a ∈ l) : 0 ≤ jU l a := by
 unfold jU; rw [if_pos (findA_mem.1 h)]; omega
theorem moreA_mem {l : List Atm} {a x : Atm} : x ∈ moreA l a ↔ x ∈ l ∨ x = a := by
 unfold moreA
 split
 · rename_i h
   exact ⟨Or.inl, fun h2 => h2.elim id fun e => e ▸ h⟩
 · simp
theorem moreA_len (l : List Atm) (a : Atm) : (moreA l a).length ≤ l.length + 1 := by
 unfold moreA; split <;> simp
theorem addA_cons (l : List Atm) (a : Atm) (bs : List Atm) : addA l (a :: bs) = addA (moreA l a) bs := rfl
theorem za (l a b : List Atm) : addA l (a ++ b) = addA (addA l a) b := List.foldl_append ..
theorem addA_mem : ∀ {bs l : List Atm} {x : Atm}, x ∈ addA l bs ↔ x ∈ l ∨ x ∈ bs
 | [], l, x => by simp [addA]
 | a :: bs, l, x => by rw [addA_cons, addA_mem, moreA_mem, List.mem_cons, or_assoc]
theorem zH : ∀ (bs l : List Atm), (addA l bs).length ≤ l.length + bs.length
 | [], l => Nat.le_refl _
 | a :: bs, l => by
   have h1 := zH bs (moreA l a)
   have h2 := moreA_len l a
   rw [addA_cons, List.length_cons]; omega
theorem polA_dp : ∀ {n : Nat} {p : Pol}, Dp n p → ∀ {m : Nat}, n ≤ m → polA m p = polA n p
 | n + 1, p, h, m + 1, hm => by
   rw [polA, polA]
   have e : p.kids.flatMap (polA m) = p.kids.flatMap (polA n) := by
    have : p.kids.map (polA m) = p.kids.map (polA n) := List.map_congr_left fun k hk => polA_dp (h k hk) (by omega)
    rw [List.flatMap_def, List.flatMap_def, this]
   rw [e]
theorem jx {α : Type} (f : α → List Atm) (c : α → Nat) (h : ∀ x, (f x).length ≤ c x) : ∀ l : List α, (l.flatMap f).length ≤ qB c l
 | [] => Nat.le_refl _
 | x :: l => by
   have h1 := jx f c h l
   have h2 := h x
   simp only [List.flatMap_cons, List.length_append, qB, List.map_cons, List.sum_cons] at *
   omega
theorem sumBy_map_le {α : Type} {f h : α → Nat} (hle : ∀ x, f x ≤ h x) : ∀ l : List α, qB f l ≤ qB h l
 | [] => Nat.le_refl _
 | x :: l => by
   have := sumBy_map_le hle l
   have := hle x
   simp only [qB, List.map_cons, List.sum_cons] at *
   omega
theorem tarA_len (t : Tar) : (tarA t).length ≤ tsz t := by
 have h1 : ∀ y : List Mat, (allA y).length ≤ asz y := fun y => by unfold allA asz; rw [List.length_map]; omega
 have h2 : ∀ x : List (List Mat), (anyA x).length ≤ xsz x := fun x => by
  have := jx allA asz h1 x
  unfold anyA xsz; omega
 have := jx anyA xsz h2 t
 unfold tarA tsz; omega
theorem rulA_len (r : Rul) : (rulA r).length ≤ rusz r := by
 have h1 := tarA_len r.target
 have h2 : (condA r.cond).length ≤ 1 := by unfold condA; split <;> simp
 have h6 : rusz r = txt r.id + tsz r.target + r.cond.length + osz r.obls + qB nsz r.cond := rfl
 have h7 : 1 ≤ txt r.id := by unfold txt; omega
 unfold rulA
 rw [List.length_append]; omega
theorem polA_len : ∀ (n : Nat) (p : Pol), (polA n p).length ≤ p.sz
 | 0, p => Nat.zero_le _
 | n + 1, p => by
   have h1 := tarA_len p.target
   have h2 := jx rulA rusz rulA_len p.rules
   have h3 := jx (polA n) Pol.sz (polA_len n) p.kids
   have h4 := Pol.sz_eq p
   rw [polA, List.length_append, List.length_append]; omega
set_option maxHeartbeats 1000000
theorem qac (a b : ByteArray) : (a.toList == b.toList) = decide (a = b) := by
 rw [Bool.eq_iff_iff]
 simp only [beq_iff_eq, decide_eq_true_eq]
 exact ⟨toList_inj, fun h => by rw [h]⟩
set_option maxHeartbeats 4000000
attribute [local go_sem] wM js
attribute [local go_sem low] jp zo
end Go.Proofs.YtkkbdgijfkocnaaGreatDoor
namespace Go.Proofs.YtkkbdgijfkocnaaGreatDoor
open Go.RowKit
set_option linter.unusedSimpArgs false
set_option linter.unusedVariables false
attribute [local go_sem] wM js
attribute [local go_sem low] jp zo
end Go.Proofs.YtkkbdgijfkocnaaGreatDoor
namespace Go.Proofs.YtkkbdgijfkocnaaGreatDoor
open Go.RowKit
set_option linter.unusedSimpArgs false
set_option linter.unusedVariables false
attribute [local go_sem] wM js
attribute [local go_sem low] jp zo
attribute [local go_sem ↓] eql_val
end Go.Proofs.YtkkbdgijfkocnaaGreatDoor
namespace Go.Proofs.YtkkbdgijfkocnaaGreatDoor
open Go.RowKit
set_option linter.unusedSimpArgs false
set_option linter.unusedVariables false
attribute [local go_sem] wM js
attribute [local go_sem low] jp zo
attribute [local go_sem ↓] eql_val
end Go.Proofs.YtkkbdgijfkocnaaGreatDoor
namespace Go.Proofs.YtkkbdgijfkocnaaGreatDoor
set_option linter.unusedVariables false
set_option linter.unusedSimpArgs false
open Go.RowKit
structure Itm.Fit (x : Itm) : Prop where
 bag : ∀ v ∈ x.bag, v.Fit
 v : x.v.Fit
 len : x.bag.length ≤ 1000000
set_option maxHeartbeats 4000000
def TarSm (t : Tar) : Prop := t.length ≤ 1000000 ∧ ∀ x ∈ t, x.length ≤ 1000000 ∧ ∀ y ∈ x, y.length ≤ 1000000
structure GivOk (g : List Giv) : Prop where
 fit : ∀ x ∈ g, x.Fit
 len : g.length ≤ 1000000
 bags : ∀ x ∈ g, x.bag.length ≤ 1000000
attribute [local go_sem] wM js
attribute [local go_sem low] jp zo
abbrev cntObj (c : Nat) : Obj := .cells #[.int .i64 (c : Int)] 88 (0, 0)
structure CntR (b c : Nat) (w w' : World) : Prop where
 os : w'.os = w.os
 tape : w'.tape = w.tape
 output : w'.output = w.output
 size : w.heap.size ≤ w'.heap.size
 block : ∀ k, k < w.heap.size → k ≠ b → w'.heap[k]? = w.heap[k]?
 cnt : w'.heap[b]? = some (cntObj c)
theorem CntR.below {b c : Nat} {w w' : World} (h : CntR b c w w') {B : Nat} (hB : B ≤ b) (hw : B ≤ w.heap.size) : Below B w w' :=
 ⟨h.os, h.tape, h.output, h.size, fun k hk => h.block k (by omega) (by omega)⟩
theorem CntR.trans {b c c' : Nat} {w w1 w2 : World} (h : CntR b c w w1) (k : CntR b c' w1 w2) : CntR b c' w w2 :=
 ⟨k.os.trans h.os, k.tape.trans h.tape, k.output.trans h.output, Nat.le_trans h.size k.size, fun i hi hb => (k.block i (Nat.lt_of_lt_of_le hi h.size) hb).trans (h.block i hi hb), k.cnt⟩
theorem CntR.refl {b c : Nat} {w : World} (h : w.heap[b]? = some (cntObj c)) : CntR b c w w := ⟨rfl, rfl, rfl, Nat.le_refl _, fun _ _ _ => rfl, h⟩
theorem heap_alloc {w : World} {b : Nat} {x : Obj} (h : w.heap[b]? = some x) (o : Obj) : (w.alloc o).heap[b]? = some x := (Below.heap_alloc w o b (lt_of_block h)).trans h
theorem CntR.alloc {b c : Nat} {w w1 : World} (h : CntR b c w w1) (o : Obj) : CntR b c w (w1.alloc o) :=
 ⟨h.os, h.tape, h.output, Nat.le_trans h.size (by simp), fun i hi hb => (Below.heap_alloc _ _ _ (Nat.lt_of_lt_of_le hi h.size)).trans (h.block i hi hb), heap_alloc h.cnt o⟩
theorem CntR.facts {b c : Nat} {w w' : World} (h : CntR b c w w') :
 (∀ g o, w'.cell? ⟨g, o, none⟩ = if g < b then (if g < w.heap.size then w.cell? ⟨g, o, none⟩ else cellIn w' ⟨g, o, none⟩) else if b < g then (if g < w.heap.size then w.cell? ⟨g, o, none⟩ else cellIn w' ⟨g, o, none⟩) else (#[Value.int .i64 (c : Int)])[o]?) ∧
 (∀ g o, w'.frozen? ⟨g, o, none⟩ = if g < b then (if g < w.heap.size then w.frozen? ⟨g, o, none⟩ else frozenIn w' ⟨g, o, none⟩) else if b < g then (if g < w.heap.size then w.frozen? ⟨g, o, none⟩ else frozenIn w' ⟨g, o, none⟩) else false) ∧
 w.heap.size ≤ w'.heap.size ∧ b < w'.heap.size := by
 refine ⟨fun g o => ?_, fun g o => ?_, h.size, lt_of_block h.cnt⟩
 · rcases Nat.lt_trichotomy g b with hg | rfl | hg
   · rw [if_pos hg]; split
     · rename_i hs; exact World.cell?_of_block (w := w) (a := ⟨g, o, none⟩) (h.block g hs (by omega))
     · rfl
   · rw [if_neg (Nat.lt_irrefl _), if_neg (Nat.lt_irrefl _)]; simp [World.cell?, h.cnt]
   · rw [if_neg (by omega), if_pos hg]; split
     · rename_i hs; exact World.cell?_of_block (w := w) (a := ⟨g, o, none⟩) (h.block g hs (by omega))
     · rfl
 · rcases Nat.lt_trichotomy g b with hg | rfl | hg
   · rw [if_pos hg]; split
     · rename_i hs; exact World.frozen?_of_block (w := w) (a := ⟨g, o, none⟩) (h.block g hs (by omega))
     · rfl
   · rw [if_neg (Nat.lt_irrefl _), if_neg (Nat.lt_irrefl _)]; simp [World.frozen?, h.cnt]
   · rw [if_neg (by omega), if_pos hg]; split
     · rename_i hs; exact World.frozen?_of_block (w := w) (a := ⟨g, o, none⟩) (h.block g hs (by omega))
     · rfl
def cntPost (b c k : Nat) (w : World) (e : Ending) (w' : World) : Prop := (∃ c' : Nat, e = .returned (.bool false) ∧ c' ≤ c ∧ CntR b c' w w') ∨ (∃ c' : Nat, e = .returned (.bool true) ∧ c' ≤ c ∧ Hid (k + c' = c) ∧ CntR b c' w w')
theorem takes_any (b c n : Nat) (w : World) (hc : w.heap[b]? = some (cntObj c)) (hn : n ≤ 1000000000000000000) (hcc : c ≤ 3000) :
 Calls Tryz.prog 32 #[.pointer (some ⟨b, 0, none⟩), .int .i64 (n : Int)] w (cntPost b c n w) := by
 have h1 := cell_of_one hc
 have h2 := free_of_one hc
 have H := hide hc
 clear hc
 go_enter Tryz.func32, Tryz.ntmps32
 by_cases hlt : c < n
 · go_wp2
   go_ret
   exact Or.inl ⟨c, rfl, Nat.le_refl _, CntR.refl H.out⟩
 · go_wp2
   go_ret
   refine Or.inr ⟨c - n, rfl, by omega, hide (by omega), ⟨rfl, rfl, rfl, by simp [World.setCell], fun k _ hk => Below.heap_setCell _ _ _ _ hk, ?_⟩⟩
   have : ((c - n : Nat) : Int) = (c : Int) - (n : Int) := by omega
   unfold cntObj
   rw [this]
   exact one_setCell H.out
theorem wl (b c : Nat) (s : ByteArray) (w : World) (hc : w.heap[b]? = some (cntObj c)) (hn : s.size ≤ reachBytes) (hcc : c ≤ 3000) :
 Calls Tryz.prog 33 #[.pointer (some ⟨b, 0, none⟩), .string s] w (cntPost b c (txt s) w) := by
 unfold reachBytes at hn
 have H := hide hc
 clear hc
 have e : (1 : Int) + (s.size : Int) / 8 = ((txt s : Nat) : Int) := by unfold txt; omega
 have hn' : txt s ≤ 1000000000000000000 := by unfold txt; omega
 replace e := hide e
 go_enter Tryz.func33, Tryz.ntmps33
 go_wp2_with (go_at_call 32; rw [e.out]; refine (takes_any b c (txt s) _ H.out hn' hcc).mono ?_; rintro e w1 (⟨c', rfl, h1, h3⟩ | ⟨c', rfl, h1, h2, h3⟩))
 · go_ret
   exact Or.inl ⟨c', rfl, h1, h3⟩
 · go_ret
   exact Or.inr ⟨c', rfl, h1, h2, h3⟩
theorem wP (b c n : Nat) (z : Int) (w : World) (hz : z = (n : Int)) (hc : w.heap[b]? = some (cntObj c)) (hn : n ≤ 1000000000000000000) (hcc : c ≤ 3000) :
 Calls Tryz.prog 32 #[.pointer (some ⟨b, 0, none⟩), .int .i64 z] w (cntPost b c n w) := by
 subst hz; exact takes_any b c n w hc hn hcc
theorem Below.cnt {B b c : Nat} {w0 w w' : World} (h : Below B w0 w) (k : CntR b c w w') (hB : B ≤ b) (hw : B ≤ w0.heap.size) : Below B w0 w' := h.trans (k.below hB (Nat.le_trans hw h.size))
set_option maxRecDepth 100000 in
set_option maxHeartbeats 2000000 in
theorem cnt_target (b c : Nat) (t : List (List (List Mat))) (T : Option Addr) (d : Nat) (w0 w : World) (hT : SlAt rTar' 1 w0 T t) (ht : t.length ≤ reachBytes) (hB0 : Below w0.heap.size w0 w) (hb : w0.heap.size ≤ b)
 (hc : w.heap[b]? = some (cntObj c)) (hcc : c ≤ 3000) :
 Calls Tryz.prog 51 #[.pointer (some ⟨b, 0, none⟩), .slice T t.length d] w (cntPost b c (tsz t) w) := by
 unfold reachBytes at ht
 have HT := hide hT
 clear hT
 replace hc := hide hc
 go_enter Tryz.func51, Tryz.ntmps51
 go_upto_region 3 with (go_at_call 32; refine (wP b c (1 + t.length) _ _ (by simp) hc.out (by omega) hcc).mono ?_; rintro e w1 (⟨c1, rfl, h1, h3⟩ | ⟨c1, rfl, h1, h2, h3⟩))
 · go_ret
   exact Or.inl ⟨c1, rfl, h1, h3⟩
 · clear hc
   go_wp2
   go_loopw [19] (fun i wr => ∃ k c2 : Nat, k ≤ t.length ∧ i = .int .i64 k ∧ c2 ≤ c ∧ CntR b c2 w wr ∧ Hid (1 + t.length + qB xsz (t.take k) + c2 = c)) (fun i _ => t.length - (intOf i).toNat)
   case atStart => exact ⟨0, c1, Nat.zero_le _, rfl, h1, h3, h2.out⟩
   case round =>
    clear h1 h2 h3
    obtain ⟨k, c2, hk, rfl, h1, h3, h2⟩ := hrel
    have hB1 := Below.cnt hB0 h3 hb (Nat.le_refl _)
    by_cases hlt : k < t.length
    · obtain ⟨b2, o2, B2, cb2, rfl, hbb, d0, cl, cl', hX⟩ := HT.out.sl0 hB1 hlt
      unfold reachBytes at cl'
      have hs := hide (zk (f := xsz) hlt)
      replace hX := hide hX
      have hc := hide h3.cnt
      obtain ⟨wo, hwo⟩ : ∃ wo, wo = wr := ⟨_, rfl⟩
      go_upto_region 8 with (go_at_call 32; refine (wP b c2 (1 + t[k].length) _ _ (by simp) hc.out (by omega) (by omega)).mono ?_; rintro e w2 (⟨c3, rfl, h4, h6⟩ | ⟨c3, rfl, h4, h5, h6⟩))
      · go_ret
        exact Or.inl ⟨c3, rfl, by omega, h3.trans h6⟩
      · clear hc hbb d0
        go_wp2
        go_loopw [31] (fun i wr' => ∃ k' c4 : Nat, k' ≤ t[k].length ∧ i = .int .i64 k' ∧ c4 ≤ c ∧ CntR b c4 w wr' ∧ Hid (1 + t[k].length + qB asz (t[k].take k') + c4 = c2)) (fun i _ => t[k].length - (intOf i).toNat)
        case atStart => exact ⟨0, c3, Nat.zero_le _, rfl, by omega, h3.trans h6, h5.out⟩
        case round =>
         clear h4 h5 h6
         obtain ⟨k', c4, hk', rfl, h4, h6, h5⟩ := hrel
         have hB2 := Below.cnt hB0 h6 hb (Nat.le_refl _)
         by_cases hlt' : k' < t[k].length
         · obtain ⟨b3, o3, B3, cb3, rfl, hbb, d0, cm, cm', hY⟩ := hX.out.sl0 hB2 hlt'
           unfold reachBytes at cm'
           have hs' := hide (zk (f := asz) hlt')
           replace hY := hide hY
           have hc := hide h6.cnt
           go_upto_region 13 with (go_at_call 32; refine (wP b c4 (1 + t[k][k'].length) _ _ (by simp) hc.out (by omega) (by omega)).mono ?_; rintro e w2 (⟨c5, rfl, h7, h9⟩ | ⟨c5, rfl, h7, h8, h9⟩))
           · go_ret
             exact Or.inl ⟨c5, rfl, by omega, h6.trans h9⟩
           · clear hc hbb d0
             go_wp2
             go_loopw [10, 43] (fun _ i wr' => ∃ k'' c6 : Nat, k'' ≤ t[k][k'].length ∧ i = .int .i64 k'' ∧ c6 ≤ c ∧ CntR b c6 w wr' ∧ Hid (1 + t[k][k'].length + qB msz (t[k][k'].take k'') + c6 = c4)) (fun _ i _ => t[k][k'].length - (intOf i).toNat)
             case atStart => exact ⟨0, c5, Nat.zero_le _, rfl, by omega, h6.trans h9, h8.out⟩
             case round =>
              clear h7 h8 h9
              obtain ⟨k'', c6, hk'', rfl, h7, h9, h8⟩ := hrel
              have hB3 := Below.cnt hB0 h9 hb (Nat.le_refl _)
              by_cases hlt'' : k'' < t[k][k'].length
              · obtain ⟨b4, o4, rfl, hbb, ⟨e0, e1, e2⟩, e3, ⟨e4, e5, e6⟩, hf⟩ := (hY.out.keep keeps_mat hB3).mat hlt''
                have hs'' := hide (zk (f := msz) hlt'')
                have n1 := hf.attr.name
                have n2 := hf.val.s
                have hc := hide h9.cnt
                have hsz := lt_of_block h9.cnt
                go_wp2_with (go_at_call 33; (first | (with_reducible refine (wl b c6 _ _ (heap_alloc hc.out _) n1 (by omega)).mono ?_) | (with_reducible refine (wl b _ _ _ (CntR.cnt (by assumption)) n2 (by omega)).mono ?_)); rintro e w2 (⟨c7, rfl, h10, h12⟩ | ⟨c7, rfl, h10, h11, h12⟩); all_goals (obtain ⟨q1, q2, q3, q4⟩ := CntR.facts h12; try simp only [World.size_alloc] at q1 q2 q3 q4))
                · go_ret
                  exact Or.inl ⟨c7, rfl, by omega, (h9.alloc _).trans h12⟩
                · go_ret
                  exact Or.inl ⟨c7, rfl, by omega, ((h9.alloc _).trans (by assumption)).trans h12⟩
                · rename Hid (txt t[k][k'][k''].attr.name + _ = c6) => g1
                  go_roundw
                  case rel => exact ⟨k'' + 1, c7, by omega, by go_num, by omega, ((h9.alloc _).trans (by assumption)).trans h12, hide (by have := h8.out; have := hs''.out; have := h11.out; have := g1.out; have e : msz t[k][k'][k''] = txt t[k][k'][k''].attr.name + txt t[k][k'][k''].val.s := rfl; omega)⟩
                  case measure => simp [intOf]; omega
              · obtain rfl : k'' = t[k][k'].length := by omega
                rw [List.take_length] at h8
                go_wp2
                go_roundw
                case rel => exact ⟨k' + 1, c6, by omega, by go_num, by omega, h9, hide (by have := h8.out; have := h5.out; have := hs'.out; have e : asz t[k][k'] = 1 + t[k][k'].length + qB msz t[k][k'] := rfl; omega)⟩
                case measure => simp [intOf]; omega
         · obtain rfl : k' = t[k].length := by omega
           rw [List.take_length] at h5
           go_wp2
           go_roundw
           case rel => exact ⟨k + 1, c4, by omega, by go_num, by omega, h6, hide (by have := h5.out; have := h2.out; have := hs.out; have e : xsz t[k] = 1 + t[k].length + qB asz t[k] := rfl; omega)⟩
           case measure => simp [intOf]; omega
    · obtain rfl : k = t.length := by omega
      rw [List.take_length] at h2
      go_wp2
      go_ret
      exact Or.inr ⟨c2, rfl, h1, h2, h3⟩
end Go.Proofs.YtkkbdgijfkocnaaGreatDoor
namespace Go.Proofs.YtkkbdgijfkocnaaGreatDoor
open Go.RowKit
set_option linter.unusedSimpArgs false
set_option linter.unusedVariables false
attribute [local go_sem] wM js
attribute [local go_sem low] jp zo
set_option maxRecDepth 100000 in
set_option maxHeartbeats 2000000 in
theorem cnt_obls (b c : Nat) (l : List Obli) (L : Option Addr) (d : Nat) (w0 w : World) (hL : SlAt rObl 3 w0 L l) (hl : l.length ≤ reachBytes) (hB0 : Below w0.heap.size w0 w) (hb : w0.heap.size ≤ b)
 (hc : w.heap[b]? = some (cntObj c)) (hcc : c ≤ 3000) :
 Calls Tryz.prog 52 #[.pointer (some ⟨b, 0, none⟩), .slice L l.length d] w (cntPost b c (osz l) w) := by
 unfold reachBytes at hl
 have HL := hide hL
 clear hL
 replace hc := hide hc
 go_enter Tryz.func52, Tryz.ntmps52
 go_upto_region 3 with (go_at_call 32; refine (wP b c l.length _ _ (by simp) hc.out (by omega) hcc).mono ?_; rintro e w1 (⟨c1, rfl, h1, h3⟩ | ⟨c1, rfl, h1, h2, h3⟩))
 · go_ret
   exact Or.inl ⟨c1, rfl, h1, h3⟩
 · clear hc
   go_wp2
   go_loopw [6, 14] (fun _ i wr => ∃ k c2 : Nat, k ≤ l.length ∧ i = .int .i64 k ∧ c2 ≤ c ∧ CntR b c2 w wr ∧ Hid (l.length + qB (fun o : Obli => txt o.arg) (l.take k) + c2 = c)) (fun _ i _ => l.length - (intOf i).toNat)
   case atStart => exact ⟨0, c1, Nat.zero_le _, rfl, h1, h3, h2.out⟩
   case round =>
    clear h1 h2 h3
    obtain ⟨k, c2, hk, rfl, h1, h3, h2⟩ := hrel
    have hB1 := Below.cnt hB0 h3 hb (Nat.le_refl _)
    by_cases hlt : k < l.length
    · obtain ⟨b4, o4, rfl, hbb, e0, e1, e2, hf⟩ := (HL.out.keep keeps_obl hB1).obl hlt
      have hs := hide (zk (f := fun o : Obli => txt o.arg) hlt)
      have n1 := hf.arg
      have hc := hide h3.cnt
      have hsz := lt_of_block h3.cnt
      go_wp2_with (go_at_call 33; (with_reducible refine (wl b c2 _ _ (heap_alloc hc.out _) n1 (by omega)).mono ?_); rintro e w2 (⟨c7, rfl, h10, h12⟩ | ⟨c7, rfl, h10, h11, h12⟩); all_goals (first | replace hA := CntR.trans hA h12 | have hA := CntR.trans hR h12 | have hA := CntR.trans (CntR.alloc hR _) h12 | skip); all_goals (first | replace hL := CntR.trans hL h12 | have hL := h12); (try clear q1 q2 q3 q4); all_goals (clear h12; obtain ⟨q1, q2, q3, q4⟩ := CntR.facts hL; try simp only [World.size_alloc] at q1 q2 q3 q4))
      · go_ret
        exact Or.inl ⟨c7, rfl, by omega, (h3.alloc _).trans hL⟩
      · go_roundw
        case rel => exact ⟨k + 1, c7, by omega, by go_num, by omega, (h3.alloc _).trans hL, hide (by have := h2.out; have := hs.out; have := h11.out; omega)⟩
        case measure => simp [intOf]; omega
    · obtain rfl : k = l.length := by omega
      rw [List.take_length] at h2
      go_wp2
      go_ret
      exact Or.inr ⟨c2, rfl, h1, h2, h3⟩
def CntPolicy (n : Nat) : Prop := ∀ (b c : Nat) (p : Pol) (w0 w : World) (c3 c4 c5 c6 : Value), rPolN n w0 [.string p.id, .bool p.set, .int .i64 p.alg, c3, c4, c5, c6] p → Below w0.heap.size w0 w → w0.heap.size ≤ b →
    w.heap[b]? = some (cntObj c) → c ≤ 3000 →
    Calls Tryz.prog 27 #[.pointer (some ⟨b, 0, none⟩), .agg #[.string p.id, .bool p.set, .int .i64 p.alg, c3, c4, c5, c6]] w (cntPost b c p.sz w)
set_option maxRecDepth 100000 in
set_option maxHeartbeats 4000000 in
theorem cnt_policy_step (n : Nat) (ih : CntPolicy n) : CntPolicy (n + 1) := by
 intro b c p w0 w c3 c4 c5 c6 hp hB0 hb hc hcc
 obtain ⟨_, _, _, _, he, hid, halg, h3, h4, h5, h6⟩ := hp
 simp only [List.cons.injEq, true_and, and_true] at he
 obtain ⟨rfl, rfl, rfl, rfl⟩ := he
 obtain ⟨A3, d3, rfl, l3, m3, h3⟩ := h3
 obtain ⟨A4, d4, rfl, l4, m4, h4⟩ := h4
 obtain ⟨A5, d5, rfl, l5, m5, h5⟩ := h5
 obtain ⟨A6, d6, rfl, l6, m6, h6⟩ := h6
 replace h3 := hide h3
 replace h4 := hide h4
 replace h5 := hide h5
 replace h6 := hide h6
 have hsz := lt_of_block hc
 replace ih := hide ih
 simp only [reachBytes] at m3 m4 m5 m6
 have e := hide p.sz_eq
 replace hc := hide hc
 go_enter Tryz.func27, Tryz.ntmps27
 have hR : CntR b c (w.alloc (.cells #[.string p.id, .bool p.set, .int .i64 p.alg, .slice A3 (List.length p.target) d3, .slice A4 p.rules.length d4, .slice A5 p.kids.length d5, .slice A6 p.obls.length d6] 32)) (w.alloc (.cells #[.string p.id, .bool p.set, .int .i64 p.alg, .slice A3 (List.length p.target) d3, .slice A4 p.rules.length d4, .slice A5 p.kids.length d5, .slice A6 p.obls.length d6] 32)) := CntR.refl (heap_alloc hc.out _)
 go_upto_region 3 with (first | (go_at_call 32; (with_reducible refine (wP b c (1 + p.rules.length) _ _ (by simp) (heap_alloc hc.out _) (by omega) hcc).mono ?_); rintro e w2 (⟨c7, rfl, h10, h12⟩ | ⟨c7, rfl, h10, h11, h12⟩); all_goals (first | replace hA := CntR.trans hA h12 | have hA := CntR.trans hR h12 | have hA := CntR.trans (CntR.alloc hR _) h12 | skip); all_goals (first | replace hL := CntR.trans hL h12 | have hL := h12); (try clear q1 q2 q3 q4); all_goals (clear h12; obtain ⟨q1, q2, q3, q4⟩ := CntR.facts hL; try simp only [World.size_alloc] at q1 q2 q3 q4)) | (go_at_call 33; (with_reducible refine (wl b _ _ _ hA.cnt hid (by omega)).mono ?_); rintro e w2 (⟨c7, rfl, h10, h12⟩ | ⟨c7, rfl, h10, h11, h12⟩); all_goals (first | replace hA := CntR.trans hA h12 | have hA := CntR.trans hR h12 | have hA := CntR.trans (CntR.alloc hR _) h12 | skip); all_goals (first | replace hL := CntR.trans hL h12 | have hL := h12); (try clear q1 q2 q3 q4); all_goals (clear h12; obtain ⟨q1, q2, q3, q4⟩ := CntR.facts hL; try simp only [World.size_alloc] at q1 q2 q3 q4)) | (go_at_call 51; (with_reducible refine (cnt_target b _ p.target _ _ w0 _ h3.out (by simp only [reachBytes]; omega) (Below.cnt (Below.alloc1 hB0 _) hA hb (Nat.le_refl _)) hb hA.cnt (by omega)).mono ?_); rintro e w2 (⟨c7, rfl, h10, h12⟩ | ⟨c7, rfl, h10, h11, h12⟩); all_goals (first | replace hA := CntR.trans hA h12 | have hA := CntR.trans hR h12 | have hA := CntR.trans (CntR.alloc hR _) h12 | skip); all_goals (first | replace hL := CntR.trans hL h12 | have hL := h12); (try clear q1 q2 q3 q4); all_goals (clear h12; obtain ⟨q1, q2, q3, q4⟩ := CntR.facts hL; try simp only [World.size_alloc] at q1 q2 q3 q4)) | (go_at_call 52; (with_reducible refine (cnt_obls b _ p.obls _ _ w0 _ h6.out (by simp only [reachBytes]; omega) (Below.cnt (Below.alloc1 hB0 _) hA hb (Nat.le_refl _)) hb hA.cnt (by omega)).mono ?_); rintro e w2 (⟨c7, rfl, h10, h12⟩ | ⟨c7, rfl, h10, h11, h12⟩); all_goals (first | replace hA := CntR.trans hA h12 | have hA := CntR.trans hR h12 | have hA := CntR.trans (CntR.alloc hR _) h12 | skip); all_goals (first | replace hL := CntR.trans hL h12 | have hL := h12); (try clear q1 q2 q3 q4); all_goals (clear h12; obtain ⟨q1, q2, q3, q4⟩ := CntR.facts hL; try simp only [World.size_alloc] at q1 q2 q3 q4)))
 all_goals first | (go_ret; exact Or.inl ⟨_, rfl, by omega, (CntR.alloc (CntR.refl hc.out) _).trans hA⟩) | skip
 rename Hid (1 + p.rules.length + _ = c) => g1
 rename Hid (txt p.id + _ = _) => g2
 rename Hid (tsz p.target + _ = _) => g3
 replace hR := hA
 clear hA
 obtain ⟨k0, hk0⟩ : ∃ k0, k0 = 1 + p.rules.length + txt p.id + tsz p.target + osz p.obls := ⟨_, rfl⟩
 have g := hide (show k0 + c7 = c by have := g1.out; have := g2.out; have := g3.out; have := h11.out; omega)
 have hcc7 : c7 ≤ c := by omega
 replace hk0 := hide hk0
 clear g1 g2 g3 h11 q1 q2 q3 q4 h10 hL
 obtain ⟨q1, q2, q3, q4⟩ := CntR.facts hR
 simp only [World.size_alloc] at q3
 go_wp2
 clear q1 q2 q3 q4
 go_loopw [6, 8, 42] (fun _ _ i wr => ∃ k c2 : Nat, k ≤ p.rules.length ∧ i = .int .i64 k ∧ c2 ≤ c ∧ CntR b c2 (w.alloc (.cells #[.string p.id, .bool p.set, .int .i64 p.alg, .slice A3 (List.length p.target) d3, .slice A4 p.rules.length d4, .slice A5 p.kids.length d5, .slice A6 p.obls.length d6] 32)) wr ∧ Hid (k0 + qB rusz (p.rules.take k) + c2 = c)) (fun _ _ i _ => p.rules.length - (intOf i).toNat)
 case atStart => exact ⟨0, c7, Nat.zero_le _, rfl, hcc7, hR, g.out⟩
 case round =>
  clear hR g hcc7
  obtain ⟨k, c2, hk, rfl, hc2, hR, g⟩ := hrel
  have hB1 : Below w0.heap.size w0 wr := Below.cnt (Below.alloc1 hB0 _) hR hb (Nat.le_refl _)
  by_cases hlt : k < p.rules.length
  · obtain ⟨b2, o2, v2, v3, v4, rfl, hbb, e0, e1, e2, e3, e4, n1, s2, s3, s4⟩ := h4.out.rul0 hB1 hlt
    obtain ⟨B2, j2, rfl, u2, t2, s2⟩ := s2
    obtain ⟨B3, j3, rfl, u3, t3, s3⟩ := s3
    obtain ⟨B4, j4, rfl, u4, t4, s4⟩ := s4
    replace s2 := hide s2
    replace s3 := hide s3
    replace s4 := hide s4
    have hs := hide (zk (f := rusz) hlt)
    have hbw := hB1.size
    have hbr := lt_of_block hR.cnt
    simp only [reachBytes] at t2 t3 t4
    go_upto_region 8 with (first | (go_at_call 32; (with_reducible refine (wP b _ p.rules[k].cond.length _ _ (by simp) hA.cnt (by omega) (by omega)).mono ?_); rintro e w2 (⟨c7, rfl, h10, h12⟩ | ⟨c7, rfl, h10, h11, h12⟩); all_goals (first | replace hA := CntR.trans hA h12 | have hA := CntR.trans hR h12 | have hA := CntR.trans (CntR.alloc hR _) h12 | skip); all_goals (first | replace hL := CntR.trans hL h12 | have hL := h12); (try clear q1 q2 q3 q4); all_goals (clear h12; obtain ⟨q1, q2, q3, q4⟩ := CntR.facts hL; try simp only [World.size_alloc] at q1 q2 q3 q4)) | (go_at_call 33; (with_reducible refine (wl b _ _ _ (heap_alloc hR.cnt _) n1 (by omega)).mono ?_); rintro e w2 (⟨c7, rfl, h10, h12⟩ | ⟨c7, rfl, h10, h11, h12⟩); all_goals (first | replace hA := CntR.trans hA h12 | have hA := CntR.trans hR h12 | have hA := CntR.trans (CntR.alloc hR _) h12 | skip); all_goals (first | replace hL := CntR.trans hL h12 | have hL := h12); (try clear q1 q2 q3 q4); all_goals (clear h12; obtain ⟨q1, q2, q3, q4⟩ := CntR.facts hL; try simp only [World.size_alloc] at q1 q2 q3 q4)) | (go_at_call 51; (with_reducible refine (cnt_target b _ p.rules[k].target _ _ w0 _ s2.out (by simp only [reachBytes]; omega) (Below.cnt (Below.alloc1 hB0 _) hA hb (Nat.le_refl _)) hb hA.cnt (by omega)).mono ?_); rintro e w2 (⟨c7, rfl, h10, h12⟩ | ⟨c7, rfl, h10, h11, h12⟩); all_goals (first | replace hA := CntR.trans hA h12 | have hA := CntR.trans hR h12 | have hA := CntR.trans (CntR.alloc hR _) h12 | skip); all_goals (first | replace hL := CntR.trans hL h12 | have hL := h12); (try clear q1 q2 q3 q4); all_goals (clear h12; obtain ⟨q1, q2, q3, q4⟩ := CntR.facts hL; try simp only [World.size_alloc] at q1 q2 q3 q4)) | (go_at_call 52; (with_reducible refine (cnt_obls b _ p.rules[k].obls _ _ w0 _ s4.out (by simp only [reachBytes]; omega) (Below.cnt (Below.alloc1 hB0 _) hA hb (Nat.le_refl _)) hb hA.cnt (by omega)).mono ?_); rintro e w2 (⟨c7, rfl, h10, h12⟩ | ⟨c7, rfl, h10, h11, h12⟩); all_goals (first | replace hA := CntR.trans hA h12 | have hA := CntR.trans hR h12 | have hA := CntR.trans (CntR.alloc hR _) h12 | skip); all_goals (first | replace hL := CntR.trans hL h12 | have hL := h12); (try clear q1 q2 q3 q4); all_goals (clear h12; obtain ⟨q1, q2, q3, q4⟩ := CntR.facts hL; try simp only [World.size_alloc] at q1 q2 q3 q4)))
    all_goals first | (go_ret; exact Or.inl ⟨_, rfl, by omega, (CntR.alloc (CntR.refl hc.out) _).trans hA⟩) | skip
    rename Hid (txt p.rules[k].id + _ = _) => g1
    rename Hid (tsz p.rules[k].target + _ = _) => g2
    rename Hid (p.rules[k].cond.length + _ = _) => g3
    obtain ⟨k1, hk1⟩ : ∃ k1, k1 = txt p.rules[k].id + tsz p.rules[k].target + p.rules[k].cond.length + osz p.rules[k].obls := ⟨_, rfl⟩
    have g' := hide (show k1 + c7 = c2 by have := g1.out; have := g2.out; have := g3.out; have := h11.out; omega)
    have hcc7 : c7 ≤ c := by omega
    have e1 := hide (show rusz p.rules[k] = k1 + qB nsz p.rules[k].cond by subst hk1; rfl)
    clear g1 g2 g3 h11 h10 hk1
    go_wp2
    clear q1 q2 q3 q4
    replace hR := hA
    clear hA
    go_loopw [8, 76] (fun _ i wr' => ∃ k' c4 : Nat, k' ≤ p.rules[k].cond.length ∧ i = .int .i64 k' ∧ c4 ≤ c ∧ CntR b c4 (w.alloc (.cells #[.string p.id, .bool p.set, .int .i64 p.alg, .slice A3 (List.length p.target) d3, .slice (some ⟨b2, o2, none⟩) p.rules.length d4, .slice A5 p.kids.length d5, .slice A6 p.obls.length d6] 32)) wr' ∧ Hid (k1 + qB nsz (p.rules[k].cond.take k') + c4 = c2)) (fun _ i _ => p.rules[k].cond.length - (intOf i).toNat)
    case atStart => exact ⟨0, c7, Nat.zero_le _, rfl, hcc7, hR, g'.out⟩
    case round =>
     clear hR g' hcc7 hL hbb hB1
     obtain ⟨k', c4, hk', rfl, hc4, hR, g'⟩ := hrel
     have hB1 : Below w0.heap.size w0 wr := Below.cnt (Below.alloc1 hB0 _) hR hb (Nat.le_refl _)
     by_cases hlt' : k' < p.rules[k].cond.length
     · obtain ⟨b4, o4, rfl, hbb, e0, ⟨e3, e4, e5⟩, ⟨e6, e7, e8⟩, hf⟩ := (s3.out.keep keeps_nod hB1).nod hlt'
       have hs' := hide (zk (f := nsz) hlt')
       have n1 := hf.attr.name
       have n2 := hf.val.s
       have hbw := hB1.size
       have hbr := lt_of_block hR.cnt
       go_wp2_with (go_at_call 33; (first | (with_reducible refine (wl b c4 _ _ (heap_alloc hR.cnt _) n1 (by omega)).mono ?_) | (with_reducible refine (wl b _ _ _ hA.cnt n2 (by omega)).mono ?_)); rintro e w2 (⟨c7, rfl, h10, h12⟩ | ⟨c7, rfl, h10, h11, h12⟩); all_goals (first | replace hA := CntR.trans hA h12 | have hA := CntR.trans hR h12 | have hA := CntR.trans (CntR.alloc hR _) h12 | skip); all_goals (first | replace hL := CntR.trans hL h12 | have hL := h12); (try clear q1 q2 q3 q4); all_goals (clear h12; obtain ⟨q1, q2, q3, q4⟩ := CntR.facts hL; try simp only [World.size_alloc] at q1 q2 q3 q4))
       · go_ret
         exact Or.inl ⟨_, rfl, by omega, (CntR.alloc (CntR.refl hc.out) _).trans hA⟩
       · go_ret
         exact Or.inl ⟨_, rfl, by omega, (CntR.alloc (CntR.refl hc.out) _).trans hA⟩
       · rename Hid (txt p.rules[k].cond[k'].attr.name + _ = c4) => g1
         go_roundw
         case rel => exact ⟨k' + 1, c7, by omega, by go_num, by omega, hA, hide (by have := g'.out; have := hs'.out; have := h11.out; have := g1.out; have e : nsz p.rules[k].cond[k'] = txt p.rules[k].cond[k'].attr.name + txt p.rules[k].cond[k'].val.s := rfl; omega)⟩
         case measure => simp [intOf]; omega
     · obtain rfl : k' = p.rules[k].cond.length := by omega
       rw [List.take_length] at g'
       go_wp2
       go_roundw
       case rel => exact ⟨k + 1, c4, by omega, by go_num, hc4, hR, hide (by have := g.out; have := g'.out; have := hs.out; have := e1.out; omega)⟩
       case measure => simp [intOf]; omega
  · obtain rfl : k = p.rules.length := by omega
    rw [List.take_length] at g
    obtain ⟨q1, q2, q3, q4⟩ := CntR.facts hR
    simp only [World.size_alloc] at q3
    go_wp2
    clear q1 q2 q3 q4
    go_loopw [10, 99] (fun _ i wr' => ∃ k' c4 : Nat, k' ≤ p.kids.length ∧ i = .int .i64 k' ∧ c4 ≤ c ∧ CntR b c4 (w.alloc (.cells #[.string p.id, .bool p.set, .int .i64 p.alg, .slice A3 (List.length p.target) d3, .slice A4 p.rules.length d4, .slice A5 p.kids.length d5, .slice A6 p.obls.length d6] 32)) wr' ∧ Hid (k0 + qB rusz p.rules + qB Pol.sz (p.kids.take k') + c4 = c)) (fun _ i _ => p.kids.length - (intOf i).toNat)
    case atStart => exact ⟨0, c2, Nat.zero_le _, rfl, hc2, hR, g.out⟩
    case round =>
     clear hR g hB1 hc2
     obtain ⟨k', c4, hk', rfl, hc4, hR, g⟩ := hrel
     have hB1 : Below w0.heap.size w0 wr := Below.cnt (Below.alloc1 hB0 _) hR hb (Nat.le_refl _)
     by_cases hlt' : k' < p.kids.length
     · obtain ⟨b2, o2, v3, v4, v5, v6, rfl, hbb, e0, e1, e2, e3, e4, e5, e6, hr⟩ := h5.out.pol0 hB1 hlt'
       have hs' := hide (zk (f := Pol.sz) hlt')
       obtain ⟨B3, j3, B4, j4, B5, j5, B6, j6, rfl, rfl, rfl, rfl⟩ := rPolN_form hr
       replace hr := hide hr
       have hbw := hB1.size
       have hbr := lt_of_block hR.cnt
       go_wp2_with (go_at_call 27; refine (ih.out b c4 p.kids[k'] w0 _ _ _ _ _ hr.out (Below.alloc1 hB1 _) hb (heap_alloc hR.cnt _) (by omega)).mono ?_; rintro e w2 (⟨c7, rfl, h10, h12⟩ | ⟨c7, rfl, h10, h11, h12⟩); all_goals (first | replace hA := CntR.trans hA h12 | have hA := CntR.trans hR h12 | have hA := CntR.trans (CntR.alloc hR _) h12 | skip); all_goals (first | replace hL := CntR.trans hL h12 | have hL := h12); (try clear q1 q2 q3 q4); all_goals (clear h12; obtain ⟨q1, q2, q3, q4⟩ := CntR.facts hL; try simp only [World.size_alloc] at q1 q2 q3 q4))
       · go_ret
         exact Or.inl ⟨_, rfl, by omega, (CntR.alloc (CntR.refl hc.out) _).trans hA⟩
       · go_roundw
         case rel => exact ⟨k' + 1, c7, by omega, by go_num, by omega, hA, hide (by have := g.out; have := hs'.out; have := h11.out; omega)⟩
         case measure => simp [intOf]; omega
     · obtain rfl : k' = p.kids.length := by omega
       rw [List.take_length] at g
       go_wp2
       go_ret
       exact Or.inr ⟨c4, rfl, hc4, hide (by have := g.out; have := e.out; have := hk0.out; omega), (CntR.alloc (CntR.refl hc.out) _).trans hR⟩
theorem cnt_policy (n : Nat) : CntPolicy n := by
 induction n with
 | zero => intro b c p w0 w c3 c4 c5 c6 h; exact h.elim
 | succ n ih => exact cnt_policy_step n ih
def upTo (k m : Nat) (w : World) (e : Ending) (w' : World) : Prop := (e = .returned (.bool false) ∧ Below w.heap.size w w') ∨ (e = .returned (.bool true) ∧ Hid (k ≤ m) ∧ Below w.heap.size w w')
theorem heap_new (w : World) (o : Obj) : (w.alloc o).heap[w.heap.size]? = some o := by
 show (w.heap.push o)[w.heap.size]? = _
 simp
theorem heap_at (w : World) (o : Obj) (b : Nat) (hb : b = w.heap.size) : (w.alloc o).heap[b]? = some o := by subst hb; exact heap_new w o
theorem small_any (n : Nat) (p : Pol) (w : World) (c3 c4 c5 c6 : Value) (hp : rPolN n w [.string p.id, .bool p.set, .int .i64 p.alg, c3, c4, c5, c6] p) :
 Calls Tryz.prog 11 #[.agg #[.string p.id, .bool p.set, .int .i64 p.alg, c3, c4, c5, c6]] w (upTo p.sz 3000 w) := by
 obtain ⟨A3, d3, A4, d4, A5, d5, A6, d6, rfl, rfl, rfl, rfl⟩ := rPolN_form hp
 replace hp := hide hp
 go_enter Tryz.func11, Tryz.ntmps11
 go_wp2_with (go_at_call 27; refine (cnt_policy n (w.heap.size + 1) 3000 p w _ _ _ _ _ hp.out (by repeat (first | exact Below.refl _ _ | assumption | refine Below.alloc1 ?_ _ | refine Below.drew ?_ | refine qk ?_ | refine Below.setCell ?_ (by first | exact Nat.le_refl _ | (simp; done) | omega | (simp; omega)) _ | refine Below.lift ?_ (by assumption))) (by omega) ?_ (Nat.le_refl _)).mono ?_; exact heap_at _ _ _ (by simp); rintro e w2 (⟨c7, rfl, h10, h12⟩ | ⟨c7, rfl, h10, h11, h12⟩))
 · go_ret
   exact Or.inl ⟨rfl, ((Below.refl _ _).alloc (Nat.le_refl _) _).alloc (by simp) _ |>.trans (h12.below (by omega) (by simp; omega))⟩
 · go_ret
   exact Or.inr ⟨rfl, hide (by have := h11.out; omega), ((Below.refl _ _).alloc (Nat.le_refl _) _).alloc (by simp) _ |>.trans (h12.below (by omega) (by simp; omega))⟩
end Go.Proofs.YtkkbdgijfkocnaaGreatDoor
namespace Go.Proofs.YtkkbdgijfkocnaaGreatDoor
set_option linter.unusedVariables false
set_option linter.unusedSimpArgs false
open Go.RowKit
def Upto (k m : Nat) (r : SV) : Prop := ∃ b : Bool, r = .p (pB b) ∧ (b = true → k ≤ m)
theorem upto_ok {k m : Nat} {w : World} {e : Ending} {w' : World} (h : upTo k m w e w') : ∃ r, Upto k m r ∧ flatS r = true ∧ e = .returned (valS r) ∧ Below w.heap.size w w' ∧ RelS (fun _ => True) (fun _ => none) w' r (valS r) := by
 rcases h with ⟨rfl, hb⟩ | ⟨rfl, hk, hb⟩
 · exact ⟨.p (pB false), ⟨false, rfl, fun h => by cases h⟩, rfl, rfl, hb, .p (.v rfl)⟩
 · exact ⟨.p (pB true), ⟨true, rfl, fun _ => hk.out⟩, rfl, rfl, hb, .p (.v rfl)⟩
set_option maxHeartbeats 1000000
set_option maxHeartbeats 2000000
set_option maxHeartbeats 4000000
set_option maxHeartbeats 4000000
inductive SubL {α : Type} (R : α → α → Prop) : List α → List α → Prop
 | nil : SubL R [] []
 | skip {a b : List α} {x : α} (h : SubL R a b) : SubL R a (x :: b)
 | keep {a b : List α} {x y : α} (hr : R y x) (h : SubL R a b) : SubL R (y :: a) (x :: b)
theorem SubL.len {α : Type} {R : α → α → Prop} {a b : List α} (h : SubL R a b) : a.length ≤ b.length := by
 induction h with
 | nil => exact Nat.le_refl _
 | skip h ih => simp; omega
 | keep hr h ih => simp; omega
def SubP : Nat → Pol → Pol → Prop
 | 0, _, _ => True
 | n + 1, q, p => q.id = p.id ∧ q.set = p.set ∧ q.alg = p.alg ∧ q.target = p.target ∧ q.rules = p.rules ∧ q.obls = p.obls ∧ SubL (SubP n) q.kids p.kids
theorem SubP.refl : ∀ (n : Nat) (p : Pol), SubP n p p
 | 0, _ => True.intro
 | n + 1, p => ⟨rfl, rfl, rfl, rfl, rfl, rfl, by
   have : ∀ l : List Pol, SubL (SubP n) l l := fun l => by
    induction l with
    | nil => exact .nil
    | cons x l ih => exact .keep (SubP.refl n x) ih
   exact this _⟩
theorem Wlk.le_trans {a b c : Wlk} (h : a.le b) (h' : b.le c) : a.le c := ⟨fun s hs => h'.1 s (h.1 s hs), Int.le_trans h.2 h'.2⟩
end Go.Proofs.YtkkbdgijfkocnaaGreatDoor
