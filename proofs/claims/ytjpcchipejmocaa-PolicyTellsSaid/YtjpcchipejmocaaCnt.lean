/-
  Contracts of bailiffkeep's counter (left.takes, left.text, left.target): it goes down by what was gone through; what else was there stays.
-/
import Derived.Test.YtjpcchipejmocaaSpec
import Derived.Test.YtjpcchipejmocaaRows
import Derived.Test.YtjpcchipejmocaaRegion
import Derived.OneCell
import Derived.WalkLawsBesides
import Derived.WalkSpells
import Derived.Deep.Cut
import Derived.Deep.Light
namespace Go.Proofs.Ytjpcchipejmocaa
open Go.RowKit
set_option linter.unusedSimpArgs false
set_option linter.unusedVariables false
attribute [local go_sem] ext_cell ext_frozen
attribute [local go_sem low] alloc_cell alloc_frozen

/-- the counter's block -/
abbrev cntObj (c : Nat) : Obj := .cells #[.int .i64 (c : Int)] 94 (0, 0)
/-- the counter in block b holds c behind; all other blocks are as they were -/
structure CntR (b c : Nat) (w w' : World) : Prop where
  os : w'.os = w.os
  tape : w'.tape = w.tape
  output : w'.output = w.output
  size : w.heap.size ≤ w'.heap.size
  block : ∀ k, k < w.heap.size → k ≠ b → w'.heap[k]? = w.heap[k]?
  cnt : w'.heap[b]? = some (cntObj c)
theorem CntR.below {b c : Nat} {w w' : World} (h : CntR b c w w') {B : Nat} (hB : B ≤ b) (hw : B ≤ w.heap.size) : Below B w w' :=
  ⟨h.os, h.tape, h.output, h.size, fun k hk => h.block k (by omega) (by omega)⟩
theorem CntR.trans {b c c' : Nat} {w w1 w2 : World} (h : CntR b c w w1) (k : CntR b c' w1 w2) : CntR b c' w w2 :=
  ⟨k.os.trans h.os, k.tape.trans h.tape, k.output.trans h.output, Nat.le_trans h.size k.size, fun i hi hb => (k.block i (Nat.lt_of_lt_of_le hi h.size) hb).trans (h.block i hi hb), k.cnt⟩
theorem CntR.refl {b c : Nat} {w : World} (h : w.heap[b]? = some (cntObj c)) : CntR b c w w := ⟨rfl, rfl, rfl, Nat.le_refl _, fun _ _ _ => rfl, h⟩
theorem heap_alloc {w : World} {b : Nat} {x : Obj} (h : w.heap[b]? = some x) (o : Obj) : (w.alloc o).heap[b]? = some x := (Below.heap_alloc w o b (lt_of_block h)).trans h
theorem CntR.alloc {b c : Nat} {w w1 : World} (h : CntR b c w w1) (o : Obj) : CntR b c w (w1.alloc o) :=
  ⟨h.os, h.tape, h.output, Nat.le_trans h.size (by simp), fun i hi hb => (Below.heap_alloc _ _ _ (Nat.lt_of_lt_of_le hi h.size)).trans (h.block i hi hb), heap_alloc h.cnt o⟩
theorem CntR.facts {b c : Nat} {w w' : World} (h : CntR b c w w') :
    (∀ g o, w'.cell? ⟨g, o, none⟩ = if g < b then (if g < w.heap.size then w.cell? ⟨g, o, none⟩ else cellIn w' ⟨g, o, none⟩) else if b < g then (if g < w.heap.size then w.cell? ⟨g, o, none⟩ else cellIn w' ⟨g, o, none⟩) else (#[Value.int .i64 (c : Int)])[o]?) ∧
    (∀ g o, w'.frozen? ⟨g, o, none⟩ = if g < b then (if g < w.heap.size then w.frozen? ⟨g, o, none⟩ else frozenIn w' ⟨g, o, none⟩) else if b < g then (if g < w.heap.size then w.frozen? ⟨g, o, none⟩ else frozenIn w' ⟨g, o, none⟩) else false) ∧
    w.heap.size ≤ w'.heap.size ∧ b < w'.heap.size := by
  refine ⟨fun g o => ?_, fun g o => ?_, h.size, lt_of_block h.cnt⟩
  · rcases Nat.lt_trichotomy g b with hg | rfl | hg
    · rw [if_pos hg]; split
      · rename_i hs; exact World.cell?_of_block (w := w) (a := ⟨g, o, none⟩) (h.block g hs (by omega))
      · rfl
    · rw [if_neg (Nat.lt_irrefl _), if_neg (Nat.lt_irrefl _)]; simp [World.cell?, h.cnt]
    · rw [if_neg (by omega), if_pos hg]; split
      · rename_i hs; exact World.cell?_of_block (w := w) (a := ⟨g, o, none⟩) (h.block g hs (by omega))
      · rfl
  · rcases Nat.lt_trichotomy g b with hg | rfl | hg
    · rw [if_pos hg]; split
      · rename_i hs; exact World.frozen?_of_block (w := w) (a := ⟨g, o, none⟩) (h.block g hs (by omega))
      · rfl
    · rw [if_neg (Nat.lt_irrefl _), if_neg (Nat.lt_irrefl _)]; simp [World.frozen?, h.cnt]
    · rw [if_neg (by omega), if_pos hg]; split
      · rename_i hs; exact World.frozen?_of_block (w := w) (a := ⟨g, o, none⟩) (h.block g hs (by omega))
      · rfl
/-- what the counter's functions say: so much was taken, or it was too much -/
def cntPost (b c k : Nat) (w : World) (e : Ending) (w' : World) : Prop := (∃ c' : Nat, e = .returned (.bool false) ∧ c' ≤ c ∧ CntR b c' w w') ∨ (∃ c' : Nat, e = .returned (.bool true) ∧ c' ≤ c ∧ Hid (k + c' = c) ∧ CntR b c' w w')

def sumBy {α : Type} (f : α → Nat) (l : List α) : Nat := (l.map f).sum
theorem sumBy_step {α : Type} {f : α → Nat} {l : List α} {k : Nat} (hk : k < l.length) : sumBy f (l.take (k + 1)) = sumBy f (l.take k) + f l[k] := by
  unfold sumBy
  rw [List.take_succ_eq_append_getElem hk, List.map_append, List.sum_append]; simp
theorem sumBy_le {α : Type} {f : α → Nat} {l : List α} {x : α} (h : x ∈ l) : f x ≤ sumBy f l := by
  unfold sumBy
  induction l with
  | nil => cases h
  | cons y l ih =>
    rcases List.mem_cons.1 h with rfl | h
    · simp
    · have := ih h; simp; omega
def txt (s : ByteArray) : Nat := 1 + s.size / 8
def msz (m : Mat) : Nat := txt m.attr.name + txt m.val.s
def asz (y : List Mat) : Nat := 1 + y.length + sumBy msz y
def xsz (x : List (List Mat)) : Nat := 1 + x.length + sumBy asz x
def tsz (t : List (List (List Mat))) : Nat := 1 + t.length + sumBy xsz t

theorem takes_any (b c n : Nat) (w : World) (hc : w.heap[b]? = some (cntObj c)) (hn : n ≤ 1000000000000000000) (hcc : c ≤ 3000) :
    Calls Try.prog 48 #[.pointer (some ⟨b, 0, none⟩), .int .i64 (n : Int)] w (cntPost b c n w) := by
  have h1 := cell_of_one hc
  have h2 := free_of_one hc
  have H := hide hc
  clear hc
  go_enter Try.func48, Try.ntmps48
  by_cases hlt : c < n
  · go_wp2
    go_ret
    exact Or.inl ⟨c, rfl, Nat.le_refl _, CntR.refl H.out⟩
  · go_wp2
    go_ret
    refine Or.inr ⟨c - n, rfl, by omega, hide (by omega), ⟨rfl, rfl, rfl, by simp [World.setCell], fun k _ hk => Below.heap_setCell _ _ _ _ hk, ?_⟩⟩
    have : ((c - n : Nat) : Int) = (c : Int) - (n : Int) := by omega
    unfold cntObj
    rw [this]
    exact one_setCell H.out
theorem text_any (b c : Nat) (s : ByteArray) (w : World) (hc : w.heap[b]? = some (cntObj c)) (hn : s.size ≤ reachBytes) (hcc : c ≤ 3000) :
    Calls Try.prog 49 #[.pointer (some ⟨b, 0, none⟩), .string s] w (cntPost b c (txt s) w) := by
  unfold reachBytes at hn
  have H := hide hc
  clear hc
  have e : (1 : Int) + (s.size : Int) / 8 = ((txt s : Nat) : Int) := by unfold txt; omega
  have hn' : txt s ≤ 1000000000000000000 := by unfold txt; omega
  replace e := hide e
  go_enter Try.func49, Try.ntmps49
  go_wp2_with (go_at_call 48; rw [e.out]; refine (takes_any b c (txt s) _ H.out hn' hcc).mono ?_; rintro e w1 (⟨c', rfl, h1, h3⟩ | ⟨c', rfl, h1, h2, h3⟩))
  · go_ret
    exact Or.inl ⟨c', rfl, h1, h3⟩
  · go_ret
    exact Or.inr ⟨c', rfl, h1, h2, h3⟩
theorem takes_at (b c n : Nat) (z : Int) (w : World) (hz : z = (n : Int)) (hc : w.heap[b]? = some (cntObj c)) (hn : n ≤ 1000000000000000000) (hcc : c ≤ 3000) :
    Calls Try.prog 48 #[.pointer (some ⟨b, 0, none⟩), .int .i64 z] w (cntPost b c n w) := by
  subst hz; exact takes_any b c n w hc hn hcc

/-- what was there ahead of the counter stays -/
theorem Below.cnt {B b c : Nat} {w0 w w' : World} (h : Below B w0 w) (k : CntR b c w w') (hB : B ≤ b) (hw : B ≤ w0.heap.size) : Below B w0 w' := h.trans (k.below hB (Nat.le_trans hw h.size))
abbrev rTar' : Rp (List (List Mat)) := rSl (rSl rMat 7) 1
theorem keeps_any' : Keeps (rSl rMat 7) := keeps_sl keeps_mat 7
theorem keeps_tar' : Keeps rTar' := keeps_sl keeps_any' 1
/-- the same, the element read where the slice was, its cell where one stands -/
theorem SlAt.sl0 {α : Type} {R : Rp α} {size : Nat} {w0 w : World} {A : Option Addr} {l : List (List α)} (h : SlAt (rSl R size) 1 w0 A l) (hB : Below w0.heap.size w0 w) {k : Nat} (hk : k < l.length) :
    ∃ b o B c, A = some ⟨b, o, none⟩ ∧ b < w0.heap.size ∧ w.cell? ⟨b, o + k, none⟩ = some (.slice B l[k].length c) ∧ l[k].length ≤ c ∧ (l[k].length ≤ reachBytes ∧ c ≤ maxLen) ∧ SlAt R size w0 B l[k] := by
  obtain ⟨b, o, B, c, hA, hb, hc, h1, h2, h3⟩ := h.sl hk
  exact ⟨b, o, B, c, hA, hb, (hB.cell (p := ⟨b, o + k, none⟩) hb).trans hc, h1, h2, h3⟩
set_option maxRecDepth 100000 in
set_option maxHeartbeats 2000000 in
theorem cnt_target (b c : Nat) (t : List (List (List Mat))) (T : Option Addr) (d : Nat) (w0 w : World) (hT : SlAt rTar' 1 w0 T t) (ht : t.length ≤ reachBytes) (hB0 : Below w0.heap.size w0 w) (hb : w0.heap.size ≤ b)
    (hc : w.heap[b]? = some (cntObj c)) (hcc : c ≤ 3000) :
    Calls Try.prog 76 #[.pointer (some ⟨b, 0, none⟩), .slice T t.length d] w (cntPost b c (tsz t) w) := by
  unfold reachBytes at ht
  have HT := hide hT
  clear hT
  replace hc := hide hc
  go_enter Try.func76, Try.ntmps76
  go_upto_region 3 with (go_at_call 48; refine (takes_at b c (1 + t.length) _ _ (by simp) hc.out (by omega) hcc).mono ?_; rintro e w1 (⟨c1, rfl, h1, h3⟩ | ⟨c1, rfl, h1, h2, h3⟩))
  · go_ret
    exact Or.inl ⟨c1, rfl, h1, h3⟩
  · clear hc
    go_wp2
    go_loopw [19] (fun i wr => ∃ k c2 : Nat, k ≤ t.length ∧ i = .int .i64 k ∧ c2 ≤ c ∧ CntR b c2 w wr ∧ Hid (1 + t.length + sumBy xsz (t.take k) + c2 = c)) (fun i _ => t.length - (intOf i).toNat)
    case atStart => exact ⟨0, c1, Nat.zero_le _, rfl, h1, h3, h2.out⟩
    case round =>
      clear h1 h2 h3
      obtain ⟨k, c2, hk, rfl, h1, h3, h2⟩ := hrel
      have hB1 := Below.cnt hB0 h3 hb (Nat.le_refl _)
      by_cases hlt : k < t.length
      · obtain ⟨b2, o2, B2, cb2, rfl, hbb, d0, cl, cl', hX⟩ := HT.out.sl0 hB1 hlt
        unfold reachBytes at cl'
        have hs := hide (sumBy_step (f := xsz) hlt)
        replace hX := hide hX
        have hc := hide h3.cnt
        obtain ⟨wo, hwo⟩ : ∃ wo, wo = wr := ⟨_, rfl⟩
        go_upto_region 8 with (go_at_call 48; refine (takes_at b c2 (1 + t[k].length) _ _ (by simp) hc.out (by omega) (by omega)).mono ?_; rintro e w2 (⟨c3, rfl, h4, h6⟩ | ⟨c3, rfl, h4, h5, h6⟩))
        · go_ret
          exact Or.inl ⟨c3, rfl, by omega, h3.trans h6⟩
        · clear hc hbb d0
          go_wp2
          go_loopw [31] (fun i wr' => ∃ k' c4 : Nat, k' ≤ t[k].length ∧ i = .int .i64 k' ∧ c4 ≤ c ∧ CntR b c4 w wr' ∧ Hid (1 + t[k].length + sumBy asz (t[k].take k') + c4 = c2)) (fun i _ => t[k].length - (intOf i).toNat)
          case atStart => exact ⟨0, c3, Nat.zero_le _, rfl, by omega, h3.trans h6, h5.out⟩
          case round =>
            clear h4 h5 h6
            obtain ⟨k', c4, hk', rfl, h4, h6, h5⟩ := hrel
            have hB2 := Below.cnt hB0 h6 hb (Nat.le_refl _)
            by_cases hlt' : k' < t[k].length
            · obtain ⟨b3, o3, B3, cb3, rfl, hbb, d0, cm, cm', hY⟩ := hX.out.sl0 hB2 hlt'
              unfold reachBytes at cm'
              have hs' := hide (sumBy_step (f := asz) hlt')
              replace hY := hide hY
              have hc := hide h6.cnt
              go_upto_region 13 with (go_at_call 48; refine (takes_at b c4 (1 + t[k][k'].length) _ _ (by simp) hc.out (by omega) (by omega)).mono ?_; rintro e w2 (⟨c5, rfl, h7, h9⟩ | ⟨c5, rfl, h7, h8, h9⟩))
              · go_ret
                exact Or.inl ⟨c5, rfl, by omega, h6.trans h9⟩
              · clear hc hbb d0
                go_wp2
                go_loopw [10, 43] (fun _ i wr' => ∃ k'' c6 : Nat, k'' ≤ t[k][k'].length ∧ i = .int .i64 k'' ∧ c6 ≤ c ∧ CntR b c6 w wr' ∧ Hid (1 + t[k][k'].length + sumBy msz (t[k][k'].take k'') + c6 = c4)) (fun _ i _ => t[k][k'].length - (intOf i).toNat)
                case atStart => exact ⟨0, c5, Nat.zero_le _, rfl, by omega, h6.trans h9, h8.out⟩
                case round =>
                  clear h7 h8 h9
                  obtain ⟨k'', c6, hk'', rfl, h7, h9, h8⟩ := hrel
                  have hB3 := Below.cnt hB0 h9 hb (Nat.le_refl _)
                  by_cases hlt'' : k'' < t[k][k'].length
                  · obtain ⟨b4, o4, rfl, hbb, ⟨e0, e1, e2⟩, e3, ⟨e4, e5, e6⟩, hf⟩ := (hY.out.keep keeps_mat hB3).mat hlt''
                    have hs'' := hide (sumBy_step (f := msz) hlt'')
                    have n1 := hf.attr.name
                    have n2 := hf.val.s
                    have hc := hide h9.cnt
                    have hsz := lt_of_block h9.cnt
                    go_wp2_with (go_at_call 49; (first | (with_reducible refine (text_any b c6 _ _ (heap_alloc hc.out _) n1 (by omega)).mono ?_) | (with_reducible refine (text_any b _ _ _ (CntR.cnt (by assumption)) n2 (by omega)).mono ?_)); rintro e w2 (⟨c7, rfl, h10, h12⟩ | ⟨c7, rfl, h10, h11, h12⟩); all_goals (obtain ⟨q1, q2, q3, q4⟩ := CntR.facts h12; try simp only [World.size_alloc] at q1 q2 q3 q4))
                    · go_ret
                      exact Or.inl ⟨c7, rfl, by omega, (h9.alloc _).trans h12⟩
                    · go_ret
                      exact Or.inl ⟨c7, rfl, by omega, ((h9.alloc _).trans (by assumption)).trans h12⟩
                    · rename Hid (txt t[k][k'][k''].attr.name + _ = c6) => g1
                      go_roundw
                      case rel => exact ⟨k'' + 1, c7, by omega, by go_num, by omega, ((h9.alloc _).trans (by assumption)).trans h12, hide (by have := h8.out; have := hs''.out; have := h11.out; have := g1.out; have e : msz t[k][k'][k''] = txt t[k][k'][k''].attr.name + txt t[k][k'][k''].val.s := rfl; omega)⟩
                      case measure => simp [intOf]; omega
                  · obtain rfl : k'' = t[k][k'].length := by omega
                    rw [List.take_length] at h8
                    go_wp2
                    go_roundw
                    case rel => exact ⟨k' + 1, c6, by omega, by go_num, by omega, h9, hide (by have := h8.out; have := h5.out; have := hs'.out; have e : asz t[k][k'] = 1 + t[k][k'].length + sumBy msz t[k][k'] := rfl; omega)⟩
                    case measure => simp [intOf]; omega
            · obtain rfl : k' = t[k].length := by omega
              rw [List.take_length] at h5
              go_wp2
              go_roundw
              case rel => exact ⟨k + 1, c4, by omega, by go_num, by omega, h6, hide (by have := h5.out; have := h2.out; have := hs.out; have e : xsz t[k] = 1 + t[k].length + sumBy asz t[k] := rfl; omega)⟩
              case measure => simp [intOf]; omega
      · obtain rfl : k = t.length := by omega
        rw [List.take_length] at h2
        go_wp2
        go_ret
        exact Or.inr ⟨c2, rfl, h1, h2, h3⟩
end Go.Proofs.Ytjpcchipejmocaa
