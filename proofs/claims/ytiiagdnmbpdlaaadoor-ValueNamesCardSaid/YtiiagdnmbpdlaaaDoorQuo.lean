/-
  value.quoted (layer 3): a text between quotes, odd bytes by their numbers.
-/
import Derived.Test.YtiiagdnmbpdlaaaDoorBld
import Derived.Test.YtiiagdnmbpdlaaaDoorValue
import Derived.Test.YtiiagdnmbpdlaaaDoorMove
namespace Go.Proofs.YtiiagdnmbpdlaaaDoor
open Go.RowKit
set_option linter.unusedSimpArgs false
set_option linter.unusedVariables false
attribute [local go_sem] ext_cell ext_frozen
attribute [local go_sem low] alloc_cell alloc_frozen
def hexD (n : Nat) : UInt8 := if n < 10 then UInt8.ofNat (48 + n) else UInt8.ofNat (87 + n)
def oddB (c : Nat) : Bool := decide (c < 32) || decide (126 < c) || decide (c = 34) || decide (c = 92)
def qB (c : UInt8) : List UInt8 := if oddB c.toNat then [92, hexD (c.toNat / 16), hexD (c.toNat % 16)] else [c]
def quoteL (s : ByteArray) : List UInt8 := 34 :: s.data.toList.flatMap qB ++ [34]
theorem qB_len (c : UInt8) : (qB c).length ≤ 3 := by unfold qB; split <;> simp
theorem flat_qB : ∀ l : List UInt8, (l.flatMap qB).length ≤ 3 * l.length
  | [] => Nat.le_refl _
  | c :: l => by
    have h1 := flat_qB l
    have h2 := qB_len c
    simp only [List.flatMap_cons, List.length_append, List.length_cons]
    omega
theorem q_len (s : ByteArray) (k : Nat) (hs : s.size ≤ 1000000) : (Lib.byteCells (34 :: (s.data.toList.take k).flatMap qB)).length ≤ 3000001 := by
  have h1 := flat_qB (s.data.toList.take k)
  have h2 : (s.data.toList.take k).length ≤ s.size := by rw [List.length_take]; exact Nat.le_trans (Nat.min_le_right _ _) (by simp)
  simp only [Lib.byteCells_length, List.length_cons]
  omega
def hexS : ByteArray := ⟨#[48, 49, 50, 51, 52, 53, 54, 55, 56, 57, 97, 98, 99, 100, 101, 102]⟩
theorem hex_at : ∀ d : Nat, d < 16 → hexS.extract d (d + 1) = ⟨#[hexD d]⟩
  | 0, _ => by decide | 1, _ => by decide | 2, _ => by decide | 3, _ => by decide | 4, _ => by decide | 5, _ => by decide | 6, _ => by decide | 7, _ => by decide
  | 8, _ => by decide | 9, _ => by decide | 10, _ => by decide | 11, _ => by decide | 12, _ => by decide | 13, _ => by decide | 14, _ => by decide | 15, _ => by decide
  | n + 16, h => absurd h (by omega)
theorem oct_cells {d f : Nat} (hd : d < 16) (hf : f < 16) : Lib.strCells ((⟨#[92]⟩ ++ hexS.extract d (d + 1)) ++ hexS.extract f (f + 1)) = Lib.byteCells [92, hexD d, hexD f] := by
  rw [hex_at d hd, hex_at f hf]; rfl
theorem oct_size {d f : Nat} (hd : d < 16) (hf : f < 16) : ((⟨#[92]⟩ ++ hexS.extract d (d + 1)) ++ hexS.extract f (f + 1)).size = 3 := by
  rw [hex_at d hd, hex_at f hf]; rfl
theorem q_step (s : ByteArray) {k : Nat} (hk : k < s.size) : Lib.byteCells (34 :: (s.data.toList.take (k + 1)).flatMap qB) = Lib.byteCells (34 :: (s.data.toList.take k).flatMap qB) ++ Lib.byteCells (qB s[k]) := by
  have hk' : k < s.data.toList.length := by simpa using hk
  rw [List.take_succ_eq_append_getElem hk', List.flatMap_append]
  have e : s.data.toList[k] = s[k] := by rw [Array.getElem_toList]; rfl
  rw [e]
  simp [Lib.byteCells]
set_option maxHeartbeats 2000000 in
theorem quoted_any (s : ByteArray) (w : World) (hs : s.size ≤ 1000000) :
    Calls Tryd.prog 36 #[.string s] w fun e w' => e = .returned (.string ⟨(quoteL s).toArray⟩) ∧ Below w.heap.size w w' := by
  have hfr := Lib.fresh_isBuilder 100 5 w
  go_enter Tryd.func36, Tryd.ntmps36
  go_wp2_with (go_at_call 58; refine (writeByte_any w.heap.size w.heap.size [] 34 _ hfr (by simp) (by simp)).mono ?_; rintro e w1 ⟨rfl, hA, hB⟩)
  replace hA := hide (show Lib.BuilderAt 100 5 w.heap.size w.heap.size (.pointer (some ⟨w.heap.size, 0, none⟩)) (Lib.byteCells (34 :: (s.data.toList.take 0).flatMap qB)) w1 from hA)
  replace hB : Below w.heap.size w w1 := ((Below.refl _ _).alloc (Nat.le_refl _) _).trans hB
  clear hfr
  go_loopw [4, 5, 9] (fun _ _ i wr => ∃ k : Nat, k ≤ s.size ∧ i = .int .i64 k ∧ Below w.heap.size w wr ∧ Hid (Lib.BuilderAt 100 5 w.heap.size w.heap.size (.pointer (some ⟨w.heap.size, 0, none⟩)) (Lib.byteCells (34 :: (s.data.toList.take k).flatMap qB)) wr)) (fun _ _ i _ => s.size - (intOf i).toNat)
  case atStart => exact ⟨0, Nat.zero_le _, rfl, hB, hA⟩
  case round =>
    clear hA hB
    obtain ⟨k, hk, rfl, hB, hA⟩ := hrel
    by_cases hlt : k < s.size
    · skip
      go_upto_region 6 with (fail)
      refine wp_spec (by kernel_rfl) ?_
      repeat (refine spec_step ?_; intro K hK; go_big_quiet_op; go_big_quiet_on)
      refine spec_nil ?_
      intro us
      simp only [junk, Act.put, List.setIfInBounds_toArray, List.set_cons_zero, List.set_cons_succ]
      go_upto_region 7 with (fail)
      refine wp_spec (by kernel_rfl) ?_
      repeat (refine spec_step ?_; intro K hK; go_big_quiet_op; go_big_quiet_on)
      refine spec_nil ?_
      intro us
      simp only [junk, Act.put, List.setIfInBounds_toArray, List.set_cons_zero, List.set_cons_succ]
      have hl := q_len s k hs
      have hsz := hB.size
      go_upto_region 8 with (go_at_call 58; refine (writeByte_any _ _ _ _ _ (Or.inr hA.out) (by omega) hsz).mono ?_; rintro e w2 ⟨rfl, hA2, hB2⟩)
      · rename_i h
        have ho : oddB s[k].toNat = true := by revert h; unfold oddB; simp; omega
        replace ho := hide ho
        clear h
        obtain ⟨c, hc⟩ : ∃ c : Nat, c = s[k].toNat := ⟨_, rfl⟩
        rw [← hc]
        have hc2 : c < 256 := by rw [hc]; exact UInt8.toNat_lt _
        obtain ⟨d, hd⟩ : ∃ d : Nat, d = c / 16 := ⟨_, rfl⟩
        obtain ⟨f, hf⟩ : ∃ f : Nat, f = c % 16 := ⟨_, rfl⟩
        have e1 : (c : Int) / 16 = d := by omega
        have e2 : ((d : Int) + 1) % 256 = d + 1 := by omega
        have e3 : (d : Int) ≤ d + 1 := by omega
        have e4 : (d : Int) + 1 ≤ 16 := by omega
        have e5 : (0 : Int) ≤ d := by omega
        have e6 : (c : Int) % 16 = f := by omega
        have e7 : ((f : Int) + 1) % 256 = f + 1 := by omega
        have e8 : (f : Int) + 1 ≤ 16 := by omega
        replace hc := hide hc
        replace hd := hide hd
        replace hf := hide hf
        have hd2 : d < 16 := by have := hd.out; omega
        have hf2 : f < 16 := by have := hf.out; omega
        have hw : w.heap.size ≤ wr.drew.heap.size := by simp; omega
        refine wp_region_moveB (w.heap.size) [(0, true), (1, true), (2, true), (3, true), (4, true), (5, true), (6, true), (7, true), (8, true), (9, true), (10, true), (11, true), (12, true), (13, true), (14, false)] (by kernel_rfl) (by kernel_rfl) (by kernel_rfl) ?_
        repeat (first | (refine moveB_read (by rfl) (by rfl) (by rfl) ?_; intro K hK; go_big_quiet_op; go_big_quiet_on) | (refine moveB_skip (by rfl) (by rfl) ?_; simp only [Act.put, List.setIfInBounds_toArray, List.set_cons_zero, List.set_cons_succ]))
        refine moveB_act (by rfl) (by rfl) ?_; intro Q' hQ'
        go_wp2_with (fail)
        (refine (writeString_any _ _ _ _ _ (Or.inr hA.out.drew) (by have := oct_size hd2 hf2; unfold hexS at this; rw [this]; omega) hw).mono ?_; rintro e w2 ⟨rfl, hA2, hB2⟩)
        go_wp2
        refine hQ'.out _ _ ?_ ?_
        · exact (by repeat (first | exact Below.refl _ _ | assumption | refine Below.alloc ?_ (by first | omega | (simp; omega)) _ | refine Below.drew ?_ | refine below_drewl ?_ | exact Below.mono (by assumption) (by omega)))
        clear hQ' Q'
        repeat (first | (refine moveB_read (by rfl) (by rfl) (by rfl) ?_; intro K hK; go_big_quiet_op; go_big_quiet_on) | (refine moveB_skip (by rfl) (by rfl) ?_; simp only [Act.put, List.setIfInBounds_toArray, List.set_cons_zero, List.set_cons_succ]))
        refine moveB_done ?_
        go_wp2
        go_roundw
        case rel =>
          refine ⟨k + 1, by omega, by go_num, hB.drew.trans hB2, hide ?_⟩
          have e := oct_cells hd2 hf2
          unfold hexS at e
          rw [e] at hA2
          have e2 : qB s[k] = [92, hexD d, hexD f] := by unfold qB; rw [if_pos ho.out, hd.out, hf.out, hc.out]
          rw [q_step s hlt, e2]
          exact hA2
        case measure => simp [intOf]; omega
      · rename_i h
        have ho : oddB s[k].toNat = false := by revert h; unfold oddB; simp; omega
        clear h
        go_roundw
        case rel =>
          refine ⟨k + 1, by omega, by go_num, hB.trans hB2, hide ?_⟩
          have e2 : qB s[k] = [s[k]] := by unfold qB; rw [if_neg (by rw [ho]; simp)]
          rw [q_step s hlt, e2]
          exact hA2
        case measure => simp [intOf]; omega
    · obtain rfl : k = s.size := by omega
      have hl := q_len s s.size hs
      have hsz := hB.size
      have e3 : Lib.byteCells (34 :: (s.data.toList.take s.size).flatMap qB) ++ [Value.int .u8 34] = Lib.byteCells (quoteL s) := by
        rw [List.take_of_length_le (by simp)]
        simp [Lib.byteCells, quoteL]
      go_wp2_with (first | (go_at_call 58; refine (writeByte_any _ _ _ 34 _ (Or.inr hA.out) (by omega) hsz).mono ?_; rintro e w2 ⟨rfl, hA2, hB2⟩; rw [e3] at hA2; have hsz2 := hB2.size; replace hA2 := hide hA2) | (go_at_call 60; refine (builderText_any _ _ (quoteL s) _ (Or.inr hA2.out) (by omega)).mono ?_; rintro e w3 ⟨rfl, hB3⟩))
      go_ret
      exact ⟨rfl, (hB.trans hB2).trans hB3⟩
end Go.Proofs.YtiiagdnmbpdlaaaDoor
