/-
  Contracts of ask.place and what it calls (layer 11).
-/
import Derived.Test.YtnienipaicckmaaFunRuns
import Derived.WalkLawsBesides
import Derived.WalkSpells
import Derived.Deep.Cut
import Derived.Deep.Light
namespace Go.Proofs.Ytnienipaicckmaa
open Go.RowKit
set_option linter.unusedSimpArgs false
set_option linter.unusedVariables false
attribute [local go_sem] ext_cell ext_frozen
attribute [local go_sem low] alloc_cell alloc_frozen
attribute [local go_sem ↓] eql_val

/-- is an attribute of a request the one of that category and name? -/
def isG (cat : Int) (name : ByteArray) (g : Giv) : Bool := decide (g.cat = cat) && decide (g.name = name)
def placeS (cat : Int) (name : ByteArray) (l : List Giv) : Int := if l.findIdx (isG cat name) < l.length then (l.findIdx (isG cat name) : Int) else -1

theorem placeS_at {cat : Int} {name : ByteArray} {l : List Giv} {k : Nat} (hk : k < l.length) (h : ∀ g ∈ l.take k, isG cat name g = false) (hg : isG cat name l[k] = true) : placeS cat name l = k := by
  have e : l.findIdx (isG cat name) = k := (List.findIdx_eq hk).2 ⟨hg, fun j hj => h _ (List.mem_take_iff_getElem.2 ⟨j, by omega, rfl⟩)⟩
  unfold placeS
  rw [e, if_pos hk]
theorem placeS_no {cat : Int} {name : ByteArray} {l : List Giv} (h : ∀ g ∈ l, isG cat name g = false) : placeS cat name l = -1 := by
  have e : l.findIdx (isG cat name) = l.length := List.findIdx_eq_length.2 h
  unfold placeS
  rw [e, if_neg (Nat.lt_irrefl _)]
theorem take_no {α : Type} {p : α → Bool} {l : List α} {k : Nat} (hk : k < l.length) (h : ∀ g ∈ l.take k, p g = false) (hg : p l[k] = false) : ∀ g ∈ l.take (k + 1), p g = false := by
  intro g hm
  rw [List.take_succ_eq_append_getElem hk, List.mem_append, List.mem_singleton] at hm
  rcases hm with hm | rfl
  · exact h g hm
  · exact hg
theorem place1_any (cat k : Int) (name s : ByteArray) (B : Option Addr) (n c : Nat) (b4 b5 : Nat) (w : World) (h4 : w.cell? ⟨b4, 0, none⟩ = some (.int .i64 k)) (h5 : w.cell? ⟨b5, 0, none⟩ = some (.string s)) :
    Calls Try.prog 62 #[.agg #[.int .i64 cat, .string name, .slice B n c], .pointer (some ⟨b4, 0, none⟩), .pointer (some ⟨b5, 0, none⟩)] w fun e w' => e = .returned (.bool (decide (cat = k) && decide (name = s))) ∧ Below w.heap.size w w' := by
  have hb4 := lt_of_cell h4
  have hb5 := lt_of_cell h5
  go_enter Try.func62, Try.ntmps62
  go_wp2
  all_goals
    go_ret
    refine ⟨ret_bool ?_, (by repeat (first | exact Below.refl _ _ | assumption | refine Below.alloc1 ?_ _ | refine Below.drew ?_ | refine below_drewl ?_ | refine Below.setCell ?_ (by first | exact Nat.le_refl _ | (simp; done) | omega | (simp; omega)) _ | refine Below.lift ?_ (by assumption)))⟩
    have hi : (name.toList == s.toList) = decide (name = s) := by
      by_cases e : name = s
      · simp [e]
      · simp only [decide_eq_false e]; exact beq_eq_false_iff_ne.2 fun h => e (toList_inj h)
    simp_all

theorem index_any (cat : Int) (name : ByteArray) (l : List Giv) (A : Option Addr) (c : Nat) (b4 b5 : Nat) (w : World) (hn : l.length ≤ reachBytes) (h : SlAt rGiv 3 w A l) (h4 : w.cell? ⟨b4, 0, none⟩ = some (.int .i64 cat)) (h5 : w.cell? ⟨b5, 0, none⟩ = some (.string name)) :
    Calls Try.prog 61 #[.slice A l.length c, .func (.func 62) #[] #[.pointer (some ⟨b4, 0, none⟩), .pointer (some ⟨b5, 0, none⟩)]] w fun e w' => e = .returned (.int .i64 (placeS cat name l)) ∧ Below w.heap.size w w' := by
  have hb4 := (lt_of_cell h4).1
  have hb5 := (lt_of_cell h5).1
  simp only at hb4 hb5
  unfold reachBytes at hn
  have H := hide h
  clear h
  have H4 := hide h4
  have H5 := hide h5
  clear h4 h5
  go_enter Try.func61, Try.ntmps61
  go_wp2
  go_loopw [5, 8] (fun _ i wr => ∃ k : Nat, k ≤ l.length ∧ i = .int .i64 k ∧ Below w.heap.size w wr ∧ Hid (∀ g ∈ l.take k, isG cat name g = false)) (fun _ i _ => l.length - (intOf i).toNat)
  case atStart => exact ⟨0, Nat.zero_le _, rfl, Below.refl _ _, by simp [Hid]⟩
  case round =>
    obtain ⟨k, hk, rfl, hB, hall⟩ := hrel
    by_cases hlt : k < l.length
    · obtain ⟨b, o, B, cb, rfl, hb, c0, c1, c2, hcat, hname, hbc, hc, hbag⟩ := (H.out.keep keeps_giv hB).giv hlt
      have g4 : wr.cell? ⟨b4, 0, none⟩ = some (.int .i64 cat) := (hB.cell (p := ⟨b4, 0, none⟩) hb4).trans H4.out
      have g5 : wr.cell? ⟨b5, 0, none⟩ = some (.string name) := (hB.cell (p := ⟨b5, 0, none⟩) hb5).trans H5.out
      go_wp2_with (go_at_call 62; refine (place1_any _ _ _ _ _ _ _ _ _ _ g4 g5).mono ?_; rintro e w2 ⟨rfl, hB2⟩; obtain ⟨hc2, hf2⟩ := bcell hB2; have hz2 := hB2.size; try simp only [World.size_alloc, World.size_drew] at hc2 hf2 hz2)
      · go_ret
        refine ⟨ret_int (placeS_at hlt hall.out ?_).symm, (by repeat (first | exact Below.refl _ _ | assumption | refine Below.alloc1 ?_ _ | refine Below.drew ?_ | refine below_drewl ?_ | refine Below.setCell ?_ (by first | exact Nat.le_refl _ | (simp; done) | omega | (simp; omega)) _ | refine Below.lift ?_ (by assumption)))⟩
        simp_all [isG]
      · go_roundw
        case rel =>
          refine ⟨k + 1, by omega, by go_num, (by repeat (first | exact Below.refl _ _ | assumption | refine Below.alloc1 ?_ _ | refine Below.drew ?_ | refine below_drewl ?_ | refine Below.setCell ?_ (by first | exact Nat.le_refl _ | (simp; done) | omega | (simp; omega)) _ | refine Below.lift ?_ (by assumption))), take_no hlt hall.out ?_⟩
          rename _ ∨ _ => ht
          rcases ht with ht | ht <;> simp [isG, ht]
        case measure => simp [intOf]; omega
    · obtain rfl : k = l.length := by omega
      go_wp2
      go_ret
      refine ⟨ret_int (placeS_no ?_).symm, (by repeat (first | exact Below.refl _ _ | assumption | refine Below.alloc1 ?_ _ | refine Below.drew ?_ | refine below_drewl ?_ | refine Below.setCell ?_ (by first | exact Nat.le_refl _ | (simp; done) | omega | (simp; omega)) _ | refine Below.lift ?_ (by assumption)))⟩
      have := hall.out
      rw [List.take_length] at this
      exact this

theorem place_any (cat : Int) (name : ByteArray) (l : List Giv) (A : Option Addr) (c : Nat) (w : World) (hn : l.length ≤ reachBytes) (h : SlAt rGiv 3 w A l) :
    Calls Try.prog 54 #[.slice A l.length c, .int .i64 cat, .string name] w fun e w' => e = .returned (.int .i64 (placeS cat name l)) ∧ Below w.heap.size w w' := by
  have H := hide h
  clear h
  go_enter Try.func54, Try.ntmps54
  go_wp2_with (go_at_call 61; refine (index_any cat name l A c _ _ _ hn (H.out.keep keeps_giv (by repeat (first | exact Below.refl _ _ | assumption | refine Below.alloc1 ?_ _ | refine Below.drew ?_ | refine below_drewl ?_ | refine Below.setCell ?_ (by first | exact Nat.le_refl _ | (simp; done) | omega | (simp; omega)) _ | refine Below.lift ?_ (by assumption)))) (by simp [go_sem]) (by simp [go_sem])).mono ?_; rintro e w2 ⟨rfl, hB2⟩; obtain ⟨hc2, hf2⟩ := bcell hB2; have hz2 := hB2.size; try simp only [World.size_alloc, World.size_drew] at hc2 hf2 hz2)
  go_ret
  exact ⟨rfl, (by repeat (first | exact Below.refl _ _ | assumption | refine Below.alloc1 ?_ _ | refine Below.drew ?_ | refine below_drewl ?_ | refine Below.setCell ?_ (by first | exact Nat.le_refl _ | (simp; done) | omega | (simp; omega)) _ | refine Below.lift ?_ (by assumption)))⟩
end Go.Proofs.Ytnienipaicckmaa
