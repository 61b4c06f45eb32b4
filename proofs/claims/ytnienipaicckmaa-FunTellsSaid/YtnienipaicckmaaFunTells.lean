/-
  FunTells: the walk.
-/
import Derived.Test.YtnienipaicckmaaFunRuns
import Derived.Test.YtnienipaicckmaaRefCall
import Derived.Test.YtnienipaicckmaaAppend
import Derived.WalkLawsBesides
import Derived.WalkSpells
import Derived.Deep.Cut
import Derived.Deep.Light
namespace Go.Proofs.Ytnienipaicckmaa
open Go.RowKit
set_option linter.unusedSimpArgs false
set_option linter.unusedVariables false
attribute [local go_sem] ext_cell ext_frozen
attribute [local go_sem low] alloc_cell alloc_frozen
attribute [local go_sem ↓] eql_val

theorem SlAt.take {α : Type} {R : Rp α} {size : Nat} {w : World} {A : Option Addr} {l : List α} (h : SlAt R size w A l) (n : Nat) : SlAt R size w A (l.take n) := fun hl => by
  rw [List.length_take] at hl
  obtain ⟨b, o, hA, hlt, hc⟩ := h (by omega)
  refine ⟨b, o, hA, hlt, fun i hi => ?_⟩
  rw [List.length_take] at hi
  obtain ⟨cs, h1, h2, h3⟩ := hc i (by omega)
  refine ⟨cs, h1, h2, ?_⟩
  rw [List.getElem_take]
  exact h3
def cutV (x : Val) : Val := ⟨x.kind, x.n, x.s.extract 0 (if (80 : Int) < (x.s.size : Int) then (80 : Int) else (x.s.size : Int)).toNat⟩
def fVal (x : Val) : List Value := [.int .i64 x.kind, .int .i64 x.n, .string x.s]
theorem fVal_cell (x : Val) : ∀ u ∈ fVal x, u.oneCell' = true := by
  intro u hu
  simp [fVal] at hu
  rcases hu with rfl | rfl | rfl <;> rfl
theorem slat_f1 (w : World) (t : TypeId) (x : Val) (b : Nat) (hb : b = w.heap.size) : SlAt (fun _ cs y => cs = fVal y) 3 (w.alloc (.cells #[.int .i64 x.kind, .int .i64 x.n, .string x.s] t)) (some ⟨b, 0, none⟩) [x] := by
  subst hb
  exact slat_of w t [x] fVal (fun _ => rfl) (fun _ y hy => rfl)
theorem info_val : (Try.prog.info? 25).map (fun i => (i.zero, i.size, i.bytes)) = some (some (.agg #[.int .i64 0, .int .i64 0, .string .empty]), 3, 32) := by kernel_rfl
set_option maxRecDepth 100000 in
set_option maxHeartbeats 1000000 in
theorem funTells_any (a b op : Int) (l : List Val) (A : Option Addr) (c : Nat) (w : World) (ha : R64 a) (hb : R64 b) (hc : l.length ≤ c) (hn : l.length ≤ reachBytes) (h : SlAt rVal 3 w A l) :
    Calls Try.prog 9 #[.int .i64 a, .int .i64 b, .int .i64 op, .slice A l.length c] w fun e w' => e = .returned (.bool true) ∧ Below w.heap.size w w' := by
  obtain ⟨i0, hi, hz0, hz1, hz2⟩ := info_parts info_val
  unfold reachBytes at hn
  have H := hide h
  clear h
  go_enter Try.func9, Try.ntmps9
  go_upto_region 2 with (fail)
  have e : (if (4 : Int) < (l.length : Int) then (4 : Int) else (l.length : Int)).toNat = (l.take 4).length := by
    rw [List.length_take]
    split <;> omega
  rw [e]
  clear e
  generalize (if (4 : Int) < (l.length : Int) then (4 : Int) else (l.length : Int)) = m1 at *
  have H4 := H.out.take 4
  have n4 : (l.take 4).length ≤ 4 := by rw [List.length_take]; omega
  generalize l.take 4 = L at *
  generalize l.length = nl at *
  clear H
  have H := hide H4
  clear H4
  go_wp2
  go_loopw [9, 11, 35] (fun o _ i wr => ∃ k A' c' , k ≤ L.length ∧ i = .int .i64 k ∧ o = .slice A' k c' ∧ Below w.heap.size w wr ∧ Hid (OwnF fVal 3 wr w.heap.size 25 (.slice A' k c') ((L.take k).map cutV))) (fun _ _ i _ => L.length - (intOf i).toNat)
  case atStart => exact ⟨0, none, 0, Nat.zero_le _, rfl, rfl, Below.refl _ _, ownF_nil _ _ _ _⟩
  case round =>
    obtain ⟨k, A', c', hk, rfl, rfl, hB, hown⟩ := hrel
    by_cases hlt : k < L.length
    · obtain ⟨b, o, rfl, hb, c0, c1, c2, hf⟩ := (H.out.keep keeps_val hB).val hlt
      go_upto_region 7 with (fail)
      have hown' := hown.out
      clear hown
      have hown := hide hown'
      clear hown'
      go_wp2_with (at_builtin; refine wpList_append_f (f := fVal) (fun _ => rfl) fVal_cell rfl _ _ 35 rfl w.heap.size 25 i0 _ 32 Try.underlying35 hi hz0 hz1 hz2 rfl (by decide) _ ((L.take k).map cutV) rfl ((hown.out.alloc _).alloc _) _ _ [cutV L[k]] rfl (slat_f1 _ _ (cutV L[k]) _ (by simp)) (by simp [maxLen]; omega) (by simp; omega) (by simp; have := hB.size; omega) ?_; intro v' w3 hown3 hB3)
      · skip
        obtain ⟨A2, c2', rfl, hc2⟩ := hown3.shape
        have el : (L.take k).map cutV ++ [cutV L[k]] = (L.take (k + 1)).map cutV := by
          rw [List.take_succ_eq_append_getElem hlt, List.map_append]; rfl
        have en : ((L.take (k + 1)).map cutV).length = k + 1 := by rw [List.length_map, List.length_take]; omega
        rw [el] at hown3 hc2 ⊢
        rw [en] at hown3 hc2 ⊢
        refine ⟨⟨k + 1, A2, c2', by omega, by go_num, rfl, ?_, hown3⟩, by simp [intOf]; omega⟩
        exact ((hB.alloc hB.size _).alloc (by simp; have := hB.size; omega) _).trans hB3
    · obtain rfl : k = L.length := by omega
      have hown' := hown.out
      rw [List.take_length] at hown'
      clear hown
      have hfit : ∀ x ∈ L.map cutV, x.Fit := by
        intro x hx
        obtain ⟨y, hy, rfl⟩ := List.mem_map.1 hx
        obtain ⟨i, hi, rfl⟩ := List.mem_iff_getElem.1 hy
        obtain ⟨b, o, _, _, _, _, _, hf⟩ := (H.out.keep keeps_val hB).val hi
        exact ⟨hf.kind, hf.n, by
          have := hf.s
          unfold reachBytes at *
          show (cutV L[i]).s.size ≤ _
          unfold cutV
          rw [ByteArray.size_extract]
          split <;> omega⟩
      have HL : SlAt rVal 3 wr A' (L.map cutV) := by
        have e : L.length = (L.map cutV).length := by simp
        rw [e] at hown'
        exact OwnF.slat (R := rVal) (f := fVal) (fun _ => rfl) hown' (fun x hx => ⟨rfl, hfit x hx⟩)
      have n5 : (L.map cutV).length ≤ reachBytes := by rw [List.length_map]; unfold reachBytes; omega
      have en : L.length = (L.map cutV).length := by simp
      clear hown' hfit H
      generalize L.map cutV = M at *
      clear hk hlt n4
      subst_vars
      rw [en]
      clear en
      have H := hide HL
      clear HL
      go_upto_region 15 with (first | (go_at_call 25; (with_reducible refine (add_any _ _ _ ha hb).mono ?_); rintro e w1 ⟨rfl, rfl⟩) | (go_at_call 30; (with_reducible refine (sub_any _ _ _ ha hb).mono ?_); rintro e w1 ⟨rfl, rfl⟩) | (go_at_call 26; (with_reducible refine (mul_any _ _ _ ha hb).mono ?_); rintro e w1 ⟨rfl, rfl⟩) | (go_at_call 31; (with_reducible refine (ref_add_any _ _ _ ha hb).mono ?_); rintro e w1 ⟨rfl, rfl⟩) | (go_at_call 32; (with_reducible refine (ref_sub_any _ _ _ ha hb).mono ?_); rintro e w1 ⟨rfl, rfl⟩) | (go_at_call 33; (with_reducible refine (ref_mul_any _ _ _ ha hb).mono ?_); rintro e w1 ⟨rfl, rfl⟩))
      go_upto_region 17 with (first | (go_at_call 27; (with_reducible refine (call_any _ M _ _ _ n5 (H.out.keep keeps_val (by repeat (first | exact Below.refl _ _ | assumption | refine Below.alloc1 ?_ _ | refine Below.drew ?_ | refine Below.setCell ?_ (by first | exact Nat.le_refl _ | (simp; done) | omega | (simp; omega)) _ | refine Below.lift ?_ (by assumption))))).mono ?_); rintro e w2 ⟨rfl, hB2⟩; obtain ⟨hc2, hf2⟩ := bcell hB2; have hz2 := hB2.size; try simp only [World.size_alloc, World.size_drew] at hc2 hf2 hz2) | (go_at_call 34; (with_reducible refine (ref_call_any _ M _ _ _ n5 (H.out.keep keeps_val (by repeat (first | exact Below.refl _ _ | assumption | refine Below.alloc1 ?_ _ | refine Below.drew ?_ | refine Below.setCell ?_ (by first | exact Nat.le_refl _ | (simp; done) | omega | (simp; omega)) _ | refine Below.lift ?_ (by assumption))))).mono ?_); rintro e w3 ⟨rfl, hB3⟩; obtain ⟨hc3, hf3⟩ := bcell hB3; have hz3 := hB3.size; try simp only [World.size_alloc, World.size_drew] at hc3 hf3 hz3))
      have sr : ∀ x : Val, sameV x x = true := fun x => by simp [sameV]
      have sr := hide (sr (callS op M).1)
      go_upto_region 17 with (fail)
      refine wp_spec_ext (by kernel_rfl) ?_
      repeat (refine spec_step ?_; intro K hK; go_big_quiet_op; go_big_quiet_on)
      refine spec_step ?_; intro K hK; go_big_quiet_op
      refine ⟨_, fun _ => quiet_ext (funRuns_any _), ?_⟩
      go_big_quiet_on
      repeat (refine spec_step ?_; intro K hK; go_big_quiet_op; go_big_quiet_on)
      refine spec_nil ?_
      intro us w17 hB17
      simp only [junk, Act.put, List.setIfInBounds_toArray, List.set_cons_zero, List.set_cons_succ]
      obtain ⟨hc17, hf17⟩ := bcell hB17; have hz17 := hB17.size; try simp only [World.size_alloc, World.size_drew] at hc17 hf17 hz17
      go_wp2
      go_ret
      exact ⟨ret_bool (by simp [sr.out]), (by repeat (first | exact Below.refl _ _ | assumption | refine Below.alloc1 ?_ _ | refine Below.drew ?_ | refine Below.setCell ?_ (by first | exact Nat.le_refl _ | (simp; done) | omega | (simp; omega)) _ | refine Below.lift ?_ (by assumption)))⟩
end Go.Proofs.Ytnienipaicckmaa
