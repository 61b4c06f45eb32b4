/-
  Contract of the reference's Call (bailiffref1).
-/
import Derived.Test.YtnienipaicckmaaRef1
import Derived.Test.YtnienipaicckmaaFun3
import Derived.WalkLawsBesides
import Derived.WalkSpells
import Derived.Deep.Cut
import Derived.Deep.Light
namespace Go.Proofs.Ytnienipaicckmaa
open Go.RowKit
set_option linter.unusedSimpArgs false
set_option linter.unusedVariables false
attribute [local go_sem] ext_cell ext_frozen
attribute [local go_sem low] alloc_cell alloc_frozen
attribute [local go_sem ↓] eql_val

theorem res_cells {w wr : World} {a b c : Value} {t : TypeId} (h : Below (w.heap.size + 1) (w.alloc (.cells #[a, b, c] t)) wr) :
    wr.cell? ⟨w.heap.size, 0, none⟩ = some a ∧ wr.cell? ⟨w.heap.size, 1, none⟩ = some b ∧ wr.cell? ⟨w.heap.size, 2, none⟩ = some c ∧
    wr.frozen? ⟨w.heap.size, 0, none⟩ = false ∧ wr.frozen? ⟨w.heap.size, 1, none⟩ = false ∧ wr.frozen? ⟨w.heap.size, 2, none⟩ = false ∧ w.heap.size < wr.heap.size := by
  have hz := h.size
  simp only [World.size_alloc] at hz
  refine ⟨?_, ?_, ?_, ?_, ?_, ?_, by omega⟩
  · rw [h.cell (p := ⟨w.heap.size, 0, none⟩) (by simp)]; simp [go_sem]
  · rw [h.cell (p := ⟨w.heap.size, 1, none⟩) (by simp)]; simp [go_sem]
  · rw [h.cell (p := ⟨w.heap.size, 2, none⟩) (by simp)]; simp [go_sem]
  · rw [h.frozen (p := ⟨w.heap.size, 0, none⟩) (by simp)]; simp [go_sem]
  · rw [h.frozen (p := ⟨w.heap.size, 1, none⟩) (by simp)]; simp [go_sem]
  · rw [h.frozen (p := ⟨w.heap.size, 2, none⟩) (by simp)]; simp [go_sem]
theorem list_two {α : Type} {l : List α} (h : l.length = 2) : ∃ x y, l = [x, y] := by
  match l, h with
  | [x, y], _ => exact ⟨x, y, rfl⟩
theorem callS_kind (op : Int) (l : List Val) (hm : mayS op l = true) (ho : 11 ≤ op) (h : allS 1 l = false) : callS op l = (noVal, 2) := by
  have h6 : op ≠ 6 := by omega
  have h7 : op ≠ 7 := by omega
  have h8 : op ≠ 8 := by omega
  have h9 : op ≠ 9 := by omega
  have h10 : op ≠ 10 := by omega
  simp [callS, hm, h, h6, h7, h8, h9, h10]
theorem callS_wrong (op : Int) (l : List Val) (h : l.all Val.right = false) : callS op l = (noVal, 1) := by
  have : mayS op l = false := by unfold mayS; rw [h]; simp
  simp [callS, this]
set_option maxRecDepth 100000 in
set_option maxHeartbeats 1000000 in
theorem ref_call_any (op : Int) (l : List Val) (A : Option Addr) (c : Nat) (w : World) (hn : l.length ≤ reachBytes) (h : SlAt rVal 3 w A l) :
    Calls Try.prog 34 #[.int .i64 op, .slice A l.length c] w (callPost op l w) := by
  unfold reachBytes at hn
  have H := hide h
  clear h
  go_enter Try.func34, Try.ntmps34
  go_wp2
  go_loopw [7, 17] (fun _ i wr => ∃ k : Nat, ∃ t, k ≤ l.length ∧ i = .int .i64 k ∧ Below (w.heap.size + 1) (w.alloc (.cells #[.int .i64 0, .int .i64 0, .string ⟨#[]⟩] t)) wr ∧ Hid ((l.take k).all Val.right = true)) (fun _ i _ => l.length - (intOf i).toNat)
  case atStart => exact ⟨0, _, Nat.zero_le _, rfl, Below.refl _ _, rfl⟩
  case round =>
    obtain ⟨k, t, hk, rfl, hB1, hall⟩ := hrel
    have hB : Below w.heap.size w wr := ((Below.refl _ _).alloc (Nat.le_refl _) _).trans (hB1.mono (by omega))
    obtain ⟨g0, g1, g2, g3, g4, g5, gz⟩ := res_cells hB1
    by_cases hlt : k < l.length
    · obtain ⟨b, o, rfl, hb, c0, c1, c2, hf⟩ := (H.out.keep keeps_val hB).val hlt
      go_wp2_with (go_at_call 50; refine (ref_right_any _ _ _ _ hf.s).mono ?_; rintro e w2 ⟨rfl, hB2⟩; obtain ⟨hc2, hf2⟩ := bcell hB2; have hz2 := hB2.size; try simp only [World.size_alloc, World.size_drew] at hc2 hf2 hz2)
      · refine bodyPost_ret (v := .tuple #[.agg #[.int .i64 0, .int .i64 0, .string ⟨#[]⟩], .int .i64 1]) (by simp [results, Try.results34, go_sem, ↓IntWalk.iteOmega, hc2, g0, g1, g2, gz]) rfl ?_
        refine ⟨?_, (by repeat (first | exact Below.refl _ _ | assumption | refine Below.alloc1 ?_ _ | refine Below.drew ?_ | refine Below.setCell ?_ (by first | exact Nat.le_refl _ | (simp; done) | omega | (simp; omega)) _ | refine Below.lift ?_ (by assumption)))⟩
        have e := all_no (p := Val.right) hlt (by go_light; simp_all)
        simp [callS_wrong op l e, noVal]
      · go_roundw
        case rel =>
          refine ⟨k + 1, t, by omega, by go_num, (hB1.alloc (by omega) _).trans (hB2.mono (by simp; omega)), all_step hlt hall.out ?_⟩
          go_light
          simp_all
        case measure => simp [intOf]; omega
    · obtain rfl : k = l.length := by omega
      have e := hall.out
      rw [take_all] at e
      have E := hide e
      clear e hall
      have E' := E.out
      by_cases h11 : op = 11
      · subst h11
        go_upto_region 10 with (fail)
        refine wp_spec (by kernel_rfl) ?_
        repeat (refine spec_step ?_; intro K hK; go_big_quiet_op; go_big_quiet_on)
        refine spec_nil ?_
        intro us
        simp only [junk, Act.put, List.setIfInBounds_toArray, List.set_cons_zero, List.set_cons_succ]
        go_upto_region 12 with (fail)
        · refine bodyPost_ret (v := .tuple #[.agg #[.int .i64 0, .int .i64 0, .string ⟨#[]⟩], .int .i64 1]) (by simp [results, Try.results34, go_sem, ↓IntWalk.iteOmega, g0, g1, g2, gz]) rfl ?_
          refine ⟨?_, (by repeat (first | exact Below.refl _ _ | assumption | refine Below.alloc1 ?_ _ | refine Below.drew ?_ | refine Below.setCell ?_ (by first | exact Nat.le_refl _ | (simp; done) | omega | (simp; omega)) _ | refine Below.lift ?_ (by assumption)))⟩
          have hm : mayS 11 l = false := by
            simp only [mayS, E']
            go_light
            simp_all
            try omega
          simp [callS, hm, noVal]
        · skip
          have hl : l.length = 1 := by
            clear E
            go_light
            simp_all
            try omega
          have hm : mayS 11 l = true := by simp [mayS, E', hl]
          replace hm := hide hm
          replace hl := hide hl
          clear E'
          go_wp2
          go_loopw [14, 146] (fun _ i wr => ∃ k : Nat, ∃ t, k ≤ l.length ∧ i = .int .i64 k ∧ Below (w.heap.size + 1) (w.alloc (.cells #[.int .i64 0, .int .i64 0, .string ⟨#[]⟩] t)) wr ∧ Hid (allS 1 (l.take k) = true)) (fun _ i _ => l.length - (intOf i).toNat)
          case atStart => exact ⟨0, _, Nat.zero_le _, rfl, hB1, rfl⟩
          case round =>
            clear hB g0 g1 g2 g3 g4 g5 gz hB1
            obtain ⟨k, t, hk, rfl, hB1, hall⟩ := hrel
            have hB : Below w.heap.size w wr := ((Below.refl _ _).alloc (Nat.le_refl _) _).trans (hB1.mono (by omega))
            obtain ⟨g0, g1, g2, g3, g4, g5, gz⟩ := res_cells hB1
            by_cases hlt : k < l.length
            · obtain ⟨b, o, rfl, hb, c0, c1, c2, hf⟩ := (H.out.keep keeps_val hB).val hlt
              go_wp2
              · refine bodyPost_ret (v := .tuple #[.agg #[.int .i64 0, .int .i64 0, .string ⟨#[]⟩], .int .i64 2]) (by simp [results, Try.results34, go_sem, ↓IntWalk.iteOmega, g0, g1, g2, gz]) rfl ?_
                refine ⟨?_, (by repeat (first | exact Below.refl _ _ | assumption | refine Below.alloc1 ?_ _ | refine Below.drew ?_ | refine Below.setCell ?_ (by first | exact Nat.le_refl _ | (simp; done) | omega | (simp; omega)) _ | refine Below.lift ?_ (by assumption)))⟩
                have e := all_no (p := fun v => decide (v.kind = 1)) hlt (by go_light; simp_all)
                simp [callS_kind 11 l hm.out (by omega) e, noVal]
              · go_roundw
                case rel =>
                  refine ⟨k + 1, t, by omega, by go_num, (hB1.alloc (by omega) _), all_step hlt hall.out ?_⟩
                  go_light
                  simp_all
                case measure => simp [intOf]; omega
            · obtain rfl : k = l.length := by omega
              have e := hall.out
              rw [take_all] at e
              clear hall
              have hm := hm.out
              obtain ⟨x, rfl⟩ : ∃ x, l = [x] := List.length_eq_one_iff.1 hl.out
              have hr : Hid (callS 11 [x] = (truthS (x.n == 0), 0)) := by show _ = _; simp [callS, hm, e]
              clear hm e E
              obtain ⟨b, o, rfl, hb, ⟨c0, c1, c2⟩, hx⟩ := (H.out.keep keeps_val hB).lone
              go_wp2_with (go_at_call 51; refine (ref_bool_any _ _).mono ?_; rintro e w3 ⟨rfl, hB3⟩; obtain ⟨hc3, hf3⟩ := bcell hB3; have hz3 := hB3.size; try simp only [World.size_alloc, World.size_drew] at hc3 hf3 hz3)
              refine bodyPost_ret (v := .tuple #[.agg #[.int .i64 1, .int .i64 (bitI (x.n == 0)), .string ⟨#[]⟩], .int .i64 0]) (by simp [results, Try.results34, go_sem, ↓IntWalk.iteOmega, hc3, g0, g1, g2, gz]) rfl ?_
              refine ⟨?_, (by repeat (first | exact Below.refl _ _ | assumption | refine Below.alloc1 ?_ _ | refine Below.drew ?_ | refine Below.setCell ?_ (by first | exact Nat.le_refl _ | (simp; done) | omega | (simp; omega)) _ | refine Below.lift ?_ (by assumption)))⟩
              rw [hr.out]; rfl
      · skip
        go_upto_region 10 with (fail)
        refine wp_spec (by kernel_rfl) ?_
        repeat (refine spec_step ?_; intro K hK; go_big_quiet_op; go_big_quiet_on)
        refine spec_nil ?_
        intro us
        simp only [junk, Act.put, List.setIfInBounds_toArray, List.set_cons_zero, List.set_cons_succ]
        go_upto_region 12 with (fail)
        · refine bodyPost_ret (v := .tuple #[.agg #[.int .i64 0, .int .i64 0, .string ⟨#[]⟩], .int .i64 1]) (by simp [results, Try.results34, go_sem, ↓IntWalk.iteOmega, g0, g1, g2, gz]) rfl ?_
          refine ⟨?_, (by repeat (first | exact Below.refl _ _ | assumption | refine Below.alloc1 ?_ _ | refine Below.drew ?_ | refine Below.setCell ?_ (by first | exact Nat.le_refl _ | (simp; done) | omega | (simp; omega)) _ | refine Below.lift ?_ (by assumption)))⟩
          have hm : mayS op l = false := by
            simp only [mayS, E', if_neg h11]
            go_light
            simp_all
            try omega
          simp [callS, hm, noVal]
        · have hl : l.length = 2 ∧ 6 ≤ op ∧ op ≤ 13 := by
            clear E
            go_light
            simp_all
            try omega
          obtain ⟨hl, o1, o2⟩ := hl
          have hm : mayS op l = true := by simp [mayS, E', hl, h11, o1, o2]
          replace hm := hide hm
          replace hl := hide hl
          clear E'
          rename _ ∧ _ => ht
          clear ht
          rcases (show op = 6 ∨ op = 7 ∨ op = 8 ∨ op = 9 ∨ op = 10 ∨ op = 12 ∨ op = 13 by omega) with rfl | rfl | rfl | rfl | rfl | rfl | rfl
          · skip
            obtain ⟨x, y, rfl⟩ : ∃ x y, l = [x, y] := list_two hl.out
            obtain ⟨b, o, rfl, hb, ⟨c0, c1, c2⟩, ⟨d0, d1, d2⟩, hx, hy⟩ := (H.out.keep keeps_val hB).pair
            have hm := hm.out
            have hr : Hid (callS 6 [x, y] = if x.kind ≠ y.kind then (noVal, 2) else (truthS (sameV x y), 0)) := by show _ = _; simp [callS, hm]
            clear hm E
            go_upto_region 14 with (fail)
            refine wp_spec_draw (by kernel_rfl) (by kernel_rfl) (by kernel_rfl) ?_
            repeat (refine spec_step ?_; intro K hK; go_big_quiet_op; go_big_quiet_on)
            refine spec_nil ?_
            intro us w14 hB14
            simp only [junk, Act.put, List.setIfInBounds_toArray, List.set_cons_zero, List.set_cons_succ]
            obtain ⟨hc14, hf14⟩ := bcell hB14; have hz14 := hB14.size; try simp only [World.size_alloc, World.size_drew] at hc14 hf14 hz14
            go_upto_region 16 with (fail)
            · refine bodyPost_ret (v := .tuple #[.agg #[.int .i64 0, .int .i64 0, .string ⟨#[]⟩], .int .i64 2]) (by simp [results, Try.results34, go_sem, ↓IntWalk.iteOmega, hc14, g0, g1, g2, gz]) rfl ?_
              refine ⟨?_, (by repeat (first | exact Below.refl _ _ | assumption | refine Below.alloc1 ?_ _ | refine Below.drew ?_ | refine Below.setCell ?_ (by first | exact Nat.le_refl _ | (simp; done) | omega | (simp; omega)) _ | refine Below.lift ?_ (by assumption)))⟩
              rw [hr.out, if_pos (by go_light; simp_all)]; rfl
            · rename _ = false => ht
              replace ht := hide ht
              refine wp_spec_draw_tail 8 (by kernel_rfl) (by kernel_rfl) (by kernel_rfl) ?_
              simp only [List.take_succ_cons, List.take_zero, List.drop_succ_cons, List.drop_zero]
              repeat (refine spec_step ?_; intro K hK; go_big_quiet_op; go_big_quiet_on)
              refine spec_step ?_; intro K hK; go_big_quiet_op
              refine ⟨_, fun _ => quiet_ext (ref_bool_any _ _), ?_⟩
              go_big_quiet_on
              repeat (refine spec_step ?_; intro K hK; go_big_quiet_op; go_big_quiet_on)
              refine spec_nil ?_
              intro us w16 hB16
              simp only [junk, Act.put, List.setIfInBounds_toArray, List.set_cons_zero, List.set_cons_succ]
              obtain ⟨hc16, hf16⟩ := bcell hB16; have hz16 := hB16.size; try simp only [World.size_alloc, World.size_drew] at hc16 hf16 hz16
              go_wp2
              refine bodyPost_ret (v := .tuple #[.agg #[.int .i64 1, .int .i64 (bitI (sameV x y)), .string ⟨#[]⟩], .int .i64 0]) (by simp [results, Try.results34, go_sem, ↓IntWalk.iteOmega, hc14, hc16, g0, g1, g2, gz]) rfl ?_
              refine ⟨?_, (by repeat (first | exact Below.refl _ _ | assumption | refine Below.alloc1 ?_ _ | refine Below.drew ?_ | refine Below.setCell ?_ (by first | exact Nat.le_refl _ | (simp; done) | omega | (simp; omega)) _ | refine Below.lift ?_ (by assumption)))⟩
              rw [hr.out, if_neg (by have := ht.out; clear ht; go_light; simp_all)]; rfl
          · skip
            obtain ⟨x, y, rfl⟩ : ∃ x y, l = [x, y] := list_two hl.out
            obtain ⟨b, o, rfl, hb, ⟨c0, c1, c2⟩, ⟨d0, d1, d2⟩, hx, hy⟩ := (H.out.keep keeps_val hB).pair
            have hm := hm.out
            have hr : Hid (callS 7 [x, y] = if (lessS x y).2 ≠ 0 then (noVal, (lessS x y).2) else (truthS (lessS x y).1, 0)) := by show _ = _; simp [callS, hm]
            clear hm E
            go_upto_region 18 with (fail)
            refine wp_spec_draw (by kernel_rfl) (by kernel_rfl) (by kernel_rfl) ?_
            repeat (refine spec_step ?_; intro K hK; go_big_quiet_op; go_big_quiet_on)
            refine spec_step ?_; intro K hK; go_big_quiet_op
            refine ⟨_, fun _ => quiet_ext (ref_less_any _ _ _ _ _ _ _ hx.s hy.s), ?_⟩
            go_big_quiet_on
            repeat (refine spec_step ?_; intro K hK; go_big_quiet_op; go_big_quiet_on)
            refine spec_nil ?_
            intro us w18 hB18
            simp only [junk, Act.put, List.setIfInBounds_toArray, List.set_cons_zero, List.set_cons_succ]
            obtain ⟨hc18, hf18⟩ := bcell hB18; have hz18 := hB18.size; try simp only [World.size_alloc, World.size_drew] at hc18 hf18 hz18
            go_wp2_with (go_at_call 51; refine (ref_bool_any _ _).mono ?_; rintro e w3 ⟨rfl, hB3⟩; obtain ⟨hc3, hf3⟩ := bcell hB3; have hz3 := hB3.size; try simp only [World.size_alloc, World.size_drew] at hc3 hf3 hz3)
            · refine bodyPost_ret (v := .tuple #[.agg #[.int .i64 0, .int .i64 0, .string ⟨#[]⟩], .int .i64 (lessS x y).2]) (by simp [results, Try.results34, go_sem, ↓IntWalk.iteOmega, hc18, g0, g1, g2, gz]) rfl ?_
              refine ⟨?_, (by repeat (first | exact Below.refl _ _ | assumption | refine Below.alloc1 ?_ _ | refine Below.drew ?_ | refine Below.setCell ?_ (by first | exact Nat.le_refl _ | (simp; done) | omega | (simp; omega)) _ | refine Below.lift ?_ (by assumption)))⟩
              rw [hr.out, if_pos (by go_light; simp_all)]; rfl
            · refine bodyPost_ret (v := .tuple #[.agg #[.int .i64 1, .int .i64 (bitI (lessS x y).1), .string ⟨#[]⟩], .int .i64 0]) (by simp [results, Try.results34, go_sem, ↓IntWalk.iteOmega, hc18, hc3, g0, g1, g2, gz]) rfl ?_
              refine ⟨?_, (by repeat (first | exact Below.refl _ _ | assumption | refine Below.alloc1 ?_ _ | refine Below.drew ?_ | refine Below.setCell ?_ (by first | exact Nat.le_refl _ | (simp; done) | omega | (simp; omega)) _ | refine Below.lift ?_ (by assumption)))⟩
              rw [hr.out, if_neg (by go_light; simp_all)]; rfl
          · skip
            obtain ⟨x, y, rfl⟩ : ∃ x y, l = [x, y] := list_two hl.out
            obtain ⟨b, o, rfl, hb, ⟨c0, c1, c2⟩, ⟨d0, d1, d2⟩, hx, hy⟩ := (H.out.keep keeps_val hB).pair
            have hm := hm.out
            have hr : Hid (callS 8 [x, y] = numberS addS x y) := by show _ = _; simp [callS, hm]
            clear hm E
            go_upto_region 25 with (fail)
            refine wp_spec (by kernel_rfl) ?_
            repeat (refine spec_step ?_; intro K hK; go_big_quiet_op; go_big_quiet_on)
            refine spec_nil ?_
            intro us
            simp only [junk, Act.put, List.setIfInBounds_toArray, List.set_cons_zero, List.set_cons_succ]
            go_upto_region 31 with (fail)
            · refine bodyPost_ret (v := .tuple #[.agg #[.int .i64 0, .int .i64 0, .string ⟨#[]⟩], .int .i64 2]) (by simp [results, Try.results34, go_sem, ↓IntWalk.iteOmega, g0, g1, g2, gz]) rfl ?_
              refine ⟨?_, (by repeat (first | exact Below.refl _ _ | assumption | refine Below.alloc1 ?_ _ | refine Below.drew ?_ | refine Below.setCell ?_ (by first | exact Nat.le_refl _ | (simp; done) | omega | (simp; omega)) _ | refine Below.lift ?_ (by assumption)))⟩
              rw [hr.out]
              have : numberS addS x y = (noVal, 2) := by
                go_light
                simp_all [numberS]
              rw [this]; rfl
            · have hkk : x.kind = 2 ∧ y.kind = 2 := by
                go_light
                simp_all
              have HK := hide hkk
              clear hkk
              refine wp_spec_draw (by kernel_rfl) (by kernel_rfl) (by kernel_rfl) ?_
              repeat (refine spec_step ?_; intro K hK; go_big_quiet_op; go_big_quiet_on)
              refine spec_step ?_; intro K hK; go_big_quiet_op
              refine ⟨_, fun _ => quiet_eq (ref_add_any _ _ _ hx.n hy.n), ?_⟩
              go_big_quiet_on
              repeat (refine spec_step ?_; intro K hK; go_big_quiet_op; go_big_quiet_on)
              refine spec_nil ?_
              intro us w31 hB31
              simp only [junk, Act.put, List.setIfInBounds_toArray, List.set_cons_zero, List.set_cons_succ]
              obtain ⟨hc31, hf31⟩ := bcell hB31; have hz31 := hB31.size; try simp only [World.size_alloc, World.size_drew] at hc31 hf31 hz31
              go_wp2
              · refine bodyPost_ret (v := .tuple #[.agg #[.int .i64 0, .int .i64 0, .string ⟨#[]⟩], .int .i64 (addS x.n y.n).2]) (by simp [results, Try.results34, go_sem, ↓IntWalk.iteOmega, hc31, g0, g1, g2, gz]) rfl ?_
                refine ⟨?_, (by repeat (first | exact Below.refl _ _ | assumption | refine Below.alloc1 ?_ _ | refine Below.drew ?_ | refine Below.setCell ?_ (by first | exact Nat.le_refl _ | (simp; done) | omega | (simp; omega)) _ | refine Below.lift ?_ (by assumption)))⟩
                rw [hr.out]
                have : numberS addS x y = (noVal, (addS x.n y.n).2) := by
                  have := HK.out
                  go_light
                  simp_all [numberS]
                rw [this]; rfl
              · refine bodyPost_ret (v := .tuple #[.agg #[.int .i64 2, .int .i64 (addS x.n y.n).1, .string ⟨#[]⟩], .int .i64 0]) (by simp [results, Try.results34, go_sem, ↓IntWalk.iteOmega, hc31, g0, g1, g2, gz]) rfl ?_
                refine ⟨?_, (by repeat (first | exact Below.refl _ _ | assumption | refine Below.alloc1 ?_ _ | refine Below.drew ?_ | refine Below.setCell ?_ (by first | exact Nat.le_refl _ | (simp; done) | omega | (simp; omega)) _ | refine Below.lift ?_ (by assumption)))⟩
                rw [hr.out]
                have : numberS addS x y = (⟨2, (addS x.n y.n).1, ⟨#[]⟩⟩, 0) := by
                  have := HK.out
                  go_light
                  simp_all [numberS]
                rw [this]
          · skip
            obtain ⟨x, y, rfl⟩ : ∃ x y, l = [x, y] := list_two hl.out
            obtain ⟨b, o, rfl, hb, ⟨c0, c1, c2⟩, ⟨d0, d1, d2⟩, hx, hy⟩ := (H.out.keep keeps_val hB).pair
            have hm := hm.out
            have hr : Hid (callS 9 [x, y] = numberS subS x y) := by show _ = _; simp [callS, hm]
            clear hm E
            go_upto_region 25 with (fail)
            refine wp_spec (by kernel_rfl) ?_
            repeat (refine spec_step ?_; intro K hK; go_big_quiet_op; go_big_quiet_on)
            refine spec_nil ?_
            intro us
            simp only [junk, Act.put, List.setIfInBounds_toArray, List.set_cons_zero, List.set_cons_succ]
            go_upto_region 33 with (fail)
            · refine bodyPost_ret (v := .tuple #[.agg #[.int .i64 0, .int .i64 0, .string ⟨#[]⟩], .int .i64 2]) (by simp [results, Try.results34, go_sem, ↓IntWalk.iteOmega, g0, g1, g2, gz]) rfl ?_
              refine ⟨?_, (by repeat (first | exact Below.refl _ _ | assumption | refine Below.alloc1 ?_ _ | refine Below.drew ?_ | refine Below.setCell ?_ (by first | exact Nat.le_refl _ | (simp; done) | omega | (simp; omega)) _ | refine Below.lift ?_ (by assumption)))⟩
              rw [hr.out]
              have : numberS subS x y = (noVal, 2) := by
                go_light
                simp_all [numberS]
              rw [this]; rfl
            · have hkk : x.kind = 2 ∧ y.kind = 2 := by
                go_light
                simp_all
              have HK := hide hkk
              clear hkk
              refine wp_spec_draw (by kernel_rfl) (by kernel_rfl) (by kernel_rfl) ?_
              repeat (refine spec_step ?_; intro K hK; go_big_quiet_op; go_big_quiet_on)
              refine spec_step ?_; intro K hK; go_big_quiet_op
              refine ⟨_, fun _ => quiet_eq (ref_sub_any _ _ _ hx.n hy.n), ?_⟩
              go_big_quiet_on
              repeat (refine spec_step ?_; intro K hK; go_big_quiet_op; go_big_quiet_on)
              refine spec_nil ?_
              intro us w33 hB33
              simp only [junk, Act.put, List.setIfInBounds_toArray, List.set_cons_zero, List.set_cons_succ]
              obtain ⟨hc33, hf33⟩ := bcell hB33; have hz33 := hB33.size; try simp only [World.size_alloc, World.size_drew] at hc33 hf33 hz33
              go_wp2
              · refine bodyPost_ret (v := .tuple #[.agg #[.int .i64 0, .int .i64 0, .string ⟨#[]⟩], .int .i64 (subS x.n y.n).2]) (by simp [results, Try.results34, go_sem, ↓IntWalk.iteOmega, hc33, g0, g1, g2, gz]) rfl ?_
                refine ⟨?_, (by repeat (first | exact Below.refl _ _ | assumption | refine Below.alloc1 ?_ _ | refine Below.drew ?_ | refine Below.setCell ?_ (by first | exact Nat.le_refl _ | (simp; done) | omega | (simp; omega)) _ | refine Below.lift ?_ (by assumption)))⟩
                rw [hr.out]
                have : numberS subS x y = (noVal, (subS x.n y.n).2) := by
                  have := HK.out
                  go_light
                  simp_all [numberS]
                rw [this]; rfl
              · refine bodyPost_ret (v := .tuple #[.agg #[.int .i64 2, .int .i64 (subS x.n y.n).1, .string ⟨#[]⟩], .int .i64 0]) (by simp [results, Try.results34, go_sem, ↓IntWalk.iteOmega, hc33, g0, g1, g2, gz]) rfl ?_
                refine ⟨?_, (by repeat (first | exact Below.refl _ _ | assumption | refine Below.alloc1 ?_ _ | refine Below.drew ?_ | refine Below.setCell ?_ (by first | exact Nat.le_refl _ | (simp; done) | omega | (simp; omega)) _ | refine Below.lift ?_ (by assumption)))⟩
                rw [hr.out]
                have : numberS subS x y = (⟨2, (subS x.n y.n).1, ⟨#[]⟩⟩, 0) := by
                  have := HK.out
                  go_light
                  simp_all [numberS]
                rw [this]
          · skip
            obtain ⟨x, y, rfl⟩ : ∃ x y, l = [x, y] := list_two hl.out
            obtain ⟨b, o, rfl, hb, ⟨c0, c1, c2⟩, ⟨d0, d1, d2⟩, hx, hy⟩ := (H.out.keep keeps_val hB).pair
            have hm := hm.out
            have hr : Hid (callS 10 [x, y] = numberS mulS x y) := by show _ = _; simp [callS, hm]
            clear hm E
            go_upto_region 25 with (fail)
            refine wp_spec (by kernel_rfl) ?_
            repeat (refine spec_step ?_; intro K hK; go_big_quiet_op; go_big_quiet_on)
            refine spec_nil ?_
            intro us
            simp only [junk, Act.put, List.setIfInBounds_toArray, List.set_cons_zero, List.set_cons_succ]
            go_upto_region 29 with (fail)
            · refine bodyPost_ret (v := .tuple #[.agg #[.int .i64 0, .int .i64 0, .string ⟨#[]⟩], .int .i64 2]) (by simp [results, Try.results34, go_sem, ↓IntWalk.iteOmega, g0, g1, g2, gz]) rfl ?_
              refine ⟨?_, (by repeat (first | exact Below.refl _ _ | assumption | refine Below.alloc1 ?_ _ | refine Below.drew ?_ | refine Below.setCell ?_ (by first | exact Nat.le_refl _ | (simp; done) | omega | (simp; omega)) _ | refine Below.lift ?_ (by assumption)))⟩
              rw [hr.out]
              have : numberS mulS x y = (noVal, 2) := by
                go_light
                simp_all [numberS]
              rw [this]; rfl
            · have hkk : x.kind = 2 ∧ y.kind = 2 := by
                go_light
                simp_all
              have HK := hide hkk
              clear hkk
              refine wp_spec_draw (by kernel_rfl) (by kernel_rfl) (by kernel_rfl) ?_
              repeat (refine spec_step ?_; intro K hK; go_big_quiet_op; go_big_quiet_on)
              refine spec_step ?_; intro K hK; go_big_quiet_op
              refine ⟨_, fun _ => quiet_eq (ref_mul_any _ _ _ hx.n hy.n), ?_⟩
              go_big_quiet_on
              repeat (refine spec_step ?_; intro K hK; go_big_quiet_op; go_big_quiet_on)
              refine spec_nil ?_
              intro us w29 hB29
              simp only [junk, Act.put, List.setIfInBounds_toArray, List.set_cons_zero, List.set_cons_succ]
              obtain ⟨hc29, hf29⟩ := bcell hB29; have hz29 := hB29.size; try simp only [World.size_alloc, World.size_drew] at hc29 hf29 hz29
              go_wp2
              · refine bodyPost_ret (v := .tuple #[.agg #[.int .i64 0, .int .i64 0, .string ⟨#[]⟩], .int .i64 (mulS x.n y.n).2]) (by simp [results, Try.results34, go_sem, ↓IntWalk.iteOmega, hc29, g0, g1, g2, gz]) rfl ?_
                refine ⟨?_, (by repeat (first | exact Below.refl _ _ | assumption | refine Below.alloc1 ?_ _ | refine Below.drew ?_ | refine Below.setCell ?_ (by first | exact Nat.le_refl _ | (simp; done) | omega | (simp; omega)) _ | refine Below.lift ?_ (by assumption)))⟩
                rw [hr.out]
                have : numberS mulS x y = (noVal, (mulS x.n y.n).2) := by
                  have := HK.out
                  go_light
                  simp_all [numberS]
                rw [this]; rfl
              · refine bodyPost_ret (v := .tuple #[.agg #[.int .i64 2, .int .i64 (mulS x.n y.n).1, .string ⟨#[]⟩], .int .i64 0]) (by simp [results, Try.results34, go_sem, ↓IntWalk.iteOmega, hc29, g0, g1, g2, gz]) rfl ?_
                refine ⟨?_, (by repeat (first | exact Below.refl _ _ | assumption | refine Below.alloc1 ?_ _ | refine Below.drew ?_ | refine Below.setCell ?_ (by first | exact Nat.le_refl _ | (simp; done) | omega | (simp; omega)) _ | refine Below.lift ?_ (by assumption)))⟩
                rw [hr.out]
                have : numberS mulS x y = (⟨2, (mulS x.n y.n).1, ⟨#[]⟩⟩, 0) := by
                  have := HK.out
                  go_light
                  simp_all [numberS]
                rw [this]
          · skip
            go_wp2
            go_loopw [14, 146] (fun _ i wr => ∃ k : Nat, ∃ t, k ≤ l.length ∧ i = .int .i64 k ∧ Below (w.heap.size + 1) (w.alloc (.cells #[.int .i64 0, .int .i64 0, .string ⟨#[]⟩] t)) wr ∧ Hid (allS 1 (l.take k) = true)) (fun _ i _ => l.length - (intOf i).toNat)
            case atStart => exact ⟨0, _, Nat.zero_le _, rfl, hB1, rfl⟩
            case round =>
              clear hB g0 g1 g2 g3 g4 g5 gz hB1
              obtain ⟨k, t, hk, rfl, hB1, hall⟩ := hrel
              have hB : Below w.heap.size w wr := ((Below.refl _ _).alloc (Nat.le_refl _) _).trans (hB1.mono (by omega))
              obtain ⟨g0, g1, g2, g3, g4, g5, gz⟩ := res_cells hB1
              by_cases hlt : k < l.length
              · obtain ⟨b, o, rfl, hb, c0, c1, c2, hf⟩ := (H.out.keep keeps_val hB).val hlt
                go_wp2
                · refine bodyPost_ret (v := .tuple #[.agg #[.int .i64 0, .int .i64 0, .string ⟨#[]⟩], .int .i64 2]) (by simp [results, Try.results34, go_sem, ↓IntWalk.iteOmega, g0, g1, g2, gz]) rfl ?_
                  refine ⟨?_, (by repeat (first | exact Below.refl _ _ | assumption | refine Below.alloc1 ?_ _ | refine Below.drew ?_ | refine Below.setCell ?_ (by first | exact Nat.le_refl _ | (simp; done) | omega | (simp; omega)) _ | refine Below.lift ?_ (by assumption)))⟩
                  have e := all_no (p := fun v => decide (v.kind = 1)) hlt (by go_light; simp_all)
                  simp [callS_kind 12 l hm.out (by omega) e, noVal]
                · go_roundw
                  case rel =>
                    refine ⟨k + 1, t, by omega, by go_num, (hB1.alloc (by omega) _), all_step hlt hall.out ?_⟩
                    go_light
                    simp_all
                  case measure => simp [intOf]; omega
              · obtain rfl : k = l.length := by omega
                have e := hall.out
                rw [take_all] at e
                clear hall
                have hm := hm.out
                obtain ⟨x, y, rfl⟩ : ∃ x y, l = [x, y] := list_two hl.out
                have hr : Hid (callS 12 [x, y] = (truthS (x.n == 1 && y.n == 1), 0)) := by show _ = _; simp [callS, hm, e]
                clear hm e E
                obtain ⟨b, o, rfl, hb, ⟨c0, c1, c2⟩, ⟨d0, d1, d2⟩, hx, hy⟩ := (H.out.keep keeps_val hB).pair
                go_upto_region 47 with (fail)
                refine wp_spec_tail 13 (by kernel_rfl) ?_
                simp only [List.take_succ_cons, List.take_zero, List.drop_succ_cons, List.drop_zero]
                repeat (refine spec_step ?_; intro K hK; go_big_quiet_op; go_big_quiet_on)
                refine spec_step ?_; intro K hK; go_big_quiet_op
                refine ⟨_, fun _ => quiet_ext (ref_bool_any _ _), ?_⟩
                go_big_quiet_on
                repeat (refine spec_step ?_; intro K hK; go_big_quiet_op; go_big_quiet_on)
                refine spec_nil ?_
                intro us w47 hB47
                simp only [junk, Act.put, List.setIfInBounds_toArray, List.set_cons_zero, List.set_cons_succ]
                obtain ⟨hc47, hf47⟩ := bcell hB47; have hz47 := hB47.size; try simp only [World.size_alloc, World.size_drew] at hc47 hf47 hz47
                go_wp2
                refine bodyPost_ret (v := .tuple #[.agg #[.int .i64 1, .int .i64 (bitI (x.n == 1 && y.n == 1)), .string ⟨#[]⟩], .int .i64 0]) (by simp [results, Try.results34, go_sem, ↓IntWalk.iteOmega, hc47, g0, g1, g2, gz]) rfl ?_
                refine ⟨?_, (by repeat (first | exact Below.refl _ _ | assumption | refine Below.alloc1 ?_ _ | refine Below.drew ?_ | refine Below.setCell ?_ (by first | exact Nat.le_refl _ | (simp; done) | omega | (simp; omega)) _ | refine Below.lift ?_ (by assumption)))⟩
                rw [hr.out]; rfl
          · skip
            go_wp2
            go_loopw [14, 146] (fun _ i wr => ∃ k : Nat, ∃ t, k ≤ l.length ∧ i = .int .i64 k ∧ Below (w.heap.size + 1) (w.alloc (.cells #[.int .i64 0, .int .i64 0, .string ⟨#[]⟩] t)) wr ∧ Hid (allS 1 (l.take k) = true)) (fun _ i _ => l.length - (intOf i).toNat)
            case atStart => exact ⟨0, _, Nat.zero_le _, rfl, hB1, rfl⟩
            case round =>
              clear hB g0 g1 g2 g3 g4 g5 gz hB1
              obtain ⟨k, t, hk, rfl, hB1, hall⟩ := hrel
              have hB : Below w.heap.size w wr := ((Below.refl _ _).alloc (Nat.le_refl _) _).trans (hB1.mono (by omega))
              obtain ⟨g0, g1, g2, g3, g4, g5, gz⟩ := res_cells hB1
              by_cases hlt : k < l.length
              · obtain ⟨b, o, rfl, hb, c0, c1, c2, hf⟩ := (H.out.keep keeps_val hB).val hlt
                go_wp2
                · refine bodyPost_ret (v := .tuple #[.agg #[.int .i64 0, .int .i64 0, .string ⟨#[]⟩], .int .i64 2]) (by simp [results, Try.results34, go_sem, ↓IntWalk.iteOmega, g0, g1, g2, gz]) rfl ?_
                  refine ⟨?_, (by repeat (first | exact Below.refl _ _ | assumption | refine Below.alloc1 ?_ _ | refine Below.drew ?_ | refine Below.setCell ?_ (by first | exact Nat.le_refl _ | (simp; done) | omega | (simp; omega)) _ | refine Below.lift ?_ (by assumption)))⟩
                  have e := all_no (p := fun v => decide (v.kind = 1)) hlt (by go_light; simp_all)
                  simp [callS_kind 13 l hm.out (by omega) e, noVal]
                · go_roundw
                  case rel =>
                    refine ⟨k + 1, t, by omega, by go_num, (hB1.alloc (by omega) _), all_step hlt hall.out ?_⟩
                    go_light
                    simp_all
                  case measure => simp [intOf]; omega
              · obtain rfl : k = l.length := by omega
                have e := hall.out
                rw [take_all] at e
                clear hall
                have hm := hm.out
                obtain ⟨x, y, rfl⟩ : ∃ x y, l = [x, y] := list_two hl.out
                have hr : Hid (callS 13 [x, y] = (truthS (x.n == 1 || y.n == 1), 0)) := by show _ = _; simp [callS, hm, e]
                clear hm e E
                obtain ⟨b, o, rfl, hb, ⟨c0, c1, c2⟩, ⟨d0, d1, d2⟩, hx, hy⟩ := (H.out.keep keeps_val hB).pair
                go_upto_region 48 with (fail)
                refine wp_spec_tail 13 (by kernel_rfl) ?_
                simp only [List.take_succ_cons, List.take_zero, List.drop_succ_cons, List.drop_zero]
                repeat (refine spec_step ?_; intro K hK; go_big_quiet_op; go_big_quiet_on)
                refine spec_step ?_; intro K hK; go_big_quiet_op
                refine ⟨_, fun _ => quiet_ext (ref_bool_any _ _), ?_⟩
                go_big_quiet_on
                repeat (refine spec_step ?_; intro K hK; go_big_quiet_op; go_big_quiet_on)
                refine spec_nil ?_
                intro us w48 hB48
                simp only [junk, Act.put, List.setIfInBounds_toArray, List.set_cons_zero, List.set_cons_succ]
                obtain ⟨hc48, hf48⟩ := bcell hB48; have hz48 := hB48.size; try simp only [World.size_alloc, World.size_drew] at hc48 hf48 hz48
                go_wp2
                refine bodyPost_ret (v := .tuple #[.agg #[.int .i64 1, .int .i64 (bitI (x.n == 1 || y.n == 1)), .string ⟨#[]⟩], .int .i64 0]) (by simp [results, Try.results34, go_sem, ↓IntWalk.iteOmega, hc48, g0, g1, g2, gz]) rfl ?_
                refine ⟨?_, (by repeat (first | exact Below.refl _ _ | assumption | refine Below.alloc1 ?_ _ | refine Below.drew ?_ | refine Below.setCell ?_ (by first | exact Nat.le_refl _ | (simp; done) | omega | (simp; omega)) _ | refine Below.lift ?_ (by assumption)))⟩
                rw [hr.out]; rfl
end Go.Proofs.Ytnienipaicckmaa
