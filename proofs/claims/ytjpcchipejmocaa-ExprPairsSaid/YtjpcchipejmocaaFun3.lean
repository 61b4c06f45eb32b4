import Derived.Test.YtjpcchipejmocaaFun2
import Derived.WalkLawsBesides
import Derived.WalkSpells
import Derived.Deep.Cut
import Derived.Deep.Light
namespace Go.Proofs.Ytjpcchipejmocaa
open Go.RowKit
set_option linter.unusedSimpArgs false
set_option linter.unusedVariables false
attribute [local go_sem] ext_cell ext_frozen
attribute [local go_sem low] alloc_cell alloc_frozen
attribute [local go_sem ↓] eql_val






theorem call_not (x : Val) (A : Option Addr) (c : Nat) (w : World) (h : SlAt rVal 3 w A [x]) (hm : mayS 11 [x] = true) :
    Calls Try.prog 69 #[.int .i64 11, .slice A 1 c] w (callPost 11 [x] w) := by
  have H := hide h
  have hr : Hid (callS 11 [x] = if allS 1 [x] then (truthS (x.n == 0), 0) else (noVal, 2)) := by show _ = _; simp [callS, hm]; cases allS 1 _ <;> rfl
  obtain ⟨b, o, rfl, hb, ⟨c0, c1, c2⟩, hx⟩ := h.lone
  clear h
  go_enter Try.func69, Try.ntmps69
  go_wp2_with (first | (go_at_call 84; refine (may_any 11 [x] _ _ _ (by simp [reachBytes]) (H.out.keep keeps_val (by repeat (first | exact Below.refl _ _ | assumption | refine Below.alloc1 ?_ _ | refine Below.drew ?_ | refine below_drewl ?_ | refine Below.setCell ?_ (by first | exact Nat.le_refl _ | (simp; done) | omega | (simp; omega)) _ | refine Below.lift ?_ (by assumption))))).mono ?_; rintro e w2 ⟨rfl, hB2⟩; obtain ⟨hc2, hf2⟩ := bcell hB2; have hz2 := hB2.size; try simp only [World.size_alloc, World.size_drew] at hc2 hf2 hz2) | (go_at_call 90; refine (all_any 1 [x] _ _ _ (by simp [reachBytes]) (H.out.keep keeps_val (by repeat (first | exact Below.refl _ _ | assumption | refine Below.alloc1 ?_ _ | refine Below.drew ?_ | refine below_drewl ?_ | refine Below.setCell ?_ (by first | exact Nat.le_refl _ | (simp; done) | omega | (simp; omega)) _ | refine Below.lift ?_ (by assumption))))).mono ?_; rintro e w4 ⟨rfl, hB4⟩; obtain ⟨hc4, hf4⟩ := bcell hB4; have hz4 := hB4.size; try simp only [World.size_alloc, World.size_drew] at hc4 hf4 hz4) | (go_at_call 85; refine (truth_any _ _).mono ?_; rintro e w3 ⟨rfl, hB3⟩; obtain ⟨hc3, hf3⟩ := bcell hB3; have hz3 := hB3.size; try simp only [World.size_alloc, World.size_drew] at hc3 hf3 hz3))
  · refine bodyPost_ret (v := .tuple #[.agg #[.int .i64 0, .int .i64 0, .string ⟨#[]⟩], .int .i64 2]) (by simp [results, Try.results69, go_sem, ↓IntWalk.iteOmega, hc2, hc4]) rfl ?_
    refine ⟨?_, (by repeat (first | exact Below.refl _ _ | assumption | refine Below.alloc1 ?_ _ | refine Below.drew ?_ | refine below_drewl ?_ | refine Below.setCell ?_ (by first | exact Nat.le_refl _ | (simp; done) | omega | (simp; omega)) _ | refine Below.lift ?_ (by assumption)))⟩
    rw [hr.out, if_neg (by go_light; simp_all)]; rfl
  · refine bodyPost_ret (v := .tuple #[.agg #[.int .i64 1, .int .i64 (bitI (x.n == 0)), .string ⟨#[]⟩], .int .i64 0]) (by simp [results, Try.results69, go_sem, ↓IntWalk.iteOmega, hc2, hc4, hc3]) rfl ?_
    refine ⟨?_, (by repeat (first | exact Below.refl _ _ | assumption | refine Below.alloc1 ?_ _ | refine Below.drew ?_ | refine below_drewl ?_ | refine Below.setCell ?_ (by first | exact Nat.le_refl _ | (simp; done) | omega | (simp; omega)) _ | refine Below.lift ?_ (by assumption)))⟩
    rw [hr.out, if_pos (by go_light; simp_all)]; rfl

theorem call_and (x y : Val) (A : Option Addr) (c : Nat) (w : World) (h : SlAt rVal 3 w A [x, y]) (hm : mayS 12 [x, y] = true) :
    Calls Try.prog 69 #[.int .i64 12, .slice A 2 c] w (callPost 12 [x, y] w) := by
  have H := hide h
  have hr : Hid (callS 12 [x, y] = if allS 1 [x, y] then (truthS (x.n == 1 && y.n == 1), 0) else (noVal, 2)) := by show _ = _; simp [callS, hm]; cases allS 1 _ <;> rfl
  obtain ⟨b, o, rfl, hb, ⟨c0, c1, c2⟩, ⟨d0, d1, d2⟩, hx, hy⟩ := h.pair
  clear h
  go_enter Try.func69, Try.ntmps69
  go_upto_region 25 with (first | (go_at_call 84; refine (may_any 12 [x, y] _ _ _ (by simp [reachBytes]) (H.out.keep keeps_val (by repeat (first | exact Below.refl _ _ | assumption | refine Below.alloc1 ?_ _ | refine Below.drew ?_ | refine below_drewl ?_ | refine Below.setCell ?_ (by first | exact Nat.le_refl _ | (simp; done) | omega | (simp; omega)) _ | refine Below.lift ?_ (by assumption))))).mono ?_; rintro e w2 ⟨rfl, hB2⟩; obtain ⟨hc2, hf2⟩ := bcell hB2; have hz2 := hB2.size; try simp only [World.size_alloc, World.size_drew] at hc2 hf2 hz2) | (go_at_call 90; refine (all_any 1 [x, y] _ _ _ (by simp [reachBytes]) (H.out.keep keeps_val (by repeat (first | exact Below.refl _ _ | assumption | refine Below.alloc1 ?_ _ | refine Below.drew ?_ | refine below_drewl ?_ | refine Below.setCell ?_ (by first | exact Nat.le_refl _ | (simp; done) | omega | (simp; omega)) _ | refine Below.lift ?_ (by assumption))))).mono ?_; rintro e w4 ⟨rfl, hB4⟩; obtain ⟨hc4, hf4⟩ := bcell hB4; have hz4 := hB4.size; try simp only [World.size_alloc, World.size_drew] at hc4 hf4 hz4))
  · refine bodyPost_ret (v := .tuple #[.agg #[.int .i64 0, .int .i64 0, .string ⟨#[]⟩], .int .i64 2]) (by simp [results, Try.results69, go_sem, ↓IntWalk.iteOmega, hc2, hc4]) rfl ?_
    refine ⟨?_, (by repeat (first | exact Below.refl _ _ | assumption | refine Below.alloc1 ?_ _ | refine Below.drew ?_ | refine below_drewl ?_ | refine Below.setCell ?_ (by first | exact Nat.le_refl _ | (simp; done) | omega | (simp; omega)) _ | refine Below.lift ?_ (by assumption)))⟩
    rw [hr.out, if_neg (by go_light; simp_all)]; rfl
  · skip
    refine wp_spec_tail 13 (by kernel_rfl) ?_
    simp only [List.take_succ_cons, List.take_zero, List.drop_succ_cons, List.drop_zero]
    repeat (refine spec_step ?_; intro K hK; go_big_quiet_op; go_big_quiet_on)
    refine spec_step ?_; intro K hK; go_big_quiet_op
    refine ⟨_, fun _ => quiet_ext (truth_any _ _), ?_⟩
    go_big_quiet_on
    repeat (refine spec_step ?_; intro K hK; go_big_quiet_op; go_big_quiet_on)
    refine spec_nil ?_
    intro us w25 hB25
    simp only [junk, Act.put, List.setIfInBounds_toArray, List.set_cons_zero, List.set_cons_succ]
    obtain ⟨hc25, hf25⟩ := bcell hB25; have hz25 := hB25.size; try simp only [World.size_alloc, World.size_drew] at hc25 hf25 hz25
    go_wp2
    refine bodyPost_ret (v := .tuple #[.agg #[.int .i64 1, .int .i64 (bitI (x.n == 1 && y.n == 1)), .string ⟨#[]⟩], .int .i64 0]) (by simp [results, Try.results69, go_sem, ↓IntWalk.iteOmega, hc2, hc4, hc25]) rfl ?_
    refine ⟨?_, (by repeat (first | exact Below.refl _ _ | assumption | refine Below.alloc1 ?_ _ | refine Below.drew ?_ | refine below_drewl ?_ | refine Below.setCell ?_ (by first | exact Nat.le_refl _ | (simp; done) | omega | (simp; omega)) _ | refine Below.lift ?_ (by assumption)))⟩
    rw [hr.out, if_pos (by go_light; simp_all)]; rfl

theorem call_or (x y : Val) (A : Option Addr) (c : Nat) (w : World) (h : SlAt rVal 3 w A [x, y]) (hm : mayS 13 [x, y] = true) :
    Calls Try.prog 69 #[.int .i64 13, .slice A 2 c] w (callPost 13 [x, y] w) := by
  have H := hide h
  have hr : Hid (callS 13 [x, y] = if allS 1 [x, y] then (truthS (x.n == 1 || y.n == 1), 0) else (noVal, 2)) := by show _ = _; simp [callS, hm]; cases allS 1 _ <;> rfl
  obtain ⟨b, o, rfl, hb, ⟨c0, c1, c2⟩, ⟨d0, d1, d2⟩, hx, hy⟩ := h.pair
  clear h
  go_enter Try.func69, Try.ntmps69
  go_upto_region 26 with (first | (go_at_call 84; refine (may_any 13 [x, y] _ _ _ (by simp [reachBytes]) (H.out.keep keeps_val (by repeat (first | exact Below.refl _ _ | assumption | refine Below.alloc1 ?_ _ | refine Below.drew ?_ | refine below_drewl ?_ | refine Below.setCell ?_ (by first | exact Nat.le_refl _ | (simp; done) | omega | (simp; omega)) _ | refine Below.lift ?_ (by assumption))))).mono ?_; rintro e w2 ⟨rfl, hB2⟩; obtain ⟨hc2, hf2⟩ := bcell hB2; have hz2 := hB2.size; try simp only [World.size_alloc, World.size_drew] at hc2 hf2 hz2) | (go_at_call 90; refine (all_any 1 [x, y] _ _ _ (by simp [reachBytes]) (H.out.keep keeps_val (by repeat (first | exact Below.refl _ _ | assumption | refine Below.alloc1 ?_ _ | refine Below.drew ?_ | refine below_drewl ?_ | refine Below.setCell ?_ (by first | exact Nat.le_refl _ | (simp; done) | omega | (simp; omega)) _ | refine Below.lift ?_ (by assumption))))).mono ?_; rintro e w4 ⟨rfl, hB4⟩; obtain ⟨hc4, hf4⟩ := bcell hB4; have hz4 := hB4.size; try simp only [World.size_alloc, World.size_drew] at hc4 hf4 hz4))
  · refine bodyPost_ret (v := .tuple #[.agg #[.int .i64 0, .int .i64 0, .string ⟨#[]⟩], .int .i64 2]) (by simp [results, Try.results69, go_sem, ↓IntWalk.iteOmega, hc2, hc4]) rfl ?_
    refine ⟨?_, (by repeat (first | exact Below.refl _ _ | assumption | refine Below.alloc1 ?_ _ | refine Below.drew ?_ | refine below_drewl ?_ | refine Below.setCell ?_ (by first | exact Nat.le_refl _ | (simp; done) | omega | (simp; omega)) _ | refine Below.lift ?_ (by assumption)))⟩
    rw [hr.out, if_neg (by go_light; simp_all)]; rfl
  · skip
    refine wp_spec_tail 13 (by kernel_rfl) ?_
    simp only [List.take_succ_cons, List.take_zero, List.drop_succ_cons, List.drop_zero]
    repeat (refine spec_step ?_; intro K hK; go_big_quiet_op; go_big_quiet_on)
    refine spec_step ?_; intro K hK; go_big_quiet_op
    refine ⟨_, fun _ => quiet_ext (truth_any _ _), ?_⟩
    go_big_quiet_on
    repeat (refine spec_step ?_; intro K hK; go_big_quiet_op; go_big_quiet_on)
    refine spec_nil ?_
    intro us w26 hB26
    simp only [junk, Act.put, List.setIfInBounds_toArray, List.set_cons_zero, List.set_cons_succ]
    obtain ⟨hc26, hf26⟩ := bcell hB26; have hz26 := hB26.size; try simp only [World.size_alloc, World.size_drew] at hc26 hf26 hz26
    go_wp2
    refine bodyPost_ret (v := .tuple #[.agg #[.int .i64 1, .int .i64 (bitI (x.n == 1 || y.n == 1)), .string ⟨#[]⟩], .int .i64 0]) (by simp [results, Try.results69, go_sem, ↓IntWalk.iteOmega, hc2, hc4, hc26]) rfl ?_
    refine ⟨?_, (by repeat (first | exact Below.refl _ _ | assumption | refine Below.alloc1 ?_ _ | refine Below.drew ?_ | refine below_drewl ?_ | refine Below.setCell ?_ (by first | exact Nat.le_refl _ | (simp; done) | omega | (simp; omega)) _ | refine Below.lift ?_ (by assumption)))⟩
    rw [hr.out, if_pos (by go_light; simp_all)]; rfl

theorem call_any (op : Int) (l : List Val) (A : Option Addr) (c : Nat) (w : World) (hn : l.length ≤ reachBytes) (h : SlAt rVal 3 w A l) :
    Calls Try.prog 69 #[.int .i64 op, .slice A l.length c] w (callPost op l w) := by
  cases hm : mayS op l with
  | false => exact call_no op l A c w hn h hm
  | true =>
    have hm' := hm
    simp only [mayS, Bool.and_eq_true, decide_eq_true_eq] at hm'
    obtain ⟨⟨⟨h1, h2⟩, h3⟩, _⟩ := hm'
    rcases (show op = 6 ∨ op = 7 ∨ op = 8 ∨ op = 9 ∨ op = 10 ∨ op = 11 ∨ op = 12 ∨ op = 13 by omega) with rfl | rfl | rfl | rfl | rfl | rfl | rfl | rfl
    all_goals
      simp only [Int.reduceEq, if_true, if_false] at h3
      match l, h3 with
      | [x], h3 => first | exact call_not x A c w h hm | (simp at h3)
      | [x, y], h3 => first | exact call_eq x y A c w h hm | exact call_less x y A c w h hm | exact call_add x y A c w h hm | exact call_sub x y A c w h hm | exact call_mul x y A c w h hm | exact call_and x y A c w h hm | exact call_or x y A c w h hm | (simp at h3)
      | [], h3 => simp at h3
      | _ :: _ :: _ :: _, h3 => simp at h3; omega
end Go.Proofs.Ytjpcchipejmocaa
