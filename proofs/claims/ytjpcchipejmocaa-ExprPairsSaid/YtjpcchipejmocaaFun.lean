/-
  Contracts of package fun's functions (layer 6).
-/
import Derived.Test.YtjpcchipejmocaaValue
import Derived.WalkLawsBesides
import Derived.WalkSpells
import Derived.Deep.Cut
import Derived.Deep.Light
namespace Go.Proofs.Ytjpcchipejmocaa
open Go.RowKit
set_option linter.unusedSimpArgs false
set_option linter.unusedVariables false
attribute [local go_sem] ext_cell ext_frozen
attribute [local go_sem low] alloc_cell alloc_frozen



theorem add_any (a b : Int) (w : World) (ha : R64 a) (hb : R64 b) :
    Calls Try.prog 87 #[.int .i64 a, .int .i64 b] w fun e w' => e = .returned (.tuple #[.int .i64 (addS a b).1, .int .i64 (addS a b).2]) ∧ w = w' := by
  obtain ⟨ha, ha'⟩ := ha
  obtain ⟨hb, hb'⟩ := hb
  go_enter Try.func87, Try.ntmps87
  go_wp2
  all_goals
    go_ret2
    refine ⟨ret_ii ?_, rfl⟩
    go_light
    unfold addS inI
    first | rw [if_pos (by simp; omega)] | rw [if_neg (by simp; omega)]
theorem sub_any (a b : Int) (w : World) (ha : R64 a) (hb : R64 b) :
    Calls Try.prog 88 #[.int .i64 a, .int .i64 b] w fun e w' => e = .returned (.tuple #[.int .i64 (subS a b).1, .int .i64 (subS a b).2]) ∧ w = w' := by
  obtain ⟨ha, ha'⟩ := ha
  obtain ⟨hb, hb'⟩ := hb
  go_enter Try.func88, Try.ntmps88
  go_wp2
  all_goals
    go_ret2
    refine ⟨ret_ii ?_, rfl⟩
    go_light
    unfold subS inI
    first | rw [if_pos (by simp; omega)] | rw [if_neg (by simp; omega)]
theorem mul_any (a b : Int) (w : World) (ha : R64 a) (hb : R64 b) :
    Calls Try.prog 89 #[.int .i64 a, .int .i64 b] w fun e w' => e = .returned (.tuple #[.int .i64 (mulS a b).1, .int .i64 (mulS a b).2]) ∧ w = w' := by
  obtain ⟨ha, ha'⟩ := ha
  obtain ⟨hb, hb'⟩ := hb
  by_cases h0 : a = 0
  · subst h0
    go_enter Try.func89, Try.ntmps89
    go_wp2
    all_goals
      go_ret2
      refine ⟨ret_ii ?_, rfl⟩
      simp [mulS, inI]
  · have H := hide (mul_over ha ha' hb hb' h0)
    go_enter Try.func89, Try.ntmps89
    go_upto_region 2 with (fail)
    refine wp_spec (by kernel_rfl) ?_
    repeat (refine spec_step ?_; intro K hK; go_big_quiet_op; go_big_quiet_on)
    refine spec_nil ?_
    intro us
    simp only [junk, Act.put, List.setIfInBounds_toArray, List.set_cons_zero, List.set_cons_succ]
    go_wp2
    · go_ret2
      refine ⟨ret_ii ?_, rfl⟩
      go_light
      unfold mulS
      rw [H.out.1 (by simp_all)]
      rfl
    · go_ret2
      refine ⟨ret_ii ?_, rfl⟩
      go_light
      have hin : inI (a * b) = true := by
        cases hc : inI (a * b) with
        | true => rfl
        | false =>
          exfalso
          have := H.out.2 hc
          simp_all
          first | omega | (rcases this with h | h <;> simp_all)
      unfold mulS
      rw [hin]
      simp only [inI, Bool.and_eq_true, decide_eq_true_eq] at hin
      have : wrap64 (a * b) = a * b := by unfold wrap64; omega
      rw [this]; rfl
theorem truth_any (b : Bool) (w : World) :
    Calls Try.prog 85 #[.bool b] w fun e w' => e = .returned (.agg #[.int .i64 1, .int .i64 (bitI b), .string ⟨#[]⟩]) ∧ Below w.heap.size w w' := by
  cases b
  · go_enter Try.func85, Try.ntmps85
    go_wp2
    refine bodyPost_ret (v := .agg #[.int .i64 1, .int .i64 0, .string ⟨#[]⟩]) (by simp [results, Try.results85, go_sem, ↓IntWalk.iteOmega]) rfl ?_
    exact ⟨rfl, (by repeat (first | exact Below.refl _ _ | assumption | refine Below.alloc1 ?_ _ | refine Below.drew ?_ | refine below_drewl ?_ | refine Below.setCell ?_ (by first | exact Nat.le_refl _ | (simp; done) | omega | (simp; omega)) _ | refine Below.lift ?_ (by assumption)))⟩
  · go_enter Try.func85, Try.ntmps85
    go_wp2
    refine bodyPost_ret (v := .agg #[.int .i64 1, .int .i64 1, .string ⟨#[]⟩]) (by simp [results, Try.results85, go_sem, ↓IntWalk.iteOmega]) rfl ?_
    exact ⟨rfl, (by repeat (first | exact Below.refl _ _ | assumption | refine Below.alloc1 ?_ _ | refine Below.drew ?_ | refine below_drewl ?_ | refine Below.setCell ?_ (by first | exact Nat.le_refl _ | (simp; done) | omega | (simp; omega)) _ | refine Below.lift ?_ (by assumption)))⟩
theorem all_any (kind : Int) (l : List Val) (A : Option Addr) (c : Nat) (w : World) (hn : l.length ≤ reachBytes) (h : SlAt rVal 3 w A l) :
    Calls Try.prog 90 #[.int .i64 kind, .slice A l.length c] w fun e w' => e = .returned (.bool (allS kind l)) ∧ Below w.heap.size w w' := by
  unfold reachBytes at hn
  go_enter Try.func90, Try.ntmps90
  go_wp2
  go_loopw [6, 9] (fun _ i wr => ∃ k : Nat, k ≤ l.length ∧ i = .int .i64 k ∧ Below w.heap.size w wr ∧ Hid (allS kind (l.take k) = true)) (fun _ i _ => l.length - (intOf i).toNat)
  case atStart => exact ⟨0, Nat.zero_le _, rfl, Below.refl _ _, rfl⟩
  case round =>
    obtain ⟨k, hk, rfl, hB, hall⟩ := hrel
    by_cases hlt : k < l.length
    · obtain ⟨b, o, rfl, hb, c0, c1, c2, hf⟩ := (h.keep keeps_val hB).val hlt
      have H := hide h
      clear h
      go_wp2
      · go_ret
        refine ⟨ret_bool (all_no hlt ?_).symm, (by repeat (first | exact Below.refl _ _ | assumption | refine Below.alloc1 ?_ _ | refine Below.drew ?_ | refine below_drewl ?_ | refine Below.setCell ?_ (by first | exact Nat.le_refl _ | (simp; done) | omega | (simp; omega)) _ | refine Below.lift ?_ (by assumption)))⟩
        go_light
        simp_all
      · go_roundw
        case rel =>
          refine ⟨k + 1, by omega, by go_num, (by repeat (first | exact Below.refl _ _ | assumption | refine Below.alloc1 ?_ _ | refine Below.drew ?_ | refine below_drewl ?_ | refine Below.setCell ?_ (by first | exact Nat.le_refl _ | (simp; done) | omega | (simp; omega)) _ | refine Below.lift ?_ (by assumption))), all_step hlt hall.out ?_⟩
          go_light
          simp_all
        case measure => simp [intOf]; omega
    · obtain rfl : k = l.length := by omega
      have e := hall.out
      rw [take_all] at e
      have E := hide e
      clear e hall
      go_wp2
      go_ret
      exact ⟨ret_bool E.out.symm, (by repeat (first | exact Below.refl _ _ | assumption | refine Below.alloc1 ?_ _ | refine Below.drew ?_ | refine below_drewl ?_ | refine Below.setCell ?_ (by first | exact Nat.le_refl _ | (simp; done) | omega | (simp; omega)) _ | refine Below.lift ?_ (by assumption)))⟩

theorem may_any (op : Int) (l : List Val) (A : Option Addr) (c : Nat) (w : World) (hn : l.length ≤ reachBytes) (h : SlAt rVal 3 w A l) :
    Calls Try.prog 84 #[.int .i64 op, .slice A l.length c] w fun e w' => e = .returned (.bool (mayS op l)) ∧ Below w.heap.size w w' := by
  unfold reachBytes at hn
  have H := hide h
  clear h
  rcases Bool.eq_false_or_eq_true (op == 11) with h11 | h11
  all_goals
    have g : mayS op l = (decide (6 ≤ op) && decide (op ≤ 13) && decide ((l.length : Int) = if op == 11 then 1 else 2) && l.all Val.right) := by unfold mayS; simp
    rw [h11] at g
    replace g := hide g
    go_enter Try.func84, Try.ntmps84
    go_upto_region 4 with (fail)
    refine wp_spec (by kernel_rfl) ?_
    repeat (refine spec_step ?_; intro K hK; go_big_quiet_op; go_big_quiet_on)
    refine spec_nil ?_
    intro us
    simp only [junk, Act.put, List.setIfInBounds_toArray, List.set_cons_zero, List.set_cons_succ]
    go_upto_region 6 with (fail)
    · go_ret
      refine ⟨ret_bool ?_, (by repeat (first | exact Below.refl _ _ | assumption | refine Below.alloc1 ?_ _ | refine Below.drew ?_ | refine below_drewl ?_ | refine Below.setCell ?_ (by first | exact Nat.le_refl _ | (simp; done) | omega | (simp; omega)) _ | refine Below.lift ?_ (by assumption)))⟩
      rw [g.out]
      go_light
      simp_all
      try omega
    · have hl := g.out
      have hl2 : mayS op l = l.all Val.right := by
        rw [hl]
        clear hl
        go_light
        simp_all
      have G := hide hl2
      rename _ ∧ _ => ht
      replace ht := hide ht
      clear hl hl2 g
      go_wp2
      go_loopw [7, 24] (fun _ i wr => ∃ k : Nat, k ≤ l.length ∧ i = .int .i64 k ∧ Below w.heap.size w wr ∧ Hid ((l.take k).all Val.right = true)) (fun _ i _ => l.length - (intOf i).toNat)
      case atStart => exact ⟨0, Nat.zero_le _, rfl, (by repeat (first | exact Below.refl _ _ | assumption | refine Below.alloc1 ?_ _ | refine Below.drew ?_ | refine below_drewl ?_ | refine Below.setCell ?_ (by first | exact Nat.le_refl _ | (simp; done) | omega | (simp; omega)) _ | refine Below.lift ?_ (by assumption))), rfl⟩
      case round =>
        obtain ⟨k, hk, rfl, hB, hall⟩ := hrel
        by_cases hlt : k < l.length
        · obtain ⟨b, o, rfl, hb, c0, c1, c2, hf⟩ := (H.out.keep keeps_val hB).val hlt
          go_wp2_with (go_at_call 24; refine (right_any _ _ _ _ hf.s).mono ?_; rintro e w2 ⟨rfl, hB2⟩)
          · go_ret
            refine ⟨ret_bool ?_, (by repeat (first | exact Below.refl _ _ | assumption | refine Below.alloc1 ?_ _ | refine Below.drew ?_ | refine below_drewl ?_ | refine Below.setCell ?_ (by first | exact Nat.le_refl _ | (simp; done) | omega | (simp; omega)) _ | refine Below.lift ?_ (by assumption)))⟩
            rw [G.out]
            refine (all_no hlt ?_).symm
            go_light
            simp_all
          · go_roundw
            case rel =>
              refine ⟨k + 1, by omega, by go_num, (by repeat (first | exact Below.refl _ _ | assumption | refine Below.alloc1 ?_ _ | refine Below.drew ?_ | refine below_drewl ?_ | refine Below.setCell ?_ (by first | exact Nat.le_refl _ | (simp; done) | omega | (simp; omega)) _ | refine Below.lift ?_ (by assumption))), all_step hlt hall.out ?_⟩
              go_light
              simp_all
            case measure => simp [intOf]; omega
        · obtain rfl : k = l.length := by omega
          have e := hall.out
          rw [take_all] at e
          have E := hide e
          clear e hall
          go_wp2
          go_ret
          exact ⟨ret_bool (by rw [G.out, E.out]), (by repeat (first | exact Below.refl _ _ | assumption | refine Below.alloc1 ?_ _ | refine Below.drew ?_ | refine below_drewl ?_ | refine Below.setCell ?_ (by first | exact Nat.le_refl _ | (simp; done) | omega | (simp; omega)) _ | refine Below.lift ?_ (by assumption)))⟩

theorem number_any (f : FuncId) (hcf : ∀ args w, (callFunc f args).run Try.prog w = .ok (.enter f args) w) (F : Int → Int → Int × Int) (hF : ∀ a b w, R64 a → R64 b → Calls Try.prog f #[.int .i64 a, .int .i64 b] w fun e w' => e = .returned (.tuple #[.int .i64 (F a b).1, .int .i64 (F a b).2]) ∧ w = w')
    (x y : Val) (A : Option Addr) (c : Nat) (w : World) (h : SlAt rVal 3 w A [x, y]) :
    Calls Try.prog 86 #[.func (.func f) #[] #[], .slice A 2 c] w fun e w' => e = .returned (.tuple #[.agg #[.int .i64 ((numberS F x y).1).kind, .int .i64 ((numberS F x y).1).n, .string ((numberS F x y).1).s], .int .i64 (numberS F x y).2]) ∧ Below w.heap.size w w' := by
  have H := hide h
  have HF := hide hF
  obtain ⟨b, o, rfl, hb, ⟨c0, c1, c2⟩, ⟨d0, d1, d2⟩, hx, hy⟩ := h.pair
  clear hF h
  go_enter Try.func86, Try.ntmps86
  go_wp2_with (go_at_call 90; refine (all_any 2 [x, y] _ _ _ (by simp [reachBytes]) (H.out.keep keeps_val ?_)).mono ?_; rotate_left; rintro e w2 ⟨rfl, hB2⟩; obtain ⟨hc2, hf2⟩ := bcell hB2; have hz2 := hB2.size; try simp only [World.size_alloc, World.size_drew] at hc2 hf2 hz2)
  · have e : numberS F x y = (noVal, 2) := by
      go_light
      simp_all [numberS, allS]
    refine bodyPost_ret (v := .tuple #[.agg #[.int .i64 0, .int .i64 0, .string ⟨#[]⟩], .int .i64 2]) (by simp [results, Try.results86, go_sem, ↓IntWalk.iteOmega, hc2]) rfl ?_
    exact ⟨by rw [e]; rfl, (by repeat (first | exact Below.refl _ _ | assumption | refine Below.alloc1 ?_ _ | refine Below.drew ?_ | refine below_drewl ?_ | refine Below.setCell ?_ (by first | exact Nat.le_refl _ | (simp; done) | omega | (simp; omega)) _ | refine Below.lift ?_ (by assumption)))⟩
  · rename _ = false => ht
    replace ht := hide ht
    refine wp_spec_draw (by kernel_rfl) (by kernel_rfl) (by kernel_rfl) ?_
    repeat (refine spec_step ?_; intro K hK; go_big_quiet_op; go_big_quiet_on)
    refine spec_step ?_; intro K hK; go_big_quiet_op
    refine ⟨_, fun _ => quiet_eq (HF.out _ _ _ hx.n hy.n), ?_⟩
    go_big_quiet_on
    repeat (refine spec_step ?_; intro K hK; go_big_quiet_op; go_big_quiet_on)
    refine spec_nil ?_
    intro us w3 hB3
    simp only [junk, Act.put, List.setIfInBounds_toArray, List.set_cons_zero, List.set_cons_succ]
    obtain ⟨hc3, hf3⟩ := bcell hB3; have hz3 := hB3.size; try simp only [World.size_alloc, World.size_drew] at hc3 hf3 hz3
    have hk := ht.out
    have hkk : x.kind = 2 ∧ y.kind = 2 := by
      clear ht
      go_light
      simp_all [allS]
    have HK := hide hkk
    clear hk hkk
    go_wp2
    · refine bodyPost_ret (v := .tuple #[.agg #[.int .i64 0, .int .i64 0, .string ⟨#[]⟩], .int .i64 (F x.n y.n).2]) (by simp [results, Try.results86, go_sem, ↓IntWalk.iteOmega, hc2, hc3]) rfl ?_
      refine ⟨?_, (by repeat (first | exact Below.refl _ _ | assumption | refine Below.alloc1 ?_ _ | refine Below.drew ?_ | refine below_drewl ?_ | refine Below.setCell ?_ (by first | exact Nat.le_refl _ | (simp; done) | omega | (simp; omega)) _ | refine Below.lift ?_ (by assumption)))⟩
      have : numberS F x y = (noVal, (F x.n y.n).2) := by
        have := HK.out
        go_light
        simp_all [numberS]
      rw [this]; rfl
    · refine bodyPost_ret (v := .tuple #[.agg #[.int .i64 2, .int .i64 (F x.n y.n).1, .string ⟨#[]⟩], .int .i64 0]) (by simp [results, Try.results86, go_sem, ↓IntWalk.iteOmega, hc2, hc3]) rfl ?_
      refine ⟨?_, (by repeat (first | exact Below.refl _ _ | assumption | refine Below.alloc1 ?_ _ | refine Below.drew ?_ | refine below_drewl ?_ | refine Below.setCell ?_ (by first | exact Nat.le_refl _ | (simp; done) | omega | (simp; omega)) _ | refine Below.lift ?_ (by assumption)))⟩
      have : numberS F x y = (⟨2, (F x.n y.n).1, ⟨#[]⟩⟩, 0) := by
        have := HK.out
        go_light
        simp_all [numberS]
      rw [this]
  · exact (by repeat (first | exact Below.refl _ _ | assumption | refine Below.alloc1 ?_ _ | refine Below.drew ?_ | refine below_drewl ?_ | refine Below.setCell ?_ (by first | exact Nat.le_refl _ | (simp; done) | omega | (simp; omega)) _ | refine Below.lift ?_ (by assumption)))
end Go.Proofs.Ytjpcchipejmocaa
