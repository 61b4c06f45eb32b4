/-
  What the statement leans on, part 5: Value, Fun, Fun2, Fun3, ExF, TgtH, Cnt, Small, FewH, GivO, HasH, ExH, ExN, ExV, EvQ, EvR, SmallH, VarAskH, VarH, FnsM, MkH, CombH, EvH, Build3, Asked, CompP, TarH.
-/
import Derived.Test.YtkkbdgijfkocnaaGreatDoorRows
import Derived.WalkLawsBesides
import Derived.WalkSpells
import Derived.Deep.Cut
import Derived.Deep.Light
import Derived.OneCell
import Derived.Test.YtkkbdgijfkocnaaGreatDoorPk1
import Derived.Test.YtkkbdgijfkocnaaGreatDoorPk2
import Derived.Test.YtkkbdgijfkocnaaGreatDoorPk3
import Derived.Test.YtkkbdgijfkocnaaGreatDoorPk4
namespace Go.Proofs.YtkkbdgijfkocnaaGreatDoor
open Go.RowKit
set_option linter.unusedSimpArgs false
set_option linter.unusedVariables false
attribute [local go_sem] wM js
attribute [local go_sem low] jp zo
theorem texts_any (k : Int) (w : World) :
 Calls Tryz.prog 156 #[.int .i64 k] w fun e w' => e = .returned (.bool (textsS k)) ∧ w = w' := by
 go_enter Tryz.func156, Tryz.ntmps156
 go_upto_region 1 with (fail)
 refine wp_spec (by kernel_rfl) ?_
 repeat (refine qF ?_; intro K hK; go_big_quiet_op; go_big_quiet_on)
 refine zr ?_
 intro us
 simp only [junk, Act.put, List.setIfInBounds_toArray, List.set_cons_zero, List.set_cons_succ]
 go_wp2
 go_ret
 exact ⟨wh (by rw [Bool.eq_iff_iff]; simp [textsS]), rfl⟩
theorem less_any (k n : Int) (s : ByteArray) (k' n' : Int) (s' : ByteArray) (w : World) (hs : s.size ≤ reachBytes) (hs' : s'.size ≤ reachBytes) :
 Calls Tryz.prog 123 #[.agg #[.int .i64 k, .int .i64 n, .string s], .agg #[.int .i64 k', .int .i64 n', .string s']] w
  fun e w' => e = .returned (.tuple #[.bool (lessS ⟨k, n, s⟩ ⟨k', n', s'⟩).1, .int .i64 (lessS ⟨k, n, s⟩ ⟨k', n', s'⟩).2]) ∧ Below w.heap.size w w' := by
 go_enter Tryz.func123, Tryz.ntmps123
 go_upto_region 1 with (fail)
 refine wp_spec_ext (by kernel_rfl) ?_
 repeat (refine qF ?_; intro K hK; go_big_quiet_op; go_big_quiet_on)
 refine qF ?_; intro K hK; go_big_quiet_op
 refine ⟨_, fun _ => qae (right_any _ _ _ _ hs), ?_⟩
 go_big_quiet_on
 repeat (refine qF ?_; intro K hK; go_big_quiet_op; go_big_quiet_on)
 refine qF ?_; intro K hK; go_big_quiet_op
 refine ⟨_, fun _ => qae (right_any _ _ _ _ hs'), ?_⟩
 go_big_quiet_on
 repeat (refine qF ?_; intro K hK; go_big_quiet_op; go_big_quiet_on)
 refine zr ?_
 intro us w1 hB1
 simp only [junk, Act.put, List.setIfInBounds_toArray, List.set_cons_zero, List.set_cons_succ]
 obtain ⟨hc1, hf1⟩ := jH hB1; have hz1 := hB1.size; try simp only [World.size_alloc, World.size_drew] at hc1 hf1 hz1
 go_upto_region 3 with (fail)
 · go_ret2
   refine ⟨ret_bi ?_, (by repeat (first | exact Below.refl _ _ | assumption | refine Below.alloc1 ?_ _ | refine Below.drew ?_ | refine qk ?_ | refine Below.setCell ?_ (by first | exact Nat.le_refl _ | (simp; done) | omega | (simp; omega)) _ | refine Below.lift ?_ (by assumption)))⟩
   go_light
   simp_all [lessS]
 · have h : (!{ kind := k, n := n, s := s : Val }.right) = false ∧ (!{ kind := k', n := n', s := s' : Val }.right) = false := by assumption
   have H := hide h
   clear h
   refine wp_spec (by kernel_rfl) ?_
   repeat (refine qF ?_; intro K hK; go_big_quiet_op; go_big_quiet_on)
   refine zr ?_
   intro us
   simp only [junk, Act.put, List.setIfInBounds_toArray, List.set_cons_zero, List.set_cons_succ]
   go_wp2_with (go_at_call 156; refine (texts_any _ _).mono ?_; rintro e w2 ⟨rfl, rfl⟩)
   all_goals
    go_ret2
    refine ⟨ret_bi ?_, (by repeat (first | exact Below.refl _ _ | assumption | refine Below.alloc1 ?_ _ | refine Below.drew ?_ | refine qk ?_ | refine Below.setCell ?_ (by first | exact Nat.le_refl _ | (simp; done) | omega | (simp; omega)) _ | refine Below.lift ?_ (by assumption)))⟩
    have h := H.out
    go_light
    simp_all [lessS, lessB]
    try (intro h1; simp_all)
end Go.Proofs.YtkkbdgijfkocnaaGreatDoor
namespace Go.Proofs.YtkkbdgijfkocnaaGreatDoor
open Go.RowKit
set_option linter.unusedSimpArgs false
set_option linter.unusedVariables false
attribute [local go_sem] wM js
attribute [local go_sem low] jp zo
theorem add_any (a b : Int) (w : World) (ha : R64 a) (hb : R64 b) :
 Calls Tryz.prog 173 #[.int .i64 a, .int .i64 b] w fun e w' => e = .returned (.tuple #[.int .i64 (addS a b).1, .int .i64 (addS a b).2]) ∧ w = w' := by
 obtain ⟨ha, ha'⟩ := ha
 obtain ⟨hb, hb'⟩ := hb
 go_enter Tryz.func173, Tryz.ntmps173
 go_wp2
 all_goals
  go_ret2
  refine ⟨ret_ii ?_, rfl⟩
  go_light
  unfold addS inI
  first | rw [if_pos (by simp; omega)] | rw [if_neg (by simp; omega)]
theorem sub_any (a b : Int) (w : World) (ha : R64 a) (hb : R64 b) :
 Calls Tryz.prog 174 #[.int .i64 a, .int .i64 b] w fun e w' => e = .returned (.tuple #[.int .i64 (subS a b).1, .int .i64 (subS a b).2]) ∧ w = w' := by
 obtain ⟨ha, ha'⟩ := ha
 obtain ⟨hb, hb'⟩ := hb
 go_enter Tryz.func174, Tryz.ntmps174
 go_wp2
 all_goals
  go_ret2
  refine ⟨ret_ii ?_, rfl⟩
  go_light
  unfold subS inI
  first | rw [if_pos (by simp; omega)] | rw [if_neg (by simp; omega)]
theorem mul_any (a b : Int) (w : World) (ha : R64 a) (hb : R64 b) :
 Calls Tryz.prog 175 #[.int .i64 a, .int .i64 b] w fun e w' => e = .returned (.tuple #[.int .i64 (mulS a b).1, .int .i64 (mulS a b).2]) ∧ w = w' := by
 obtain ⟨ha, ha'⟩ := ha
 obtain ⟨hb, hb'⟩ := hb
 by_cases h0 : a = 0
 · subst h0
   go_enter Tryz.func175, Tryz.ntmps175
   go_wp2
   all_goals
    go_ret2
    refine ⟨ret_ii ?_, rfl⟩
    simp [mulS, inI]
 · have H := hide (mul_over ha ha' hb hb' h0)
   go_enter Tryz.func175, Tryz.ntmps175
   go_upto_region 2 with (fail)
   refine wp_spec (by kernel_rfl) ?_
   repeat (refine qF ?_; intro K hK; go_big_quiet_op; go_big_quiet_on)
   refine zr ?_
   intro us
   simp only [junk, Act.put, List.setIfInBounds_toArray, List.set_cons_zero, List.set_cons_succ]
   go_wp2
   · go_ret2
     refine ⟨ret_ii ?_, rfl⟩
     go_light
     unfold mulS
     rw [H.out.1 (by simp_all)]
     rfl
   · go_ret2
     refine ⟨ret_ii ?_, rfl⟩
     go_light
     have hin : inI (a * b) = true := by
      cases hc : inI (a * b) with
      | true => rfl
      | false =>
        exfalso
        have := H.out.2 hc
        simp_all
        first | omega | (rcases this with h | h <;> simp_all)
     unfold mulS
     rw [hin]
     simp only [inI, Bool.and_eq_true, decide_eq_true_eq] at hin
     have : wrap64 (a * b) = a * b := by unfold wrap64; omega
     rw [this]; rfl
theorem truth_any (b : Bool) (w : World) :
 Calls Tryz.prog 171 #[.bool b] w fun e w' => e = .returned (.agg #[.int .i64 1, .int .i64 (bitI b), .string ⟨#[]⟩]) ∧ Below w.heap.size w w' := by
 cases b
 · go_enter Tryz.func171, Tryz.ntmps171
   go_wp2
   refine bodyPost_ret (v := .agg #[.int .i64 1, .int .i64 0, .string ⟨#[]⟩]) (by simp [results, Tryz.results171, go_sem, ↓IntWalk.iteOmega]) rfl ?_
   exact ⟨rfl, (by repeat (first | exact Below.refl _ _ | assumption | refine Below.alloc1 ?_ _ | refine Below.drew ?_ | refine qk ?_ | refine Below.setCell ?_ (by first | exact Nat.le_refl _ | (simp; done) | omega | (simp; omega)) _ | refine Below.lift ?_ (by assumption)))⟩
 · go_enter Tryz.func171, Tryz.ntmps171
   go_wp2
   refine bodyPost_ret (v := .agg #[.int .i64 1, .int .i64 1, .string ⟨#[]⟩]) (by simp [results, Tryz.results171, go_sem, ↓IntWalk.iteOmega]) rfl ?_
   exact ⟨rfl, (by repeat (first | exact Below.refl _ _ | assumption | refine Below.alloc1 ?_ _ | refine Below.drew ?_ | refine qk ?_ | refine Below.setCell ?_ (by first | exact Nat.le_refl _ | (simp; done) | omega | (simp; omega)) _ | refine Below.lift ?_ (by assumption)))⟩
theorem all_any (kind : Int) (l : List Val) (A : Option Addr) (c : Nat) (w : World) (hn : l.length ≤ reachBytes) (h : SlAt rVal 3 w A l) :
 Calls Tryz.prog 176 #[.int .i64 kind, .slice A l.length c] w fun e w' => e = .returned (.bool (allS kind l)) ∧ Below w.heap.size w w' := by
 unfold reachBytes at hn
 go_enter Tryz.func176, Tryz.ntmps176
 go_wp2
 go_loopw [6, 9] (fun _ i wr => ∃ k : Nat, k ≤ l.length ∧ i = .int .i64 k ∧ Below w.heap.size w wr ∧ Hid (allS kind (l.take k) = true)) (fun _ i _ => l.length - (intOf i).toNat)
 case atStart => exact ⟨0, Nat.zero_le _, rfl, Below.refl _ _, rfl⟩
 case round =>
  obtain ⟨k, hk, rfl, hB, hall⟩ := hrel
  by_cases hlt : k < l.length
  · obtain ⟨b, o, rfl, hb, c0, c1, c2, hf⟩ := (h.keep qV hB).val hlt
    have H := hide h
    clear h
    go_wp2
    · go_ret
      refine ⟨wh (all_no hlt ?_).symm, (by repeat (first | exact Below.refl _ _ | assumption | refine Below.alloc1 ?_ _ | refine Below.drew ?_ | refine qk ?_ | refine Below.setCell ?_ (by first | exact Nat.le_refl _ | (simp; done) | omega | (simp; omega)) _ | refine Below.lift ?_ (by assumption)))⟩
      go_light
      simp_all
    · go_roundw
      case rel =>
       refine ⟨k + 1, by omega, by go_num, (by repeat (first | exact Below.refl _ _ | assumption | refine Below.alloc1 ?_ _ | refine Below.drew ?_ | refine qk ?_ | refine Below.setCell ?_ (by first | exact Nat.le_refl _ | (simp; done) | omega | (simp; omega)) _ | refine Below.lift ?_ (by assumption))), all_step hlt hall.out ?_⟩
       go_light
       simp_all
      case measure => simp [intOf]; omega
  · obtain rfl : k = l.length := by omega
    have e := hall.out
    rw [take_all] at e
    have E := hide e
    clear e hall
    go_wp2
    go_ret
    exact ⟨wh E.out.symm, (by repeat (first | exact Below.refl _ _ | assumption | refine Below.alloc1 ?_ _ | refine Below.drew ?_ | refine qk ?_ | refine Below.setCell ?_ (by first | exact Nat.le_refl _ | (simp; done) | omega | (simp; omega)) _ | refine Below.lift ?_ (by assumption)))⟩
theorem qat (op : Int) (l : List Val) (A : Option Addr) (c : Nat) (w : World) (hn : l.length ≤ reachBytes) (h : SlAt rVal 3 w A l) :
 Calls Tryz.prog 170 #[.int .i64 op, .slice A l.length c] w fun e w' => e = .returned (.bool (mayS op l)) ∧ Below w.heap.size w w' := by
 unfold reachBytes at hn
 have H := hide h
 clear h
 rcases Bool.eq_false_or_eq_true (op == 11) with h11 | h11
 all_goals
  have g : mayS op l = (decide (6 ≤ op) && decide (op ≤ 13) && decide ((l.length : Int) = if op == 11 then 1 else 2) && l.all Val.right) := by unfold mayS; simp
  rw [h11] at g
  replace g := hide g
  go_enter Tryz.func170, Tryz.ntmps170
  go_upto_region 4 with (fail)
  refine wp_spec (by kernel_rfl) ?_
  repeat (refine qF ?_; intro K hK; go_big_quiet_op; go_big_quiet_on)
  refine zr ?_
  intro us
  simp only [junk, Act.put, List.setIfInBounds_toArray, List.set_cons_zero, List.set_cons_succ]
  go_upto_region 6 with (fail)
  · go_ret
    refine ⟨wh ?_, (by repeat (first | exact Below.refl _ _ | assumption | refine Below.alloc1 ?_ _ | refine Below.drew ?_ | refine qk ?_ | refine Below.setCell ?_ (by first | exact Nat.le_refl _ | (simp; done) | omega | (simp; omega)) _ | refine Below.lift ?_ (by assumption)))⟩
    rw [g.out]
    go_light
    simp_all
    try omega
  · have hl := g.out
    have hl2 : mayS op l = l.all Val.right := by
     rw [hl]
     clear hl
     go_light
     simp_all
    have G := hide hl2
    rename _ ∧ _ => ht
    replace ht := hide ht
    clear hl hl2 g
    go_wp2
    go_loopw [7, 24] (fun _ i wr => ∃ k : Nat, k ≤ l.length ∧ i = .int .i64 k ∧ Below w.heap.size w wr ∧ Hid ((l.take k).all Val.right = true)) (fun _ i _ => l.length - (intOf i).toNat)
    case atStart => exact ⟨0, Nat.zero_le _, rfl, (by repeat (first | exact Below.refl _ _ | assumption | refine Below.alloc1 ?_ _ | refine Below.drew ?_ | refine qk ?_ | refine Below.setCell ?_ (by first | exact Nat.le_refl _ | (simp; done) | omega | (simp; omega)) _ | refine Below.lift ?_ (by assumption))), rfl⟩
    case round =>
     obtain ⟨k, hk, rfl, hB, hall⟩ := hrel
     by_cases hlt : k < l.length
     · obtain ⟨b, o, rfl, hb, c0, c1, c2, hf⟩ := (H.out.keep qV hB).val hlt
       go_wp2_with (go_at_call 155; refine (right_any _ _ _ _ hf.s).mono ?_; rintro e w2 ⟨rfl, hB2⟩)
       · go_ret
         refine ⟨wh ?_, (by repeat (first | exact Below.refl _ _ | assumption | refine Below.alloc1 ?_ _ | refine Below.drew ?_ | refine qk ?_ | refine Below.setCell ?_ (by first | exact Nat.le_refl _ | (simp; done) | omega | (simp; omega)) _ | refine Below.lift ?_ (by assumption)))⟩
         rw [G.out]
         refine (all_no hlt ?_).symm
         go_light
         simp_all
       · go_roundw
         case rel =>
          refine ⟨k + 1, by omega, by go_num, (by repeat (first | exact Below.refl _ _ | assumption | refine Below.alloc1 ?_ _ | refine Below.drew ?_ | refine qk ?_ | refine Below.setCell ?_ (by first | exact Nat.le_refl _ | (simp; done) | omega | (simp; omega)) _ | refine Below.lift ?_ (by assumption))), all_step hlt hall.out ?_⟩
          go_light
          simp_all
         case measure => simp [intOf]; omega
     · obtain rfl : k = l.length := by omega
       have e := hall.out
       rw [take_all] at e
       have E := hide e
       clear e hall
       go_wp2
       go_ret
       exact ⟨wh (by rw [G.out, E.out]), (by repeat (first | exact Below.refl _ _ | assumption | refine Below.alloc1 ?_ _ | refine Below.drew ?_ | refine qk ?_ | refine Below.setCell ?_ (by first | exact Nat.le_refl _ | (simp; done) | omega | (simp; omega)) _ | refine Below.lift ?_ (by assumption)))⟩
theorem number_any (f : FuncId) (hcf : ∀ args w, (callFunc f args).run Tryz.prog w = .ok (.enter f args) w) (F : Int → Int → Int × Int) (hF : ∀ a b w, R64 a → R64 b → Calls Tryz.prog f #[.int .i64 a, .int .i64 b] w fun e w' => e = .returned (.tuple #[.int .i64 (F a b).1, .int .i64 (F a b).2]) ∧ w = w')
 (x y : Val) (A : Option Addr) (c : Nat) (w : World) (h : SlAt rVal 3 w A [x, y]) :
 Calls Tryz.prog 172 #[.func (.func f) #[] #[], .slice A 2 c] w fun e w' => e = .returned (.tuple #[.agg #[.int .i64 ((qS F x y).1).kind, .int .i64 ((qS F x y).1).n, .string ((qS F x y).1).s], .int .i64 (qS F x y).2]) ∧ Below w.heap.size w w' := by
 have H := hide h
 have HF := hide hF
 obtain ⟨b, o, rfl, hb, ⟨c0, c1, c2⟩, ⟨d0, d1, d2⟩, hx, hy⟩ := h.pair
 clear hF h
 go_enter Tryz.func172, Tryz.ntmps172
 go_wp2_with (go_at_call 176; refine (all_any 2 [x, y] _ _ _ (by simp [reachBytes]) (H.out.keep qV ?_)).mono ?_; rotate_left; rintro e w2 ⟨rfl, hB2⟩; obtain ⟨hc2, hf2⟩ := jH hB2; have hz2 := hB2.size; try simp only [World.size_alloc, World.size_drew] at hc2 hf2 hz2)
 · have e : qS F x y = (noVal, 2) := by
    go_light
    simp_all [qS, allS]
   refine bodyPost_ret (v := .tuple #[.agg #[.int .i64 0, .int .i64 0, .string ⟨#[]⟩], .int .i64 2]) (by simp [results, Tryz.results172, go_sem, ↓IntWalk.iteOmega, hc2]) rfl ?_
   exact ⟨by rw [e]; rfl, (by repeat (first | exact Below.refl _ _ | assumption | refine Below.alloc1 ?_ _ | refine Below.drew ?_ | refine qk ?_ | refine Below.setCell ?_ (by first | exact Nat.le_refl _ | (simp; done) | omega | (simp; omega)) _ | refine Below.lift ?_ (by assumption)))⟩
 · rename _ = false => ht
   replace ht := hide ht
   refine wp_spec_draw (by kernel_rfl) (by kernel_rfl) (by kernel_rfl) ?_
   repeat (refine qF ?_; intro K hK; go_big_quiet_op; go_big_quiet_on)
   refine qF ?_; intro K hK; go_big_quiet_op
   refine ⟨_, fun _ => quiet_eq (HF.out _ _ _ hx.n hy.n), ?_⟩
   go_big_quiet_on
   repeat (refine qF ?_; intro K hK; go_big_quiet_op; go_big_quiet_on)
   refine zr ?_
   intro us w3 hB3
   simp only [junk, Act.put, List.setIfInBounds_toArray, List.set_cons_zero, List.set_cons_succ]
   obtain ⟨hc3, hf3⟩ := jH hB3; have hz3 := hB3.size; try simp only [World.size_alloc, World.size_drew] at hc3 hf3 hz3
   have hk := ht.out
   have hkk : x.kind = 2 ∧ y.kind = 2 := by
    clear ht
    go_light
    simp_all [allS]
   have HK := hide hkk
   clear hk hkk
   go_wp2
   · refine bodyPost_ret (v := .tuple #[.agg #[.int .i64 0, .int .i64 0, .string ⟨#[]⟩], .int .i64 (F x.n y.n).2]) (by simp [results, Tryz.results172, go_sem, ↓IntWalk.iteOmega, hc2, hc3]) rfl ?_
     refine ⟨?_, (by repeat (first | exact Below.refl _ _ | assumption | refine Below.alloc1 ?_ _ | refine Below.drew ?_ | refine qk ?_ | refine Below.setCell ?_ (by first | exact Nat.le_refl _ | (simp; done) | omega | (simp; omega)) _ | refine Below.lift ?_ (by assumption)))⟩
     have : qS F x y = (noVal, (F x.n y.n).2) := by
      have := HK.out
      go_light
      simp_all [qS]
     rw [this]; rfl
   · refine bodyPost_ret (v := .tuple #[.agg #[.int .i64 2, .int .i64 (F x.n y.n).1, .string ⟨#[]⟩], .int .i64 0]) (by simp [results, Tryz.results172, go_sem, ↓IntWalk.iteOmega, hc2, hc3]) rfl ?_
     refine ⟨?_, (by repeat (first | exact Below.refl _ _ | assumption | refine Below.alloc1 ?_ _ | refine Below.drew ?_ | refine qk ?_ | refine Below.setCell ?_ (by first | exact Nat.le_refl _ | (simp; done) | omega | (simp; omega)) _ | refine Below.lift ?_ (by assumption)))⟩
     have : qS F x y = (⟨2, (F x.n y.n).1, ⟨#[]⟩⟩, 0) := by
      have := HK.out
      go_light
      simp_all [qS]
     rw [this]
 · exact (by repeat (first | exact Below.refl _ _ | assumption | refine Below.alloc1 ?_ _ | refine Below.drew ?_ | refine qk ?_ | refine Below.setCell ?_ (by first | exact Nat.le_refl _ | (simp; done) | omega | (simp; omega)) _ | refine Below.lift ?_ (by assumption)))
end Go.Proofs.YtkkbdgijfkocnaaGreatDoor
namespace Go.Proofs.YtkkbdgijfkocnaaGreatDoor
open Go.RowKit
set_option linter.unusedSimpArgs false
set_option linter.unusedVariables false
attribute [local go_sem] wM js
attribute [local go_sem low] jp zo
attribute [local go_sem ↓] eql_val
abbrev jO (op : Int) (l : List Val) (w : World) : Ending → World → Prop := fun e w' => e = .returned (.tuple #[.agg #[.int .i64 ((zD op l).1).kind, .int .i64 ((zD op l).1).n, .string ((zD op l).1).s], .int .i64 (zD op l).2]) ∧ Below w.heap.size w w'
theorem call_no (op : Int) (l : List Val) (A : Option Addr) (c : Nat) (w : World) (hn : l.length ≤ reachBytes) (h : SlAt rVal 3 w A l) (hm : mayS op l = false) :
 Calls Tryz.prog 152 #[.int .i64 op, .slice A l.length c] w (jO op l w) := by
 have H := hide h
 clear h
 have hr : zD op l = (noVal, 1) := by simp [zD, hm]
 go_enter Tryz.func152, Tryz.ntmps152
 go_wp2_with (go_at_call 170; refine (qat _ _ _ _ _ hn (H.out.keep qV (by repeat (first | exact Below.refl _ _ | assumption | refine Below.alloc1 ?_ _ | refine Below.drew ?_ | refine qk ?_ | refine Below.setCell ?_ (by first | exact Nat.le_refl _ | (simp; done) | omega | (simp; omega)) _ | refine Below.lift ?_ (by assumption))))).mono ?_; rintro e w2 ⟨rfl, hB2⟩; obtain ⟨hc2, hf2⟩ := jH hB2; have hz2 := hB2.size; try simp only [World.size_alloc, World.size_drew] at hc2 hf2 hz2)
 refine bodyPost_ret (v := .tuple #[.agg #[.int .i64 0, .int .i64 0, .string ⟨#[]⟩], .int .i64 1]) (by simp [results, Tryz.results152, go_sem, ↓IntWalk.iteOmega, hc2]) rfl ?_
 exact ⟨by rw [hr]; rfl, (by repeat (first | exact Below.refl _ _ | assumption | refine Below.alloc1 ?_ _ | refine Below.drew ?_ | refine qk ?_ | refine Below.setCell ?_ (by first | exact Nat.le_refl _ | (simp; done) | omega | (simp; omega)) _ | refine Below.lift ?_ (by assumption)))⟩
theorem call_eq (x y : Val) (A : Option Addr) (c : Nat) (w : World) (h : SlAt rVal 3 w A [x, y]) (hm : mayS 6 [x, y] = true) :
 Calls Tryz.prog 152 #[.int .i64 6, .slice A 2 c] w (jO 6 [x, y] w) := by
 have H := hide h
 have hr : Hid (zD 6 [x, y] = if x.kind ≠ y.kind then (noVal, 2) else (truthS (jW x y), 0)) := by show _ = _; simp [zD, hm]
 obtain ⟨b, o, rfl, hb, ⟨c0, c1, c2⟩, ⟨d0, d1, d2⟩, hx, hy⟩ := h.pair
 clear h
 go_enter Tryz.func152, Tryz.ntmps152
 go_wp2_with (go_at_call 170; refine (qat 6 [x, y] _ _ _ (by simp [reachBytes]) (H.out.keep qV (by repeat (first | exact Below.refl _ _ | assumption | refine Below.alloc1 ?_ _ | refine Below.drew ?_ | refine qk ?_ | refine Below.setCell ?_ (by first | exact Nat.le_refl _ | (simp; done) | omega | (simp; omega)) _ | refine Below.lift ?_ (by assumption))))).mono ?_; rintro e w2 ⟨rfl, hB2⟩; obtain ⟨hc2, hf2⟩ := jH hB2; have hz2 := hB2.size; try simp only [World.size_alloc, World.size_drew] at hc2 hf2 hz2)
 refine wp_spec_draw (by kernel_rfl) (by kernel_rfl) (by kernel_rfl) ?_
 repeat (refine qF ?_; intro K hK; go_big_quiet_op; go_big_quiet_on)
 refine zr ?_
 intro us w5 hB5
 simp only [junk, Act.put, List.setIfInBounds_toArray, List.set_cons_zero, List.set_cons_succ]
 obtain ⟨hc5, hf5⟩ := jH hB5; have hz5 := hB5.size; try simp only [World.size_alloc, World.size_drew] at hc5 hf5 hz5
 go_upto_region 7 with (fail)
 · refine bodyPost_ret (v := .tuple #[.agg #[.int .i64 0, .int .i64 0, .string ⟨#[]⟩], .int .i64 2]) (by simp [results, Tryz.results152, go_sem, ↓IntWalk.iteOmega, hc2, hc5]) rfl ?_
   refine ⟨?_, (by repeat (first | exact Below.refl _ _ | assumption | refine Below.alloc1 ?_ _ | refine Below.drew ?_ | refine qk ?_ | refine Below.setCell ?_ (by first | exact Nat.le_refl _ | (simp; done) | omega | (simp; omega)) _ | refine Below.lift ?_ (by assumption)))⟩
   rw [hr.out, if_pos (by go_light; simp_all)]; rfl
 · rename _ = false => ht
   replace ht := hide ht
   refine wp_spec_draw_tail 8 (by kernel_rfl) (by kernel_rfl) (by kernel_rfl) ?_
   simp only [List.take_succ_cons, List.take_zero, List.drop_succ_cons, List.drop_zero]
   repeat (refine qF ?_; intro K hK; go_big_quiet_op; go_big_quiet_on)
   refine qF ?_; intro K hK; go_big_quiet_op
   refine ⟨_, fun _ => qae (truth_any _ _), ?_⟩
   go_big_quiet_on
   repeat (refine qF ?_; intro K hK; go_big_quiet_op; go_big_quiet_on)
   refine zr ?_
   intro us w7 hB7
   simp only [junk, Act.put, List.setIfInBounds_toArray, List.set_cons_zero, List.set_cons_succ]
   obtain ⟨hc7, hf7⟩ := jH hB7; have hz7 := hB7.size; try simp only [World.size_alloc, World.size_drew] at hc7 hf7 hz7
   go_wp2
   refine bodyPost_ret (v := .tuple #[.agg #[.int .i64 1, .int .i64 (bitI (jW x y)), .string ⟨#[]⟩], .int .i64 0]) (by simp [results, Tryz.results152, go_sem, ↓IntWalk.iteOmega, hc2, hc5, hc7]) rfl ?_
   refine ⟨?_, (by repeat (first | exact Below.refl _ _ | assumption | refine Below.alloc1 ?_ _ | refine Below.drew ?_ | refine qk ?_ | refine Below.setCell ?_ (by first | exact Nat.le_refl _ | (simp; done) | omega | (simp; omega)) _ | refine Below.lift ?_ (by assumption)))⟩
   rw [hr.out, if_neg (by have := ht.out; clear ht; go_light; simp_all)]; rfl
theorem call_less (x y : Val) (A : Option Addr) (c : Nat) (w : World) (h : SlAt rVal 3 w A [x, y]) (hm : mayS 7 [x, y] = true) :
 Calls Tryz.prog 152 #[.int .i64 7, .slice A 2 c] w (jO 7 [x, y] w) := by
 have H := hide h
 have hr : Hid (zD 7 [x, y] = if (lessS x y).2 ≠ 0 then (noVal, (lessS x y).2) else (truthS (lessS x y).1, 0)) := by show _ = _; simp [zD, hm]
 obtain ⟨b, o, rfl, hb, ⟨c0, c1, c2⟩, ⟨d0, d1, d2⟩, hx, hy⟩ := h.pair
 clear h
 go_enter Tryz.func152, Tryz.ntmps152
 go_wp2_with (go_at_call 170; refine (qat 7 [x, y] _ _ _ (by simp [reachBytes]) (H.out.keep qV (by repeat (first | exact Below.refl _ _ | assumption | refine Below.alloc1 ?_ _ | refine Below.drew ?_ | refine qk ?_ | refine Below.setCell ?_ (by first | exact Nat.le_refl _ | (simp; done) | omega | (simp; omega)) _ | refine Below.lift ?_ (by assumption))))).mono ?_; rintro e w2 ⟨rfl, hB2⟩; obtain ⟨hc2, hf2⟩ := jH hB2; have hz2 := hB2.size; try simp only [World.size_alloc, World.size_drew] at hc2 hf2 hz2)
 refine wp_spec_draw (by kernel_rfl) (by kernel_rfl) (by kernel_rfl) ?_
 repeat (refine qF ?_; intro K hK; go_big_quiet_op; go_big_quiet_on)
 refine qF ?_; intro K hK; go_big_quiet_op
 refine ⟨_, fun _ => qae (less_any _ _ _ _ _ _ _ hx.s hy.s), ?_⟩
 go_big_quiet_on
 repeat (refine qF ?_; intro K hK; go_big_quiet_op; go_big_quiet_on)
 refine zr ?_
 intro us w9 hB9
 simp only [junk, Act.put, List.setIfInBounds_toArray, List.set_cons_zero, List.set_cons_succ]
 obtain ⟨hc9, hf9⟩ := jH hB9; have hz9 := hB9.size; try simp only [World.size_alloc, World.size_drew] at hc9 hf9 hz9
 go_wp2_with (go_at_call 171; refine (truth_any _ _).mono ?_; rintro e w3 ⟨rfl, hB3⟩; obtain ⟨hc3, hf3⟩ := jH hB3; have hz3 := hB3.size; try simp only [World.size_alloc, World.size_drew] at hc3 hf3 hz3)
 · refine bodyPost_ret (v := .tuple #[.agg #[.int .i64 0, .int .i64 0, .string ⟨#[]⟩], .int .i64 (lessS x y).2]) (by simp [results, Tryz.results152, go_sem, ↓IntWalk.iteOmega, hc2, hc9]) rfl ?_
   refine ⟨?_, (by repeat (first | exact Below.refl _ _ | assumption | refine Below.alloc1 ?_ _ | refine Below.drew ?_ | refine qk ?_ | refine Below.setCell ?_ (by first | exact Nat.le_refl _ | (simp; done) | omega | (simp; omega)) _ | refine Below.lift ?_ (by assumption)))⟩
   rw [hr.out, if_pos (by go_light; simp_all)]; rfl
 · refine bodyPost_ret (v := .tuple #[.agg #[.int .i64 1, .int .i64 (bitI (lessS x y).1), .string ⟨#[]⟩], .int .i64 0]) (by simp [results, Tryz.results152, go_sem, ↓IntWalk.iteOmega, hc2, hc9, hc3]) rfl ?_
   refine ⟨?_, (by repeat (first | exact Below.refl _ _ | assumption | refine Below.alloc1 ?_ _ | refine Below.drew ?_ | refine qk ?_ | refine Below.setCell ?_ (by first | exact Nat.le_refl _ | (simp; done) | omega | (simp; omega)) _ | refine Below.lift ?_ (by assumption)))⟩
   rw [hr.out, if_neg (by go_light; simp_all)]; rfl
theorem call_add (x y : Val) (A : Option Addr) (c : Nat) (w : World) (h : SlAt rVal 3 w A [x, y]) (hm : mayS 8 [x, y] = true) :
 Calls Tryz.prog 152 #[.int .i64 8, .slice A 2 c] w (jO 8 [x, y] w) := by
 have H := hide h
 have hr : Hid (zD 8 [x, y] = qS addS x y) := by show _ = _; simp [zD, hm]
 clear h
 go_enter Tryz.func152, Tryz.ntmps152
 go_wp2_with (first | (go_at_call 170; refine (qat 8 [x, y] _ _ _ (by simp [reachBytes]) (H.out.keep qV (by repeat (first | exact Below.refl _ _ | assumption | refine Below.alloc1 ?_ _ | refine Below.drew ?_ | refine qk ?_ | refine Below.setCell ?_ (by first | exact Nat.le_refl _ | (simp; done) | omega | (simp; omega)) _ | refine Below.lift ?_ (by assumption))))).mono ?_; rintro e w2 ⟨rfl, hB2⟩; obtain ⟨hc2, hf2⟩ := jH hB2; have hz2 := hB2.size; try simp only [World.size_alloc, World.size_drew] at hc2 hf2 hz2) | (go_at_call 172; refine (number_any 173 (wA Tryz.func173 (by kernel_rfl) (by kernel_rfl)) addS add_any x y _ _ _ (H.out.keep qV (by repeat (first | exact Below.refl _ _ | assumption | refine Below.alloc1 ?_ _ | refine Below.drew ?_ | refine qk ?_ | refine Below.setCell ?_ (by first | exact Nat.le_refl _ | (simp; done) | omega | (simp; omega)) _ | refine Below.lift ?_ (by assumption))))).mono ?_; rintro e w3 ⟨rfl, hB3⟩; obtain ⟨hc3, hf3⟩ := jH hB3; have hz3 := hB3.size; try simp only [World.size_alloc, World.size_drew] at hc3 hf3 hz3))
 refine bodyPost_ret (v := .tuple #[.agg #[.int .i64 ((qS addS x y).1).kind, .int .i64 ((qS addS x y).1).n, .string ((qS addS x y).1).s], .int .i64 (qS addS x y).2]) (by simp [results, Tryz.results152, go_sem, ↓IntWalk.iteOmega, hc2, hc3]) rfl ?_
 exact ⟨by rw [hr.out], (by repeat (first | exact Below.refl _ _ | assumption | refine Below.alloc1 ?_ _ | refine Below.drew ?_ | refine qk ?_ | refine Below.setCell ?_ (by first | exact Nat.le_refl _ | (simp; done) | omega | (simp; omega)) _ | refine Below.lift ?_ (by assumption)))⟩
theorem call_sub (x y : Val) (A : Option Addr) (c : Nat) (w : World) (h : SlAt rVal 3 w A [x, y]) (hm : mayS 9 [x, y] = true) :
 Calls Tryz.prog 152 #[.int .i64 9, .slice A 2 c] w (jO 9 [x, y] w) := by
 have H := hide h
 have hr : Hid (zD 9 [x, y] = qS subS x y) := by show _ = _; simp [zD, hm]
 clear h
 go_enter Tryz.func152, Tryz.ntmps152
 go_wp2_with (first | (go_at_call 170; refine (qat 9 [x, y] _ _ _ (by simp [reachBytes]) (H.out.keep qV (by repeat (first | exact Below.refl _ _ | assumption | refine Below.alloc1 ?_ _ | refine Below.drew ?_ | refine qk ?_ | refine Below.setCell ?_ (by first | exact Nat.le_refl _ | (simp; done) | omega | (simp; omega)) _ | refine Below.lift ?_ (by assumption))))).mono ?_; rintro e w2 ⟨rfl, hB2⟩; obtain ⟨hc2, hf2⟩ := jH hB2; have hz2 := hB2.size; try simp only [World.size_alloc, World.size_drew] at hc2 hf2 hz2) | (go_at_call 172; refine (number_any 174 (wA Tryz.func174 (by kernel_rfl) (by kernel_rfl)) subS sub_any x y _ _ _ (H.out.keep qV (by repeat (first | exact Below.refl _ _ | assumption | refine Below.alloc1 ?_ _ | refine Below.drew ?_ | refine qk ?_ | refine Below.setCell ?_ (by first | exact Nat.le_refl _ | (simp; done) | omega | (simp; omega)) _ | refine Below.lift ?_ (by assumption))))).mono ?_; rintro e w3 ⟨rfl, hB3⟩; obtain ⟨hc3, hf3⟩ := jH hB3; have hz3 := hB3.size; try simp only [World.size_alloc, World.size_drew] at hc3 hf3 hz3))
 refine bodyPost_ret (v := .tuple #[.agg #[.int .i64 ((qS subS x y).1).kind, .int .i64 ((qS subS x y).1).n, .string ((qS subS x y).1).s], .int .i64 (qS subS x y).2]) (by simp [results, Tryz.results152, go_sem, ↓IntWalk.iteOmega, hc2, hc3]) rfl ?_
 exact ⟨by rw [hr.out], (by repeat (first | exact Below.refl _ _ | assumption | refine Below.alloc1 ?_ _ | refine Below.drew ?_ | refine qk ?_ | refine Below.setCell ?_ (by first | exact Nat.le_refl _ | (simp; done) | omega | (simp; omega)) _ | refine Below.lift ?_ (by assumption)))⟩
theorem call_mul (x y : Val) (A : Option Addr) (c : Nat) (w : World) (h : SlAt rVal 3 w A [x, y]) (hm : mayS 10 [x, y] = true) :
 Calls Tryz.prog 152 #[.int .i64 10, .slice A 2 c] w (jO 10 [x, y] w) := by
 have H := hide h
 have hr : Hid (zD 10 [x, y] = qS mulS x y) := by show _ = _; simp [zD, hm]
 clear h
 go_enter Tryz.func152, Tryz.ntmps152
 go_wp2_with (first | (go_at_call 170; refine (qat 10 [x, y] _ _ _ (by simp [reachBytes]) (H.out.keep qV (by repeat (first | exact Below.refl _ _ | assumption | refine Below.alloc1 ?_ _ | refine Below.drew ?_ | refine qk ?_ | refine Below.setCell ?_ (by first | exact Nat.le_refl _ | (simp; done) | omega | (simp; omega)) _ | refine Below.lift ?_ (by assumption))))).mono ?_; rintro e w2 ⟨rfl, hB2⟩; obtain ⟨hc2, hf2⟩ := jH hB2; have hz2 := hB2.size; try simp only [World.size_alloc, World.size_drew] at hc2 hf2 hz2) | (go_at_call 172; refine (number_any 175 (wA Tryz.func175 (by kernel_rfl) (by kernel_rfl)) mulS mul_any x y _ _ _ (H.out.keep qV (by repeat (first | exact Below.refl _ _ | assumption | refine Below.alloc1 ?_ _ | refine Below.drew ?_ | refine qk ?_ | refine Below.setCell ?_ (by first | exact Nat.le_refl _ | (simp; done) | omega | (simp; omega)) _ | refine Below.lift ?_ (by assumption))))).mono ?_; rintro e w3 ⟨rfl, hB3⟩; obtain ⟨hc3, hf3⟩ := jH hB3; have hz3 := hB3.size; try simp only [World.size_alloc, World.size_drew] at hc3 hf3 hz3))
 refine bodyPost_ret (v := .tuple #[.agg #[.int .i64 ((qS mulS x y).1).kind, .int .i64 ((qS mulS x y).1).n, .string ((qS mulS x y).1).s], .int .i64 (qS mulS x y).2]) (by simp [results, Tryz.results152, go_sem, ↓IntWalk.iteOmega, hc2, hc3]) rfl ?_
 exact ⟨by rw [hr.out], (by repeat (first | exact Below.refl _ _ | assumption | refine Below.alloc1 ?_ _ | refine Below.drew ?_ | refine qk ?_ | refine Below.setCell ?_ (by first | exact Nat.le_refl _ | (simp; done) | omega | (simp; omega)) _ | refine Below.lift ?_ (by assumption)))⟩
end Go.Proofs.YtkkbdgijfkocnaaGreatDoor
namespace Go.Proofs.YtkkbdgijfkocnaaGreatDoor
open Go.RowKit
set_option linter.unusedSimpArgs false
set_option linter.unusedVariables false
attribute [local go_sem] wM js
attribute [local go_sem low] jp zo
attribute [local go_sem ↓] eql_val
theorem call_not (x : Val) (A : Option Addr) (c : Nat) (w : World) (h : SlAt rVal 3 w A [x]) (hm : mayS 11 [x] = true) :
 Calls Tryz.prog 152 #[.int .i64 11, .slice A 1 c] w (jO 11 [x] w) := by
 have H := hide h
 have hr : Hid (zD 11 [x] = if allS 1 [x] then (truthS (x.n == 0), 0) else (noVal, 2)) := by show _ = _; simp [zD, hm]; cases allS 1 _ <;> rfl
 obtain ⟨b, o, rfl, hb, ⟨c0, c1, c2⟩, hx⟩ := h.lone
 clear h
 go_enter Tryz.func152, Tryz.ntmps152
 go_wp2_with (first | (go_at_call 170; refine (qat 11 [x] _ _ _ (by simp [reachBytes]) (H.out.keep qV (by repeat (first | exact Below.refl _ _ | assumption | refine Below.alloc1 ?_ _ | refine Below.drew ?_ | refine qk ?_ | refine Below.setCell ?_ (by first | exact Nat.le_refl _ | (simp; done) | omega | (simp; omega)) _ | refine Below.lift ?_ (by assumption))))).mono ?_; rintro e w2 ⟨rfl, hB2⟩; obtain ⟨hc2, hf2⟩ := jH hB2; have hz2 := hB2.size; try simp only [World.size_alloc, World.size_drew] at hc2 hf2 hz2) | (go_at_call 176; refine (all_any 1 [x] _ _ _ (by simp [reachBytes]) (H.out.keep qV (by repeat (first | exact Below.refl _ _ | assumption | refine Below.alloc1 ?_ _ | refine Below.drew ?_ | refine qk ?_ | refine Below.setCell ?_ (by first | exact Nat.le_refl _ | (simp; done) | omega | (simp; omega)) _ | refine Below.lift ?_ (by assumption))))).mono ?_; rintro e w4 ⟨rfl, hB4⟩; obtain ⟨hc4, hf4⟩ := jH hB4; have hz4 := hB4.size; try simp only [World.size_alloc, World.size_drew] at hc4 hf4 hz4) | (go_at_call 171; refine (truth_any _ _).mono ?_; rintro e w3 ⟨rfl, hB3⟩; obtain ⟨hc3, hf3⟩ := jH hB3; have hz3 := hB3.size; try simp only [World.size_alloc, World.size_drew] at hc3 hf3 hz3))
 · refine bodyPost_ret (v := .tuple #[.agg #[.int .i64 0, .int .i64 0, .string ⟨#[]⟩], .int .i64 2]) (by simp [results, Tryz.results152, go_sem, ↓IntWalk.iteOmega, hc2, hc4]) rfl ?_
   refine ⟨?_, (by repeat (first | exact Below.refl _ _ | assumption | refine Below.alloc1 ?_ _ | refine Below.drew ?_ | refine qk ?_ | refine Below.setCell ?_ (by first | exact Nat.le_refl _ | (simp; done) | omega | (simp; omega)) _ | refine Below.lift ?_ (by assumption)))⟩
   rw [hr.out, if_neg (by go_light; simp_all)]; rfl
 · refine bodyPost_ret (v := .tuple #[.agg #[.int .i64 1, .int .i64 (bitI (x.n == 0)), .string ⟨#[]⟩], .int .i64 0]) (by simp [results, Tryz.results152, go_sem, ↓IntWalk.iteOmega, hc2, hc4, hc3]) rfl ?_
   refine ⟨?_, (by repeat (first | exact Below.refl _ _ | assumption | refine Below.alloc1 ?_ _ | refine Below.drew ?_ | refine qk ?_ | refine Below.setCell ?_ (by first | exact Nat.le_refl _ | (simp; done) | omega | (simp; omega)) _ | refine Below.lift ?_ (by assumption)))⟩
   rw [hr.out, if_pos (by go_light; simp_all)]; rfl
theorem call_and (x y : Val) (A : Option Addr) (c : Nat) (w : World) (h : SlAt rVal 3 w A [x, y]) (hm : mayS 12 [x, y] = true) :
 Calls Tryz.prog 152 #[.int .i64 12, .slice A 2 c] w (jO 12 [x, y] w) := by
 have H := hide h
 have hr : Hid (zD 12 [x, y] = if allS 1 [x, y] then (truthS (x.n == 1 && y.n == 1), 0) else (noVal, 2)) := by show _ = _; simp [zD, hm]; cases allS 1 _ <;> rfl
 obtain ⟨b, o, rfl, hb, ⟨c0, c1, c2⟩, ⟨d0, d1, d2⟩, hx, hy⟩ := h.pair
 clear h
 go_enter Tryz.func152, Tryz.ntmps152
 go_upto_region 25 with (first | (go_at_call 170; refine (qat 12 [x, y] _ _ _ (by simp [reachBytes]) (H.out.keep qV (by repeat (first | exact Below.refl _ _ | assumption | refine Below.alloc1 ?_ _ | refine Below.drew ?_ | refine qk ?_ | refine Below.setCell ?_ (by first | exact Nat.le_refl _ | (simp; done) | omega | (simp; omega)) _ | refine Below.lift ?_ (by assumption))))).mono ?_; rintro e w2 ⟨rfl, hB2⟩; obtain ⟨hc2, hf2⟩ := jH hB2; have hz2 := hB2.size; try simp only [World.size_alloc, World.size_drew] at hc2 hf2 hz2) | (go_at_call 176; refine (all_any 1 [x, y] _ _ _ (by simp [reachBytes]) (H.out.keep qV (by repeat (first | exact Below.refl _ _ | assumption | refine Below.alloc1 ?_ _ | refine Below.drew ?_ | refine qk ?_ | refine Below.setCell ?_ (by first | exact Nat.le_refl _ | (simp; done) | omega | (simp; omega)) _ | refine Below.lift ?_ (by assumption))))).mono ?_; rintro e w4 ⟨rfl, hB4⟩; obtain ⟨hc4, hf4⟩ := jH hB4; have hz4 := hB4.size; try simp only [World.size_alloc, World.size_drew] at hc4 hf4 hz4))
 · refine bodyPost_ret (v := .tuple #[.agg #[.int .i64 0, .int .i64 0, .string ⟨#[]⟩], .int .i64 2]) (by simp [results, Tryz.results152, go_sem, ↓IntWalk.iteOmega, hc2, hc4]) rfl ?_
   refine ⟨?_, (by repeat (first | exact Below.refl _ _ | assumption | refine Below.alloc1 ?_ _ | refine Below.drew ?_ | refine qk ?_ | refine Below.setCell ?_ (by first | exact Nat.le_refl _ | (simp; done) | omega | (simp; omega)) _ | refine Below.lift ?_ (by assumption)))⟩
   rw [hr.out, if_neg (by go_light; simp_all)]; rfl
 · skip
   refine wp_spec_tail 13 (by kernel_rfl) ?_
   simp only [List.take_succ_cons, List.take_zero, List.drop_succ_cons, List.drop_zero]
   repeat (refine qF ?_; intro K hK; go_big_quiet_op; go_big_quiet_on)
   refine qF ?_; intro K hK; go_big_quiet_op
   refine ⟨_, fun _ => qae (truth_any _ _), ?_⟩
   go_big_quiet_on
   repeat (refine qF ?_; intro K hK; go_big_quiet_op; go_big_quiet_on)
   refine zr ?_
   intro us w25 hB25
   simp only [junk, Act.put, List.setIfInBounds_toArray, List.set_cons_zero, List.set_cons_succ]
   obtain ⟨hc25, hf25⟩ := jH hB25; have hz25 := hB25.size; try simp only [World.size_alloc, World.size_drew] at hc25 hf25 hz25
   go_wp2
   refine bodyPost_ret (v := .tuple #[.agg #[.int .i64 1, .int .i64 (bitI (x.n == 1 && y.n == 1)), .string ⟨#[]⟩], .int .i64 0]) (by simp [results, Tryz.results152, go_sem, ↓IntWalk.iteOmega, hc2, hc4, hc25]) rfl ?_
   refine ⟨?_, (by repeat (first | exact Below.refl _ _ | assumption | refine Below.alloc1 ?_ _ | refine Below.drew ?_ | refine qk ?_ | refine Below.setCell ?_ (by first | exact Nat.le_refl _ | (simp; done) | omega | (simp; omega)) _ | refine Below.lift ?_ (by assumption)))⟩
   rw [hr.out, if_pos (by go_light; simp_all)]; rfl
theorem call_or (x y : Val) (A : Option Addr) (c : Nat) (w : World) (h : SlAt rVal 3 w A [x, y]) (hm : mayS 13 [x, y] = true) :
 Calls Tryz.prog 152 #[.int .i64 13, .slice A 2 c] w (jO 13 [x, y] w) := by
 have H := hide h
 have hr : Hid (zD 13 [x, y] = if allS 1 [x, y] then (truthS (x.n == 1 || y.n == 1), 0) else (noVal, 2)) := by show _ = _; simp [zD, hm]; cases allS 1 _ <;> rfl
 obtain ⟨b, o, rfl, hb, ⟨c0, c1, c2⟩, ⟨d0, d1, d2⟩, hx, hy⟩ := h.pair
 clear h
 go_enter Tryz.func152, Tryz.ntmps152
 go_upto_region 26 with (first | (go_at_call 170; refine (qat 13 [x, y] _ _ _ (by simp [reachBytes]) (H.out.keep qV (by repeat (first | exact Below.refl _ _ | assumption | refine Below.alloc1 ?_ _ | refine Below.drew ?_ | refine qk ?_ | refine Below.setCell ?_ (by first | exact Nat.le_refl _ | (simp; done) | omega | (simp; omega)) _ | refine Below.lift ?_ (by assumption))))).mono ?_; rintro e w2 ⟨rfl, hB2⟩; obtain ⟨hc2, hf2⟩ := jH hB2; have hz2 := hB2.size; try simp only [World.size_alloc, World.size_drew] at hc2 hf2 hz2) | (go_at_call 176; refine (all_any 1 [x, y] _ _ _ (by simp [reachBytes]) (H.out.keep qV (by repeat (first | exact Below.refl _ _ | assumption | refine Below.alloc1 ?_ _ | refine Below.drew ?_ | refine qk ?_ | refine Below.setCell ?_ (by first | exact Nat.le_refl _ | (simp; done) | omega | (simp; omega)) _ | refine Below.lift ?_ (by assumption))))).mono ?_; rintro e w4 ⟨rfl, hB4⟩; obtain ⟨hc4, hf4⟩ := jH hB4; have hz4 := hB4.size; try simp only [World.size_alloc, World.size_drew] at hc4 hf4 hz4))
 · refine bodyPost_ret (v := .tuple #[.agg #[.int .i64 0, .int .i64 0, .string ⟨#[]⟩], .int .i64 2]) (by simp [results, Tryz.results152, go_sem, ↓IntWalk.iteOmega, hc2, hc4]) rfl ?_
   refine ⟨?_, (by repeat (first | exact Below.refl _ _ | assumption | refine Below.alloc1 ?_ _ | refine Below.drew ?_ | refine qk ?_ | refine Below.setCell ?_ (by first | exact Nat.le_refl _ | (simp; done) | omega | (simp; omega)) _ | refine Below.lift ?_ (by assumption)))⟩
   rw [hr.out, if_neg (by go_light; simp_all)]; rfl
 · skip
   refine wp_spec_tail 13 (by kernel_rfl) ?_
   simp only [List.take_succ_cons, List.take_zero, List.drop_succ_cons, List.drop_zero]
   repeat (refine qF ?_; intro K hK; go_big_quiet_op; go_big_quiet_on)
   refine qF ?_; intro K hK; go_big_quiet_op
   refine ⟨_, fun _ => qae (truth_any _ _), ?_⟩
   go_big_quiet_on
   repeat (refine qF ?_; intro K hK; go_big_quiet_op; go_big_quiet_on)
   refine zr ?_
   intro us w26 hB26
   simp only [junk, Act.put, List.setIfInBounds_toArray, List.set_cons_zero, List.set_cons_succ]
   obtain ⟨hc26, hf26⟩ := jH hB26; have hz26 := hB26.size; try simp only [World.size_alloc, World.size_drew] at hc26 hf26 hz26
   go_wp2
   refine bodyPost_ret (v := .tuple #[.agg #[.int .i64 1, .int .i64 (bitI (x.n == 1 || y.n == 1)), .string ⟨#[]⟩], .int .i64 0]) (by simp [results, Tryz.results152, go_sem, ↓IntWalk.iteOmega, hc2, hc4, hc26]) rfl ?_
   refine ⟨?_, (by repeat (first | exact Below.refl _ _ | assumption | refine Below.alloc1 ?_ _ | refine Below.drew ?_ | refine qk ?_ | refine Below.setCell ?_ (by first | exact Nat.le_refl _ | (simp; done) | omega | (simp; omega)) _ | refine Below.lift ?_ (by assumption)))⟩
   rw [hr.out, if_pos (by go_light; simp_all)]; rfl
theorem call_any (op : Int) (l : List Val) (A : Option Addr) (c : Nat) (w : World) (hn : l.length ≤ reachBytes) (h : SlAt rVal 3 w A l) :
 Calls Tryz.prog 152 #[.int .i64 op, .slice A l.length c] w (jO op l w) := by
 cases hm : mayS op l with
 | false => exact call_no op l A c w hn h hm
 | true =>
   have hm' := hm
   simp only [mayS, Bool.and_eq_true, decide_eq_true_eq] at hm'
   obtain ⟨⟨⟨h1, h2⟩, h3⟩, _⟩ := hm'
   rcases (show op = 6 ∨ op = 7 ∨ op = 8 ∨ op = 9 ∨ op = 10 ∨ op = 11 ∨ op = 12 ∨ op = 13 by omega) with rfl | rfl | rfl | rfl | rfl | rfl | rfl | rfl
   all_goals
    simp only [Int.reduceEq, if_true, if_false] at h3
    match l, h3 with
    | [x], h3 => first | exact call_not x A c w h hm | (simp at h3)
    | [x, y], h3 => first | exact call_eq x y A c w h hm | exact call_less x y A c w h hm | exact call_add x y A c w h hm | exact call_sub x y A c w h hm | exact call_mul x y A c w h hm | exact call_and x y A c w h hm | exact call_or x y A c w h hm | (simp at h3)
    | [], h3 => simp at h3
    | _ :: _ :: _ :: _, h3 => simp at h3; omega
end Go.Proofs.YtkkbdgijfkocnaaGreatDoor
namespace Go.Proofs.YtkkbdgijfkocnaaGreatDoor
set_option linter.unusedVariables false
set_option linter.unusedSimpArgs false
open Go.RowKit
structure Itm.Fit (x : Itm) : Prop where
 bag : ∀ v ∈ x.bag, v.Fit
 v : x.v.Fit
 len : x.bag.length ≤ 1000000
theorem jS : noVal.Fit := ⟨⟨by decide, by decide⟩, ⟨by decide, by decide⟩, by decide⟩
theorem truthS_fit (b : Bool) : (truthS b).Fit := by cases b <;> exact ⟨⟨by decide, by decide⟩, ⟨by decide, by decide⟩, by decide⟩
theorem num_fit {n : Int} (h : R64 n) : (⟨2, n, ⟨#[]⟩⟩ : Val).Fit := ⟨⟨by show _ ≤ (2 : Int); omega, by show (2 : Int) ≤ _; omega⟩, h, by show (⟨#[]⟩ : ByteArray).size ≤ reachBytes; decide⟩
theorem inI_r64 {n : Int} (h : inI n = true) : R64 n := by
 simp only [inI, Bool.and_eq_true, decide_eq_true_eq] at h
 exact ⟨by omega, by omega⟩
theorem number_fit {f : Int → Int → Int × Int} (hf : ∀ a b, (f a b).2 = 0 → R64 (f a b).1) (x y : Val) : (qS f x y).1.Fit := by
 unfold qS
 split
 · exact jS
 · split
   · exact jS
   · rename_i h
     exact num_fit (hf _ _ (Classical.byContradiction h))
theorem add_fit (a b : Int) : (addS a b).2 = 0 → R64 (addS a b).1 := by
 unfold addS
 split
 · rename_i h; exact fun _ => inI_r64 h
 · intro h; cases h
theorem sub_fit (a b : Int) : (subS a b).2 = 0 → R64 (subS a b).1 := by
 unfold subS
 split
 · rename_i h; exact fun _ => inI_r64 h
 · intro h; cases h
theorem mul_fit (a b : Int) : (mulS a b).2 = 0 → R64 (mulS a b).1 := by
 unfold mulS
 split
 · rename_i h; exact fun _ => inI_r64 h
 · intro h; cases h
theorem callS_fit (op : Int) (l : List Val) : (zD op l).1.Fit := by
 unfold zD
 split
 · exact jS
 · simp only
   repeat' split
   all_goals first | exact jS | exact truthS_fit _ | exact number_fit add_fit _ _ | exact number_fit sub_fit _ _ | exact number_fit mul_fit _ _
theorem bagS_mem {cat : Int} {name : ByteArray} {g : List Giv} {Q : List Val → Prop} (h0 : Q []) (h : ∀ x ∈ g, Q x.bag) : Q (bagS cat name g) := by
 rcases place_cases cat name g with ⟨_, hb, _⟩ | ⟨k, hk, _, hb, _⟩
 · rw [hb]; exact h0
 · rw [hb]; exact h _ (List.getElem_mem hk)
theorem getS_mem {a : Atr} {g : List Giv} {Q : List Val → Prop} (h0 : Q []) (h : ∀ x ∈ g, Q x.bag) : Q (getS a g).1 := by
 unfold getS
 split
 · exact h0
 · exact bagS_mem h0 h
theorem nodeS_fit {n : Nod} (hn : n.Fit) {l : List Itm} (hl : ∀ x ∈ l, x.Fit) {g : List Giv} (hg : ∀ x ∈ g, x.Fit) (hb : ∀ x ∈ g, x.bag.length ≤ 1000000) : (wU n l g).Fit := by
 have e0 : ∀ v ∈ ([] : List Val), v.Fit := fun v hv => by simp at hv
 have d0 : (l.getD 0 noItm).Fit := by
  cases l with
  | nil => exact ⟨e0, jS, Nat.zero_le _⟩
  | cons x r => exact hl x (by simp)
 have sz : ∀ {v : Val}, v.Fit → (Itm.mk [] v 0).Fit := fun h => ⟨e0, h, Nat.zero_le _⟩
 have sz' : ∀ {v : Val} (e : Int), v.Fit → (Itm.mk [] v e).Fit := fun _ h => ⟨e0, h, Nat.zero_le _⟩
 unfold wU
 split
 · exact sz hn.val
 · split
   · exact ⟨getS_mem (Q := fun b => ∀ v ∈ b, v.Fit) e0 fun x hx => (hg x hx).bag, jS, getS_mem (Q := fun b => b.length ≤ 1000000) (Nat.zero_le _) hb⟩
   · split
     · exact sz (truthS_fit _)
     · split
       · exact sz' _ jS
       · unfold lastS
         repeat' split
         · refine sz ?_
           rename_i h1
           match hb : (l.getD 0 noItm).bag, h1 with
           | [v], _ => exact d0.bag v (by rw [hb]; simp)
         · exact sz' _ jS
         · have := d0.len
           exact sz (num_fit ⟨by omega, by omega⟩)
         · exact sz (truthS_fit _)
         · exact sz' _ (callS_fit _ _)
theorem rel_val {ok : Nat → Prop} {w : World} (x : Val) : RelP ok w (.agg x.pv) x.v := by
 refine .agg rfl fun i s u hs hu => ?_
 match i, hs, hu with
 | 0, hs, hu => cases hs; cases hu; exact .v rfl
 | 1, hs, hu => cases hs; cases hu; exact .v rfl
 | 2, hs, hu => cases hs; cases hu; exact .v rfl
theorem rel_two {ok : Nat → Prop} {H : Nat → Option Value} {w : World} {p q : PV} {u v : Value} (h : RelP ok w p u) (k : RelP ok w q v) : RelS ok H w (.tup [.p p, .p q]) (.tuple #[u, v]) := by
 refine .tup rfl fun i s x hs hx => ?_
 match i, hs, hx with
 | 0, hs, hx => cases hs; cases hx; exact .p h
 | 1, hs, hx => cases hs; cases hx; exact .p k
theorem call_h (op : Int) (l : List Val) (hf : ∀ x ∈ l, x.Fit) : Holds Tryz.prog 152 [pI op, valsP l] (.tup [.p (.agg (zD op l).1.pv), .p (pI (zD op l).2)]) [] :=
 .of_calls Tryz.func152 (by kernel_rfl) rfl (fun w vs hl hr => by
  obtain ⟨u, v, rfl⟩ : ∃ u v, vs = [u, v] := by
   match vs, hl with
   | [u, v], _ => exact ⟨u, v, rfl⟩
  have h := jd (hr 0 _ u rfl rfl) rfl
  subst h
  obtain ⟨A, c, rfl, h1, h2, h3⟩ := vals_typed (hr 1 _ v rfl rfl) hf
  exact call_any op l A c w h2.1 h3) rfl fun w => rel_two (rel_val _) (.v rfl)
set_option maxHeartbeats 4000000
theorem against_h (m : Mat) (v : Val) (hm : m.val.s.size ≤ reachBytes) (hv : v.s.size ≤ reachBytes) : Holds Tryz.prog 85 [.agg m.pv, .agg v.pv] (.tup [.p (pB (againstT m v).1), .p (pI (againstT m v).2)]) [] := by
 obtain ⟨a, op, val⟩ := m
 unfold againstT
 simp only at hm ⊢
 by_cases h1 : op = 1
 · subst h1
   rw [if_pos rfl]
   refine qo (ts := [4,5]) Tryz.func85 (by kernel_rfl) rfl rfl rfl ?_
   refine uA ?_
   refine uB ?_
   (repeat refine qH ?_); refine ql (by kernel_rfl) ?_
   repeat (refine qi qa rfl (by exact True.intro) rfl ?_)
   refine qP ?_
   refine uC (fun hk => ?_) (fun hk => ?_)
   · have hk' : v.kind ≠ val.kind := by simpa using hk
     rw [if_pos hk']
     refine uA ?_
     refine uQ ?_
     exact uF []
   · have hk' : ¬ v.kind ≠ val.kind := by simpa using hk
     rw [if_neg hk']
     refine uA ?_
     refine uC (fun h3 => ?_) (fun h3 => ?_)
     · refine uR ?_
       refine qe qa rfl (opR_eqV v val rfl rfl rfl rfl) rfl rfl ?_
       refine uS ?_
       refine qb ?_
       refine uQ ?_
       exact uF []
     · cases h3
 · have hn1 : (op == 1) = false := by simpa using h1
   rw [if_neg h1]
   refine qo (ts := [4,5]) Tryz.func85 (by kernel_rfl) rfl rfl rfl ?_
   refine uA ?_
   refine uB ?_
   (repeat refine qH ?_); refine ql (by kernel_rfl) ?_
   repeat (refine qi qa rfl (by exact True.intro) rfl ?_)
   rw [hn1]
   repeat (refine qi qa rfl (by exact True.intro) rfl ?_)
   refine qP ?_
   refine uC (fun hk => ?_) (fun hk => ?_)
   · cases hk
   refine uA ?_
   rw [hn1]
   refine uC (fun h3 => ?_) (fun h3 => ?_)
   · cases h3
   by_cases h2 : op = 2
   · rw [if_pos h2]
     refine uA ?_
     refine uC (fun h4 => ?_) (fun h4 => ?_)
     · refine uR ?_
       refine uK (less_h v val hv hm) ?_
       refine qb ?_
       refine uQ ?_
       exact uF []
     · simp [h2] at h4
   · rw [if_neg h2]
     refine uA ?_
     refine uC (fun h4 => ?_) (fun h4 => ?_)
     · simp [h2] at h4
     refine qd ?_
     refine uR ?_
     refine uK (less_h val v hm hv) ?_
     refine qb ?_
     refine uQ ?_
     exact uF []
theorem any_take {α : Type} {p : α → Bool} {l : List α} {k : Nat} (h : k < l.length) : (l.take (k + 1)).any p = ((l.take k).any p || p l[k]) := by
 rw [List.take_succ_eq_append_getElem h, List.any_append]
 simp
theorem match2_h (m : Mat) (l : List Giv) (hm : m.Fit) (hf : ∀ x ∈ l, x.Fit) (hn : l.length ≤ 1000000) (hb : ∀ x ∈ l, x.bag.length ≤ 1000000) : Holds Tryz.prog 50 [.agg m.pv, zm l] (.p (pI (jG m l))) [] := by
 have H := get_h m.attr l hn hb
 have hbag := getS_mem (a := m.attr) (g := l) (Q := fun b => b.length ≤ 1000000) (Nat.zero_le _) hb
 have hfit := getS_mem (a := m.attr) (g := l) (Q := fun b => ∀ v ∈ b, v.Fit) (fun v hv => by cases hv) fun x hx => (hf x hx).bag
 unfold jG
 generalize getS m.attr l = r at *
 obtain ⟨bag, e⟩ := r
 simp only at H hbag hfit ⊢
 have lb : (bag.map Val.pv).length = bag.length := by simp
 refine qo (ts := [4]) Tryz.func50 (by kernel_rfl) rfl rfl rfl ?_
 refine uA ?_
 refine uR ?_
 refine uO H ?_
 refine qb ?_
 refine uA ?_
 refine uC (fun he => ?_) (fun he => ?_)
 · have he' : e ≠ 0 := by simpa using he
   rw [if_pos he']
   refine uA ?_
   refine uQ ?_
   exact qZ rfl rfl
 have he' : ¬ e ≠ 0 := by simpa using he
 rw [if_neg he']
 refine qd ?_
 refine uA ?_
 refine uA ?_
 refine uB ?_
 refine uZ [2, 7, 21, 22, 23] [(2, 2)] ?_
 refine qw (fun n s => ∃ (k : Nat) (kk o : Int), k ≤ bag.length ∧ n = bag.length - k ∧ kk = k ∧ o = (if (bag.take k).any (badT m) then 1 else 0) ∧ (bag.take k).any (okT m) = false ∧ s = ⟨38, [(2, .ptr 2 0), (7, .p (pI o)), (21, .p (valsP bag)), (22, .p (pI (bag.map Val.pv).length)), (23, .p (pI kk))], [(2, .cells (m.pv.map .p))]⟩) bag.length ⟨0, 0, 0, Nat.zero_le _, rfl, rfl, rfl, rfl, rfl⟩ ?_
 rintro n s ⟨k, _, o, hk, rfl, rfl, ho, ha, rfl⟩
 refine uA ?_
 refine uC (fun hlt => ?_) (fun hlt => ?_)
 · refine qd ?_
   rw [lb] at hlt
   simp only [decide_eq_true_eq] at hlt
   have hlt' : k < bag.length := by omega
   have a1 := any_take (p := okT m) hlt'
   have a2 := any_take (p := badT m) hlt'
   have a3 : okT m bag[k] = true → bag.any (okT m) = true := fun h => List.any_eq_true.2 ⟨_, List.getElem_mem hlt', h⟩
   have H2 := against_h m bag[k] hm.val.s (hfit _ (List.getElem_mem hlt')).s
   refine uB ?_
   refine uR ?_
   refine qe qa rfl rfl (by rw [lb]; omega) rfl ?_
   rw [qm hlt']
   refine uS ?_
   refine qb ?_
   refine uR ?_
   refine uK H2 ?_
   refine qb ?_
   refine uA ?_
   refine uC (fun hp => ?_) (fun hp => ?_)
   · rw [if_pos (a3 hp)]
     refine uA ?_
     refine uQ ?_
     exact qZ rfl rfl
   have hp' : okT m bag[k] = false := hp
   refine qd ?_
   refine uA ?_
   refine uC (fun hq => ?_) (fun hq => ?_)
   · have hq' : badT m bag[k] = true := by unfold badT; simpa using hq
     refine uA ?_
     refine uA ?_
     refine ⟨_, _, ?_, qh [2, 7, 21, 22, 23] [(2, 2)] rfl rfl, k + 1, _, 1, hlt', rfl, qf hlt' (by omega), ?_, ?_, rfl⟩
     · omega
     · rw [a2, hq', Bool.or_true, if_pos rfl]
     · rw [a1, ha, hp']; rfl
   · have hq' : badT m bag[k] = false := by unfold badT; simpa using hq
     refine qd ?_
     refine uA ?_
     refine ⟨_, _, ?_, qh [2, 7, 21, 22, 23] [(2, 2)] rfl rfl, k + 1, _, o, hlt', rfl, qf hlt' (by omega), ?_, ?_, rfl⟩
     · omega
     · rw [a2, hq', Bool.or_false]; exact ho
     · rw [a1, ha, hp']; rfl
 · refine qt ?_
   rw [lb] at hlt
   simp only [decide_eq_false_iff_not] at hlt
   have hkk : k = bag.length := by omega
   subst hkk
   rw [List.take_length] at ho ha
   rw [ha, if_neg (by simp), ← ho]
   refine uA ?_
   refine uQ ?_
   exact qZ rfl rfl
theorem allTT_take {l : List Mat} {g : List Giv} {k : Nat} (h : k < l.length) : min (allTT (l.take k) g) (jG l[k] g) = allTT (l.take (k + 1)) g := by
 unfold allTT
 rw [List.take_succ_eq_append_getElem h, List.foldl_append]; rfl
theorem anyTT_take {l : List (List Mat)} {g : List Giv} {k : Nat} (h : k < l.length) : max (anyTT (l.take k) g) (allTT l[k] g) = anyTT (l.take (k + 1)) g := by
 unfold anyTT
 rw [List.take_succ_eq_append_getElem h, List.foldl_append]; rfl
theorem metT_take {l : Tar} {g : List Giv} {k : Nat} (h : k < l.length) : min (metT (l.take k) g) (anyTT l[k] g) = metT (l.take (k + 1)) g := by
 unfold metT
 rw [List.take_succ_eq_append_getElem h, List.foldl_append]; rfl
theorem allT_h (l : List Mat) (g : List Giv) (hm : ∀ m ∈ l, m.Fit) (hl : l.length ≤ 1000000) (hf : ∀ x ∈ g, x.Fit) (hn : g.length ≤ 1000000) (hb : ∀ x ∈ g, x.bag.length ≤ 1000000) : Holds Tryz.prog 92 [wq l, zm g] (.p (pI (allTT l g))) [] := by
 have lm : (l.map Mat.pv).length = l.length := by simp
 refine qo (ts := [4]) Tryz.func92 (by kernel_rfl) rfl rfl rfl ?_
 refine uA ?_
 refine uA ?_
 refine uA ?_
 refine uB ?_
 refine uZ [1, 5, 8, 9, 10] [] ?_
 refine qw (fun n s => ∃ (k : Nat) (kk o : Int), k ≤ l.length ∧ n = l.length - k ∧ kk = k ∧ o = allTT (l.take k) g ∧ s = ⟨21, [(1, .p (zm g)), (5, .p (pI o)), (8, .p (wq l)), (9, .p (pI (l.map Mat.pv).length)), (10, .p (pI kk))], []⟩) l.length ⟨0, 0, 2, Nat.zero_le _, rfl, rfl, rfl, rfl⟩ ?_
 rintro n s ⟨k, _, o, hk, rfl, rfl, ho, rfl⟩
 refine uA ?_
 refine uC (fun hlt => ?_) (fun hlt => ?_)
 · refine qd ?_
   rw [lm] at hlt
   simp only [decide_eq_true_eq] at hlt
   have hlt' : k < l.length := by omega
   have H := match2_h l[k] g (hm _ (List.getElem_mem hlt')) hf hn hb
   have hs := allTT_take (g := g) hlt'
   refine uB ?_
   refine uR ?_
   refine qe qa rfl rfl (by rw [lm]; omega) rfl ?_
   rw [qm hlt']
   refine uS ?_
   refine qb ?_
   refine uR ?_
   refine uK H ?_
   refine qb ?_
   refine uA ?_
   refine ⟨_, _, ?_, qh [1, 5, 8, 9, 10] [] rfl rfl, k + 1, _, _, hlt', rfl, qf hlt' (by omega), ?_, rfl⟩
   · omega
   · rw [← hs, ← ho]
     dsimp only; split <;> omega
 · refine qt ?_
   rw [lm] at hlt
   simp only [decide_eq_false_iff_not] at hlt
   have hkk : k = l.length := by omega
   subst hkk
   rw [List.take_length] at ho
   rw [← ho]
   refine uA ?_
   refine uQ ?_
   exact qZ rfl rfl
def TarSm (t : Tar) : Prop := t.length ≤ 1000000 ∧ ∀ x ∈ t, x.length ≤ 1000000 ∧ ∀ y ∈ x, y.length ≤ 1000000
theorem metT_h (t : Tar) (g : List Giv) (hm : ∀ x ∈ t, ∀ y ∈ x, ∀ m ∈ y, m.Fit) (hl : TarSm t) (hf : ∀ x ∈ g, x.Fit) (hn : g.length ≤ 1000000) (hb : ∀ x ∈ g, x.bag.length ≤ 1000000) : Holds Tryz.prog 58 [tgtP t, zm g] (.p (pI (metT t g))) [] := by
 have lt : (t.map fun x => [anyP x]).length = t.length := by simp
 have ht0 := hl.1
 refine qo (ts := [4]) Tryz.func58 (by kernel_rfl) rfl rfl rfl ?_
 refine uA ?_
 refine uA ?_
 refine uA ?_
 refine uB ?_
 refine uZ [1, 5, 11, 12, 13] [] ?_
 refine qw (fun n s => ∃ (k : Nat) (kk o : Int), k ≤ t.length ∧ n = t.length - k ∧ kk = k ∧ o = metT (t.take k) g ∧ s = ⟨34, [(1, .p (zm g)), (5, .p (pI o)), (11, .p (tgtP t)), (12, .p (pI (t.map fun x => [anyP x]).length)), (13, .p (pI kk))], []⟩) t.length ⟨0, 0, 2, Nat.zero_le _, rfl, rfl, rfl, rfl⟩ ?_
 rintro n s ⟨k, _, o, hk, rfl, rfl, ho, rfl⟩
 refine uA ?_
 refine uC (fun hlt => ?_) (fun hlt => ?_)
 · refine qd ?_
   rw [lt] at hlt
   simp only [decide_eq_true_eq] at hlt
   have hlt' : k < t.length := by omega
   have hs := metT_take (g := g) hlt'
   have hxl := hl.2 _ (List.getElem_mem hlt')
   have hxm := hm _ (List.getElem_mem hlt')
   refine uB ?_
   refine uR ?_
   refine qe qa rfl rfl (by rw [lt]; omega) rfl ?_
   rw [qm hlt']
   refine uS ?_
   refine qb ?_
   generalize t[k] = x at *
   have lx : (x.map fun y => [wq y]).length = x.length := by simp
   have hx0 := hxl.1
   refine uA ?_
   refine uA ?_
   refine uB ?_
   refine uZ [1, 5, 8, 11, 12, 13, 17, 18, 19] [] ?_
   refine qw (fun n s => ∃ (j : Nat) (jj b : Int), j ≤ x.length ∧ n = x.length - j ∧ jj = j ∧ b = anyTT (x.take j) g ∧ s = ⟨34, [(1, .p (zm g)), (5, .p (pI o)), (8, .p (pI b)), (11, .p (tgtP t)), (12, .p (pI (t.map fun x => [anyP x]).length)), (13, .p (pI k)), (17, .p (anyP x)), (18, .p (pI (x.map fun y => [wq y]).length)), (19, .p (pI jj))], []⟩) x.length ⟨0, 0, 0, Nat.zero_le _, rfl, rfl, rfl, rfl⟩ ?_
   rintro n s ⟨j, _, b, hj, rfl, rfl, hbb, rfl⟩
   refine uA ?_
   refine uC (fun hlj => ?_) (fun hlj => ?_)
   · refine qd ?_
     rw [lx] at hlj
     simp only [decide_eq_true_eq] at hlj
     have hlj' : j < x.length := by omega
     have hs2 := anyTT_take (g := g) hlj'
     have H := allT_h x[j] g (hxm _ (List.getElem_mem hlj')) (hxl.2 _ (List.getElem_mem hlj')) hf hn hb
     refine uB ?_
     refine uR ?_
     refine qe qa rfl rfl (by rw [lx]; omega) rfl ?_
     rw [qm hlj']
     refine uS ?_
     refine qb ?_
     refine uR ?_
     refine uK H ?_
     refine qb ?_
     refine uA ?_
     refine ⟨_, _, ?_, qh [1, 5, 8, 11, 12, 13, 17, 18, 19] [] rfl rfl, j + 1, _, _, hlj', rfl, qf hlj' (by omega), ?_, rfl⟩
     · omega
     · rw [← hs2, ← hbb]
       dsimp only; split <;> omega
   · refine qt ?_
     rw [lx] at hlj
     simp only [decide_eq_false_iff_not] at hlj
     have hjj : j = x.length := by omega
     subst hjj
     rw [List.take_length] at hbb
     refine uA ?_
     refine uA ?_
     refine ⟨_, _, ?_, qh [1, 5, 11, 12, 13] [] rfl rfl, k + 1, _, _, hlt', rfl, qf hlt' (by omega), ?_, rfl⟩
     · omega
     · rw [← hs, ← ho, ← hbb]
       dsimp only; split <;> omega
 · refine qt ?_
   rw [lt] at hlt
   simp only [decide_eq_false_iff_not] at hlt
   have hkk : k = t.length := by omega
   subst hkk
   rw [List.take_length] at ho
   rw [← ho]
   refine uA ?_
   refine uQ ?_
   exact qZ rfl rfl
structure GivOk (g : List Giv) : Prop where
 fit : ∀ x ∈ g, x.Fit
 len : g.length ≤ 1000000
 bags : ∀ x ∈ g, x.bag.length ≤ 1000000
attribute [local go_sem] wM js
attribute [local go_sem low] jp zo
abbrev cntObj (c : Nat) : Obj := .cells #[.int .i64 (c : Int)] 88 (0, 0)
structure CntR (b c : Nat) (w w' : World) : Prop where
 os : w'.os = w.os
 tape : w'.tape = w.tape
 output : w'.output = w.output
 size : w.heap.size ≤ w'.heap.size
 block : ∀ k, k < w.heap.size → k ≠ b → w'.heap[k]? = w.heap[k]?
 cnt : w'.heap[b]? = some (cntObj c)
theorem CntR.below {b c : Nat} {w w' : World} (h : CntR b c w w') {B : Nat} (hB : B ≤ b) (hw : B ≤ w.heap.size) : Below B w w' :=
 ⟨h.os, h.tape, h.output, h.size, fun k hk => h.block k (by omega) (by omega)⟩
theorem CntR.trans {b c c' : Nat} {w w1 w2 : World} (h : CntR b c w w1) (k : CntR b c' w1 w2) : CntR b c' w w2 :=
 ⟨k.os.trans h.os, k.tape.trans h.tape, k.output.trans h.output, Nat.le_trans h.size k.size, fun i hi hb => (k.block i (Nat.lt_of_lt_of_le hi h.size) hb).trans (h.block i hi hb), k.cnt⟩
theorem CntR.refl {b c : Nat} {w : World} (h : w.heap[b]? = some (cntObj c)) : CntR b c w w := ⟨rfl, rfl, rfl, Nat.le_refl _, fun _ _ _ => rfl, h⟩
theorem heap_alloc {w : World} {b : Nat} {x : Obj} (h : w.heap[b]? = some x) (o : Obj) : (w.alloc o).heap[b]? = some x := (Below.heap_alloc w o b (lt_of_block h)).trans h
theorem CntR.alloc {b c : Nat} {w w1 : World} (h : CntR b c w w1) (o : Obj) : CntR b c w (w1.alloc o) :=
 ⟨h.os, h.tape, h.output, Nat.le_trans h.size (by simp), fun i hi hb => (Below.heap_alloc _ _ _ (Nat.lt_of_lt_of_le hi h.size)).trans (h.block i hi hb), heap_alloc h.cnt o⟩
theorem CntR.facts {b c : Nat} {w w' : World} (h : CntR b c w w') :
 (∀ g o, w'.cell? ⟨g, o, none⟩ = if g < b then (if g < w.heap.size then w.cell? ⟨g, o, none⟩ else cellIn w' ⟨g, o, none⟩) else if b < g then (if g < w.heap.size then w.cell? ⟨g, o, none⟩ else cellIn w' ⟨g, o, none⟩) else (#[Value.int .i64 (c : Int)])[o]?) ∧
 (∀ g o, w'.frozen? ⟨g, o, none⟩ = if g < b then (if g < w.heap.size then w.frozen? ⟨g, o, none⟩ else frozenIn w' ⟨g, o, none⟩) else if b < g then (if g < w.heap.size then w.frozen? ⟨g, o, none⟩ else frozenIn w' ⟨g, o, none⟩) else false) ∧
 w.heap.size ≤ w'.heap.size ∧ b < w'.heap.size := by
 refine ⟨fun g o => ?_, fun g o => ?_, h.size, lt_of_block h.cnt⟩
 · rcases Nat.lt_trichotomy g b with hg | rfl | hg
   · rw [if_pos hg]; split
     · rename_i hs; exact World.cell?_of_block (w := w) (a := ⟨g, o, none⟩) (h.block g hs (by omega))
     · rfl
   · rw [if_neg (Nat.lt_irrefl _), if_neg (Nat.lt_irrefl _)]; simp [World.cell?, h.cnt]
   · rw [if_neg (by omega), if_pos hg]; split
     · rename_i hs; exact World.cell?_of_block (w := w) (a := ⟨g, o, none⟩) (h.block g hs (by omega))
     · rfl
 · rcases Nat.lt_trichotomy g b with hg | rfl | hg
   · rw [if_pos hg]; split
     · rename_i hs; exact World.frozen?_of_block (w := w) (a := ⟨g, o, none⟩) (h.block g hs (by omega))
     · rfl
   · rw [if_neg (Nat.lt_irrefl _), if_neg (Nat.lt_irrefl _)]; simp [World.frozen?, h.cnt]
   · rw [if_neg (by omega), if_pos hg]; split
     · rename_i hs; exact World.frozen?_of_block (w := w) (a := ⟨g, o, none⟩) (h.block g hs (by omega))
     · rfl
def cntPost (b c k : Nat) (w : World) (e : Ending) (w' : World) : Prop := (∃ c' : Nat, e = .returned (.bool false) ∧ c' ≤ c ∧ CntR b c' w w') ∨ (∃ c' : Nat, e = .returned (.bool true) ∧ c' ≤ c ∧ Hid (k + c' = c) ∧ CntR b c' w w')
theorem takes_any (b c n : Nat) (w : World) (hc : w.heap[b]? = some (cntObj c)) (hn : n ≤ 1000000000000000000) (hcc : c ≤ 3000) :
 Calls Tryz.prog 32 #[.pointer (some ⟨b, 0, none⟩), .int .i64 (n : Int)] w (cntPost b c n w) := by
 have h1 := cell_of_one hc
 have h2 := free_of_one hc
 have H := hide hc
 clear hc
 go_enter Tryz.func32, Tryz.ntmps32
 by_cases hlt : c < n
 · go_wp2
   go_ret
   exact Or.inl ⟨c, rfl, Nat.le_refl _, CntR.refl H.out⟩
 · go_wp2
   go_ret
   refine Or.inr ⟨c - n, rfl, by omega, hide (by omega), ⟨rfl, rfl, rfl, by simp [World.setCell], fun k _ hk => Below.heap_setCell _ _ _ _ hk, ?_⟩⟩
   have : ((c - n : Nat) : Int) = (c : Int) - (n : Int) := by omega
   unfold cntObj
   rw [this]
   exact one_setCell H.out
theorem wl (b c : Nat) (s : ByteArray) (w : World) (hc : w.heap[b]? = some (cntObj c)) (hn : s.size ≤ reachBytes) (hcc : c ≤ 3000) :
 Calls Tryz.prog 33 #[.pointer (some ⟨b, 0, none⟩), .string s] w (cntPost b c (txt s) w) := by
 unfold reachBytes at hn
 have H := hide hc
 clear hc
 have e : (1 : Int) + (s.size : Int) / 8 = ((txt s : Nat) : Int) := by unfold txt; omega
 have hn' : txt s ≤ 1000000000000000000 := by unfold txt; omega
 replace e := hide e
 go_enter Tryz.func33, Tryz.ntmps33
 go_wp2_with (go_at_call 32; rw [e.out]; refine (takes_any b c (txt s) _ H.out hn' hcc).mono ?_; rintro e w1 (⟨c', rfl, h1, h3⟩ | ⟨c', rfl, h1, h2, h3⟩))
 · go_ret
   exact Or.inl ⟨c', rfl, h1, h3⟩
 · go_ret
   exact Or.inr ⟨c', rfl, h1, h2, h3⟩
theorem wP (b c n : Nat) (z : Int) (w : World) (hz : z = (n : Int)) (hc : w.heap[b]? = some (cntObj c)) (hn : n ≤ 1000000000000000000) (hcc : c ≤ 3000) :
 Calls Tryz.prog 32 #[.pointer (some ⟨b, 0, none⟩), .int .i64 z] w (cntPost b c n w) := by
 subst hz; exact takes_any b c n w hc hn hcc
theorem Below.cnt {B b c : Nat} {w0 w w' : World} (h : Below B w0 w) (k : CntR b c w w') (hB : B ≤ b) (hw : B ≤ w0.heap.size) : Below B w0 w' := h.trans (k.below hB (Nat.le_trans hw h.size))
set_option maxRecDepth 100000 in
set_option maxHeartbeats 2000000 in
theorem cnt_target (b c : Nat) (t : List (List (List Mat))) (T : Option Addr) (d : Nat) (w0 w : World) (hT : SlAt rTar' 1 w0 T t) (ht : t.length ≤ reachBytes) (hB0 : Below w0.heap.size w0 w) (hb : w0.heap.size ≤ b)
 (hc : w.heap[b]? = some (cntObj c)) (hcc : c ≤ 3000) :
 Calls Tryz.prog 51 #[.pointer (some ⟨b, 0, none⟩), .slice T t.length d] w (cntPost b c (tsz t) w) := by
 unfold reachBytes at ht
 have HT := hide hT
 clear hT
 replace hc := hide hc
 go_enter Tryz.func51, Tryz.ntmps51
 go_upto_region 3 with (go_at_call 32; refine (wP b c (1 + t.length) _ _ (by simp) hc.out (by omega) hcc).mono ?_; rintro e w1 (⟨c1, rfl, h1, h3⟩ | ⟨c1, rfl, h1, h2, h3⟩))
 · go_ret
   exact Or.inl ⟨c1, rfl, h1, h3⟩
 · clear hc
   go_wp2
   go_loopw [19] (fun i wr => ∃ k c2 : Nat, k ≤ t.length ∧ i = .int .i64 k ∧ c2 ≤ c ∧ CntR b c2 w wr ∧ Hid (1 + t.length + qB xsz (t.take k) + c2 = c)) (fun i _ => t.length - (intOf i).toNat)
   case atStart => exact ⟨0, c1, Nat.zero_le _, rfl, h1, h3, h2.out⟩
   case round =>
    clear h1 h2 h3
    obtain ⟨k, c2, hk, rfl, h1, h3, h2⟩ := hrel
    have hB1 := Below.cnt hB0 h3 hb (Nat.le_refl _)
    by_cases hlt : k < t.length
    · obtain ⟨b2, o2, B2, cb2, rfl, hbb, d0, cl, cl', hX⟩ := HT.out.sl0 hB1 hlt
      unfold reachBytes at cl'
      have hs := hide (zk (f := xsz) hlt)
      replace hX := hide hX
      have hc := hide h3.cnt
      obtain ⟨wo, hwo⟩ : ∃ wo, wo = wr := ⟨_, rfl⟩
      go_upto_region 8 with (go_at_call 32; refine (wP b c2 (1 + t[k].length) _ _ (by simp) hc.out (by omega) (by omega)).mono ?_; rintro e w2 (⟨c3, rfl, h4, h6⟩ | ⟨c3, rfl, h4, h5, h6⟩))
      · go_ret
        exact Or.inl ⟨c3, rfl, by omega, h3.trans h6⟩
      · clear hc hbb d0
        go_wp2
        go_loopw [31] (fun i wr' => ∃ k' c4 : Nat, k' ≤ t[k].length ∧ i = .int .i64 k' ∧ c4 ≤ c ∧ CntR b c4 w wr' ∧ Hid (1 + t[k].length + qB asz (t[k].take k') + c4 = c2)) (fun i _ => t[k].length - (intOf i).toNat)
        case atStart => exact ⟨0, c3, Nat.zero_le _, rfl, by omega, h3.trans h6, h5.out⟩
        case round =>
         clear h4 h5 h6
         obtain ⟨k', c4, hk', rfl, h4, h6, h5⟩ := hrel
         have hB2 := Below.cnt hB0 h6 hb (Nat.le_refl _)
         by_cases hlt' : k' < t[k].length
         · obtain ⟨b3, o3, B3, cb3, rfl, hbb, d0, cm, cm', hY⟩ := hX.out.sl0 hB2 hlt'
           unfold reachBytes at cm'
           have hs' := hide (zk (f := asz) hlt')
           replace hY := hide hY
           have hc := hide h6.cnt
           go_upto_region 13 with (go_at_call 32; refine (wP b c4 (1 + t[k][k'].length) _ _ (by simp) hc.out (by omega) (by omega)).mono ?_; rintro e w2 (⟨c5, rfl, h7, h9⟩ | ⟨c5, rfl, h7, h8, h9⟩))
           · go_ret
             exact Or.inl ⟨c5, rfl, by omega, h6.trans h9⟩
           · clear hc hbb d0
             go_wp2
             go_loopw [10, 43] (fun _ i wr' => ∃ k'' c6 : Nat, k'' ≤ t[k][k'].length ∧ i = .int .i64 k'' ∧ c6 ≤ c ∧ CntR b c6 w wr' ∧ Hid (1 + t[k][k'].length + qB msz (t[k][k'].take k'') + c6 = c4)) (fun _ i _ => t[k][k'].length - (intOf i).toNat)
             case atStart => exact ⟨0, c5, Nat.zero_le _, rfl, by omega, h6.trans h9, h8.out⟩
             case round =>
              clear h7 h8 h9
              obtain ⟨k'', c6, hk'', rfl, h7, h9, h8⟩ := hrel
              have hB3 := Below.cnt hB0 h9 hb (Nat.le_refl _)
              by_cases hlt'' : k'' < t[k][k'].length
              · obtain ⟨b4, o4, rfl, hbb, ⟨e0, e1, e2⟩, e3, ⟨e4, e5, e6⟩, hf⟩ := (hY.out.keep keeps_mat hB3).mat hlt''
                have hs'' := hide (zk (f := msz) hlt'')
                have n1 := hf.attr.name
                have n2 := hf.val.s
                have hc := hide h9.cnt
                have hsz := lt_of_block h9.cnt
                go_wp2_with (go_at_call 33; (first | (with_reducible refine (wl b c6 _ _ (heap_alloc hc.out _) n1 (by omega)).mono ?_) | (with_reducible refine (wl b _ _ _ (CntR.cnt (by assumption)) n2 (by omega)).mono ?_)); rintro e w2 (⟨c7, rfl, h10, h12⟩ | ⟨c7, rfl, h10, h11, h12⟩); all_goals (obtain ⟨q1, q2, q3, q4⟩ := CntR.facts h12; try simp only [World.size_alloc] at q1 q2 q3 q4))
                · go_ret
                  exact Or.inl ⟨c7, rfl, by omega, (h9.alloc _).trans h12⟩
                · go_ret
                  exact Or.inl ⟨c7, rfl, by omega, ((h9.alloc _).trans (by assumption)).trans h12⟩
                · rename Hid (txt t[k][k'][k''].attr.name + _ = c6) => g1
                  go_roundw
                  case rel => exact ⟨k'' + 1, c7, by omega, by go_num, by omega, ((h9.alloc _).trans (by assumption)).trans h12, hide (by have := h8.out; have := hs''.out; have := h11.out; have := g1.out; have e : msz t[k][k'][k''] = txt t[k][k'][k''].attr.name + txt t[k][k'][k''].val.s := rfl; omega)⟩
                  case measure => simp [intOf]; omega
              · obtain rfl : k'' = t[k][k'].length := by omega
                rw [List.take_length] at h8
                go_wp2
                go_roundw
                case rel => exact ⟨k' + 1, c6, by omega, by go_num, by omega, h9, hide (by have := h8.out; have := h5.out; have := hs'.out; have e : asz t[k][k'] = 1 + t[k][k'].length + qB msz t[k][k'] := rfl; omega)⟩
                case measure => simp [intOf]; omega
         · obtain rfl : k' = t[k].length := by omega
           rw [List.take_length] at h5
           go_wp2
           go_roundw
           case rel => exact ⟨k + 1, c4, by omega, by go_num, by omega, h6, hide (by have := h5.out; have := h2.out; have := hs.out; have e : xsz t[k] = 1 + t[k].length + qB asz t[k] := rfl; omega)⟩
           case measure => simp [intOf]; omega
    · obtain rfl : k = t.length := by omega
      rw [List.take_length] at h2
      go_wp2
      go_ret
      exact Or.inr ⟨c2, rfl, h1, h2, h3⟩
end Go.Proofs.YtkkbdgijfkocnaaGreatDoor
namespace Go.Proofs.YtkkbdgijfkocnaaGreatDoor
open Go.RowKit
set_option linter.unusedSimpArgs false
set_option linter.unusedVariables false
attribute [local go_sem] wM js
attribute [local go_sem low] jp zo
set_option maxRecDepth 100000 in
set_option maxHeartbeats 2000000 in
theorem cnt_obls (b c : Nat) (l : List Obli) (L : Option Addr) (d : Nat) (w0 w : World) (hL : SlAt rObl 3 w0 L l) (hl : l.length ≤ reachBytes) (hB0 : Below w0.heap.size w0 w) (hb : w0.heap.size ≤ b)
 (hc : w.heap[b]? = some (cntObj c)) (hcc : c ≤ 3000) :
 Calls Tryz.prog 52 #[.pointer (some ⟨b, 0, none⟩), .slice L l.length d] w (cntPost b c (osz l) w) := by
 unfold reachBytes at hl
 have HL := hide hL
 clear hL
 replace hc := hide hc
 go_enter Tryz.func52, Tryz.ntmps52
 go_upto_region 3 with (go_at_call 32; refine (wP b c l.length _ _ (by simp) hc.out (by omega) hcc).mono ?_; rintro e w1 (⟨c1, rfl, h1, h3⟩ | ⟨c1, rfl, h1, h2, h3⟩))
 · go_ret
   exact Or.inl ⟨c1, rfl, h1, h3⟩
 · clear hc
   go_wp2
   go_loopw [6, 14] (fun _ i wr => ∃ k c2 : Nat, k ≤ l.length ∧ i = .int .i64 k ∧ c2 ≤ c ∧ CntR b c2 w wr ∧ Hid (l.length + qB (fun o : Obli => txt o.arg) (l.take k) + c2 = c)) (fun _ i _ => l.length - (intOf i).toNat)
   case atStart => exact ⟨0, c1, Nat.zero_le _, rfl, h1, h3, h2.out⟩
   case round =>
    clear h1 h2 h3
    obtain ⟨k, c2, hk, rfl, h1, h3, h2⟩ := hrel
    have hB1 := Below.cnt hB0 h3 hb (Nat.le_refl _)
    by_cases hlt : k < l.length
    · obtain ⟨b4, o4, rfl, hbb, e0, e1, e2, hf⟩ := (HL.out.keep keeps_obl hB1).obl hlt
      have hs := hide (zk (f := fun o : Obli => txt o.arg) hlt)
      have n1 := hf.arg
      have hc := hide h3.cnt
      have hsz := lt_of_block h3.cnt
      go_wp2_with (go_at_call 33; (with_reducible refine (wl b c2 _ _ (heap_alloc hc.out _) n1 (by omega)).mono ?_); rintro e w2 (⟨c7, rfl, h10, h12⟩ | ⟨c7, rfl, h10, h11, h12⟩); all_goals (first | replace hA := CntR.trans hA h12 | have hA := CntR.trans hR h12 | have hA := CntR.trans (CntR.alloc hR _) h12 | skip); all_goals (first | replace hL := CntR.trans hL h12 | have hL := h12); (try clear q1 q2 q3 q4); all_goals (clear h12; obtain ⟨q1, q2, q3, q4⟩ := CntR.facts hL; try simp only [World.size_alloc] at q1 q2 q3 q4))
      · go_ret
        exact Or.inl ⟨c7, rfl, by omega, (h3.alloc _).trans hL⟩
      · go_roundw
        case rel => exact ⟨k + 1, c7, by omega, by go_num, by omega, (h3.alloc _).trans hL, hide (by have := h2.out; have := hs.out; have := h11.out; omega)⟩
        case measure => simp [intOf]; omega
    · obtain rfl : k = l.length := by omega
      rw [List.take_length] at h2
      go_wp2
      go_ret
      exact Or.inr ⟨c2, rfl, h1, h2, h3⟩
def CntPolicy (n : Nat) : Prop := ∀ (b c : Nat) (p : Pol) (w0 w : World) (c3 c4 c5 c6 : Value), rPolN n w0 [.string p.id, .bool p.set, .int .i64 p.alg, c3, c4, c5, c6] p → Below w0.heap.size w0 w → w0.heap.size ≤ b →
    w.heap[b]? = some (cntObj c) → c ≤ 3000 →
    Calls Tryz.prog 27 #[.pointer (some ⟨b, 0, none⟩), .agg #[.string p.id, .bool p.set, .int .i64 p.alg, c3, c4, c5, c6]] w (cntPost b c p.sz w)
set_option maxRecDepth 100000 in
set_option maxHeartbeats 4000000 in
theorem cnt_policy_step (n : Nat) (ih : CntPolicy n) : CntPolicy (n + 1) := by
 intro b c p w0 w c3 c4 c5 c6 hp hB0 hb hc hcc
 obtain ⟨_, _, _, _, he, hid, halg, h3, h4, h5, h6⟩ := hp
 simp only [List.cons.injEq, true_and, and_true] at he
 obtain ⟨rfl, rfl, rfl, rfl⟩ := he
 obtain ⟨A3, d3, rfl, l3, m3, h3⟩ := h3
 obtain ⟨A4, d4, rfl, l4, m4, h4⟩ := h4
 obtain ⟨A5, d5, rfl, l5, m5, h5⟩ := h5
 obtain ⟨A6, d6, rfl, l6, m6, h6⟩ := h6
 replace h3 := hide h3
 replace h4 := hide h4
 replace h5 := hide h5
 replace h6 := hide h6
 have hsz := lt_of_block hc
 replace ih := hide ih
 simp only [reachBytes] at m3 m4 m5 m6
 have e := hide p.sz_eq
 replace hc := hide hc
 go_enter Tryz.func27, Tryz.ntmps27
 have hR : CntR b c (w.alloc (.cells #[.string p.id, .bool p.set, .int .i64 p.alg, .slice A3 (List.length p.target) d3, .slice A4 p.rules.length d4, .slice A5 p.kids.length d5, .slice A6 p.obls.length d6] 32)) (w.alloc (.cells #[.string p.id, .bool p.set, .int .i64 p.alg, .slice A3 (List.length p.target) d3, .slice A4 p.rules.length d4, .slice A5 p.kids.length d5, .slice A6 p.obls.length d6] 32)) := CntR.refl (heap_alloc hc.out _)
 go_upto_region 3 with (first | (go_at_call 32; (with_reducible refine (wP b c (1 + p.rules.length) _ _ (by simp) (heap_alloc hc.out _) (by omega) hcc).mono ?_); rintro e w2 (⟨c7, rfl, h10, h12⟩ | ⟨c7, rfl, h10, h11, h12⟩); all_goals (first | replace hA := CntR.trans hA h12 | have hA := CntR.trans hR h12 | have hA := CntR.trans (CntR.alloc hR _) h12 | skip); all_goals (first | replace hL := CntR.trans hL h12 | have hL := h12); (try clear q1 q2 q3 q4); all_goals (clear h12; obtain ⟨q1, q2, q3, q4⟩ := CntR.facts hL; try simp only [World.size_alloc] at q1 q2 q3 q4)) | (go_at_call 33; (with_reducible refine (wl b _ _ _ hA.cnt hid (by omega)).mono ?_); rintro e w2 (⟨c7, rfl, h10, h12⟩ | ⟨c7, rfl, h10, h11, h12⟩); all_goals (first | replace hA := CntR.trans hA h12 | have hA := CntR.trans hR h12 | have hA := CntR.trans (CntR.alloc hR _) h12 | skip); all_goals (first | replace hL := CntR.trans hL h12 | have hL := h12); (try clear q1 q2 q3 q4); all_goals (clear h12; obtain ⟨q1, q2, q3, q4⟩ := CntR.facts hL; try simp only [World.size_alloc] at q1 q2 q3 q4)) | (go_at_call 51; (with_reducible refine (cnt_target b _ p.target _ _ w0 _ h3.out (by simp only [reachBytes]; omega) (Below.cnt (Below.alloc1 hB0 _) hA hb (Nat.le_refl _)) hb hA.cnt (by omega)).mono ?_); rintro e w2 (⟨c7, rfl, h10, h12⟩ | ⟨c7, rfl, h10, h11, h12⟩); all_goals (first | replace hA := CntR.trans hA h12 | have hA := CntR.trans hR h12 | have hA := CntR.trans (CntR.alloc hR _) h12 | skip); all_goals (first | replace hL := CntR.trans hL h12 | have hL := h12); (try clear q1 q2 q3 q4); all_goals (clear h12; obtain ⟨q1, q2, q3, q4⟩ := CntR.facts hL; try simp only [World.size_alloc] at q1 q2 q3 q4)) | (go_at_call 52; (with_reducible refine (cnt_obls b _ p.obls _ _ w0 _ h6.out (by simp only [reachBytes]; omega) (Below.cnt (Below.alloc1 hB0 _) hA hb (Nat.le_refl _)) hb hA.cnt (by omega)).mono ?_); rintro e w2 (⟨c7, rfl, h10, h12⟩ | ⟨c7, rfl, h10, h11, h12⟩); all_goals (first | replace hA := CntR.trans hA h12 | have hA := CntR.trans hR h12 | have hA := CntR.trans (CntR.alloc hR _) h12 | skip); all_goals (first | replace hL := CntR.trans hL h12 | have hL := h12); (try clear q1 q2 q3 q4); all_goals (clear h12; obtain ⟨q1, q2, q3, q4⟩ := CntR.facts hL; try simp only [World.size_alloc] at q1 q2 q3 q4)))
 all_goals first | (go_ret; exact Or.inl ⟨_, rfl, by omega, (CntR.alloc (CntR.refl hc.out) _).trans hA⟩) | skip
 rename Hid (1 + p.rules.length + _ = c) => g1
 rename Hid (txt p.id + _ = _) => g2
 rename Hid (tsz p.target + _ = _) => g3
 replace hR := hA
 clear hA
 obtain ⟨k0, hk0⟩ : ∃ k0, k0 = 1 + p.rules.length + txt p.id + tsz p.target + osz p.obls := ⟨_, rfl⟩
 have g := hide (show k0 + c7 = c by have := g1.out; have := g2.out; have := g3.out; have := h11.out; omega)
 have hcc7 : c7 ≤ c := by omega
 replace hk0 := hide hk0
 clear g1 g2 g3 h11 q1 q2 q3 q4 h10 hL
 obtain ⟨q1, q2, q3, q4⟩ := CntR.facts hR
 simp only [World.size_alloc] at q3
 go_wp2
 clear q1 q2 q3 q4
 go_loopw [6, 8, 42] (fun _ _ i wr => ∃ k c2 : Nat, k ≤ p.rules.length ∧ i = .int .i64 k ∧ c2 ≤ c ∧ CntR b c2 (w.alloc (.cells #[.string p.id, .bool p.set, .int .i64 p.alg, .slice A3 (List.length p.target) d3, .slice A4 p.rules.length d4, .slice A5 p.kids.length d5, .slice A6 p.obls.length d6] 32)) wr ∧ Hid (k0 + qB rusz (p.rules.take k) + c2 = c)) (fun _ _ i _ => p.rules.length - (intOf i).toNat)
 case atStart => exact ⟨0, c7, Nat.zero_le _, rfl, hcc7, hR, g.out⟩
 case round =>
  clear hR g hcc7
  obtain ⟨k, c2, hk, rfl, hc2, hR, g⟩ := hrel
  have hB1 : Below w0.heap.size w0 wr := Below.cnt (Below.alloc1 hB0 _) hR hb (Nat.le_refl _)
  by_cases hlt : k < p.rules.length
  · obtain ⟨b2, o2, v2, v3, v4, rfl, hbb, e0, e1, e2, e3, e4, n1, s2, s3, s4⟩ := h4.out.rul0 hB1 hlt
    obtain ⟨B2, j2, rfl, u2, t2, s2⟩ := s2
    obtain ⟨B3, j3, rfl, u3, t3, s3⟩ := s3
    obtain ⟨B4, j4, rfl, u4, t4, s4⟩ := s4
    replace s2 := hide s2
    replace s3 := hide s3
    replace s4 := hide s4
    have hs := hide (zk (f := rusz) hlt)
    have hbw := hB1.size
    have hbr := lt_of_block hR.cnt
    simp only [reachBytes] at t2 t3 t4
    go_upto_region 8 with (first | (go_at_call 32; (with_reducible refine (wP b _ p.rules[k].cond.length _ _ (by simp) hA.cnt (by omega) (by omega)).mono ?_); rintro e w2 (⟨c7, rfl, h10, h12⟩ | ⟨c7, rfl, h10, h11, h12⟩); all_goals (first | replace hA := CntR.trans hA h12 | have hA := CntR.trans hR h12 | have hA := CntR.trans (CntR.alloc hR _) h12 | skip); all_goals (first | replace hL := CntR.trans hL h12 | have hL := h12); (try clear q1 q2 q3 q4); all_goals (clear h12; obtain ⟨q1, q2, q3, q4⟩ := CntR.facts hL; try simp only [World.size_alloc] at q1 q2 q3 q4)) | (go_at_call 33; (with_reducible refine (wl b _ _ _ (heap_alloc hR.cnt _) n1 (by omega)).mono ?_); rintro e w2 (⟨c7, rfl, h10, h12⟩ | ⟨c7, rfl, h10, h11, h12⟩); all_goals (first | replace hA := CntR.trans hA h12 | have hA := CntR.trans hR h12 | have hA := CntR.trans (CntR.alloc hR _) h12 | skip); all_goals (first | replace hL := CntR.trans hL h12 | have hL := h12); (try clear q1 q2 q3 q4); all_goals (clear h12; obtain ⟨q1, q2, q3, q4⟩ := CntR.facts hL; try simp only [World.size_alloc] at q1 q2 q3 q4)) | (go_at_call 51; (with_reducible refine (cnt_target b _ p.rules[k].target _ _ w0 _ s2.out (by simp only [reachBytes]; omega) (Below.cnt (Below.alloc1 hB0 _) hA hb (Nat.le_refl _)) hb hA.cnt (by omega)).mono ?_); rintro e w2 (⟨c7, rfl, h10, h12⟩ | ⟨c7, rfl, h10, h11, h12⟩); all_goals (first | replace hA := CntR.trans hA h12 | have hA := CntR.trans hR h12 | have hA := CntR.trans (CntR.alloc hR _) h12 | skip); all_goals (first | replace hL := CntR.trans hL h12 | have hL := h12); (try clear q1 q2 q3 q4); all_goals (clear h12; obtain ⟨q1, q2, q3, q4⟩ := CntR.facts hL; try simp only [World.size_alloc] at q1 q2 q3 q4)) | (go_at_call 52; (with_reducible refine (cnt_obls b _ p.rules[k].obls _ _ w0 _ s4.out (by simp only [reachBytes]; omega) (Below.cnt (Below.alloc1 hB0 _) hA hb (Nat.le_refl _)) hb hA.cnt (by omega)).mono ?_); rintro e w2 (⟨c7, rfl, h10, h12⟩ | ⟨c7, rfl, h10, h11, h12⟩); all_goals (first | replace hA := CntR.trans hA h12 | have hA := CntR.trans hR h12 | have hA := CntR.trans (CntR.alloc hR _) h12 | skip); all_goals (first | replace hL := CntR.trans hL h12 | have hL := h12); (try clear q1 q2 q3 q4); all_goals (clear h12; obtain ⟨q1, q2, q3, q4⟩ := CntR.facts hL; try simp only [World.size_alloc] at q1 q2 q3 q4)))
    all_goals first | (go_ret; exact Or.inl ⟨_, rfl, by omega, (CntR.alloc (CntR.refl hc.out) _).trans hA⟩) | skip
    rename Hid (txt p.rules[k].id + _ = _) => g1
    rename Hid (tsz p.rules[k].target + _ = _) => g2
    rename Hid (p.rules[k].cond.length + _ = _) => g3
    obtain ⟨k1, hk1⟩ : ∃ k1, k1 = txt p.rules[k].id + tsz p.rules[k].target + p.rules[k].cond.length + osz p.rules[k].obls := ⟨_, rfl⟩
    have g' := hide (show k1 + c7 = c2 by have := g1.out; have := g2.out; have := g3.out; have := h11.out; omega)
    have hcc7 : c7 ≤ c := by omega
    have e1 := hide (show rusz p.rules[k] = k1 + qB nsz p.rules[k].cond by subst hk1; rfl)
    clear g1 g2 g3 h11 h10 hk1
    go_wp2
    clear q1 q2 q3 q4
    replace hR := hA
    clear hA
    go_loopw [8, 76] (fun _ i wr' => ∃ k' c4 : Nat, k' ≤ p.rules[k].cond.length ∧ i = .int .i64 k' ∧ c4 ≤ c ∧ CntR b c4 (w.alloc (.cells #[.string p.id, .bool p.set, .int .i64 p.alg, .slice A3 (List.length p.target) d3, .slice (some ⟨b2, o2, none⟩) p.rules.length d4, .slice A5 p.kids.length d5, .slice A6 p.obls.length d6] 32)) wr' ∧ Hid (k1 + qB nsz (p.rules[k].cond.take k') + c4 = c2)) (fun _ i _ => p.rules[k].cond.length - (intOf i).toNat)
    case atStart => exact ⟨0, c7, Nat.zero_le _, rfl, hcc7, hR, g'.out⟩
    case round =>
     clear hR g' hcc7 hL hbb hB1
     obtain ⟨k', c4, hk', rfl, hc4, hR, g'⟩ := hrel
     have hB1 : Below w0.heap.size w0 wr := Below.cnt (Below.alloc1 hB0 _) hR hb (Nat.le_refl _)
     by_cases hlt' : k' < p.rules[k].cond.length
     · obtain ⟨b4, o4, rfl, hbb, e0, ⟨e3, e4, e5⟩, ⟨e6, e7, e8⟩, hf⟩ := (s3.out.keep keeps_nod hB1).nod hlt'
       have hs' := hide (zk (f := nsz) hlt')
       have n1 := hf.attr.name
       have n2 := hf.val.s
       have hbw := hB1.size
       have hbr := lt_of_block hR.cnt
       go_wp2_with (go_at_call 33; (first | (with_reducible refine (wl b c4 _ _ (heap_alloc hR.cnt _) n1 (by omega)).mono ?_) | (with_reducible refine (wl b _ _ _ hA.cnt n2 (by omega)).mono ?_)); rintro e w2 (⟨c7, rfl, h10, h12⟩ | ⟨c7, rfl, h10, h11, h12⟩); all_goals (first | replace hA := CntR.trans hA h12 | have hA := CntR.trans hR h12 | have hA := CntR.trans (CntR.alloc hR _) h12 | skip); all_goals (first | replace hL := CntR.trans hL h12 | have hL := h12); (try clear q1 q2 q3 q4); all_goals (clear h12; obtain ⟨q1, q2, q3, q4⟩ := CntR.facts hL; try simp only [World.size_alloc] at q1 q2 q3 q4))
       · go_ret
         exact Or.inl ⟨_, rfl, by omega, (CntR.alloc (CntR.refl hc.out) _).trans hA⟩
       · go_ret
         exact Or.inl ⟨_, rfl, by omega, (CntR.alloc (CntR.refl hc.out) _).trans hA⟩
       · rename Hid (txt p.rules[k].cond[k'].attr.name + _ = c4) => g1
         go_roundw
         case rel => exact ⟨k' + 1, c7, by omega, by go_num, by omega, hA, hide (by have := g'.out; have := hs'.out; have := h11.out; have := g1.out; have e : nsz p.rules[k].cond[k'] = txt p.rules[k].cond[k'].attr.name + txt p.rules[k].cond[k'].val.s := rfl; omega)⟩
         case measure => simp [intOf]; omega
     · obtain rfl : k' = p.rules[k].cond.length := by omega
       rw [List.take_length] at g'
       go_wp2
       go_roundw
       case rel => exact ⟨k + 1, c4, by omega, by go_num, hc4, hR, hide (by have := g.out; have := g'.out; have := hs.out; have := e1.out; omega)⟩
       case measure => simp [intOf]; omega
  · obtain rfl : k = p.rules.length := by omega
    rw [List.take_length] at g
    obtain ⟨q1, q2, q3, q4⟩ := CntR.facts hR
    simp only [World.size_alloc] at q3
    go_wp2
    clear q1 q2 q3 q4
    go_loopw [10, 99] (fun _ i wr' => ∃ k' c4 : Nat, k' ≤ p.kids.length ∧ i = .int .i64 k' ∧ c4 ≤ c ∧ CntR b c4 (w.alloc (.cells #[.string p.id, .bool p.set, .int .i64 p.alg, .slice A3 (List.length p.target) d3, .slice A4 p.rules.length d4, .slice A5 p.kids.length d5, .slice A6 p.obls.length d6] 32)) wr' ∧ Hid (k0 + qB rusz p.rules + qB Pol.sz (p.kids.take k') + c4 = c)) (fun _ i _ => p.kids.length - (intOf i).toNat)
    case atStart => exact ⟨0, c2, Nat.zero_le _, rfl, hc2, hR, g.out⟩
    case round =>
     clear hR g hB1 hc2
     obtain ⟨k', c4, hk', rfl, hc4, hR, g⟩ := hrel
     have hB1 : Below w0.heap.size w0 wr := Below.cnt (Below.alloc1 hB0 _) hR hb (Nat.le_refl _)
     by_cases hlt' : k' < p.kids.length
     · obtain ⟨b2, o2, v3, v4, v5, v6, rfl, hbb, e0, e1, e2, e3, e4, e5, e6, hr⟩ := h5.out.pol0 hB1 hlt'
       have hs' := hide (zk (f := Pol.sz) hlt')
       obtain ⟨B3, j3, B4, j4, B5, j5, B6, j6, rfl, rfl, rfl, rfl⟩ := rPolN_form hr
       replace hr := hide hr
       have hbw := hB1.size
       have hbr := lt_of_block hR.cnt
       go_wp2_with (go_at_call 27; refine (ih.out b c4 p.kids[k'] w0 _ _ _ _ _ hr.out (Below.alloc1 hB1 _) hb (heap_alloc hR.cnt _) (by omega)).mono ?_; rintro e w2 (⟨c7, rfl, h10, h12⟩ | ⟨c7, rfl, h10, h11, h12⟩); all_goals (first | replace hA := CntR.trans hA h12 | have hA := CntR.trans hR h12 | have hA := CntR.trans (CntR.alloc hR _) h12 | skip); all_goals (first | replace hL := CntR.trans hL h12 | have hL := h12); (try clear q1 q2 q3 q4); all_goals (clear h12; obtain ⟨q1, q2, q3, q4⟩ := CntR.facts hL; try simp only [World.size_alloc] at q1 q2 q3 q4))
       · go_ret
         exact Or.inl ⟨_, rfl, by omega, (CntR.alloc (CntR.refl hc.out) _).trans hA⟩
       · go_roundw
         case rel => exact ⟨k' + 1, c7, by omega, by go_num, by omega, hA, hide (by have := g.out; have := hs'.out; have := h11.out; omega)⟩
         case measure => simp [intOf]; omega
     · obtain rfl : k' = p.kids.length := by omega
       rw [List.take_length] at g
       go_wp2
       go_ret
       exact Or.inr ⟨c4, rfl, hc4, hide (by have := g.out; have := e.out; have := hk0.out; omega), (CntR.alloc (CntR.refl hc.out) _).trans hR⟩
theorem cnt_policy (n : Nat) : CntPolicy n := by
 induction n with
 | zero => intro b c p w0 w c3 c4 c5 c6 h; exact h.elim
 | succ n ih => exact cnt_policy_step n ih
def upTo (k m : Nat) (w : World) (e : Ending) (w' : World) : Prop := (e = .returned (.bool false) ∧ Below w.heap.size w w') ∨ (e = .returned (.bool true) ∧ Hid (k ≤ m) ∧ Below w.heap.size w w')
theorem heap_new (w : World) (o : Obj) : (w.alloc o).heap[w.heap.size]? = some o := by
 show (w.heap.push o)[w.heap.size]? = _
 simp
theorem heap_at (w : World) (o : Obj) (b : Nat) (hb : b = w.heap.size) : (w.alloc o).heap[b]? = some o := by subst hb; exact heap_new w o
theorem small_any (n : Nat) (p : Pol) (w : World) (c3 c4 c5 c6 : Value) (hp : rPolN n w [.string p.id, .bool p.set, .int .i64 p.alg, c3, c4, c5, c6] p) :
 Calls Tryz.prog 11 #[.agg #[.string p.id, .bool p.set, .int .i64 p.alg, c3, c4, c5, c6]] w (upTo p.sz 3000 w) := by
 obtain ⟨A3, d3, A4, d4, A5, d5, A6, d6, rfl, rfl, rfl, rfl⟩ := rPolN_form hp
 replace hp := hide hp
 go_enter Tryz.func11, Tryz.ntmps11
 go_wp2_with (go_at_call 27; refine (cnt_policy n (w.heap.size + 1) 3000 p w _ _ _ _ _ hp.out (by repeat (first | exact Below.refl _ _ | assumption | refine Below.alloc1 ?_ _ | refine Below.drew ?_ | refine qk ?_ | refine Below.setCell ?_ (by first | exact Nat.le_refl _ | (simp; done) | omega | (simp; omega)) _ | refine Below.lift ?_ (by assumption))) (by omega) ?_ (Nat.le_refl _)).mono ?_; exact heap_at _ _ _ (by simp); rintro e w2 (⟨c7, rfl, h10, h12⟩ | ⟨c7, rfl, h10, h11, h12⟩))
 · go_ret
   exact Or.inl ⟨rfl, ((Below.refl _ _).alloc (Nat.le_refl _) _).alloc (by simp) _ |>.trans (h12.below (by omega) (by simp; omega))⟩
 · go_ret
   exact Or.inr ⟨rfl, hide (by have := h11.out; omega), ((Below.refl _ _).alloc (Nat.le_refl _) _).alloc (by simp) _ |>.trans (h12.below (by omega) (by simp; omega))⟩
def gsz (g : Giv) : Nat := txt g.name + g.bag.length + qB (fun v : Val => txt v.s) g.bag
def fsz (l : List Giv) : Nat := 2 * l.length + qB gsz l
theorem SlAt.giv0 {w0 w : World} {A : Option Addr} {l : List Giv} (h : SlAt rGiv 3 w0 A l) (hB : Below w0.heap.size w0 w) {k : Nat} (hk : k < l.length) :
 ∃ b o B c, A = some ⟨b, o, none⟩ ∧ b < w0.heap.size ∧ w.cell? ⟨b, o + k * 3, none⟩ = some (.int .i64 l[k].cat) ∧ w.cell? ⟨b, o + k * 3 + 1, none⟩ = some (.string l[k].name) ∧
   w.cell? ⟨b, o + k * 3 + 2, none⟩ = some (.slice B l[k].bag.length c) ∧ R64 l[k].cat ∧ l[k].name.size ≤ reachBytes ∧ l[k].bag.length ≤ c ∧ (l[k].bag.length ≤ reachBytes ∧ c ≤ maxLen) ∧ SlAt rVal 3 w0 B l[k].bag := by
 obtain ⟨b, o, B, c, hA, hb, h0, h1, h2, h3⟩ := h.giv hk
 have cell : ∀ j, w.cell? ⟨b, j, none⟩ = w0.cell? ⟨b, j, none⟩ := fun j => hB.cell (p := ⟨b, j, none⟩) hb
 exact ⟨b, o, B, c, hA, hb, (cell _).trans h0, (cell _).trans h1, (cell _).trans h2, h3⟩
set_option maxRecDepth 100000 in
set_option maxHeartbeats 4000000 in
theorem few_any (l : List Giv) (A : Option Addr) (c : Nat) (w0 : World) (hl : l.length ≤ reachBytes) (h : SlAt rGiv 3 w0 A l) :
 Calls Tryz.prog 16 #[.slice A l.length c] w0 (upTo (fsz l) 1200 w0) := by
 unfold reachBytes at hl
 replace h := hide h
 have hb : w0.heap.size ≤ w0.heap.size := Nat.le_refl _
 have hB0 : Below w0.heap.size w0 w0 := Below.refl _ _
 have hc := hide (heap_new w0 (cntObj 1200))
 go_enter Tryz.func16, Tryz.ntmps16
 go_upto_region 4 with (go_at_call 32; refine (wP w0.heap.size 1200 (2 * l.length) _ _ (by simp) hc.out (by omega) (by omega)).mono ?_; rintro e w1 (⟨c1, rfl, h1, h3⟩ | ⟨c1, rfl, h1, h2, h3⟩))
 · go_ret
   exact Or.inl ⟨rfl, ((Below.refl _ _).alloc (Nat.le_refl _) _).trans (h3.below (by omega) (by simp))⟩
 · go_wp2
   go_loopw [5, 7, 18] (fun _ _ i wr => ∃ k c2 : Nat, k ≤ l.length ∧ i = .int .i64 k ∧ c2 ≤ 1200 ∧ CntR w0.heap.size c2 (w0.alloc (cntObj 1200)) wr ∧ Hid (2 * l.length + qB gsz (l.take k) + c2 = 1200)) (fun _ _ i _ => l.length - (intOf i).toNat)
   case atStart => exact ⟨0, c1, Nat.zero_le _, rfl, h1, h3, h2.out⟩
   case round =>
    clear h1 h2 h3
    obtain ⟨k, c2, hk, rfl, hc2, hR, g⟩ := hrel
    have hB1 : Below w0.heap.size w0 wr := Below.cnt (Below.alloc1 hB0 _) hR hb (Nat.le_refl _)
    by_cases hlt : k < l.length
    · obtain ⟨b2, o2, B2, j2, rfl, hbb, e0, e1, e2, hcat, n1, t1, t2, hbag⟩ := h.out.giv0 hB1 hlt
      have hs := hide (zk (f := gsz) hlt)
      replace hbag := hide hbag
      have hbw := hB1.size
      have hbr := lt_of_block hR.cnt
      simp only [reachBytes] at t2
      go_upto_region 9 with (first | (go_at_call 32; (with_reducible refine (wP _ _ l[k].bag.length _ _ (by simp) hA.cnt (by omega) (by omega)).mono ?_); rintro e w2 (⟨c7, rfl, h10, h12⟩ | ⟨c7, rfl, h10, h11, h12⟩); all_goals (first | replace hA := CntR.trans hA h12 | have hA := CntR.trans hR h12 | have hA := CntR.trans (CntR.alloc hR _) h12 | skip); all_goals (first | replace hL := CntR.trans hL h12 | have hL := h12); (try clear q1 q2 q3 q4); all_goals (clear h12; obtain ⟨q1, q2, q3, q4⟩ := CntR.facts hL; try simp only [World.size_alloc] at q1 q2 q3 q4)) | (go_at_call 33; (with_reducible refine (wl _ c2 _ _ (heap_alloc hR.cnt _) n1 (by omega)).mono ?_); rintro e w2 (⟨c7, rfl, h10, h12⟩ | ⟨c7, rfl, h10, h11, h12⟩); all_goals (first | replace hA := CntR.trans hA h12 | have hA := CntR.trans hR h12 | have hA := CntR.trans (CntR.alloc hR _) h12 | skip); all_goals (first | replace hL := CntR.trans hL h12 | have hL := h12); (try clear q1 q2 q3 q4); all_goals (clear h12; obtain ⟨q1, q2, q3, q4⟩ := CntR.facts hL; try simp only [World.size_alloc] at q1 q2 q3 q4)))
      · go_ret
        exact Or.inl ⟨rfl, ((Below.refl _ _).alloc (Nat.le_refl _) _).trans (hA.below (by omega) (by simp))⟩
      · go_ret
        exact Or.inl ⟨rfl, ((Below.refl _ _).alloc (Nat.le_refl _) _).trans (hA.below (by omega) (by simp))⟩
      · rename Hid (txt l[k].name + _ = _) => g1
        obtain ⟨k1, hk1⟩ : ∃ k1, k1 = txt l[k].name + l[k].bag.length := ⟨_, rfl⟩
        have g' := hide (show k1 + c7 = c2 by have := g1.out; have := h11.out; omega)
        have hcc7 : c7 ≤ 1200 := by omega
        have e1 := hide (show gsz l[k] = k1 + qB (fun v : Val => txt v.s) l[k].bag by subst hk1; rfl)
        clear g1 h11 h10 hk1
        go_wp2
        clear q1 q2 q3 q4
        replace hR := hA
        clear hA
        go_loopw [7, 38] (fun _ i wr' => ∃ k' c4 : Nat, k' ≤ l[k].bag.length ∧ i = .int .i64 k' ∧ c4 ≤ 1200 ∧ CntR w0.heap.size c4 (w0.alloc (cntObj 1200)) wr' ∧ Hid (k1 + qB (fun v : Val => txt v.s) (l[k].bag.take k') + c4 = c2)) (fun _ i _ => l[k].bag.length - (intOf i).toNat)
        case atStart => exact ⟨0, c7, Nat.zero_le _, rfl, hcc7, hR, g'.out⟩
        case round =>
         clear hR g' hcc7 hL hbb hB1
         obtain ⟨k', c4, hk', rfl, hc4, hR, g'⟩ := hrel
         have hB1 : Below w0.heap.size w0 wr := Below.cnt (Below.alloc1 hB0 _) hR hb (Nat.le_refl _)
         by_cases hlt' : k' < l[k].bag.length
         · obtain ⟨b4, o4, rfl, hbb, e3, e4, e5, hf⟩ := (hbag.out.keep qV hB1).val hlt'
           have hs' := hide (zk (f := fun v : Val => txt v.s) hlt')
           have n2 := hf.s
           have hbw := hB1.size
           have hbr := lt_of_block hR.cnt
           go_wp2_with (go_at_call 33; (with_reducible refine (wl _ c4 _ _ (heap_alloc hR.cnt _) n2 (by omega)).mono ?_); rintro e w2 (⟨c7, rfl, h10, h12⟩ | ⟨c7, rfl, h10, h11, h12⟩); all_goals (first | replace hA := CntR.trans hA h12 | have hA := CntR.trans hR h12 | have hA := CntR.trans (CntR.alloc hR _) h12 | skip); all_goals (first | replace hL := CntR.trans hL h12 | have hL := h12); (try clear q1 q2 q3 q4); all_goals (clear h12; obtain ⟨q1, q2, q3, q4⟩ := CntR.facts hL; try simp only [World.size_alloc] at q1 q2 q3 q4))
           · go_ret
             exact Or.inl ⟨rfl, ((Below.refl _ _).alloc (Nat.le_refl _) _).trans (hA.below (by omega) (by simp))⟩
           · go_roundw
             case rel => exact ⟨k' + 1, c7, by omega, by go_num, by omega, hA, hide (by have := g'.out; have := hs'.out; have := h11.out; omega)⟩
             case measure => simp [intOf]; omega
         · obtain rfl : k' = l[k].bag.length := by omega
           rw [List.take_length] at g'
           go_wp2
           go_roundw
           case rel => exact ⟨k + 1, c4, by omega, by go_num, hc4, hR, hide (by have := g.out; have := g'.out; have := hs.out; have := e1.out; omega)⟩
           case measure => simp [intOf]; omega
    · obtain rfl : k = l.length := by omega
      rw [List.take_length] at g
      go_wp2
      go_ret
      exact Or.inr ⟨rfl, hide (by have := g.out; unfold fsz; omega), ((Below.refl _ _).alloc (Nat.le_refl _) _).trans (hR.below (by omega) (by simp))⟩
end Go.Proofs.YtkkbdgijfkocnaaGreatDoor
namespace Go.Proofs.YtkkbdgijfkocnaaGreatDoor
set_option linter.unusedVariables false
set_option linter.unusedSimpArgs false
open Go.RowKit
def Upto (k m : Nat) (r : SV) : Prop := ∃ b : Bool, r = .p (pB b) ∧ (b = true → k ≤ m)
theorem upto_ok {k m : Nat} {w : World} {e : Ending} {w' : World} (h : upTo k m w e w') : ∃ r, Upto k m r ∧ flatS r = true ∧ e = .returned (valS r) ∧ Below w.heap.size w w' ∧ RelS (fun _ => True) (fun _ => none) w' r (valS r) := by
 rcases h with ⟨rfl, hb⟩ | ⟨rfl, hk, hb⟩
 · exact ⟨.p (pB false), ⟨false, rfl, fun h => by cases h⟩, rfl, rfl, hb, .p (.v rfl)⟩
 · exact ⟨.p (pB true), ⟨true, rfl, fun _ => hk.out⟩, rfl, rfl, hb, .p (.v rfl)⟩
theorem few_h (l : List Giv) (hf : ∀ x ∈ l, x.Fit) : HoldsE Tryz.prog 16 [zm l] (Upto (fsz l) 1200) :=
 .of_calls Tryz.func16 (by kernel_rfl) rfl fun w vs hl hr => by
  obtain ⟨u, rfl⟩ := one_arg hl
  obtain ⟨A, c, rfl, h1, h2, h3⟩ := givs_typed (hr 0 _ u rfl rfl) hf
  exact (few_any l A c w h2.1 h3).mono fun e w' h => upto_ok h
theorem few_len {l : List Giv} (h : fsz l ≤ 1200) : l.length ≤ 600 ∧ ∀ g ∈ l, g.bag.length ≤ 1200 := by
 refine ⟨by unfold fsz at h; omega, fun g hg => ?_⟩
 have h2 : gsz g ≤ fsz l := by have := wd (f := gsz) hg; unfold fsz; omega
 have h3 : g.bag.length ≤ gsz g := by unfold gsz; omega
 omega
theorem givOk_of {g : List Giv} (hg : ∀ x ∈ g, x.Fit) (h : fsz g ≤ 1200) : GivOk g := by
 obtain ⟨g1, g2⟩ := few_len h
 exact ⟨hg, by omega, fun x hx => by have := g2 x hx; omega⟩
set_option maxHeartbeats 1000000
theorem idxV_h (l : List Val) (v : Val) (hn : l.length ≤ 1000000) : Holds Tryz.prog 188 [valsP l, .agg v.pv] (.p (pI (if l.findIdx (jW v) < l.length then (l.findIdx (jW v) : Int) else -1))) [] := by
 refine qo (ts := [4]) Tryz.func188 (by kernel_rfl) rfl rfl rfl ?_
 refine uA ?_
 refine uA ?_
 refine uB ?_
 refine uZ [0, 3, 7, 8] [(3, 3)] ?_
 refine qw (fun n s => ∃ (k : Nat) (kk : Int), k ≤ l.length ∧ n = l.length - k ∧ kk = k ∧ (∀ x ∈ l.take k, jW v x = false) ∧ s = ⟨19, [(0, .p (valsP l)), (3, .ptr 3 0), (7, .p (pI (l.map Val.pv).length)), (8, .p (pI kk))], [(3, .cells (v.pv.map .p))]⟩) l.length ⟨0, 0, Nat.zero_le _, rfl, rfl, by simp, rfl⟩ ?_
 rintro n s ⟨k, _, hk, rfl, rfl, ha, rfl⟩
 refine uA ?_
 refine uC (fun hlt => ?_) (fun hlt => ?_)
 · refine qd ?_
   simp only [List.length_map, decide_eq_true_eq] at hlt
   have hlt' : k < l.length := by omega
   refine uB ?_
   refine uA ?_
   refine uD [] [1, 3, 5, 7, 9, 11] ?_
   refine qx qa rfl rfl rfl (by simp only [List.length_map]; omega) rfl ?_
   rw [qm hlt']
   refine uT ?_
   refine qx qa rfl rfl rfl (rfl) rfl ?_
   refine uT ?_
   refine qY ?_
   refine uC (fun hp => ?_) (fun hp => ?_)
   · have hp' : jW v l[k] = true := by simpa [jW, beq_bytes2, and_assoc] using hp
     refine uA ?_
     refine uQ ?_
     refine qZ rfl ?_
     have e : l.findIdx (jW v) = k := (List.findIdx_eq hlt').2 ⟨hp', fun j hj => ha _ (List.mem_take_iff_getElem.2 ⟨j, by omega, rfl⟩)⟩
     rw [e, if_pos hlt']
   · have hp' : jW v l[k] = false := by simpa [jW, beq_bytes2, and_assoc] using hp
     refine qd ?_
     refine uA ?_
     refine ⟨_, _, ?_, qh [0, 3, 7, 8] [(3, 3)] rfl rfl, k + 1, _, hlt', rfl, qf hlt' (by omega), ?_, rfl⟩
     · omega
     · intro g hg
       rw [List.take_succ_eq_append_getElem hlt', List.mem_append, List.mem_singleton] at hg
       rcases hg with hg | rfl
       · exact ha g hg
       · exact hp'
 · refine qt ?_
   simp only [List.length_map, decide_eq_false_iff_not] at hlt
   have hkk : k = l.length := by omega
   subst hkk
   refine uA ?_
   refine uQ ?_
   refine qZ rfl ?_
   rw [List.take_length] at ha
   rw [if_neg]
   have := List.findIdx_eq_length_of_false ha
   omega
theorem contains_h (l : List Val) (v : Val) (hn : l.length ≤ 1000000) : Holds Tryz.prog 169 [valsP l, .agg v.pv] (.p (pB (hasV l v))) [] := by
 refine qo (ts := [4]) Tryz.func169 (by kernel_rfl) rfl rfl rfl ?_
 refine uA ?_
 refine uR ?_
 refine uK (idxV_h l v hn) ?_
 refine qb ?_
 refine uQ ?_
 refine jJ rfl ?_
 unfold hasV
 by_cases h : l.findIdx (jW v) < l.length
 · rw [if_pos h]
   have : l.any (jW v) = true := List.any_eq_true.2 ⟨_, List.getElem_mem h, List.findIdx_getElem (w := h)⟩
   rw [show (l.any fun x => jW v x) = true from this]
   simp
 · rw [if_neg h]
   have h2 : ∀ x ∈ l, jW v x = false := List.findIdx_eq_length.1 (Nat.le_antisymm List.findIdx_le_length (by omega))
   rw [show (l.any fun x => jW v x) = false from List.any_eq_false.2 fun x hx => by simp [h2 x hx]]
   rfl
theorem has_h (l : List Val) (v : Val) (hn : l.length ≤ 1000000) : Holds Tryz.prog 151 [valsP l, .agg v.pv] (.p (pB (hasV l v))) [] := by
 refine qo (ts := [4]) Tryz.func151 (by kernel_rfl) rfl rfl rfl ?_
 refine uA ?_
 refine uR ?_
 refine uK (contains_h l v hn) ?_
 refine qb ?_
 refine uQ ?_
 exact jJ rfl rfl
set_option maxHeartbeats 2000000
theorem is_h (x : Itm) (n : Int) : Holds Tryz.prog 83 [.agg x.pv, pI n] (.p (pB (x.is n))) [] := by
 refine qo (ts := [4]) Tryz.func83 (by kernel_rfl) rfl rfl rfl ?_
 refine uA ?_
 (repeat refine qH ?_); refine ql (by kernel_rfl) ?_
 repeat (refine qi qa rfl (by exact True.intro) rfl ?_)
 refine qi qa rfl (rfl) rfl ?_
 repeat (refine qi qa rfl (by exact True.intro) rfl ?_)
 refine qP ?_
 refine uQ ?_
 refine jJ rfl ?_
 unfold Itm.is isT
 rw [Bool.eq_iff_iff]
 simp only [jW, beq_bytes2, Bool.cond_false_right, Bool.and_eq_true, beq_iff_eq, decide_eq_true_eq, and_assoc, and_true]
theorem operands_h (op : Int) : Holds Tryz.prog 119 [pI op] (.p (pI (zn op))) [] := by
 unfold zn
 refine qo (ts := [2]) Tryz.func119 (by kernel_rfl) rfl rfl rfl ?_
 refine uA ?_
 refine uA ?_
 refine uB ?_
 refine uA ?_
 refine uC (fun h1 => ?_) (fun h1 => ?_)
 · have e1 : op = 1 := by simpa using h1
   subst e1
   refine qd ?_
   refine uC (fun h2 => ?_) (fun h2 => ?_)
   · refine uA ?_
     refine uQ ?_
     exact qZ rfl rfl
   · cases h2
 · have n1 : ¬ op = 1 := by simpa using h1
   refine uA ?_
   refine uC (fun h2 => ?_) (fun h2 => ?_)
   · have e1 : op = 2 := by simpa using h2
     subst e1
     refine uA ?_
     refine uQ ?_
     exact qZ rfl rfl
   · have n2 : ¬ op = 2 := by simpa using h2
     refine uA ?_
     refine uC (fun h3 => ?_) (fun h3 => ?_)
     · have e1 : op = 3 := by simpa using h3
       subst e1
       refine qd ?_
       refine uC (fun h4 => ?_) (fun h4 => ?_)
       · refine uA ?_
         refine uQ ?_
         exact qZ rfl rfl
       · cases h4
     · have n3 : ¬ op = 3 := by simpa using h3
       refine uA ?_
       refine uC (fun h4 => ?_) (fun h4 => ?_)
       · have e1 : op = 4 := by simpa using h4
         subst e1
         refine qd ?_
         refine uC (fun h5 => ?_) (fun h5 => ?_)
         · refine uA ?_
           refine uQ ?_
           exact qZ rfl rfl
         · cases h5
       · have n4 : ¬ op = 4 := by simpa using h4
         refine uA ?_
         refine uC (fun h5 => ?_) (fun h5 => ?_)
         · have e1 : op = 11 := by simpa using h5
           subst e1
           refine uA ?_
           refine uQ ?_
           exact qZ rfl rfl
         · have n5 : ¬ op = 11 := by simpa using h5
           refine qd ?_
           refine uA ?_
           refine uQ ?_
           exact qZ rfl (by rw [if_neg (by omega), if_neg (by omega)]; rfl)
theorem truth_h (b : Bool) : Holds Tryz.prog 150 [pB b] (.p (.agg (itmT b).pv)) [] := by
 refine .ofW ?_
 refine qz (T := TTab) qa Tryz.func150 (by kernel_rfl) rfl rfl rfl ?_
 refine uA ?_
 refine uA ?_
 refine uA ?_
 cases b with
 | true =>
   refine uC (fun h => ?_) (fun h => ?_)
   · refine uA ?_
     refine uA ?_
     refine uQ ?_
     exact ⟨Or.inr rfl, _, _, [], _, Wk.refl _, rfl, rfl, .p (CvL.agg (.cons (.nil 3) (.refl _))), rfl, rfl⟩
   · cases h
 | false =>
   refine uC (fun h => ?_) (fun h => ?_)
   · cases h
   · refine qd ?_
     refine uA ?_
     refine uQ ?_
     exact ⟨Or.inr rfl, _, _, [], _, Wk.refl _, rfl, rfl, .p (CvL.agg (.cons (.nil 3) (.refl _))), rfl, rfl⟩
set_option maxHeartbeats 4000000
def jE (S : List Itm) : List (Nat × Box) := [(1000000, .row 176 5 (S.map Itm.pv))]
theorem zc {S : List Itm} {lo i : Nat} {x : Itm} (h : (S.drop lo)[i]? = some x) : (S.map Itm.pv).getD (lo + i) [] = x.pv := by
 rw [List.getElem?_drop] at h
 rw [List.getD_eq_getElem?_getD, List.getElem?_map, h]; rfl
theorem errS_at : ∀ {l : List Itm} {k : Nat} (hk : k < l.length), errS (l.take k) = 0 → l[k].e ≠ 0 → errS l = l[k].e
 | x :: r, 0, _, _, h => by simp only [List.getElem_cons_zero] at h ⊢; rw [errS, if_neg h]
 | x :: r, k + 1, hk, h0, h => by
   rw [List.take_succ_cons, errS] at h0
   by_cases hx : x.e = 0
   · rw [if_pos hx] at h0
     rw [errS, if_pos hx]
     exact errS_at (by simpa using hk) h0 (by simpa using h)
   · rw [if_neg hx] at h0; exact absurd h0 hx
theorem wD : ∀ {l : List Itm} {k : Nat} (hk : k < l.length), errS (l.take k) = 0 → l[k].e = 0 → errS (l.take (k + 1)) = 0
 | x :: r, 0, _, _, h => by simp only [List.getElem_cons_zero] at h; rw [Nat.zero_add, List.take_succ_cons, List.take_zero, errS, if_pos h]; rfl
 | x :: r, k + 1, hk, h0, h => by
   rw [List.take_succ_cons, errS] at h0
   by_cases hx : x.e = 0
   · rw [if_pos hx] at h0
     rw [List.take_succ_cons, errS, if_pos hx]
     exact wD (by simpa using hk) h0 (by simpa using h)
   · rw [if_neg hx] at h0; exact absurd h0 hx
theorem node_lit (val : Val) (attr : Atr) (S : List Itm) (lo : Nat) (g : List Giv) : qJ Tryz.prog 120 [.p (.agg (Nod.mk 1 val attr).pv), .view 1000000 5 lo S.length, .p (zm g)] (jE S) (.p (.agg (wU (Nod.mk 1 val attr) (S.drop lo) g).pv)) (jE S) := by
 have e : wU (Nod.mk 1 val attr) (S.drop lo) g = ⟨[], val, 0⟩ := rfl
 rw [e]
 refine qz (T := TTab) qa Tryz.func120 (by kernel_rfl) rfl rfl rfl ?_
 refine uA ?_
 refine uA ?_
 refine uB ?_
 refine uA ?_
 refine uC (fun h1 => ?_) (fun h1 => ?_)
 · refine uA ?_
   refine uQ ?_
   exact ⟨Or.inr rfl, _, _, [(1000000, 1000000)], _, Wk.refl _, rfl, rfl, .p (CvL.agg (.cons (.nil 3) (.refl _))), rfl, rfl⟩
 · cases h1
theorem node_attr (val : Val) (attr : Atr) (S : List Itm) (lo : Nat) (g : List Giv) (hn : g.length ≤ 1000000) (hb : ∀ x ∈ g, x.bag.length ≤ 1000000) : qJ Tryz.prog 120 [.p (.agg (Nod.mk 2 val attr).pv), .view 1000000 5 lo S.length, .p (zm g)] (jE S) (.p (.agg (wU (Nod.mk 2 val attr) (S.drop lo) g).pv)) (jE S) := by
 have e : wU (Nod.mk 2 val attr) (S.drop lo) g = ⟨(getS attr g).1, noVal, (getS attr g).2⟩ := rfl
 rw [e]
 refine qz (T := TTab) qa Tryz.func120 (by kernel_rfl) rfl rfl rfl ?_
 refine uA ?_
 refine uA ?_
 refine uB ?_
 refine uA ?_
 refine uC (fun h1 => ?_) (fun h1 => ?_)
 · cases h1
 · refine uA ?_
   refine uC (fun h2 => ?_) (fun h2 => ?_)
   · refine uR ?_
     refine uO (get_h attr g hn hb) ?_
     refine qb ?_
     refine uA ?_
     refine uQ ?_
     exact ⟨Or.inr rfl, _, _, [(1000000, 1000000)], _, Wk.refl _, rfl, rfl, .refl _, rfl, rfl⟩
   · cases h2
theorem drop_one {S : List Itm} {lo : Nat} (h : lo + 1 = S.length) : ∃ x, S.drop lo = [x] := List.length_eq_one_iff.1 (by rw [List.length_drop]; omega)
theorem drop_two {S : List Itm} {lo : Nat} (h : lo + 2 = S.length) : ∃ x y, S.drop lo = [x, y] := by
 have : (S.drop lo).length = 2 := by rw [List.length_drop]; omega
 match hd : S.drop lo, this with
 | [x, y], _ => exact ⟨x, y, rfl⟩
theorem wt {op : Int} {val : Val} {attr : Atr} {l : List Itm} {g : List Giv} (h1 : ¬ op = 1) (h2 : ¬ op = 2) (hd : decS op l = false) : wU (Nod.mk op val attr) l g = if errS l ≠ 0 then ⟨[], noVal, errS l⟩ else lastS op l := by
 unfold wU
 simp only
 rw [if_neg h1, if_neg h2, hd, if_neg (by simp)]
theorem node_one_h (val : Val) (attr : Atr) (S : List Itm) (lo : Nat) (g : List Giv) (hlo : lo + 1 = S.length) (hl : S.length ≤ 1000000) : qJ Tryz.prog 120 [.p (.agg (Nod.mk 3 val attr).pv), .view 1000000 5 lo S.length, .p (zm g)] (jE S) (.p (.agg (wU (Nod.mk 3 val attr) (S.drop lo) g).pv)) (jE S) := by
 have hN := wt (val := val) (attr := attr) (g := g) (op := 3) (l := S.drop lo) (by omega) (by omega) rfl
 refine qz (T := TTab) qa Tryz.func120 (by kernel_rfl) rfl rfl rfl ?_
 refine uA ?_
 refine uA ?_
 refine uB ?_
 refine uA ?_
 refine uC (fun h1 => ?_) (fun h1 => ?_)
 · cases h1
 · refine uA ?_
   refine uC (fun h2 => ?_) (fun h2 => ?_)
   · cases h2
   · refine uA ?_
     refine uC (fun h3 => ?_) (fun h3 => ?_)
     · cases h3
     · refine uA ?_
       refine uC (fun h4 => ?_) (fun h4 => ?_)
       · cases h4
       · refine qd ?_
         refine uZ [1, 3, 6] [(1000000, 1000000), (3, 3), (6, 6)] ?_
         refine uA ?_
         refine uA ?_
         refine uB ?_
         refine SW.wk (zp 10 900 76 3 rfl rfl) ?_
         refine uZ [1, 3, 6, 10, 55, 56, 57] [(1000000, 1000000), (3, 3), (6, 6), (900, 0)] ?_
         refine qw (fun m s => ∃ (k : Nat) (kk : Int), k ≤ (S.drop lo).length ∧ m = (S.drop lo).length - k ∧ kk = k ∧ errS ((S.drop lo).take k) = 0 ∧ s = ⟨122, [(1, .view 1000000 5 lo S.length), (3, .ptr 3 0), (6, .ptr 6 0), (10, .row 0), (55, .view 1000000 5 lo S.length), (56, .p (pI ((S.length - lo : Nat) : Int))), (57, .p (pI kk))], [(1000000, .row 176 5 (S.map Itm.pv)), (3, .cells ((Nod.mk 3 val attr).pv.map .p)), (6, .cells (([.v (.slice none 0 0), pI 0, pI 0, pS ⟨#[]⟩, pI 0] : List PV).map .p)), (0, .row 76 3 ((((S.drop lo).take k).map Itm.v).map Val.pv))]⟩) (S.drop lo).length ⟨0, 0, Nat.zero_le _, rfl, rfl, rfl, rfl⟩ ?_
         rintro m s ⟨k, _, hk, rfl, rfl, he0, rfl⟩
         refine uA ?_
         refine uC (fun hlt => ?_) (fun hlt => ?_)
         · refine qd ?_
           have hlt' : k < (S.drop lo).length := by rw [List.length_drop]; simpa using hlt
           have hk2 : k < S.length - lo := by rwa [List.length_drop] at hlt'
           have hget : (S.drop lo)[k]? = some (S.drop lo)[k] := List.getElem?_eq_getElem hlt'
           refine uB ?_
           refine uR ?_
           refine qe qa rfl rfl (by omega) rfl ?_
           refine uS ?_
           refine qe qa rfl (qU rfl rfl rfl rfl rfl (show (S.map Itm.pv).getD (lo + Int.toNat (k : Int)) [] = (S.drop lo)[k].pv from zc hget) rfl) (by rw [List.length_map, Int.toNat_natCast]; omega) rfl ?_
           refine uS ?_
           refine qb ?_
           refine uA ?_
           refine uC (fun hne => ?_) (fun hne => ?_)
           · have hne' : (S.drop lo)[k].e ≠ 0 := by simpa using hne
             have e1 := errS_at hlt' he0 hne'
             rw [hN, e1, if_pos hne']
             refine uA ?_
             refine uQ ?_
             exact ⟨Or.inr rfl, _, _, [(1000000, 1000000)], _, Wk.refl _, rfl, rfl, .p (CvL.agg (.cons (.nil 3) (.refl _))), rfl, rfl⟩
           · have hne' : (S.drop lo)[k].e = 0 := by simpa using hne
             refine qd ?_
             refine uR ?_
             refine qy rfl (qg qa rfl rfl rfl rfl rfl rfl rfl rfl rfl rfl rfl rfl rfl rfl rfl rfl (by simp only [List.length_append, List.length_map, List.length_take, List.length_drop]; unfold reachBytes; simp; omega) (by simp only [List.length_append, List.length_map, List.length_take, List.length_drop]; simp; omega) ?_)
             refine uS ?_
             refine qb ?_
             refine uA ?_
             refine ⟨_, _, ?_, qh [1, 3, 6, 10, 55, 56, 57] [(1000000, 1000000), (3, 3), (6, 6), (71, 0)] rfl rfl, k + 1, _, hlt', rfl, qf hlt' (by rw [List.length_drop]; omega), wD hlt' he0 hne', ?_⟩
             · omega
             · rw [List.take_succ_eq_append_getElem hlt', List.map_append, List.map_append]; rfl
         · refine qt ?_
           have hkk : k = (S.drop lo).length := by
            have : ¬ (k : Int) < ((S.length - lo : Nat) : Int) := by simpa using hlt
            rw [List.length_drop] at hk ⊢
            omega
           subst hkk
           rw [List.take_length] at he0 ⊢
           rw [hN, if_neg (by simp [he0])]
           clear hN
           refine uA ?_
           obtain ⟨x, hx⟩ := drop_one hlo
           have h0 : (S.drop lo)[0]? = some x := by rw [hx]; rfl
           rw [hx]
           refine uB ?_
           refine uA ?_
           refine uC (fun h5 => ?_) (fun h5 => ?_)
           · refine uR ?_
             refine qe qa rfl rfl (by omega) rfl ?_
             refine uS ?_
             refine qe qa rfl (qU rfl rfl rfl rfl rfl (show (S.map Itm.pv).getD (lo + Int.toNat 0) [] = x.pv from zc h0) rfl) (by rw [List.length_map]; omega) rfl ?_
             refine uS ?_
             refine qb ?_
             refine uC (fun h6 => ?_) (fun h6 => ?_)
             · have h7 : ¬ x.bag.length = 1 := by
                intro h7
                simp at h6
                omega
               have e2 : lastS 3 [x] = ⟨[], noVal, 4⟩ := by unfold lastS; rw [if_pos rfl]; exact if_neg h7
               rw [e2]
               refine uA ?_
               refine uQ ?_
               exact ⟨Or.inr rfl, _, _, [(1000000, 1000000)], _, Wk.refl _, rfl, rfl, .p (CvL.agg (.cons (.nil 3) (.refl _))), rfl, rfl⟩
             · have h7 : x.bag.length = 1 := by
                have : ((x.bag.map Val.pv).length : Int) = 1 := by simpa using h6
                rw [List.length_map] at this
                omega
               obtain ⟨v, hv⟩ := List.length_eq_one_iff.1 h7
               have e2 : lastS 3 [x] = ⟨[], v, 0⟩ := by
                unfold lastS
                rw [if_pos rfl]
                show (if x.bag.length = 1 then _ else _) = _
                rw [if_pos h7]
                show Itm.mk [] (x.bag.getD 0 noVal) 0 = _
                rw [hv]; rfl
               rw [e2]
               refine qd ?_
               refine uR ?_
               refine qe qa rfl rfl (by omega) rfl ?_
               refine uS ?_
               refine qe qa rfl (qU rfl rfl rfl rfl rfl (show (S.map Itm.pv).getD (lo + Int.toNat 0) [] = x.pv from zc h0) rfl) (by rw [List.length_map]; omega) rfl ?_
               refine uS ?_
               refine qe qa rfl rfl (by rw [List.length_map, h7]; omega) rfl ?_
               rw [show (x.bag.map Val.pv).getD (Int.toNat 0) [] = v.pv by rw [hv]; rfl]
               refine uS ?_
               refine qb ?_
               refine uQ ?_
               exact ⟨Or.inr rfl, _, _, [(1000000, 1000000)], _, Wk.refl _, rfl, rfl, .p (CvL.agg (.cons (.nil 3) (.refl _))), rfl, rfl⟩
           · cases h5
theorem node_size_h (val : Val) (attr : Atr) (S : List Itm) (lo : Nat) (g : List Giv) (hlo : lo + 1 = S.length) (hl : S.length ≤ 1000000) : qJ Tryz.prog 120 [.p (.agg (Nod.mk 4 val attr).pv), .view 1000000 5 lo S.length, .p (zm g)] (jE S) (.p (.agg (wU (Nod.mk 4 val attr) (S.drop lo) g).pv)) (jE S) := by
 have hN := wt (val := val) (attr := attr) (g := g) (op := 4) (l := S.drop lo) (by omega) (by omega) rfl
 refine qz (T := TTab) qa Tryz.func120 (by kernel_rfl) rfl rfl rfl ?_
 refine uA ?_
 refine uA ?_
 refine uB ?_
 refine uA ?_
 refine uC (fun h1 => ?_) (fun h1 => ?_)
 · cases h1
 · refine uA ?_
   refine uC (fun h2 => ?_) (fun h2 => ?_)
   · cases h2
   · refine uA ?_
     refine uC (fun h3 => ?_) (fun h3 => ?_)
     · cases h3
     · refine uA ?_
       refine uC (fun h4 => ?_) (fun h4 => ?_)
       · cases h4
       · refine qd ?_
         refine uZ [1, 3, 6] [(1000000, 1000000), (3, 3), (6, 6)] ?_
         refine uA ?_
         refine uA ?_
         refine uB ?_
         refine SW.wk (zp 10 900 76 3 rfl rfl) ?_
         refine uZ [1, 3, 6, 10, 55, 56, 57] [(1000000, 1000000), (3, 3), (6, 6), (900, 0)] ?_
         refine qw (fun m s => ∃ (k : Nat) (kk : Int), k ≤ (S.drop lo).length ∧ m = (S.drop lo).length - k ∧ kk = k ∧ errS ((S.drop lo).take k) = 0 ∧ s = ⟨122, [(1, .view 1000000 5 lo S.length), (3, .ptr 3 0), (6, .ptr 6 0), (10, .row 0), (55, .view 1000000 5 lo S.length), (56, .p (pI ((S.length - lo : Nat) : Int))), (57, .p (pI kk))], [(1000000, .row 176 5 (S.map Itm.pv)), (3, .cells ((Nod.mk 4 val attr).pv.map .p)), (6, .cells (([.v (.slice none 0 0), pI 0, pI 0, pS ⟨#[]⟩, pI 0] : List PV).map .p)), (0, .row 76 3 ((((S.drop lo).take k).map Itm.v).map Val.pv))]⟩) (S.drop lo).length ⟨0, 0, Nat.zero_le _, rfl, rfl, rfl, rfl⟩ ?_
         rintro m s ⟨k, _, hk, rfl, rfl, he0, rfl⟩
         refine uA ?_
         refine uC (fun hlt => ?_) (fun hlt => ?_)
         · refine qd ?_
           have hlt' : k < (S.drop lo).length := by rw [List.length_drop]; simpa using hlt
           have hk2 : k < S.length - lo := by rwa [List.length_drop] at hlt'
           have hget : (S.drop lo)[k]? = some (S.drop lo)[k] := List.getElem?_eq_getElem hlt'
           refine uB ?_
           refine uR ?_
           refine qe qa rfl rfl (by omega) rfl ?_
           refine uS ?_
           refine qe qa rfl (qU rfl rfl rfl rfl rfl (show (S.map Itm.pv).getD (lo + Int.toNat (k : Int)) [] = (S.drop lo)[k].pv from zc hget) rfl) (by rw [List.length_map, Int.toNat_natCast]; omega) rfl ?_
           refine uS ?_
           refine qb ?_
           refine uA ?_
           refine uC (fun hne => ?_) (fun hne => ?_)
           · have hne' : (S.drop lo)[k].e ≠ 0 := by simpa using hne
             have e1 := errS_at hlt' he0 hne'
             rw [hN, e1, if_pos hne']
             refine uA ?_
             refine uQ ?_
             exact ⟨Or.inr rfl, _, _, [(1000000, 1000000)], _, Wk.refl _, rfl, rfl, .p (CvL.agg (.cons (.nil 3) (.refl _))), rfl, rfl⟩
           · have hne' : (S.drop lo)[k].e = 0 := by simpa using hne
             refine qd ?_
             refine uR ?_
             refine qy rfl (qg qa rfl rfl rfl rfl rfl rfl rfl rfl rfl rfl rfl rfl rfl rfl rfl rfl (by simp only [List.length_append, List.length_map, List.length_take, List.length_drop]; unfold reachBytes; simp; omega) (by simp only [List.length_append, List.length_map, List.length_take, List.length_drop]; simp; omega) ?_)
             refine uS ?_
             refine qb ?_
             refine uA ?_
             refine ⟨_, _, ?_, qh [1, 3, 6, 10, 55, 56, 57] [(1000000, 1000000), (3, 3), (6, 6), (71, 0)] rfl rfl, k + 1, _, hlt', rfl, qf hlt' (by rw [List.length_drop]; omega), wD hlt' he0 hne', ?_⟩
             · omega
             · rw [List.take_succ_eq_append_getElem hlt', List.map_append, List.map_append]; rfl
         · refine qt ?_
           have hkk : k = (S.drop lo).length := by
            have : ¬ (k : Int) < ((S.length - lo : Nat) : Int) := by simpa using hlt
            rw [List.length_drop] at hk ⊢
            omega
           subst hkk
           rw [List.take_length] at he0 ⊢
           rw [hN, if_neg (by simp [he0])]
           clear hN
           refine uA ?_
           obtain ⟨x, hx⟩ := drop_one hlo
           have h0 : (S.drop lo)[0]? = some x := by rw [hx]; rfl
           rw [hx]
           refine uB ?_
           refine uA ?_
           refine uC (fun h5 => ?_) (fun h5 => ?_)
           · cases h5
           · refine uA ?_
             refine uC (fun h6 => ?_) (fun h6 => ?_)
             · have e2 : lastS 4 [x] = ⟨[], ⟨2, x.bag.length, ⟨#[]⟩⟩, 0⟩ := rfl
               rw [e2]
               refine uR ?_
               refine qe qa rfl rfl (by omega) rfl ?_
               refine uS ?_
               refine qe qa rfl (qU rfl rfl rfl rfl rfl (show (S.map Itm.pv).getD (lo + Int.toNat 0) [] = x.pv from zc h0) rfl) (by rw [List.length_map]; omega) rfl ?_
               refine uS ?_
               rw [List.length_map]
               refine qb ?_
               refine uQ ?_
               exact ⟨Or.inr rfl, _, _, [(1000000, 1000000)], _, Wk.refl _, rfl, rfl, .p (CvL.agg (.cons (.nil 3) (.refl _))), rfl, rfl⟩
             · cases h6
theorem node_has_h (val : Val) (attr : Atr) (S : List Itm) (lo : Nat) (g : List Giv) (hlo : lo + 2 = S.length) (hl : S.length ≤ 1000000) (hS : ∀ x ∈ S, x.Fit) : qJ Tryz.prog 120 [.p (.agg (Nod.mk 5 val attr).pv), .view 1000000 5 lo S.length, .p (zm g)] (jE S) (.p (.agg (wU (Nod.mk 5 val attr) (S.drop lo) g).pv)) (jE S) := by
 have hN := wt (val := val) (attr := attr) (g := g) (op := 5) (l := S.drop lo) (by omega) (by omega) rfl
 refine qz (T := TTab) qa Tryz.func120 (by kernel_rfl) rfl rfl rfl ?_
 refine uA ?_
 refine uA ?_
 refine uB ?_
 refine uA ?_
 refine uC (fun h1 => ?_) (fun h1 => ?_)
 · cases h1
 · refine uA ?_
   refine uC (fun h2 => ?_) (fun h2 => ?_)
   · cases h2
   · refine uA ?_
     refine uC (fun h3 => ?_) (fun h3 => ?_)
     · cases h3
     · refine uA ?_
       refine uC (fun h4 => ?_) (fun h4 => ?_)
       · cases h4
       · refine qd ?_
         refine uZ [1, 3, 6] [(1000000, 1000000), (3, 3), (6, 6)] ?_
         refine uA ?_
         refine uA ?_
         refine uB ?_
         refine SW.wk (zp 10 900 76 3 rfl rfl) ?_
         refine uZ [1, 3, 6, 10, 55, 56, 57] [(1000000, 1000000), (3, 3), (6, 6), (900, 0)] ?_
         refine qw (fun m s => ∃ (k : Nat) (kk : Int), k ≤ (S.drop lo).length ∧ m = (S.drop lo).length - k ∧ kk = k ∧ errS ((S.drop lo).take k) = 0 ∧ s = ⟨122, [(1, .view 1000000 5 lo S.length), (3, .ptr 3 0), (6, .ptr 6 0), (10, .row 0), (55, .view 1000000 5 lo S.length), (56, .p (pI ((S.length - lo : Nat) : Int))), (57, .p (pI kk))], [(1000000, .row 176 5 (S.map Itm.pv)), (3, .cells ((Nod.mk 5 val attr).pv.map .p)), (6, .cells (([.v (.slice none 0 0), pI 0, pI 0, pS ⟨#[]⟩, pI 0] : List PV).map .p)), (0, .row 76 3 ((((S.drop lo).take k).map Itm.v).map Val.pv))]⟩) (S.drop lo).length ⟨0, 0, Nat.zero_le _, rfl, rfl, rfl, rfl⟩ ?_
         rintro m s ⟨k, _, hk, rfl, rfl, he0, rfl⟩
         refine uA ?_
         refine uC (fun hlt => ?_) (fun hlt => ?_)
         · refine qd ?_
           have hlt' : k < (S.drop lo).length := by rw [List.length_drop]; simpa using hlt
           have hk2 : k < S.length - lo := by rwa [List.length_drop] at hlt'
           have hget : (S.drop lo)[k]? = some (S.drop lo)[k] := List.getElem?_eq_getElem hlt'
           refine uB ?_
           refine uR ?_
           refine qe qa rfl rfl (by omega) rfl ?_
           refine uS ?_
           refine qe qa rfl (qU rfl rfl rfl rfl rfl (show (S.map Itm.pv).getD (lo + Int.toNat (k : Int)) [] = (S.drop lo)[k].pv from zc hget) rfl) (by rw [List.length_map, Int.toNat_natCast]; omega) rfl ?_
           refine uS ?_
           refine qb ?_
           refine uA ?_
           refine uC (fun hne => ?_) (fun hne => ?_)
           · have hne' : (S.drop lo)[k].e ≠ 0 := by simpa using hne
             have e1 := errS_at hlt' he0 hne'
             rw [hN, e1, if_pos hne']
             refine uA ?_
             refine uQ ?_
             exact ⟨Or.inr rfl, _, _, [(1000000, 1000000)], _, Wk.refl _, rfl, rfl, .p (CvL.agg (.cons (.nil 3) (.refl _))), rfl, rfl⟩
           · have hne' : (S.drop lo)[k].e = 0 := by simpa using hne
             refine qd ?_
             refine uR ?_
             refine qy rfl (qg qa rfl rfl rfl rfl rfl rfl rfl rfl rfl rfl rfl rfl rfl rfl rfl rfl (by simp only [List.length_append, List.length_map, List.length_take, List.length_drop]; unfold reachBytes; simp; omega) (by simp only [List.length_append, List.length_map, List.length_take, List.length_drop]; simp; omega) ?_)
             refine uS ?_
             refine qb ?_
             refine uA ?_
             refine ⟨_, _, ?_, qh [1, 3, 6, 10, 55, 56, 57] [(1000000, 1000000), (3, 3), (6, 6), (71, 0)] rfl rfl, k + 1, _, hlt', rfl, qf hlt' (by rw [List.length_drop]; omega), wD hlt' he0 hne', ?_⟩
             · omega
             · rw [List.take_succ_eq_append_getElem hlt', List.map_append, List.map_append]; rfl
         · refine qt ?_
           have hkk : k = (S.drop lo).length := by
            have : ¬ (k : Int) < ((S.length - lo : Nat) : Int) := by simpa using hlt
            rw [List.length_drop] at hk ⊢
            omega
           subst hkk
           rw [List.take_length] at he0 ⊢
           rw [hN, if_neg (by simp [he0])]
           clear hN
           refine uA ?_
           obtain ⟨x, y, hx⟩ := drop_two hlo
           have h0 : (S.drop lo)[0]? = some x := by rw [hx]; rfl
           have h1' : (S.drop lo)[1]? = some y := by rw [hx]; rfl
           have hxl : x.bag.length ≤ 1000000 := (hS x (List.mem_of_mem_drop (i := lo) (by rw [hx]; simp))).len
           rw [hx]
           refine uB ?_
           refine uA ?_
           refine uC (fun h5 => ?_) (fun h5 => ?_)
           · cases h5
           · refine uA ?_
             refine uC (fun h6 => ?_) (fun h6 => ?_)
             · cases h6
             · refine uA ?_
               refine uC (fun h7 => ?_) (fun h7 => ?_)
               · have e2 : lastS 5 [x, y] = itmT (hasV x.bag y.v) := rfl
                 rw [e2]
                 refine uD [6] [1, 3, 5, 7, 9, 11, 13, 15, 16, 18, 20] ?_
                 refine qx qa rfl rfl rfl (by omega) rfl ?_
                 refine uT ?_
                 refine qx qa rfl rfl (qU rfl rfl rfl rfl rfl (show (S.map Itm.pv).getD (lo + Int.toNat 0) [] = x.pv from zc h0) rfl) (by rw [List.length_map]; omega) rfl ?_
                 refine uT ?_
                 refine qx qa rfl rfl rfl (by omega) rfl ?_
                 refine uT ?_
                 refine qx qa rfl rfl (qU rfl rfl rfl rfl rfl (show (S.map Itm.pv).getD (lo + Int.toNat 1) [] = y.pv from zc h1') rfl) (by rw [List.length_map]; show lo + 1 < _; omega) rfl ?_
                 refine uT ?_
                 refine uk (has_h x.bag y.v hxl) ?_
                 refine uo (truth_h (hasV x.bag y.v)) ?_
                 refine qY ?_
                 refine uQ ?_
                 exact ⟨Or.inr rfl, _, _, [(1000000, 1000000)], _, Wk.refl _, rfl, rfl, .refl _, rfl, rfl⟩
               · cases h7
theorem jN (op : Int) (hop : 6 ≤ op ∧ op ≤ 11) (val : Val) (attr : Atr) (S : List Itm) (lo : Nat) (g : List Giv) (hl : S.length ≤ 1000000) (hlo : lo ≤ S.length) (hS : ∀ x ∈ S, x.Fit) : qJ Tryz.prog 120 [.p (.agg (Nod.mk op val attr).pv), .view 1000000 5 lo S.length, .p (zm g)] (jE S) (.p (.agg (wU (Nod.mk op val attr) (S.drop lo) g).pv)) (jE S) := by
 have no : ∀ {k : Int}, (op == k) = true → k < 6 ∨ 11 < k → False := fun {k} h h2 => by
  have e : op = k := by simpa using h
  omega
 have hN := wt (val := val) (attr := attr) (g := g) (op := op) (l := S.drop lo) (by omega) (by omega) (by
  unfold decS
  rw [show decide (op = 12) = false from decide_eq_false (by omega), show decide (op = 13) = false from decide_eq_false (by omega)]; rfl)
 refine qz (T := TTab) qa Tryz.func120 (by kernel_rfl) rfl rfl rfl ?_
 refine uA ?_
 refine uA ?_
 refine uB ?_
 refine uA ?_
 refine uC (fun h1 => ?_) (fun h1 => ?_)
 · exact (no h1 (by omega)).elim
 · refine uA ?_
   refine uC (fun h2 => ?_) (fun h2 => ?_)
   · exact (no h2 (by omega)).elim
   · refine uA ?_
     refine uC (fun h3 => ?_) (fun h3 => ?_)
     · exact (no h3 (by omega)).elim
     · refine uA ?_
       refine uC (fun h4 => ?_) (fun h4 => ?_)
       · exact (no h4 (by omega)).elim
       · refine qd ?_
         refine uZ [1, 3, 6] [(1000000, 1000000), (3, 3), (6, 6)] ?_
         refine uA ?_
         refine uA ?_
         refine uB ?_
         refine SW.wk (zp 10 900 76 3 rfl rfl) ?_
         refine uZ [1, 3, 6, 10, 55, 56, 57] [(1000000, 1000000), (3, 3), (6, 6), (900, 0)] ?_
         refine qw (fun m s => ∃ (k : Nat) (kk : Int), k ≤ (S.drop lo).length ∧ m = (S.drop lo).length - k ∧ kk = k ∧ errS ((S.drop lo).take k) = 0 ∧ s = ⟨122, [(1, .view 1000000 5 lo S.length), (3, .ptr 3 0), (6, .ptr 6 0), (10, .row 0), (55, .view 1000000 5 lo S.length), (56, .p (pI ((S.length - lo : Nat) : Int))), (57, .p (pI kk))], [(1000000, .row 176 5 (S.map Itm.pv)), (3, .cells ((Nod.mk op val attr).pv.map .p)), (6, .cells (([.v (.slice none 0 0), pI 0, pI 0, pS ⟨#[]⟩, pI 0] : List PV).map .p)), (0, .row 76 3 ((((S.drop lo).take k).map Itm.v).map Val.pv))]⟩) (S.drop lo).length ⟨0, 0, Nat.zero_le _, rfl, rfl, rfl, rfl⟩ ?_
         rintro m s ⟨k, _, hk, rfl, rfl, he0, rfl⟩
         refine uA ?_
         refine uC (fun hlt => ?_) (fun hlt => ?_)
         · refine qd ?_
           have hlt' : k < (S.drop lo).length := by rw [List.length_drop]; simpa using hlt
           have hk2 : k < S.length - lo := by rwa [List.length_drop] at hlt'
           have hget : (S.drop lo)[k]? = some (S.drop lo)[k] := List.getElem?_eq_getElem hlt'
           refine uB ?_
           refine uR ?_
           refine qe qa rfl rfl (by omega) rfl ?_
           refine uS ?_
           refine qe qa rfl (qU rfl rfl rfl rfl rfl (show (S.map Itm.pv).getD (lo + Int.toNat (k : Int)) [] = (S.drop lo)[k].pv from zc hget) rfl) (by rw [List.length_map, Int.toNat_natCast]; omega) rfl ?_
           refine uS ?_
           refine qb ?_
           refine uA ?_
           refine uC (fun hne => ?_) (fun hne => ?_)
           · have hne' : (S.drop lo)[k].e ≠ 0 := by simpa using hne
             have e1 := errS_at hlt' he0 hne'
             rw [hN, e1, if_pos hne']
             refine uA ?_
             refine uQ ?_
             exact ⟨Or.inr rfl, _, _, [(1000000, 1000000)], _, Wk.refl _, rfl, rfl, .p (CvL.agg (.cons (.nil 3) (.refl _))), rfl, rfl⟩
           · have hne' : (S.drop lo)[k].e = 0 := by simpa using hne
             refine qd ?_
             refine uR ?_
             refine qy rfl (qg qa rfl rfl rfl rfl rfl rfl rfl rfl rfl rfl rfl rfl rfl rfl rfl rfl (by simp only [List.length_append, List.length_map, List.length_take, List.length_drop]; unfold reachBytes; simp; omega) (by simp only [List.length_append, List.length_map, List.length_take, List.length_drop]; simp; omega) ?_)
             refine uS ?_
             refine qb ?_
             refine uA ?_
             refine ⟨_, _, ?_, qh [1, 3, 6, 10, 55, 56, 57] [(1000000, 1000000), (3, 3), (6, 6), (71, 0)] rfl rfl, k + 1, _, hlt', rfl, qf hlt' (by rw [List.length_drop]; omega), wD hlt' he0 hne', ?_⟩
             · omega
             · rw [List.take_succ_eq_append_getElem hlt', List.map_append, List.map_append]; rfl
         · refine qt ?_
           have hkk : k = (S.drop lo).length := by
            have : ¬ (k : Int) < ((S.length - lo : Nat) : Int) := by simpa using hlt
            rw [List.length_drop] at hk ⊢
            omega
           subst hkk
           rw [List.take_length] at he0 ⊢
           rw [hN, if_neg (by simp [he0])]
           clear hN
           refine uA ?_
           refine uB ?_
           refine uA ?_
           refine uC (fun h5 => ?_) (fun h5 => ?_)
           · exact (no h5 (by omega)).elim
           · refine uA ?_
             refine uC (fun h6 => ?_) (fun h6 => ?_)
             · exact (no h6 (by omega)).elim
             · refine uA ?_
               refine uC (fun h7 => ?_) (fun h7 => ?_)
               · exact (no h7 (by omega)).elim
               · refine qd ?_
                 have e2 : lastS op (S.drop lo) = ⟨[], (zD op ((S.drop lo).map Itm.v)).1, (zD op ((S.drop lo).map Itm.v)).2⟩ := by
                  unfold lastS
                  rw [if_neg (by omega), if_neg (by omega), if_neg (by omega)]
                 rw [e2]
                 refine uR ?_
                 refine uK (call_h op ((S.drop lo).map Itm.v) (fun v hv => by obtain ⟨x, hx, rfl⟩ := List.mem_map.1 hv; exact (hS x (List.mem_of_mem_drop hx)).v)) ?_
                 refine qb ?_
                 generalize zD op ((S.drop lo).map Itm.v) = r
                 refine uA ?_
                 refine uQ ?_
                 exact ⟨Or.inr rfl, _, _, [(1000000, 1000000)], _, Wk.refl _, rfl, rfl, .p (CvL.agg (.cons (.nil 3) (.refl _))), rfl, rfl⟩
theorem node_12_h (val : Val) (attr : Atr) (S : List Itm) (lo : Nat) (g : List Giv) (hl : S.length ≤ 1000000) (hlo : lo + 2 = S.length) (hS : ∀ x ∈ S, x.Fit) : qJ Tryz.prog 120 [.p (.agg (Nod.mk 12 val attr).pv), .view 1000000 5 lo S.length, .p (zm g)] (jE S) (.p (.agg (wU (Nod.mk 12 val attr) (S.drop lo) g).pv)) (jE S) := by
 obtain ⟨x, y, hx⟩ := drop_two hlo
 have h0 : (S.drop lo)[0]? = some x := by rw [hx]; rfl
 have h1' : (S.drop lo)[1]? = some y := by rw [hx]; rfl
 have hd0 : decS 12 (S.drop lo) = (x.is 0 || y.is 0) := by rw [hx]; rfl
 cases hdec : (x.is 0 || y.is 0) with
 | true =>
   have e : wU (Nod.mk 12 val attr) (S.drop lo) g = itmT false := by
    unfold wU
    simp only
    rw [if_neg (by omega), if_neg (by omega), hd0, hdec, if_pos rfl]; rfl
   rw [e]
   refine qz (T := TTab) qa Tryz.func120 (by kernel_rfl) rfl rfl rfl ?_
   refine uA ?_
   refine uA ?_
   refine uB ?_
   refine uA ?_
   refine uC (fun h1 => ?_) (fun h1 => ?_)
   · cases h1
   · refine uA ?_
     refine uC (fun h2 => ?_) (fun h2 => ?_)
     · cases h2
     · refine uA ?_
       refine uC (fun h3 => ?_) (fun h3 => ?_)
       rotate_left
       · cases h3
       refine qd ?_
       refine uC (fun h4 => ?_) (fun h4 => ?_)
       rotate_left
       · cases h4
       refine uA ?_
       (repeat refine qH ?_); refine ql (by kernel_rfl) ?_
       repeat (refine qi qa rfl (by exact True.intro) rfl ?_)
       refine qi qa rfl (by omega) rfl ?_
       refine qi qa (qU rfl rfl rfl rfl rfl (show (S.map Itm.pv).getD (lo + Int.toNat 0) [] = x.pv from zc h0) rfl) (by rw [List.length_map]; omega) rfl ?_
       repeat (refine qi qa rfl (by exact True.intro) rfl ?_)
       refine zf rfl rfl rfl rfl (is_h x _) rfl rfl ?_
       repeat (refine qi qa rfl (by exact True.intro) rfl ?_)
       refine qi qa rfl (by omega) rfl ?_
       refine qi qa (qU rfl rfl rfl rfl rfl (show (S.map Itm.pv).getD (lo + Int.toNat 1) [] = y.pv from zc h1') rfl) (by rw [List.length_map]; show lo + 1 < _; omega) rfl ?_
       repeat (refine qi qa rfl (by exact True.intro) rfl ?_)
       refine zf rfl rfl rfl rfl (is_h y _) rfl rfl ?_
       repeat (refine qi qa rfl (by exact True.intro) rfl ?_)
       refine qP ?_
       refine uC (fun h9 => ?_) (fun h9 => ?_)
       · refine uR ?_
         refine uO (truth_h false) ?_
         refine qb ?_
         refine uQ ?_
         exact ⟨Or.inr rfl, _, _, [(1000000, 1000000)], _, Wk.refl _, rfl, rfl, .refl _, rfl, rfl⟩
       · have h9' : (x.is 0 || y.is 0) = false := by
          rw [← h9]
          show _ = (bif x.is 0 then true else y.is 0)
          cases x.is 0 <;> rfl
         rw [hdec] at h9'
         cases h9'
 | false =>
   have hN := wt (val := val) (attr := attr) (g := g) (op := 12) (l := S.drop lo) (by omega) (by omega) (hd0.trans hdec)
   refine qz (T := TTab) qa Tryz.func120 (by kernel_rfl) rfl rfl rfl ?_
   refine uA ?_
   refine uA ?_
   refine uB ?_
   refine uA ?_
   refine uC (fun h1 => ?_) (fun h1 => ?_)
   · cases h1
   · refine uA ?_
     refine uC (fun h2 => ?_) (fun h2 => ?_)
     · cases h2
     · refine uA ?_
       refine uC (fun h3 => ?_) (fun h3 => ?_)
       rotate_left
       · cases h3
       refine qd ?_
       refine uC (fun h4 => ?_) (fun h4 => ?_)
       rotate_left
       · cases h4
       refine uA ?_
       (repeat refine qH ?_); refine ql (by kernel_rfl) ?_
       repeat (refine qi qa rfl (by exact True.intro) rfl ?_)
       refine qi qa rfl (by omega) rfl ?_
       refine qi qa (qU rfl rfl rfl rfl rfl (show (S.map Itm.pv).getD (lo + Int.toNat 0) [] = x.pv from zc h0) rfl) (by rw [List.length_map]; omega) rfl ?_
       repeat (refine qi qa rfl (by exact True.intro) rfl ?_)
       refine zf rfl rfl rfl rfl (is_h x _) rfl rfl ?_
       repeat (refine qi qa rfl (by exact True.intro) rfl ?_)
       refine qi qa rfl (by omega) rfl ?_
       refine qi qa (qU rfl rfl rfl rfl rfl (show (S.map Itm.pv).getD (lo + Int.toNat 1) [] = y.pv from zc h1') rfl) (by rw [List.length_map]; show lo + 1 < _; omega) rfl ?_
       repeat (refine qi qa rfl (by exact True.intro) rfl ?_)
       refine zf rfl rfl rfl rfl (is_h y _) rfl rfl ?_
       repeat (refine qi qa rfl (by exact True.intro) rfl ?_)
       refine qP ?_
       refine uC (fun h9 => ?_) (fun h9 => ?_)
       · have h9' : (x.is 0 || y.is 0) = true := by
          rw [← h9]
          show _ = (bif x.is 0 then true else y.is 0)
          cases x.is 0 <;> rfl
         rw [hdec] at h9'
         cases h9'
       · refine qd ?_
         clear h0 h1' hx
         refine uZ [1, 3, 6] [(1000000, 1000000), (3, 3), (6, 6)] ?_
         refine uA ?_
         refine uA ?_
         refine uB ?_
         refine SW.wk (zp 10 900 76 3 rfl rfl) ?_
         refine uZ [1, 3, 6, 10, 55, 56, 57] [(1000000, 1000000), (3, 3), (6, 6), (900, 0)] ?_
         refine qw (fun m s => ∃ (k : Nat) (kk : Int), k ≤ (S.drop lo).length ∧ m = (S.drop lo).length - k ∧ kk = k ∧ errS ((S.drop lo).take k) = 0 ∧ s = ⟨122, [(1, .view 1000000 5 lo S.length), (3, .ptr 3 0), (6, .ptr 6 0), (10, .row 0), (55, .view 1000000 5 lo S.length), (56, .p (pI ((S.length - lo : Nat) : Int))), (57, .p (pI kk))], [(1000000, .row 176 5 (S.map Itm.pv)), (3, .cells ((Nod.mk 12 val attr).pv.map .p)), (6, .cells (([.v (.slice none 0 0), pI 0, pI 0, pS ⟨#[]⟩, pI 0] : List PV).map .p)), (0, .row 76 3 ((((S.drop lo).take k).map Itm.v).map Val.pv))]⟩) (S.drop lo).length ⟨0, 0, Nat.zero_le _, rfl, rfl, rfl, rfl⟩ ?_
         rintro m s ⟨k, _, hk, rfl, rfl, he0, rfl⟩
         refine uA ?_
         refine uC (fun hlt => ?_) (fun hlt => ?_)
         · refine qd ?_
           have hlt' : k < (S.drop lo).length := by rw [List.length_drop]; simpa using hlt
           have hk2 : k < S.length - lo := by rwa [List.length_drop] at hlt'
           have hget : (S.drop lo)[k]? = some (S.drop lo)[k] := List.getElem?_eq_getElem hlt'
           refine uB ?_
           refine uR ?_
           refine qe qa rfl rfl (by omega) rfl ?_
           refine uS ?_
           refine qe qa rfl (qU rfl rfl rfl rfl rfl (show (S.map Itm.pv).getD (lo + Int.toNat (k : Int)) [] = (S.drop lo)[k].pv from zc hget) rfl) (by rw [List.length_map, Int.toNat_natCast]; omega) rfl ?_
           refine uS ?_
           refine qb ?_
           refine uA ?_
           refine uC (fun hne => ?_) (fun hne => ?_)
           · have hne' : (S.drop lo)[k].e ≠ 0 := by simpa using hne
             have e1 := errS_at hlt' he0 hne'
             rw [hN, e1, if_pos hne']
             refine uA ?_
             refine uQ ?_
             exact ⟨Or.inr rfl, _, _, [(1000000, 1000000)], _, Wk.refl _, rfl, rfl, .p (CvL.agg (.cons (.nil 3) (.refl _))), rfl, rfl⟩
           · have hne' : (S.drop lo)[k].e = 0 := by simpa using hne
             refine qd ?_
             refine uR ?_
             refine qy rfl (qg qa rfl rfl rfl rfl rfl rfl rfl rfl rfl rfl rfl rfl rfl rfl rfl rfl (by simp only [List.length_append, List.length_map, List.length_take, List.length_drop]; unfold reachBytes; simp; omega) (by simp only [List.length_append, List.length_map, List.length_take, List.length_drop]; simp; omega) ?_)
             refine uS ?_
             refine qb ?_
             refine uA ?_
             refine ⟨_, _, ?_, qh [1, 3, 6, 10, 55, 56, 57] [(1000000, 1000000), (3, 3), (6, 6), (71, 0)] rfl rfl, k + 1, _, hlt', rfl, qf hlt' (by rw [List.length_drop]; omega), wD hlt' he0 hne', ?_⟩
             · omega
             · rw [List.take_succ_eq_append_getElem hlt', List.map_append, List.map_append]; rfl
         · refine qt ?_
           have hkk : k = (S.drop lo).length := by
            have : ¬ (k : Int) < ((S.length - lo : Nat) : Int) := by simpa using hlt
            rw [List.length_drop] at hk ⊢
            omega
           subst hkk
           rw [List.take_length] at he0 ⊢
           rw [hN, if_neg (by simp [he0])]
           clear hN
           refine uA ?_
           refine uB ?_
           refine uA ?_
           refine uC (fun h5 => ?_) (fun h5 => ?_)
           · cases h5
           · refine uA ?_
             refine uC (fun h6 => ?_) (fun h6 => ?_)
             · cases h6
             · refine uA ?_
               refine uC (fun h7 => ?_) (fun h7 => ?_)
               · cases h7
               · refine qd ?_
                 have e2 : lastS 12 (S.drop lo) = ⟨[], (zD 12 ((S.drop lo).map Itm.v)).1, (zD 12 ((S.drop lo).map Itm.v)).2⟩ := rfl
                 rw [e2]
                 refine uR ?_
                 refine uK (call_h 12 ((S.drop lo).map Itm.v) (fun v hv => by obtain ⟨x, hx, rfl⟩ := List.mem_map.1 hv; exact (hS x (List.mem_of_mem_drop hx)).v)) ?_
                 refine qb ?_
                 generalize zD 12 ((S.drop lo).map Itm.v) = r
                 refine uA ?_
                 refine uQ ?_
                 exact ⟨Or.inr rfl, _, _, [(1000000, 1000000)], _, Wk.refl _, rfl, rfl, .p (CvL.agg (.cons (.nil 3) (.refl _))), rfl, rfl⟩
theorem node_13_h (val : Val) (attr : Atr) (S : List Itm) (lo : Nat) (g : List Giv) (hl : S.length ≤ 1000000) (hlo : lo + 2 = S.length) (hS : ∀ x ∈ S, x.Fit) : qJ Tryz.prog 120 [.p (.agg (Nod.mk 13 val attr).pv), .view 1000000 5 lo S.length, .p (zm g)] (jE S) (.p (.agg (wU (Nod.mk 13 val attr) (S.drop lo) g).pv)) (jE S) := by
 obtain ⟨x, y, hx⟩ := drop_two hlo
 have h0 : (S.drop lo)[0]? = some x := by rw [hx]; rfl
 have h1' : (S.drop lo)[1]? = some y := by rw [hx]; rfl
 have hd0 : decS 13 (S.drop lo) = (x.is 1 || y.is 1) := by rw [hx]; rfl
 cases hdec : (x.is 1 || y.is 1) with
 | true =>
   have e : wU (Nod.mk 13 val attr) (S.drop lo) g = itmT true := by
    unfold wU
    simp only
    rw [if_neg (by omega), if_neg (by omega), hd0, hdec, if_pos rfl]; rfl
   rw [e]
   refine qz (T := TTab) qa Tryz.func120 (by kernel_rfl) rfl rfl rfl ?_
   refine uA ?_
   refine uA ?_
   refine uB ?_
   refine uA ?_
   refine uC (fun h1 => ?_) (fun h1 => ?_)
   · cases h1
   · refine uA ?_
     refine uC (fun h2 => ?_) (fun h2 => ?_)
     · cases h2
     · refine uA ?_
       refine uC (fun h3 => ?_) (fun h3 => ?_)
       · cases h3
       refine uA ?_
       refine uC (fun h4 => ?_) (fun h4 => ?_)
       rotate_left
       · cases h4
       refine uA ?_
       (repeat refine qH ?_); refine ql (by kernel_rfl) ?_
       repeat (refine qi qa rfl (by exact True.intro) rfl ?_)
       refine qi qa rfl (by omega) rfl ?_
       refine qi qa (qU rfl rfl rfl rfl rfl (show (S.map Itm.pv).getD (lo + Int.toNat 0) [] = x.pv from zc h0) rfl) (by rw [List.length_map]; omega) rfl ?_
       repeat (refine qi qa rfl (by exact True.intro) rfl ?_)
       refine zf rfl rfl rfl rfl (is_h x _) rfl rfl ?_
       repeat (refine qi qa rfl (by exact True.intro) rfl ?_)
       refine qi qa rfl (by omega) rfl ?_
       refine qi qa (qU rfl rfl rfl rfl rfl (show (S.map Itm.pv).getD (lo + Int.toNat 1) [] = y.pv from zc h1') rfl) (by rw [List.length_map]; show lo + 1 < _; omega) rfl ?_
       repeat (refine qi qa rfl (by exact True.intro) rfl ?_)
       refine zf rfl rfl rfl rfl (is_h y _) rfl rfl ?_
       repeat (refine qi qa rfl (by exact True.intro) rfl ?_)
       refine qP ?_
       refine uC (fun h9 => ?_) (fun h9 => ?_)
       · refine uR ?_
         refine uO (truth_h true) ?_
         refine qb ?_
         refine uQ ?_
         exact ⟨Or.inr rfl, _, _, [(1000000, 1000000)], _, Wk.refl _, rfl, rfl, .refl _, rfl, rfl⟩
       · have h9' : (x.is 1 || y.is 1) = false := by
          rw [← h9]
          show _ = (bif x.is 1 then true else y.is 1)
          cases x.is 1 <;> rfl
         rw [hdec] at h9'
         cases h9'
 | false =>
   have hN := wt (val := val) (attr := attr) (g := g) (op := 13) (l := S.drop lo) (by omega) (by omega) (hd0.trans hdec)
   refine qz (T := TTab) qa Tryz.func120 (by kernel_rfl) rfl rfl rfl ?_
   refine uA ?_
   refine uA ?_
   refine uB ?_
   refine uA ?_
   refine uC (fun h1 => ?_) (fun h1 => ?_)
   · cases h1
   · refine uA ?_
     refine uC (fun h2 => ?_) (fun h2 => ?_)
     · cases h2
     · refine uA ?_
       refine uC (fun h3 => ?_) (fun h3 => ?_)
       · cases h3
       refine uA ?_
       refine uC (fun h4 => ?_) (fun h4 => ?_)
       rotate_left
       · cases h4
       refine uA ?_
       (repeat refine qH ?_); refine ql (by kernel_rfl) ?_
       repeat (refine qi qa rfl (by exact True.intro) rfl ?_)
       refine qi qa rfl (by omega) rfl ?_
       refine qi qa (qU rfl rfl rfl rfl rfl (show (S.map Itm.pv).getD (lo + Int.toNat 0) [] = x.pv from zc h0) rfl) (by rw [List.length_map]; omega) rfl ?_
       repeat (refine qi qa rfl (by exact True.intro) rfl ?_)
       refine zf rfl rfl rfl rfl (is_h x _) rfl rfl ?_
       repeat (refine qi qa rfl (by exact True.intro) rfl ?_)
       refine qi qa rfl (by omega) rfl ?_
       refine qi qa (qU rfl rfl rfl rfl rfl (show (S.map Itm.pv).getD (lo + Int.toNat 1) [] = y.pv from zc h1') rfl) (by rw [List.length_map]; show lo + 1 < _; omega) rfl ?_
       repeat (refine qi qa rfl (by exact True.intro) rfl ?_)
       refine zf rfl rfl rfl rfl (is_h y _) rfl rfl ?_
       repeat (refine qi qa rfl (by exact True.intro) rfl ?_)
       refine qP ?_
       refine uC (fun h9 => ?_) (fun h9 => ?_)
       · have h9' : (x.is 1 || y.is 1) = true := by
          rw [← h9]
          show _ = (bif x.is 1 then true else y.is 1)
          cases x.is 1 <;> rfl
         rw [hdec] at h9'
         cases h9'
       · refine qd ?_
         clear h0 h1' hx
         refine uZ [1, 3, 6] [(1000000, 1000000), (3, 3), (6, 6)] ?_
         refine uA ?_
         refine uA ?_
         refine uB ?_
         refine SW.wk (zp 10 900 76 3 rfl rfl) ?_
         refine uZ [1, 3, 6, 10, 55, 56, 57] [(1000000, 1000000), (3, 3), (6, 6), (900, 0)] ?_
         refine qw (fun m s => ∃ (k : Nat) (kk : Int), k ≤ (S.drop lo).length ∧ m = (S.drop lo).length - k ∧ kk = k ∧ errS ((S.drop lo).take k) = 0 ∧ s = ⟨122, [(1, .view 1000000 5 lo S.length), (3, .ptr 3 0), (6, .ptr 6 0), (10, .row 0), (55, .view 1000000 5 lo S.length), (56, .p (pI ((S.length - lo : Nat) : Int))), (57, .p (pI kk))], [(1000000, .row 176 5 (S.map Itm.pv)), (3, .cells ((Nod.mk 13 val attr).pv.map .p)), (6, .cells (([.v (.slice none 0 0), pI 0, pI 0, pS ⟨#[]⟩, pI 0] : List PV).map .p)), (0, .row 76 3 ((((S.drop lo).take k).map Itm.v).map Val.pv))]⟩) (S.drop lo).length ⟨0, 0, Nat.zero_le _, rfl, rfl, rfl, rfl⟩ ?_
         rintro m s ⟨k, _, hk, rfl, rfl, he0, rfl⟩
         refine uA ?_
         refine uC (fun hlt => ?_) (fun hlt => ?_)
         · refine qd ?_
           have hlt' : k < (S.drop lo).length := by rw [List.length_drop]; simpa using hlt
           have hk2 : k < S.length - lo := by rwa [List.length_drop] at hlt'
           have hget : (S.drop lo)[k]? = some (S.drop lo)[k] := List.getElem?_eq_getElem hlt'
           refine uB ?_
           refine uR ?_
           refine qe qa rfl rfl (by omega) rfl ?_
           refine uS ?_
           refine qe qa rfl (qU rfl rfl rfl rfl rfl (show (S.map Itm.pv).getD (lo + Int.toNat (k : Int)) [] = (S.drop lo)[k].pv from zc hget) rfl) (by rw [List.length_map, Int.toNat_natCast]; omega) rfl ?_
           refine uS ?_
           refine qb ?_
           refine uA ?_
           refine uC (fun hne => ?_) (fun hne => ?_)
           · have hne' : (S.drop lo)[k].e ≠ 0 := by simpa using hne
             have e1 := errS_at hlt' he0 hne'
             rw [hN, e1, if_pos hne']
             refine uA ?_
             refine uQ ?_
             exact ⟨Or.inr rfl, _, _, [(1000000, 1000000)], _, Wk.refl _, rfl, rfl, .p (CvL.agg (.cons (.nil 3) (.refl _))), rfl, rfl⟩
           · have hne' : (S.drop lo)[k].e = 0 := by simpa using hne
             refine qd ?_
             refine uR ?_
             refine qy rfl (qg qa rfl rfl rfl rfl rfl rfl rfl rfl rfl rfl rfl rfl rfl rfl rfl rfl (by simp only [List.length_append, List.length_map, List.length_take, List.length_drop]; unfold reachBytes; simp; omega) (by simp only [List.length_append, List.length_map, List.length_take, List.length_drop]; simp; omega) ?_)
             refine uS ?_
             refine qb ?_
             refine uA ?_
             refine ⟨_, _, ?_, qh [1, 3, 6, 10, 55, 56, 57] [(1000000, 1000000), (3, 3), (6, 6), (71, 0)] rfl rfl, k + 1, _, hlt', rfl, qf hlt' (by rw [List.length_drop]; omega), wD hlt' he0 hne', ?_⟩
             · omega
             · rw [List.take_succ_eq_append_getElem hlt', List.map_append, List.map_append]; rfl
         · refine qt ?_
           have hkk : k = (S.drop lo).length := by
            have : ¬ (k : Int) < ((S.length - lo : Nat) : Int) := by simpa using hlt
            rw [List.length_drop] at hk ⊢
            omega
           subst hkk
           rw [List.take_length] at he0 ⊢
           rw [hN, if_neg (by simp [he0])]
           clear hN
           refine uA ?_
           refine uB ?_
           refine uA ?_
           refine uC (fun h5 => ?_) (fun h5 => ?_)
           · cases h5
           · refine uA ?_
             refine uC (fun h6 => ?_) (fun h6 => ?_)
             · cases h6
             · refine uA ?_
               refine uC (fun h7 => ?_) (fun h7 => ?_)
               · cases h7
               · refine qd ?_
                 have e2 : lastS 13 (S.drop lo) = ⟨[], (zD 13 ((S.drop lo).map Itm.v)).1, (zD 13 ((S.drop lo).map Itm.v)).2⟩ := rfl
                 rw [e2]
                 refine uR ?_
                 refine uK (call_h 13 ((S.drop lo).map Itm.v) (fun v hv => by obtain ⟨x, hx, rfl⟩ := List.mem_map.1 hv; exact (hS x (List.mem_of_mem_drop hx)).v)) ?_
                 refine qb ?_
                 generalize zD 13 ((S.drop lo).map Itm.v) = r
                 refine uA ?_
                 refine uQ ?_
                 exact ⟨Or.inr rfl, _, _, [(1000000, 1000000)], _, Wk.refl _, rfl, rfl, .p (CvL.agg (.cons (.nil 3) (.refl _))), rfl, rfl⟩
set_option maxHeartbeats 4000000
theorem node_h (n : Nod) (S : List Itm) (lo : Nat) (g : List Giv) (hlo : lo + zn n.op = S.length) (hl : S.length ≤ 1000000) (hS : ∀ x ∈ S, x.Fit) (hgn : g.length ≤ 1000000) (hb : ∀ x ∈ g, x.bag.length ≤ 1000000) (hop : 1 ≤ n.op ∧ n.op ≤ 13) :
 qJ Tryz.prog 120 [.p (.agg n.pv), .view 1000000 5 lo S.length, .p (zm g)] (jE S) (.p (.agg (wU n (S.drop lo) g).pv)) (jE S) := by
 obtain ⟨op, val, attr⟩ := n
 simp only at hop hlo
 rcases (show op = 1 ∨ op = 2 ∨ op = 3 ∨ op = 4 ∨ op = 5 ∨ op = 6 ∨ op = 7 ∨ op = 8 ∨ op = 9 ∨ op = 10 ∨ op = 11 ∨ op = 12 ∨ op = 13 by omega) with rfl | rfl | rfl | rfl | rfl | rfl | rfl | rfl | rfl | rfl | rfl | rfl | rfl
 · exact node_lit val attr S lo g
 · exact node_attr val attr S lo g hgn hb
 · exact node_one_h val attr S lo g hlo hl
 · exact node_size_h val attr S lo g hlo hl
 · exact node_has_h val attr S lo g hlo hl hS
 · exact jN 6 (by omega) val attr S lo g hl (by omega) hS
 · exact jN 7 (by omega) val attr S lo g hl (by omega) hS
 · exact jN 8 (by omega) val attr S lo g hl (by omega) hS
 · exact jN 9 (by omega) val attr S lo g hl (by omega) hS
 · exact jN 10 (by omega) val attr S lo g hl (by omega) hS
 · exact jN 11 (by omega) val attr S lo g hl (by omega) hS
 · exact node_12_h val attr S lo g hl hlo hS
 · exact node_13_h val attr S lo g hl hlo hS
theorem stepS_op {l l' : List Bool} {n : Nod} (h : wg l n = some l') : (1 ≤ n.op ∧ n.op ≤ 13) ∧ zn n.op ≤ l.length := by
 unfold wg at h
 split at h
 · cases h
 · rename_i w hw
   split at h
   · rename_i hc
     have := operandsS_wants hw
     refine ⟨?_, by omega⟩
     unfold jt at hw
     repeat' split at hw
     all_goals first | omega | cases hw
   · cases h
theorem value_h (l : List Nod) (g : List Giv) (hf : ∀ x ∈ l, x.Fit) (hgf : ∀ x ∈ g, x.Fit) (hgn : g.length ≤ 1000000) (hb : ∀ x ∈ g, x.bag.length ≤ 1000000) : Holds Tryz.prog 82 [nodsP l, zm g] (.tup [.p (.agg (valueS l g).1.pv), .p (pI (valueS l g).2)]) [] := by
 refine .ofW ?_
 by_cases hl0 : l = []
 · subst hl0
   have e : valueS [] g = (noVal, 1) := rfl
   rw [e]
   refine qz (T := TTab) qa Tryz.func82 (by kernel_rfl) rfl rfl rfl ?_
   refine uA ?_
   refine uA ?_
   refine uC (fun h => ?_) (fun h => ?_)
   · refine uA ?_
     refine uQ ?_
     exact ⟨Or.inr rfl, _, _, [], _, Wk.refl _, rfl, rfl, .refl _, rfl, rfl⟩
   · cases h
 · have lm : (l.map Nod.pv).length = l.length := by simp
   have hpos : 0 < l.length := List.length_pos_iff.2 hl0
   refine qz (T := TTab) qa Tryz.func82 (by kernel_rfl) rfl rfl rfl ?_
   refine uA ?_
   refine uR ?_
   rw [show (((l.map Nod.pv).length : Int) == 0) = false by rw [lm]; simp; exact hl0]
   refine uS ?_
   refine uK (expr_h l hf) ?_
   refine qb ?_
   refine uC (fun h => ?_) (fun h => ?_)
   · have h0 : exprS l ≠ 0 := by simpa using h
     have e : valueS l g = (noVal, 1) := by unfold valueS; rw [if_pos (.inr h0)]
     rw [e]
     refine uA ?_
     refine uQ ?_
     exact ⟨Or.inr rfl, _, _, [], _, Wk.refl _, rfl, rfl, .refl _, rfl, rfl⟩
   · have h0 : exprS l = 0 := by simpa using h
     obtain ⟨hst, hl32⟩ := eExpr_made h0 hl0
     refine qd ?_
     refine uA ?_
     refine uA ?_
     refine uB ?_
     refine SW.wk (zp 6 900 176 5 rfl rfl) ?_
     refine uZ [1, 4, 5, 6, 19, 20, 21] [(4, 4), (900, 0)] ?_
     refine qw (fun m s => ∃ (k : Nat) (kk : Int) (S : List Itm) (made : List Bool), k ≤ l.length ∧ m = l.length - k ∧ kk = k ∧ S = evalI g (l.take k) ∧ jh [] (l.take k) = some made ∧ S.length = made.length ∧ made.length ≤ k ∧ (∀ x ∈ S, x.Fit) ∧ s = ⟨51, [(1, .p (zm g)), (4, .ptr 4 0), (5, .p (pI 0)), (6, .row 0), (19, .p (nodsP l)), (20, .p (pI (l.map Nod.pv).length)), (21, .p (pI kk))], [(4, .cells (noVal.pv.map .p)), (0, .row 176 5 (S.map Itm.pv))]⟩) l.length ⟨0, 0, [], [], Nat.zero_le _, rfl, rfl, rfl, by simp [jh], rfl, Nat.le_refl _, by simp, rfl⟩ ?_
     rintro m s ⟨k, _, S, made, hk, rfl, rfl, hSe, ha, hSl, hml, hS, rfl⟩
     refine uA ?_
     refine uC (fun hlt => ?_) (fun hlt => ?_)
     · refine qd ?_
       rw [lm] at hlt
       simp only [decide_eq_true_eq] at hlt
       have hlt' : k < l.length := by omega
       have hst2 := stepsS_some hlt' ha
       cases hs : wg made l[k] with
       | none =>
         rw [hs] at hst2
         rw [stepsS_none (k + 1) hst2] at hst
         cases hst
       | some made' =>
         rw [hs] at hst2
         obtain ⟨hop, hopl⟩ := stepS_op hs
         obtain ⟨hSl', _⟩ := stepI_len (g := g) hSl hs
         have lmS : (S.map Itm.pv).length = S.length := by simp
         obtain ⟨left, hleft⟩ : ∃ left : Nat, left + zn l[k].op = S.length := ⟨S.length - zn l[k].op, by omega⟩
         have hml' := stepS_len hs
         refine uB ?_
         refine uR ?_
         refine qe qa rfl rfl (by rw [lm]; omega) rfl ?_
         rw [qm hlt']
         refine uS ?_
         refine qb ?_
         refine uR ?_
         refine uK (operands_h l[k].op) ?_
         rw [show IntKind.i64.wrap (((S.map Itm.pv).length : Int) - (zn l[k].op : Int)) = (left : Int) by rw [lmS, IntWalk.i64_in _ (by omega)]; omega]
         refine qb ?_
         refine uD [0] [1, 3, 5, 7, 9, 11, 13, 15, 16, 18, 20, 23] ?_
         refine qx qa rfl rfl rfl (by rw [lmS]; omega) rfl ?_
         refine uT ?_
         refine qx qa rfl rfl rfl (by rw [lmS]; omega) rfl ?_
         rw [lmS]
         refine uT ?_
         refine uw [(0, 1000000)] (node_h l[k] S left g hleft (by omega) hS hgn hb hop) ?_
         refine swm_act rfl rfl rfl (ActOk.shrink 33 999 rfl rfl rfl rfl (qg qa rfl rfl rfl rfl rfl rfl rfl rfl rfl rfl rfl rfl rfl rfl rfl rfl (by simp only [List.length_append, List.length_take, List.length_map]; unfold reachBytes; simp; omega) (by simp only [List.length_append, List.length_take, List.length_map]; simp; omega) ?_))
         refine uT ?_
         refine qY ?_
         refine uA ?_
         have hdrop : S.length - zn l[k].op = left := by omega
         refine ⟨_, _, ?_, qh [1, 4, 5, 6, 19, 20, 21] [(4, 4), (41, 0)] rfl rfl, k + 1, _, stepI g S l[k], made', hlt', rfl, qf hlt' (by omega), ?_, hst2, hSl', by omega, ?_, ?_⟩
         · omega
         · rw [hSe]; exact (zQ (stepI g) [] l k hlt').symm
         · intro x hx
           unfold stepI at hx
           rcases List.mem_append.1 hx with hx | hx
           · exact hS x (List.mem_of_mem_take hx)
           · rw [List.mem_singleton] at hx
             subst hx
             exact nodeS_fit (hf _ (List.getElem_mem hlt')) (fun x hx => hS x (List.mem_of_mem_drop hx)) hgf hb
         · have e3 : (stepI g S l[k]).map Itm.pv = (S.map Itm.pv).take left ++ [(wU l[k] (S.drop left) g).pv] := by
            unfold stepI
            rw [hdrop, List.map_append, List.map_take]; rfl
           rw [e3]; rfl
     · refine qt ?_
       rw [lm] at hlt
       simp only [decide_eq_false_iff_not] at hlt
       have hkk : k = l.length := by omega
       subst hkk
       rw [List.take_length] at hSe
       obtain ⟨x, hx⟩ := evalI_one (g := g) h0 hl0
       rw [hx] at hSe
       subst hSe
       rw [valueS_one h0 hl0 hx]
       refine uD [4] [1, 3, 5, 7, 9, 11, 13, 15, 16, 19] ?_
       refine qx qa rfl rfl rfl (by simp) rfl ?_
       refine uT ?_
       refine qx qa rfl rfl (qU rfl rfl rfl rfl rfl (show ([x].map Itm.pv).getD (Int.toNat 0) [] = x.pv from rfl) rfl) (by simp) rfl ?_
       refine uT ?_
       refine qx qa rfl rfl rfl (by simp) rfl ?_
       refine uT ?_
       refine qx qa rfl rfl (qU rfl rfl rfl rfl rfl (show ([x].map Itm.pv).getD (Int.toNat 0) [] = x.pv from rfl) rfl) (by simp) rfl ?_
       refine uT ?_
       refine qY ?_
       refine uQ ?_
       exact ⟨Or.inr rfl, _, _, [], _, Wk.refl _, rfl, rfl, .refl _, rfl, rfl⟩
theorem cond_h (l : List Nod) (g : List Giv) (hf : ∀ x ∈ l, x.Fit) (hgf : ∀ x ∈ g, x.Fit) (hgn : g.length ≤ 1000000) (hb : ∀ x ∈ g, x.bag.length ≤ 1000000) : Holds Tryz.prog 49 [nodsP l, zm g] (.p (pI (condS l g))) [] := by
 by_cases hl0 : l = []
 · subst hl0
   refine qo (ts := [4]) Tryz.func49 (by kernel_rfl) rfl rfl rfl ?_
   refine uA ?_
   refine uA ?_
   refine uC (fun h => ?_) (fun h => ?_)
   · refine uA ?_
     refine uQ ?_
     exact qZ rfl rfl
   · cases h
 · have lm : (l.map Nod.pv).length = l.length := by simp
   have e : condS l g = condV (valueS l g) := by unfold condS; rw [if_neg hl0]
   have H := value_h l g hf hgf hgn hb
   rw [e]
   generalize valueS l g = r at *
   refine qo (ts := [4]) Tryz.func49 (by kernel_rfl) rfl rfl rfl ?_
   refine uA ?_
   refine uR ?_
   rw [show (((l.map Nod.pv).length : Int) == 0) = false by rw [lm]; simp; exact hl0]
   refine uS ?_
   refine qb ?_
   refine uC (fun h => ?_) (fun h => ?_)
   · cases h
   · refine qd ?_
     refine uR ?_
     refine uK H ?_
     refine qb ?_
     refine uA ?_
     refine uB ?_
     refine uR ?_
     refine uK ((is_h ⟨[], r.1, r.2⟩ 1).cv (.cons (CvL.agg (.cons (.nil 3) (.refl _))) (.refl _))) ?_
     refine qb ?_
     refine uC (fun h1 => ?_) (fun h1 => ?_)
     · refine uA ?_
       refine uQ ?_
       exact qZ rfl (by unfold condV; rw [h1]; rfl)
     · refine uR ?_
       refine uK ((is_h ⟨[], r.1, r.2⟩ 0).cv (.cons (CvL.agg (.cons (.nil 3) (.refl _))) (.refl _))) ?_
       refine qb ?_
       refine uC (fun h2 => ?_) (fun h2 => ?_)
       · refine uA ?_
         refine uQ ?_
         exact qZ rfl (by unfold condV; rw [h1, h2]; rfl)
       · refine qd ?_
         refine uA ?_
         refine uQ ?_
         exact qZ rfl (by unfold condV; rw [h1, h2]; rfl)
theorem joinM_zero (a : Mk) : wJ (0, 0) a = a := by unfold wJ; simp
theorem joinM_assoc (a b c : Mk) : wJ (wJ a b) c = wJ a (wJ b c) := by unfold wJ; simp [Nat.max_assoc]
theorem joinL_foldl : ∀ (l : List Mk) (a : Mk), l.foldl wJ a = wJ a (joinL l)
 | [], a => by unfold joinL wJ; simp
 | x :: l, a => by
   have e : joinL (x :: l) = wJ x (joinL l) := by
    unfold joinL
    rw [List.foldl_cons, joinL_foldl l (wJ (0, 0) x), joinM_zero]; rfl
   rw [List.foldl_cons, joinL_foldl l (wJ a x), e, joinM_assoc]
def keyM (l : List Mat) : Option Mat := l.find? (fun m => decide (m.op = 1) && !m.attr.must)
def keyS : Tar → Option Mat
 | [] => none
 | x :: t => if x.length = 1 then (match keyM (x.getD 0 []) with | some m => some m | none => keyS t) else keyS t
theorem fold_zero {α : Type} {f : α → Int} (hf : ∀ x, 0 ≤ f x) : ∀ {l : List α} {o : Int}, 0 ≤ o → (o = 0 ∨ ∃ x ∈ l, f x = 0) → l.foldl (fun o x => min o (f x)) o = 0
 | [], o, _, h => by
   rcases h with h | ⟨x, hx, _⟩
   · exact h
   · cases hx
 | y :: l, o, ho, h => by
   rw [List.foldl_cons]
   have hy := hf y
   refine fold_zero hf (by omega) ?_
   rcases h with h | ⟨x, hx, h0⟩
   · exact .inl (by omega)
   · rcases List.mem_cons.1 hx with rfl | hx
     · exact .inl (by omega)
     · exact .inr ⟨x, hx, h0⟩
theorem allTT_zero {l : List Mat} {g : List Giv} {m : Mat} (hm : m ∈ l) (h : jG m g = 0) : allTT l g = 0 := fold_zero (fun m => (matchT_range m g).1) (by omega) (.inr ⟨m, hm, h⟩)
theorem metT_zero {t : Tar} {g : List Giv} {x : List (List Mat)} (hx : x ∈ t) (h : anyTT x g = 0) : metT t g = 0 := fold_zero (fun m => (anyTT_range m g).1) (by omega) (.inr ⟨x, hx, h⟩)
theorem anyTT_one (y : List Mat) (g : List Giv) : anyTT [y] g = allTT y g := by
 have := allTT_range y g
 show max 0 (allTT y g) = _
 omega
theorem keyS_of : ∀ {t : Tar} {m : Mat}, keyS t = some m → m.op = 1 ∧ m.attr.must = false ∧ ∃ x ∈ t, ∃ y, x = [y] ∧ m ∈ y
 | [], m, h => by cases h
 | x :: t, m, h => by
   have up : keyS t = some m → m.op = 1 ∧ m.attr.must = false ∧ ∃ z ∈ x :: t, ∃ y, z = [y] ∧ m ∈ y := fun h => by
    obtain ⟨h1, h2, z, hz, h3⟩ := keyS_of h
    exact ⟨h1, h2, z, List.mem_cons_of_mem _ hz, h3⟩
   rw [keyS] at h
   split at h
   · rename_i hl
     obtain ⟨y, rfl⟩ := List.length_eq_one_iff.1 hl
     cases hk : keyM (([y] : List (List Mat)).getD 0 []) with
     | none => rw [hk] at h; exact up h
     | some m' =>
       rw [hk] at h
       cases h
       have h1 := List.find?_some hk
       have h2 := List.mem_of_find?_eq_some hk
       simp only [Bool.and_eq_true, decide_eq_true_eq, Bool.not_eq_true'] at h1
       exact ⟨h1.1, h1.2, [y], by simp, y, rfl, h2⟩
   · exact up h
theorem key_met {t : Tar} {m : Mat} (h : keyS t = some m) {g : List Giv} (h0 : jG m g = 0) : metT t g = 0 := by
 obtain ⟨_, _, x, hx, y, rfl, hm⟩ := keyS_of h
 exact metT_zero hx (by rw [anyTT_one]; exact allTT_zero hm h0)
def jX (g : List Giv) (k : Pol) : Bool := match keyS k.target with
 | none => true
 | some m => decide (jG m g ≠ 0)
theorem pick_na {g : List Giv} {k : Pol} (h : jX g k = false) (n : Nat) : qC g n k = noRs := by
 cases n with
 | zero => rfl
 | succ n =>
   unfold jX at h
   split at h
   · cases h
   · rename_i m hm
     have h0 : jG m g = 0 := by simpa using h
     rw [qC, if_pos (key_met hm h0)]
def skipM (l : List Mk) : List Mk := l.filter fun m => decide (m ≠ (0, 0))
def skipR (l : List Rs) : List Rs := l.filter fun x => decide (x.m ≠ (0, 0))
theorem skip_map (l : List Rs) : (skipR l).map Rs.m = skipM (l.map Rs.m) := by
 unfold skipR skipM
 rw [List.filter_map]; rfl
theorem joinL_cons (x : Mk) (l : List Mk) : joinL (x :: l) = wJ x (joinL l) := by
 unfold joinL
 rw [List.foldl_cons, joinL_foldl l (wJ (0, 0) x), joinM_zero]; rfl
theorem skipM_cons (m : Mk) (l : List Mk) : skipM (m :: l) = if m = (0, 0) then skipM l else m :: skipM l := by
 unfold skipM
 rw [List.filter_cons]
 by_cases h : m = (0, 0) <;> simp [h]
theorem joinL_skip : ∀ l : List Mk, joinL (skipM l) = joinL l
 | [] => rfl
 | m :: l => by
   rw [skipM_cons, joinL_cons]
   split
   · rename_i h; rw [h, joinM_zero]; exact joinL_skip l
   · rw [joinL_cons, joinL_skip l]
theorem firstM_skip : ∀ l : List Mk, jP (skipM l) = jP l
 | [] => rfl
 | m :: l => by
   rw [skipM_cons, jP]
   split
   · exact firstM_skip l
   · rename_i h; rw [jP, if_neg h]
theorem onlyM_skip : ∀ (l : List Mk) (j : Mk), onlyM j (skipM l) = onlyM j l
 | [], j => rfl
 | m :: l, j => by
   rw [skipM_cons, onlyM]
   split
   · rename_i h
     rw [h, onlyM_skip l j, if_pos (by rfl)]
     have : stepJ j (0, 0) = j := by
      unfold stepJ
      split
      · rename_i h; exact h.symm
      · simp
     rw [this]
   · rw [onlyM]
     split
     · rw [onlyM_skip l]
     · rfl
theorem unlessM_skip (l : List Mk) {a b : Mk} (hb : b ≠ (0, 0)) : wW (skipM l) a b = wW l a b := by
 have : b ∈ skipM l ↔ b ∈ l := by
  unfold skipM
  rw [List.mem_filter]
  simp [hb]
 unfold wW
 by_cases h : b ∈ l
 · rw [if_pos h, if_pos (this.2 h)]
 · rw [if_neg h, if_neg (fun h1 => h (this.1 h1))]
theorem allM_skip (alg : Int) (l : List Mk) : allM alg (skipM l) = allM alg l := by
 unfold allM
 rw [joinL_skip, firstM_skip, onlyM_skip, unlessM_skip l (by decide), unlessM_skip l (by decide)]
theorem partsO_skip {alg : Int} {m : Mk} (hm : m ≠ (0, 0)) : ∀ l : List Rs, wC alg m (skipR l) = wC alg m l
 | [] => rfl
 | x :: l => by
   have ih := partsO_skip hm (alg := alg) l
   unfold skipR at ih ⊢
   rw [List.filter_cons, wC]
   by_cases h : x.m = (0, 0)
   · rw [if_neg (by simp [h]), if_neg (by rw [h]; exact fun e => hm e.symm)]
     exact ih
   · rw [if_pos (by simp [h]), wC, ih]
theorem joinR_skip (p : Pol) (t : Int) (l : List Rs) : zO p t (skipR l) = zO p t l := by
 unfold zO
 rw [skip_map, allM_skip]
 by_cases hm : allM p.alg (l.map Rs.m) = (0, 0)
 · rw [hm]; simp
 · rw [partsO_skip hm]
theorem skip_filter (g : List Giv) (n : Nat) : ∀ l : List Pol, skipR ((l.filter (jX g)).map (qC g n)) = skipR (l.map (qC g n))
 | [] => rfl
 | k :: l => by
   have ih := skip_filter g n l
   unfold skipR at ih ⊢
   rw [List.filter_cons, List.map_cons, List.filter_cons]
   by_cases h : jX g k = true
   · rw [if_pos h, List.map_cons, List.filter_cons, ih]
   · have h' : jX g k = false := by simpa using h
     rw [if_neg h, pick_na h' n, if_neg (by simp [noRs])]
     exact ih
theorem decide_pick (g : List Giv) (n : Nat) (p : Pol) : qC g n (p.putKids (p.kids.filter (jX g))) = qC g n p := by
 cases n with
 | zero => rfl
 | succ n =>
   rw [qC, qC]
   show (if metT p.target g = 0 then noRs else zO (p.putKids _) (metT p.target g) (p.rules.map (wT g) ++ (p.kids.filter (jX g)).map (qC g n))) = _
   split
   · rfl
   · have e : ∀ l, zO (p.putKids (p.kids.filter (jX g))) (metT p.target g) l = zO p (metT p.target g) l := fun l => rfl
     rw [e, ← joinR_skip, ← joinR_skip p _ (p.rules.map (wT g) ++ p.kids.map (qC g n))]
     congr 1
     have := skip_filter g n p.kids
     unfold skipR at this ⊢
     rw [List.filter_append, List.filter_append, this]
inductive SubL {α : Type} (R : α → α → Prop) : List α → List α → Prop
 | nil : SubL R [] []
 | skip {a b : List α} {x : α} (h : SubL R a b) : SubL R a (x :: b)
 | keep {a b : List α} {x y : α} (hr : R y x) (h : SubL R a b) : SubL R (y :: a) (x :: b)
theorem SubL.len {α : Type} {R : α → α → Prop} {a b : List α} (h : SubL R a b) : a.length ≤ b.length := by
 induction h with
 | nil => exact Nat.le_refl _
 | skip h ih => simp; omega
 | keep hr h ih => simp; omega
def SubP : Nat → Pol → Pol → Prop
 | 0, _, _ => True
 | n + 1, q, p => q.id = p.id ∧ q.set = p.set ∧ q.alg = p.alg ∧ q.target = p.target ∧ q.rules = p.rules ∧ q.obls = p.obls ∧ SubL (SubP n) q.kids p.kids
theorem SubP.refl : ∀ (n : Nat) (p : Pol), SubP n p p
 | 0, _ => True.intro
 | n + 1, p => ⟨rfl, rfl, rfl, rfl, rfl, rfl, by
   have : ∀ l : List Pol, SubL (SubP n) l l := fun l => by
    induction l with
    | nil => exact .nil
    | cons x l ih => exact .keep (SubP.refl n x) ih
   exact this _⟩
theorem headE_sub {p q : Pol} (h : headE p = 0) (h1 : q.set = p.set) (h2 : q.kids.length ≤ p.kids.length) (h3 : q.target = p.target) (h4 : q.obls = p.obls) (h5 : q.rules = p.rules) (h6 : q.alg = p.alg) : headE q = 0 := by
 unfold headE at h ⊢
 rw [h1, h3, h4, h5, h6]
 split at h
 · cases h
 · rename_i hc
   have hc' : ¬ (p.set && decide (0 < p.rules.length) || !p.set && (decide (0 < q.kids.length) || decide (p.alg = 4))) = true := by
    intro h
    refine hc ?_
    simp only [Bool.or_eq_true, Bool.and_eq_true, decide_eq_true_eq, Bool.not_eq_true'] at h ⊢
    rcases h with ⟨a, b⟩ | ⟨a, b | b⟩
    · exact .inl ⟨a, b⟩
    · exact .inr ⟨a, .inl (by omega)⟩
    · exact .inr ⟨a, .inr b⟩
   rw [if_neg hc']
   split at h
   · rename_i ht
     rw [if_pos ht]
     split at h
     · rename_i ho
       rw [if_pos ho]
       split at h
       · cases h
       · rename_i hm
         rw [if_neg (by omega)]
     · rename_i ho; rw [if_neg ho]; exact h
   · rename_i ht; rw [if_neg ht]; exact h
theorem polS_grow {n : Nat} {v : Wlk} {p : Pol} (h : (polS n v p).1 = 0) : v.le (polS n v p).2 :=
 ⟨fun s hs => hasS_polS n hs h, by have := polS_count n v p h; omega⟩
theorem Wlk.le_trans {a b c : Wlk} (h : a.le b) (h' : b.le c) : a.le c := ⟨fun s hs => h'.1 s (h.1 s hs), Int.le_trans h.2 h'.2⟩
theorem polS_sub : ∀ (n : Nat) {p q : Pol} {w v : Wlk}, SubP n q p → w.le v → (polS n v p).1 = 0 → (polS n w q).1 = 0 ∧ (polS n w q).2.le (polS n v p).2
 | 0, p, q, w, v, _, _, h => by cases h
 | n + 1, p, q, w, v, ⟨e1, e2, e3, e4, e5, e6, hk⟩, hl, h => by
   obtain ⟨h1, h2, h3⟩ := wX h
   obtain ⟨g1, g2⟩ := headS_le hl h1
   have hq : zT w q = zT w p := by
    have a1 : (zT w p).1 = 0 := g1
    unfold zT at a1 ⊢
    rw [e1, e3]
    split at a1
    · rename_i hc
      simp only at a1
      rw [if_pos hc, headE_sub a1 e2 hk.len e4 e6 e5 e3]
      simp only [if_pos hc, a1]
    · cases a1
   obtain ⟨r1, r2⟩ := seqS_le (f := zu) (f' := zu) (fun w v x hl h => ruleS_le hl h) g2 h2
   have key : ∀ {a b : List Pol}, SubL (SubP n) a b → ∀ {w v : Wlk}, w.le v → (seqS (polS n) v b).1 = 0 → (seqS (polS n) w a).1 = 0 ∧ (seqS (polS n) w a).2.le (seqS (polS n) v b).2 := by
    intro a b hs
    induction hs with
    | nil => exact fun hl _ => ⟨rfl, hl⟩
    | @skip a b x hs ih =>
      intro w v hl h
      by_cases h0 : (polS n v x).1 = 0
      · have eb : seqS (polS n) v (x :: b) = seqS (polS n) (polS n v x).2 b := by rw [seqS, if_pos h0]
        rw [eb] at h ⊢
        exact ih (Wlk.le_trans hl (polS_grow h0)) h
      · rw [seqS, if_neg h0] at h; exact absurd h h0
    | @keep a b x y hr hs ih =>
      intro w v hl h
      by_cases h0 : (polS n v x).1 = 0
      · have eb : seqS (polS n) v (x :: b) = seqS (polS n) (polS n v x).2 b := by rw [seqS, if_pos h0]
        rw [eb] at h ⊢
        obtain ⟨p1, p2⟩ := polS_sub n hr hl h0
        have ea : seqS (polS n) w (y :: a) = seqS (polS n) (polS n w y).2 a := by rw [seqS, if_pos p1]
        rw [ea]
        exact ih p2 h
      · rw [seqS, if_neg h0] at h; exact absurd h h0
   obtain ⟨k1, k2⟩ := key hk r2 h3
   have eq1 : polS (n + 1) w q = seqS (polS n) (seqS zu (zT w p).2 p.rules).2 q.kids := by rw [polS, hq, e5, if_pos g1, if_pos r1]
   have eq2 : polS (n + 1) v p = seqS (polS n) (seqS zu (zT v p).2 p.rules).2 p.kids := by rw [polS, if_pos h1, if_pos h2]
   rw [eq1, eq2]
   exact ⟨k1, k2⟩
theorem right_sub {p q : Pol} (h : zj p = 0) (hs : SubP 4 q p) : zj q = 0 := (polS_sub 4 hs (Wlk.le_refl _) h).1
def qR (g : List Giv) : Nat → Pol → Pol
 | 0, p => p
 | n + 1, p => p.putKids ((p.kids.filter (jX g)).map (qR g n))
theorem sub_picked (g : List Giv) : ∀ (n : Nat) (p : Pol), SubP n (qR g n p) p
 | 0, _ => True.intro
 | n + 1, p => ⟨rfl, rfl, rfl, rfl, rfl, rfl, by
   have : ∀ l : List Pol, SubL (SubP n) ((l.filter (jX g)).map (qR g n)) l := fun l => by
    induction l with
    | nil => exact .nil
    | cons x l ih =>
      rw [List.filter_cons]
      split
      · rw [List.map_cons]; exact .keep (sub_picked g n x) ih
      · exact .skip ih
   exact this _⟩
theorem decide_picked (g : List Giv) : ∀ (n m : Nat) (p : Pol), qC g m (qR g n p) = qC g m p
 | 0, m, p => rfl
 | n + 1, 0, p => rfl
 | n + 1, m + 1, p => by
   rw [← decide_pick g (m + 1) p]
   have e : ((p.kids.filter (jX g)).map (qR g n)).map (qC g m) = (p.kids.filter (jX g)).map (qC g m) := by
    rw [List.map_map]
    exact List.map_congr_left fun k _ => decide_picked g n m k
   rw [qC, qC]
   show (if metT p.target g = 0 then noRs else zO (p.putKids _) (metT p.target g) (p.rules.map (wT g) ++ ((p.kids.filter (jX g)).map (qR g n)).map (qC g m))) = (if metT p.target g = 0 then noRs else zO (p.putKids _) (metT p.target g) (p.rules.map (wT g) ++ (p.kids.filter (jX g)).map (qC g m)))
   rw [e]; rfl
theorem nod_back {ok : Nat → Prop} {w : World} {cs : List Value} {x : Nod} (h : rPV ok w cs x.pv) (hf : x.Fit) : rNod w cs x :=
 ⟨rPV_plain (xs := [.int .i64 x.op, .int .i64 x.val.kind, .int .i64 x.val.n, .string x.val.s, .int .i64 x.attr.cat, .string x.attr.name, .bool x.attr.must]) h, hf⟩
theorem obl_back {ok : Nat → Prop} {w : World} {cs : List Value} {x : Obli} (h : rPV ok w cs x.pv) (hf : x.Fit) : rObl w cs x :=
 ⟨rPV_plain (xs := [.int .i64 x.on, .int .i64 x.kind, .string x.arg]) h, hf⟩
theorem slv_back {α : Type} {R : Rp α} {f : α → List PV} {z : Nat} {ok : Nat → Prop} {w : World} {u : Value} {l : List α} (h : RelP ok w (.sl z (l.map f)) u) (hf : ∀ x ∈ l, ∀ cs, rPV ok w cs (f x) → R w cs x) : SlV R z w u l := by
 obtain ⟨A, c, rfl, h1, h2, h3⟩ := qaD h hf
 exact ⟨A, c, rfl, h1, h2, h3⟩
theorem tar_back {ok : Nat → Prop} {w : World} {u : Value} {t : Tar} (h : RelP ok w (tgtP t) u) (hf : TarFit t) : SlV rTar' 1 w u t := by
 obtain ⟨A, c, rfl, h1, h2, h3⟩ := tgt_typed h hf
 exact ⟨A, c, rfl, h1, h2, h3⟩
theorem rul_back {ok : Nat → Prop} {w : World} {cs : List Value} {x : Rul} (h : rPV ok w cs (zy x)) (hf : RulFit x) : rRul w cs x := by
 have hl : cs.length = 5 := h.1
 match cs, hl with
 | [c0, c1, c2, c3, c4], _ =>
   have e0 := jd (h.2 0 _ c0 rfl rfl) rfl
   have e1 := jd (h.2 1 _ c1 rfl rfl) rfl
   subst e0 e1
   exact ⟨c2, c3, c4, rfl, hf.id, tar_back (h.2 2 _ c2 rfl rfl) hf.tgt, slv_back (h.2 3 _ c3 rfl rfl) (fun x hx cs hcs => nod_back hcs (hf.cond x hx)), slv_back (h.2 4 _ c4 rfl rfl) (fun x hx cs hcs => obl_back hcs (hf.obls x hx))⟩
theorem pol_back : ∀ {n : Nat} {ok : Nat → Prop} {w : World} {cs : List Value} {p : Pol}, rPV ok w cs (polP p) → PolF n p → rPolN n w cs p
 | n + 1, ok, w, cs, p, h, hf => by
   rw [qG] at h
   have hl : cs.length = 7 := h.1
   match cs, hl with
   | [c0, c1, c2, c3, c4, c5, c6], _ =>
     have e0 := jd (h.2 0 _ c0 rfl rfl) rfl
     have e1 := jd (h.2 1 _ c1 rfl rfl) rfl
     have e2 := jd (h.2 2 _ c2 rfl rfl) rfl
     subst e0 e1 e2
     exact ⟨c3, c4, c5, c6, rfl, hf.1.id, hf.2.1, tar_back (h.2 3 _ c3 rfl rfl) hf.1.tgt, slv_back (h.2 4 _ c4 rfl rfl) (fun x hx cs hcs => rul_back hcs (hf.1.rules x hx)),
      slv_back (h.2 5 _ c5 rfl rfl) (fun x hx cs hcs => pol_back hcs (hf.2.2 x hx)), slv_back (h.2 6 _ c6 rfl rfl) (fun x hx cs hcs => obl_back hcs (hf.1.obls x hx))⟩
theorem small_h {n : Nat} (p : Pol) (hf : PolF n p) : HoldsE Tryz.prog 11 [.agg (polP p)] (Upto p.sz 3000) :=
 .of_calls Tryz.func11 (by kernel_rfl) rfl fun w vs hl hr => by
  obtain ⟨u, rfl⟩ := one_arg hl
  have h := hr 0 _ u rfl rfl
  cases h with
  | @agg _ us hl2 hr2 =>
    have hp := pol_back ⟨hl2, hr2⟩ hf
    match n, hf, hp with
    | n + 1, _, ⟨c3, c4, c5, c6, he, h1⟩ =>
      subst he
      exact (small_any (n + 1) p w c3 c4 c5 c6 ⟨c3, c4, c5, c6, rfl, h1⟩).mono fun e w' h => upto_ok h
set_option maxHeartbeats 4000000
theorem HoldsE.cv {P : Program} {f : FuncId} {args args' : List PV} {R : SV → Prop} (h : HoldsE P f args R) (hc : CvL args' args) : HoldsE P f args' R :=
 ⟨h.1, fun w Sx vs hSx hl hr => h.2 w Sx vs hSx (by rw [hl, hc.1]) fun i s u hs hu => by
  have hi : i < args.length := (List.getElem?_eq_some_iff.1 hs).1
  have h0 : args'[i]? = some (args'[i]'(by rw [hc.1]; exact hi)) := List.getElem?_eq_getElem _
  exact (hr i _ u h0 hu).cv (hc.2 i _ s h0 hs)⟩
def askS (m : Mat) (l : List Nod) (g : List Giv) : Int := if l = [] then jG m g else condS l g
def atmP (m : Mat) (c : PV) : List PV := [pI m.attr.cat, pS m.attr.name, pB m.attr.must, pI m.op, pI m.val.kind, pI m.val.n, pS m.val.s, c]
theorem ask_h (m : Mat) (l : List Nod) (hm : m.Fit) (hl : ∀ x ∈ l, x.Fit) (g : List Giv) (hg : GivOk g) : Holds Tryz.prog 25 [.agg (atmP m (nodsP l)), zm g] (.p (pI (askS m l g))) [] := by
 have lm : (l.map Nod.pv).length = l.length := by simp
 have H1 := match2_h m g hm hg.fit hg.len hg.bags
 have H2 := cond_h l g hl hg.fit hg.len hg.bags
 unfold askS
 obtain ⟨⟨ac, an, am⟩, mo, ⟨vk, vn, vs⟩⟩ := m
 refine qo (ts := [4]) Tryz.func25 (by kernel_rfl) rfl rfl rfl ?_
 refine uA ?_
 refine uA ?_
 rw [lm]
 refine uC (fun h => ?_) (fun h => ?_)
 · have e : ¬ l = [] := by
    intro e; subst e; simp at h
   rw [if_neg e]
   refine uR ?_
   refine uK H2 ?_
   refine qb ?_
   refine uQ ?_
   exact qZ rfl rfl
 · have e : l = [] := by
    refine List.length_eq_zero_iff.1 ?_
    have : ¬ ((l.length : Int) > 0) := by simpa using h
    omega
   rw [if_pos e]
   refine qd ?_
   refine uR ?_
   refine uK H1 ?_
   refine qb ?_
   refine uQ ?_
   exact qZ rfl rfl
set_option maxHeartbeats 4000000
def Atm.pv (a : Atm) : List PV := atmP a.m (nodsP a.c)
abbrev atmsP (l : List Atm) : PV := .sl 8 (l.map Atm.pv)
theorem cloneN_h (l : List Nod) (hn : l.length ≤ 1000000) : Holds Tryz.prog 91 [nodsP l] (.row 0) [(0, .row 137 7 (l.map Nod.pv))] := by
 refine qo (ts := [2]) Tryz.func91 (by kernel_rfl) rfl rfl rfl ?_
 refine uA ?_
 refine uR ?_
 refine qy rfl (act_nilcmp qa rfl rfl rfl rfl rfl rfl (fun b hb => ?_))
 refine qb ?_
 refine uC (fun hc => ?_) (fun hc => ?_)
 · have hl := hb hc
   have hl' : l = [] := by simpa using hl
   subst hl'
   refine uA ?_
   refine uQ ?_
   exact ⟨Or.inr rfl, _, _, [(0, 0)], zp 2 0 137 7 rfl rfl, rfl, rfl, rfl, rfl⟩
 · refine qd ?_
   refine uR ?_
   refine qy rfl (qg qa rfl rfl rfl rfl rfl rfl rfl rfl rfl rfl rfl rfl rfl rfl rfl rfl (by simp [reachBytes]; omega) (by simp; omega) ?_)
   refine uS ?_
   refine qb ?_
   refine uQ ?_
   exact uF [(7, 0)]
theorem eqL_mat (x y : Mat) : eqL x.pv y.pv = some (decide (x = y)) := by
 have h : eqL x.pv y.pv = some ((x.attr.cat == y.attr.cat) && ((x.attr.name.toList == y.attr.name.toList) && ((x.attr.must == y.attr.must) && ((x.op == y.op) && ((x.val.kind == y.val.kind) && ((x.val.n == y.val.n) && ((x.val.s.toList == y.val.s.toList) && true))))))) := rfl
 rw [h, qac, qac, Bool.and_true]
 congr 1
 rw [Bool.eq_iff_iff]
 obtain ⟨⟨a, b, c⟩, d, ⟨e, f, g⟩⟩ := x
 obtain ⟨⟨a', b', c'⟩, d', ⟨e', f', g'⟩⟩ := y
 simp [and_assoc]
theorem eqL_nod (x y : Nod) : eqL x.pv y.pv = some (decide (x = y)) := by
 have h : eqL x.pv y.pv = some ((x.op == y.op) && ((x.val.kind == y.val.kind) && ((x.val.n == y.val.n) && ((x.val.s.toList == y.val.s.toList) && ((x.attr.cat == y.attr.cat) && ((x.attr.name.toList == y.attr.name.toList) && ((x.attr.must == y.attr.must) && true))))))) := rfl
 rw [h, qac, qac, Bool.and_true]
 congr 1
 rw [Bool.eq_iff_iff]
 obtain ⟨a, ⟨b, c, d⟩, ⟨e, f, g⟩⟩ := x
 obtain ⟨a', ⟨b', c', d'⟩, ⟨e', f', g'⟩⟩ := y
 simp [and_assoc]
theorem opR_eqM {T : TT} {K : List Nat} {st : St} {o : Op} {t t' : TypeId} {a b : Operand} (x y : Mat) (ho : o = .binOp .eql t a b t') {n m : Nat} {d : Ty} {z : List Value} (ht : lk t T = some ⟨n, m, d, z, true⟩) (ha : evS st a = some (.p (.agg x.pv))) (hb : evS st b = some (.p (.agg y.pv))) : opR T K st o = some (zd x.pv z = true, .p (pB (decide (x = y)))) := by
 subst ho
 show rBin T .eql t (evS st a) (evS st b) = _
 rw [ha, hb]
 unfold rBin
 simp only [ht, eqL_mat]
theorem opR_neN {T : TT} {K : List Nat} {st : St} {o : Op} {t t' : TypeId} {a b : Operand} (x y : Nod) (ho : o = .binOp .neq t a b t') {n m : Nat} {d : Ty} {z : List Value} (ht : lk t T = some ⟨n, m, d, z, true⟩) (ha : evS st a = some (.p (.agg x.pv))) (hb : evS st b = some (.p (.agg y.pv))) : opR T K st o = some (zd x.pv z = true, .p (pB (!decide (x = y)))) := by
 subst ho
 show rBin T .neq t (evS st a) (evS st b) = _
 rw [ha, hb]
 unfold rBin
 simp only [ht, eqL_nod]
theorem equalN_h (a b : List Nod) (ha : a.length ≤ 1000000) (hb : b.length ≤ 1000000) : Holds Tryz.prog 129 [nodsP a, nodsP b] (.p (pB (decide (a = b)))) [] := by
 have la : (a.map Nod.pv).length = a.length := by simp
 have lb : (b.map Nod.pv).length = b.length := by simp
 refine qo (ts := [4]) Tryz.func129 (by kernel_rfl) rfl rfl rfl ?_
 refine uA ?_
 refine uA ?_
 rw [la, lb]
 refine uC (fun h0 => ?_) (fun h0 => ?_)
 · have e : a ≠ b := by intro e; subst e; simp at h0
   refine uA ?_
   refine uQ ?_
   exact jJ rfl (by simp [e])
 · have hl : a.length = b.length := by simp at h0; omega
   refine qd ?_
   refine uA ?_
   refine uB ?_
   refine uZ [0, 1, 12, 13] [] ?_
   refine qw (fun m s => ∃ (k : Nat) (kk : Int), k ≤ a.length ∧ m = a.length - k ∧ kk = k ∧ a.take k = b.take k ∧ s = ⟨26, [(0, .p (nodsP a)), (1, .p (nodsP b)), (12, .p (pI (a.map Nod.pv).length)), (13, .p (pI kk))], []⟩) a.length ⟨0, 0, Nat.zero_le _, rfl, rfl, rfl, rfl⟩ ?_
   rintro m s ⟨k, _, hk, rfl, rfl, he, rfl⟩
   refine uA ?_
   refine uC (fun hlt => ?_) (fun hlt => ?_)
   · refine qd ?_
     rw [la] at hlt
     simp only [decide_eq_true_eq] at hlt
     have hlt' : k < a.length := by omega
     have hlb : k < b.length := by omega
     obtain ⟨x, hx⟩ : ∃ x, x = a[k] := ⟨_, rfl⟩
     obtain ⟨y, hy⟩ : ∃ y, y = b[k] := ⟨_, rfl⟩
     refine uB ?_
     refine uA ?_
     refine uD [] [1, 3, 5, 7, 9, 11, 13, 15, 17] ?_
     refine qx qa rfl rfl rfl (by rw [la]; omega) rfl ?_
     rw [qm hlt', ← hx]
     refine uT ?_
     refine qx qa rfl rfl rfl (by rw [lb]; omega) rfl ?_
     rw [qm hlb, ← hy]
     refine uT ?_
     refine qx qa rfl rfl (opR_neN x y rfl rfl rfl rfl) rfl rfl ?_
     refine uT ?_
     refine qY ?_
     refine uC (fun hp => ?_) (fun hp => ?_)
     · have e : x ≠ y := by simpa using hp
       have e2 : a ≠ b := by intro e2; subst e2; exact e (by rw [hx, hy])
       refine uA ?_
       refine uQ ?_
       exact jJ rfl (by simp [e2])
     · refine qd ?_
       refine uA ?_
       refine ⟨_, _, ?_, qh [0, 1, 12, 13] [] rfl rfl, k + 1, _, hlt', rfl, qf hlt' (by omega), ?_, rfl⟩
       · omega
       · rw [List.take_succ_eq_append_getElem hlt', List.take_succ_eq_append_getElem hlb, he, ← hx, ← hy, show x = y by simpa using hp]
   · refine qt ?_
     rw [la] at hlt
     simp only [decide_eq_false_iff_not] at hlt
     have hkk : k = a.length := by omega
     subst hkk
     rw [List.take_length, List.take_of_length_le (by omega)] at he
     refine uA ?_
     refine uQ ?_
     exact jJ rfl (by simp [he])
theorem find1_h (x a : Atm) (hx : x.c.length ≤ 1000000) (ha : a.c.length ≤ 1000000) : Holds Tryz.prog 128 [.agg x.pv, .rp a.pv] (.p (pB (decide (x = a)))) [] := by
 have H := equalN_h x.c a.c hx ha
 have e : (x = a) ↔ (x.m = a.m ∧ x.c = a.c) := ⟨fun h => by subst h; exact ⟨rfl, rfl⟩, fun h => by cases x; cases a; simp only at h; simp [h]⟩
 refine qo (ts := [3]) Tryz.func128 (by kernel_rfl) rfl rfl rfl ?_
 refine uA ?_
 refine uR ?_
 refine qe qa rfl (opR_eqM x.m a.m rfl rfl rfl rfl) rfl rfl ?_
 by_cases hm : x.m = a.m
 · rw [decide_eq_true hm]
   refine uS ?_
   refine uK H ?_
   refine qb ?_
   refine uQ ?_
   exact jJ rfl (by simp [e, hm])
 · rw [decide_eq_false hm]
   refine uS ?_
   refine qb ?_
   refine uQ ?_
   exact jJ rfl (by simp [e, hm])
theorem indexA_h (l : List Atm) (hn : l.length ≤ 1000000) (f : FuncId) (caps : List PV) (p : Atm → Bool) (hF : ∀ m ∈ l, Holds Tryz.prog f ([.agg m.pv] ++ caps) (.p (pB (p m))) []) :
 Holds Tryz.prog 127 [atmsP l, .fn f caps] (.p (pI (if l.findIdx p < l.length then (l.findIdx p : Int) else -1))) [] := by
 refine qo (ts := [4]) Tryz.func127 (by kernel_rfl) rfl rfl rfl ?_
 refine uA ?_
 refine uA ?_
 refine uB ?_
 refine uZ [0, 1, 7, 8] [] ?_
 refine qw (fun n s => ∃ (k : Nat) (kk : Int), k ≤ l.length ∧ n = l.length - k ∧ kk = k ∧ (∀ g ∈ l.take k, p g = false) ∧ s = ⟨19, [(0, .p (atmsP l)), (1, .p (.fn f caps)), (7, .p (pI (l.map Atm.pv).length)), (8, .p (pI kk))], []⟩) l.length ⟨0, 0, Nat.zero_le _, rfl, rfl, by simp, rfl⟩ ?_
 rintro n s ⟨k, _, hk, rfl, rfl, ha, rfl⟩
 refine uA ?_
 refine uC (fun hlt => ?_) (fun hlt => ?_)
 · refine qd ?_
   simp only [List.length_map, decide_eq_true_eq] at hlt
   have hlt' : k < l.length := by omega
   refine uB ?_
   refine uA ?_
   refine uR ?_
   refine qe qa rfl rfl (by simp only [List.length_map]; omega) rfl ?_
   rw [qm hlt']
   refine uS ?_
   refine uK (hF l[k] (List.getElem_mem hlt')) ?_
   refine qb ?_
   refine uC (fun hp => ?_) (fun hp => ?_)
   · refine uA ?_
     refine uQ ?_
     refine qZ rfl ?_
     have e : l.findIdx p = k := (List.findIdx_eq hlt').2 ⟨hp, fun j hj => ha _ (List.mem_take_iff_getElem.2 ⟨j, by omega, rfl⟩)⟩
     rw [e, if_pos hlt']
   · refine qd ?_
     refine uA ?_
     refine ⟨_, _, ?_, qh [0, 1, 7, 8] [] rfl rfl, k + 1, _, hlt', rfl, qf hlt' (by omega), ?_, rfl⟩
     · omega
     · intro g hg
       rw [List.take_succ_eq_append_getElem hlt', List.mem_append, List.mem_singleton] at hg
       rcases hg with hg | rfl
       · exact ha g hg
       · exact hp
 · refine qt ?_
   simp only [List.length_map, decide_eq_false_iff_not] at hlt
   have hkk : k = l.length := by omega
   subst hkk
   refine uA ?_
   refine uQ ?_
   refine qZ rfl ?_
   rw [List.take_length] at ha
   rw [if_neg]
   have := List.findIdx_eq_length_of_false ha
   omega
theorem find_h (l : List Atm) (a : Atm) (hn : l.length ≤ 1000000) (hl : ∀ x ∈ l, x.c.length ≤ 1000000) (ha : a.c.length ≤ 1000000) : Holds Tryz.prog 90 [atmsP l, .agg a.pv] (.p (pI (jU l a))) [] := by
 refine qo (ts := [4]) Tryz.func90 (by kernel_rfl) rfl rfl rfl ?_
 refine uA ?_
 refine uR ?_
 refine uK (indexA_h l hn _ _ (fun x => decide (x = a)) (fun x hx => find1_h x a (hl x hx) ha)) ?_
 refine qb ?_
 refine uQ ?_
 exact qZ rfl rfl
abbrev rowA (i : Nat) (l : List Atm) : List (Nat × Box) := [(i, .row 81 8 (l.map Atm.pv))]
theorem more_h (l : List Atm) (a : Atm) (hn : l.length ≤ 1000000) (hl : ∀ x ∈ l, x.c.length ≤ 1000000) (ha : a.c.length ≤ 1000000) : qJ Tryz.prog 56 [.row 1000000, .p (.agg a.pv)] (rowA 1000000 l) (.row 0) (rowA 0 (moreA l a)) := by
 have HF := find_h l a hn hl ha
 have HC := (cloneN_h a.c ha).row_sl
 by_cases hm : a ∈ l
 · have e1 : moreA l a = l := if_pos hm
   have e2 := findA_yes hm
   rw [e1]
   refine qD (ts := [4]) Tryz.func56 (by kernel_rfl) rfl rfl rfl ?_
   refine uA ?_
   refine uR ?_
   refine uK HF ?_
   refine qb ?_
   refine uC (fun h => ?_) (fun h => ?_)
   · refine uA ?_
     refine uQ ?_
     exact uF [(1000000, 0)]
   · exfalso
     simp at h
     omega
 · have e1 : moreA l a = l ++ [a] := if_neg hm
   rw [e1, show rowA 0 (l ++ [a]) = [(0, .row 81 8 (l.map Atm.pv ++ [a.pv]))] by simp [rowA]]
   rw [findA_no hm] at HF
   refine qD (ts := [4]) Tryz.func56 (by kernel_rfl) rfl rfl rfl ?_
   refine uA ?_
   refine uR ?_
   refine uK HF ?_
   refine qb ?_
   refine uC (fun h => ?_) (fun h => ?_)
   · cases h
   · refine qd ?_
     refine uR ?_
     refine uO HC ?_
     refine qb ?_
     refine uR ?_
     refine qy rfl (qg qa rfl rfl rfl rfl rfl rfl rfl rfl rfl rfl rfl rfl rfl rfl rfl rfl (by simp only [List.length_append, List.length_map, List.length_take, List.length_cons, List.length_nil]; unfold reachBytes; omega) (by simp only [List.length_append, List.length_map, List.length_take, List.length_cons, List.length_nil]; omega) ?_)
     refine uS ?_
     refine qb ?_
     refine uQ ?_
     exact uF [(17, 0)]
noncomputable def fnsm140 : FnI := ⟨31, Tryz.f140.body.getD .skip, [.tmp 6], []⟩
theorem fnsm140_ok : FnOk Tryz.prog 140 fnsm140 := ⟨_, Tryz.func140, by kernel_rfl, by kernel_rfl, by kernel_rfl, by kernel_rfl, by kernel_rfl, by kernel_rfl⟩
noncomputable def fnsm102 : FnI := ⟨26, Tryz.f102.body.getD .skip, [.tmp 4], []⟩
theorem fnsm102_ok : FnOk Tryz.prog 102 fnsm102 := ⟨_, Tryz.func102, by kernel_rfl, by kernel_rfl, by kernel_rfl, by kernel_rfl, by kernel_rfl, by kernel_rfl⟩
noncomputable def fnsm136 : FnI := ⟨8, Tryz.f136.body.getD .skip, [.tmp 4], []⟩
theorem fnsm136_ok : FnOk Tryz.prog 136 fnsm136 := ⟨_, Tryz.func136, by kernel_rfl, by kernel_rfl, by kernel_rfl, by kernel_rfl, by kernel_rfl, by kernel_rfl⟩
noncomputable def fnsm135 : FnI := ⟨10, Tryz.f135.body.getD .skip, [.tmp 2, .tmp 3], []⟩
theorem fnsm135_ok : FnOk Tryz.prog 135 fnsm135 := ⟨_, Tryz.func135, by kernel_rfl, by kernel_rfl, by kernel_rfl, by kernel_rfl, by kernel_rfl, by kernel_rfl⟩
noncomputable def fnsm139 : FnI := ⟨13, Tryz.f139.body.getD .skip, [.tmp 2], []⟩
theorem fnsm139_ok : FnOk Tryz.prog 139 fnsm139 := ⟨_, Tryz.func139, by kernel_rfl, by kernel_rfl, by kernel_rfl, by kernel_rfl, by kernel_rfl, by kernel_rfl⟩
noncomputable def fnsm138 : FnI := ⟨5, Tryz.f138.body.getD .skip, [.tmp 2], []⟩
theorem fnsm138_ok : FnOk Tryz.prog 138 fnsm138 := ⟨_, Tryz.func138, by kernel_rfl, by kernel_rfl, by kernel_rfl, by kernel_rfl, by kernel_rfl, by kernel_rfl⟩
noncomputable def fnsm104 : FnI := ⟨13, Tryz.f104.body.getD .skip, [.tmp 2], []⟩
theorem fnsm104_ok : FnOk Tryz.prog 104 fnsm104 := ⟨_, Tryz.func104, by kernel_rfl, by kernel_rfl, by kernel_rfl, by kernel_rfl, by kernel_rfl, by kernel_rfl⟩
noncomputable def fnsm103 : FnI := ⟨29, Tryz.f103.body.getD .skip, [.tmp 2], []⟩
theorem fnsm103_ok : FnOk Tryz.prog 103 fnsm103 := ⟨_, Tryz.func103, by kernel_rfl, by kernel_rfl, by kernel_rfl, by kernel_rfl, by kernel_rfl, by kernel_rfl⟩
noncomputable def fnsm101 : FnI := ⟨6, Tryz.f101.body.getD .skip, [.tmp 2], []⟩
theorem fnsm101_ok : FnOk Tryz.prog 101 fnsm101 := ⟨_, Tryz.func101, by kernel_rfl, by kernel_rfl, by kernel_rfl, by kernel_rfl, by kernel_rfl, by kernel_rfl⟩
noncomputable def fnsm134 : FnI := ⟨16, Tryz.f134.body.getD .skip, [.tmp 2], []⟩
theorem fnsm134_ok : FnOk Tryz.prog 134 fnsm134 := ⟨_, Tryz.func134, by kernel_rfl, by kernel_rfl, by kernel_rfl, by kernel_rfl, by kernel_rfl, by kernel_rfl⟩
noncomputable def fnsm72 : FnI := ⟨9, Tryz.f72.body.getD .skip, [.tmp 2], []⟩
theorem fnsm72_ok : FnOk Tryz.prog 72 fnsm72 := ⟨_, Tryz.func72, by kernel_rfl, by kernel_rfl, by kernel_rfl, by kernel_rfl, by kernel_rfl, by kernel_rfl⟩
noncomputable def FnsMF : List (FuncId × FnI) := [(140, fnsm140),
 (102, fnsm102),
 (136, fnsm136),
 (135, fnsm135),
 (139, fnsm139),
 (138, fnsm138),
 (104, fnsm104),
 (103, fnsm103),
 (101, fnsm101),
 (134, fnsm134),
 (72, fnsm72)]
theorem wO (C : FuncId → List PV → Option SV) : FOk Tryz.prog ⟨TTab, FnsMF, C⟩ := qn fnsm140_ok <|
 qn fnsm102_ok <|
 qn fnsm136_ok <|
 qn fnsm135_ok <|
 qn fnsm139_ok <|
 qn fnsm138_ok <|
 qn fnsm104_ok <|
 qn fnsm103_ok <|
 qn fnsm101_ok <|
 qn fnsm134_ok <|
 qn fnsm72_ok <| fok_nil
set_option maxHeartbeats 4000000
def hb : Nat → Nat
 | 0 => 0
 | 1 => 4602678819172646912
 | _ => 4607182418800017408
def mkP (m : Mk) : PV := .v (.complex .f64 (hb m.1) (hb m.2))
def mkE (a b : Mk) : Bool := FloatKind.f64.format.order (hb a.1) (hb b.1) == some .eq && FloatKind.f64.format.order (hb a.2) (hb b.2) == some .eq
theorem hb_eq {a b : Nat} (ha : a ≤ 2) (hb' : b ≤ 2) : (FloatKind.f64.format.order (hb a) (hb b) == some .eq) = decide (a = b) := by
 have h1 : a = 0 ∨ a = 1 ∨ a = 2 := by omega
 have h2 : b = 0 ∨ b = 1 ∨ b = 2 := by omega
 rcases h1 with rfl | rfl | rfl <;> rcases h2 with rfl | rfl | rfl <;> decide +kernel
theorem mks_le {m : Mk} (h : m ∈ mks) : m.1 ≤ 2 ∧ m.2 ≤ 2 := by
 unfold mks at h
 simp only [List.mem_cons, List.not_mem_nil, or_false] at h
 rcases h with rfl | rfl | rfl | rfl | rfl | rfl <;> exact ⟨by decide, by decide⟩
theorem mkE_eq {a b : Mk} (ha : a ∈ mks) (hb' : b ∈ mks) : mkE a b = decide (a = b) := by
 obtain ⟨h1, h2⟩ := mks_le ha
 obtain ⟨h3, h4⟩ := mks_le hb'
 unfold mkE
 rw [hb_eq h1 h3, hb_eq h2 h4]
 obtain ⟨a1, a2⟩ := a
 obtain ⟨b1, b2⟩ := b
 rw [Bool.eq_iff_iff]
 simp
theorem mkRight_h (m : Mk) (hm : m ∈ mks) : Holds Tryz.prog 101 [mkP m] (.p (pB true)) [] := by
 unfold mks at hm; simp only [List.mem_cons, List.not_mem_nil, or_false] at hm; rcases hm with rfl | rfl | rfl | rfl | rfl | rfl <;> exact .ofW (qan (n := 500) qa (qaq _) (wO ctab) (by kernel_rfl) (by kernel_rfl))
theorem mkIndet_h (m : Mk) (hm : m ∈ mks) : Holds Tryz.prog 72 [mkP m] (.p (mkP (indetM m))) [] := by
 unfold mks at hm; simp only [List.mem_cons, List.not_mem_nil, or_false] at hm; rcases hm with rfl | rfl | rfl | rfl | rfl | rfl <;> exact .ofW (qan (n := 500) qa (qaq _) (wO ctab) (by kernel_rfl) (by kernel_rfl))
theorem applies_h (m : Mk) (hm : m ∈ mks) : Holds Tryz.prog 138 [mkP m] (.p (pB (decide (m ≠ (0, 0))))) [] := by
 unfold mks at hm; simp only [List.mem_cons, List.not_mem_nil, or_false] at hm; rcases hm with rfl | rfl | rfl | rfl | rfl | rfl <;> exact .ofW (qan (n := 500) qa (qaq _) (wO ctab) (by kernel_rfl) (by kernel_rfl))
theorem sure_h (m : Mk) (hm : m ∈ mks) : Holds Tryz.prog 139 [mkP m] (.p (pB (sureM m))) [] := by
 unfold mks at hm; simp only [List.mem_cons, List.not_mem_nil, or_false] at hm; rcases hm with rfl | rfl | rfl | rfl | rfl | rfl <;> exact .ofW (qan (n := 500) qa (qaq _) (wO ctab) (by kernel_rfl) (by kernel_rfl))
theorem step4_h (j m : Mk) (hj : j ∈ mks) (hm : m ∈ mks) : Holds Tryz.prog 140 [pI 4, mkP j, mkP m] (.p (mkP (stepJ j m))) [] := by
 unfold mks at hj
 simp only [List.mem_cons, List.not_mem_nil, or_false] at hj
 unfold mks at hm; simp only [List.mem_cons, List.not_mem_nil, or_false] at hm; rcases hm with rfl | rfl | rfl | rfl | rfl | rfl <;> rcases hj with rfl | rfl | rfl | rfl | rfl | rfl <;> exact .ofW (qan (n := 500) qa (qaq _) (wO ctab) (by kernel_rfl) (by kernel_rfl))
theorem mkTurn_h (a b : Nat) (ha : a ≤ 2) (hb' : b ≤ 2) : Holds Tryz.prog 104 [mkP (a, b)] (.p (mkP (b, a))) [] := by
 have h1 : a = 0 ∨ a = 1 ∨ a = 2 := by omega
 have h2 : b = 0 ∨ b = 1 ∨ b = 2 := by omega
 rcases h1 with rfl | rfl | rfl <;> rcases h2 with rfl | rfl | rfl <;> exact .ofW (qan (n := 500) qa (qaq _) (wO ctab) (by kernel_rfl) (by kernel_rfl))
theorem mkOver_h (a b : Nat) (ha : a ≤ 2) (hb' : b ≤ 2) : Holds Tryz.prog 103 [mkP (a, b)] (.p (mkP (overM (a, b)))) [] := by
 have h1 : a = 0 ∨ a = 1 ∨ a = 2 := by omega
 have h2 : b = 0 ∨ b = 1 ∨ b = 2 := by omega
 rcases h1 with rfl | rfl | rfl <;> rcases h2 with rfl | rfl | rfl <;> exact .ofW (qan (n := 500) qa (qaq _) (wO ctab) (by kernel_rfl) (by kernel_rfl))
theorem mkJoin_h (j m : Mk) (hj : j.1 ≤ 2 ∧ j.2 ≤ 2) (hm : m ∈ mks) : Holds Tryz.prog 102 [mkP j, mkP m] (.p (mkP (wJ j m))) [] := by
 obtain ⟨a, b⟩ := j
 obtain ⟨h1, h2⟩ := hj
 simp only at h1 h2
 have h1 : a = 0 ∨ a = 1 ∨ a = 2 := by omega
 have h2 : b = 0 ∨ b = 1 ∨ b = 2 := by omega
 unfold mks at hm; simp only [List.mem_cons, List.not_mem_nil, or_false] at hm; rcases hm with rfl | rfl | rfl | rfl | rfl | rfl <;> rcases h1 with rfl | rfl | rfl <;> rcases h2 with rfl | rfl | rfl <;> exact .ofW (qan (n := 500) qa (qaq _) (wO ctab) (by kernel_rfl) (by kernel_rfl))
theorem joinM_le {a b : Mk} (ha : a.1 ≤ 2 ∧ a.2 ≤ 2) (hb' : b.1 ≤ 2 ∧ b.2 ≤ 2) : (wJ a b).1 ≤ 2 ∧ (wJ a b).2 ≤ 2 := by
 unfold wJ
 simp only
 omega
set_option maxHeartbeats 4000000
def marksP (l : List Mk) : PV := .sl 1 (l.map fun m => [mkP m])
theorem indexMk_h (l : List Mk) (hn : l.length ≤ 1000000) (f : FuncId) (caps : List PV) (p : Mk → Bool) (hF : ∀ m ∈ l, Holds Tryz.prog f ([mkP m] ++ caps) (.p (pB (p m))) []) :
 Holds Tryz.prog 137 [marksP l, .fn f caps] (.p (pI (if l.findIdx p < l.length then (l.findIdx p : Int) else -1))) [] := by
 refine qo (ts := [4]) Tryz.func137 (by kernel_rfl) rfl rfl rfl ?_
 refine uA ?_
 refine uA ?_
 refine uB ?_
 refine uZ [0, 1, 7, 8] [] ?_
 refine qw (fun n s => ∃ (k : Nat) (kk : Int), k ≤ l.length ∧ n = l.length - k ∧ kk = k ∧ (∀ g ∈ l.take k, p g = false) ∧ s = ⟨19, [(0, .p (marksP l)), (1, .p (.fn f caps)), (7, .p (pI (l.map fun m => [mkP m]).length)), (8, .p (pI kk))], []⟩) l.length ⟨0, 0, Nat.zero_le _, rfl, rfl, by simp, rfl⟩ ?_
 rintro n s ⟨k, _, hk, rfl, rfl, ha, rfl⟩
 refine uA ?_
 refine uC (fun hlt => ?_) (fun hlt => ?_)
 · refine qd ?_
   simp only [List.length_map, decide_eq_true_eq] at hlt
   have hlt' : k < l.length := by omega
   refine uB ?_
   refine uA ?_
   refine uR ?_
   refine qe qa rfl rfl (by simp only [List.length_map]; omega) rfl ?_
   rw [qm hlt']
   refine uS ?_
   refine uK (hF l[k] (List.getElem_mem hlt')) ?_
   refine qb ?_
   refine uC (fun hp => ?_) (fun hp => ?_)
   · refine uA ?_
     refine uQ ?_
     refine qZ rfl ?_
     have e : l.findIdx p = k := (List.findIdx_eq hlt').2 ⟨hp, fun j hj => ha _ (List.mem_take_iff_getElem.2 ⟨j, by omega, rfl⟩)⟩
     rw [e, if_pos hlt']
   · refine qd ?_
     refine uA ?_
     refine ⟨_, _, ?_, qh [0, 1, 7, 8] [] rfl rfl, k + 1, _, hlt', rfl, qf hlt' (by omega), ?_, rfl⟩
     · omega
     · intro g hg
       rw [List.take_succ_eq_append_getElem hlt', List.mem_append, List.mem_singleton] at hg
       rcases hg with hg | rfl
       · exact ha g hg
       · exact hp
 · refine qt ?_
   simp only [List.length_map, decide_eq_false_iff_not] at hlt
   have hkk : k = l.length := by omega
   subst hkk
   refine uA ?_
   refine uQ ?_
   refine qZ rfl ?_
   rw [List.take_length] at ha
   rw [if_neg]
   have := List.findIdx_eq_length_of_false ha
   omega
theorem indexEq_h (l : List Mk) (hn : l.length ≤ 1000000) (hl : ∀ m ∈ l, m ∈ mks) (v : Mk) (hv : v ∈ mks) :
 Holds Tryz.prog 162 [marksP l, mkP v] (.p (pI (if l.findIdx (fun m => decide (v = m)) < l.length then (l.findIdx (fun m => decide (v = m)) : Int) else -1))) [] := by
 refine qo (ts := [4]) Tryz.func162 (by kernel_rfl) rfl rfl rfl ?_
 refine uA ?_
 refine uA ?_
 refine uB ?_
 refine uZ [0, 1, 7, 8] [] ?_
 refine qw (fun n s => ∃ (k : Nat) (kk : Int), k ≤ l.length ∧ n = l.length - k ∧ kk = k ∧ (∀ g ∈ l.take k, decide (v = g) = false) ∧ s = ⟨19, [(0, .p (marksP l)), (1, .p (mkP v)), (7, .p (pI (l.map fun m => [mkP m]).length)), (8, .p (pI kk))], []⟩) l.length ⟨0, 0, Nat.zero_le _, rfl, rfl, by simp, rfl⟩ ?_
 rintro n s ⟨k, _, hk, rfl, rfl, ha, rfl⟩
 refine uA ?_
 refine uC (fun hlt => ?_) (fun hlt => ?_)
 · refine qd ?_
   simp only [List.length_map, decide_eq_true_eq] at hlt
   have hlt' : k < l.length := by omega
   refine uB ?_
   refine uA ?_
   refine uR ?_
   refine qe qa rfl rfl (by simp only [List.length_map]; omega) rfl ?_
   rw [qm hlt']
   refine uS ?_
   refine qb ?_
   refine uC (fun hp => ?_) (fun hp => ?_)
   · refine uA ?_
     refine uQ ?_
     refine qZ rfl ?_
     change mkE v l[k] = true at hp
     rw [mkE_eq hv (hl _ (List.getElem_mem hlt'))] at hp
     have e : l.findIdx (fun m => decide (v = m)) = k := (List.findIdx_eq hlt').2 ⟨hp, fun j hj => ha _ (List.mem_take_iff_getElem.2 ⟨j, by omega, rfl⟩)⟩
     rw [e, if_pos hlt']
   · change mkE v l[k] = false at hp
     rw [mkE_eq hv (hl _ (List.getElem_mem hlt'))] at hp
     refine qd ?_
     refine uA ?_
     refine ⟨_, _, ?_, qh [0, 1, 7, 8] [] rfl rfl, k + 1, _, hlt', rfl, qf hlt' (by omega), ?_, rfl⟩
     · omega
     · intro g hg
       rw [List.take_succ_eq_append_getElem hlt', List.mem_append, List.mem_singleton] at hg
       rcases hg with hg | rfl
       · exact ha g hg
       · exact hp
 · refine qt ?_
   simp only [List.length_map, decide_eq_false_iff_not] at hlt
   have hkk : k = l.length := by omega
   subst hkk
   refine uA ?_
   refine uQ ?_
   refine qZ rfl ?_
   rw [List.take_length] at ha
   rw [if_neg]
   have := List.findIdx_eq_length_of_false ha
   omega
theorem contMk_h (l : List Mk) (hn : l.length ≤ 1000000) (hl : ∀ m ∈ l, m ∈ mks) (v : Mk) (hv : v ∈ mks) :
 Holds Tryz.prog 141 [marksP l, mkP v] (.p (pB (decide (v ∈ l)))) [] := by
 refine qo (ts := [4]) Tryz.func141 (by kernel_rfl) rfl rfl rfl ?_
 refine uA ?_
 refine uR ?_
 refine uK (indexEq_h l hn hl v hv) ?_
 refine qb ?_
 refine uQ ?_
 refine jJ rfl ?_
 by_cases h : v ∈ l
 · have : l.findIdx (fun m => decide (v = m)) < l.length := List.findIdx_lt_length_of_exists ⟨v, h, by simp⟩
   rw [if_pos this]
   simp [h]
 · have : l.findIdx (fun m => decide (v = m)) = l.length := List.findIdx_eq_length_of_false fun x hx => by
    simp only [decide_eq_false_iff_not]
    exact fun e => h (e ▸ hx)
   rw [if_neg (by omega)]
   simp [h]
theorem unless_h (l : List Mk) (hn : l.length ≤ 1000000) (hl : ∀ m ∈ l, m ∈ mks) (m o : Mk) (ho : o ∈ mks) : Holds Tryz.prog 107 [marksP l, mkP m, mkP o] (.p (mkP (wW l m o))) [] := by
 unfold wW
 refine qo (ts := [6]) Tryz.func107 (by kernel_rfl) rfl rfl rfl ?_
 refine uA ?_
 refine uR ?_
 refine uK (contMk_h l hn hl o ho) ?_
 refine qb ?_
 refine uC (fun hc => ?_) (fun hc => ?_)
 · refine uA ?_
   refine uQ ?_
   rw [if_pos (of_decide_eq_true hc)]
   exact uF []
 · refine qd ?_
   refine uA ?_
   refine uQ ?_
   rw [if_neg (of_decide_eq_false hc)]
   exact uF []
theorem firstM_idx : ∀ {l : List Mk} {k : Nat} (h : k < l.length), l.findIdx (fun m => decide (m ≠ (0, 0))) = k → jP l = l[k]
 | m :: l, k, h, e => by
   rw [List.findIdx_cons] at e
   rw [jP]
   by_cases hm : m = (0, 0)
   · rw [if_pos hm]
     rw [show decide (m ≠ (0, 0)) = false by simp [hm], cond_false] at e
     obtain ⟨j, rfl⟩ : ∃ j, k = j + 1 := ⟨k - 1, by omega⟩
     rw [List.getElem_cons_succ]
     exact firstM_idx (by simpa using h) (by omega)
   · rw [if_neg hm]
     rw [show decide (m ≠ (0, 0)) = true by simp [hm], cond_true] at e
     subst e; rfl
theorem firstM_none : ∀ {l : List Mk}, (∀ m ∈ l, m = (0, 0)) → jP l = (0, 0)
 | [], _ => rfl
 | m :: l, h => by rw [jP, if_pos (h m (by simp))]; exact firstM_none fun x hx => h x (List.mem_cons_of_mem _ hx)
theorem first_h (l : List Mk) (hn : l.length ≤ 1000000) (hl : ∀ m ∈ l, m ∈ mks) : Holds Tryz.prog 105 [marksP l] (.p (mkP (jP l))) [] := by
 refine qo (ts := [2]) Tryz.func105 (by kernel_rfl) rfl rfl rfl ?_
 refine uA ?_
 refine uR ?_
 refine uK (indexMk_h l hn _ _ (fun m => decide (m ≠ (0, 0))) (fun m hm => applies_h m (hl m hm))) ?_
 refine qb ?_
 by_cases hf : l.findIdx (fun m => decide (m ≠ (0, 0))) < l.length
 · obtain ⟨k, hk, e1, e⟩ : ∃ k, ∃ h : k < l.length, l.findIdx (fun m => decide (m ≠ (0, 0))) = k ∧ jP l = l[k] := ⟨_, hf, rfl, firstM_idx hf rfl⟩
   rw [if_pos hf, e1, e]
   clear e1 hf
   refine uA ?_
   refine uC (fun hc => ?_) (fun hc => ?_)
   · refine uR ?_
     refine qe qa rfl rfl (by simp only [List.length_map]; omega) rfl ?_
     rw [qm hk]
     refine uS ?_
     refine qb ?_
     refine uQ ?_
     exact uF []
   · exfalso
     simp at hc
 · have e : jP l = (0, 0) := firstM_none fun m hm => Classical.byContradiction fun hne => hf (List.findIdx_lt_length_of_exists ⟨m, hm, by simp [hne]⟩)
   rw [if_neg hf, e]
   refine uA ?_
   refine uC (fun hc => ?_) (fun hc => ?_)
   · cases hc
   · refine qd ?_
     refine uA ?_
     refine uQ ?_
     exact uF []
theorem stepJ_mem {j m : Mk} (hj : j ∈ mks) (hm : m ∈ mks) : stepJ j m ∈ mks := by
 unfold stepJ
 repeat' split
 · exact hm
 · simp [mks]
 · exact hj
theorem only_h (l : List Mk) (hn : l.length ≤ 1000000) (hl : ∀ m ∈ l, m ∈ mks) : Holds Tryz.prog 106 [marksP l] (.p (mkP (onlyM (0, 0) l))) [] := by
 refine qo (ts := [2]) Tryz.func106 (by kernel_rfl) rfl rfl rfl ?_
 refine uA ?_
 refine uA ?_
 refine uA ?_
 refine uB ?_
 refine uZ [3, 6, 7, 8] [] ?_
 refine qw (fun n s => ∃ (k : Nat) (kk : Int) (j : Mk), k ≤ l.length ∧ n = l.length - k ∧ kk = k ∧ j ∈ mks ∧ onlyM (0, 0) l = onlyM j (l.drop k) ∧ s = ⟨20, [(3, .p (mkP j)), (6, .p (marksP l)), (7, .p (pI (l.map fun m => [mkP m]).length)), (8, .p (pI kk))], []⟩) l.length ⟨0, 0, (0, 0), Nat.zero_le _, rfl, rfl, by simp [mks], rfl, rfl⟩ ?_
 rintro n s ⟨k, _, j, hk, rfl, rfl, hj, ha, rfl⟩
 refine uA ?_
 refine uC (fun hlt => ?_) (fun hlt => ?_)
 · refine qd ?_
   simp only [List.length_map, decide_eq_true_eq] at hlt
   have hlt' : k < l.length := by omega
   have hm := hl _ (List.getElem_mem hlt')
   rw [List.drop_eq_getElem_cons hlt', onlyM] at ha
   refine uB ?_
   refine uR ?_
   refine qe qa rfl rfl (by simp only [List.length_map]; omega) rfl ?_
   rw [qm hlt']
   refine uS ?_
   refine qb ?_
   refine uR ?_
   refine uK (sure_h l[k] hm) ?_
   refine qb ?_
   cases hs : sureM l[k] with
   | false =>
     rw [hs, if_neg (by simp)] at ha
     refine uC (fun hc => ?_) (fun hc => ?_)
     · refine uA ?_
       refine uQ ?_
       rw [ha]
       exact uF []
     · cases hc
   | true =>
     rw [hs, if_pos rfl] at ha
     refine uC (fun hc => ?_) (fun hc => ?_)
     · cases hc
     refine qd ?_
     refine uR ?_
     refine uK (step4_h j l[k] hj hm) ?_
     refine qb ?_
     refine uA ?_
     refine ⟨_, _, ?_, qh [3, 6, 7, 8] [] rfl rfl, k + 1, _, stepJ j l[k], hlt', rfl, qf hlt' (by omega), stepJ_mem hj hm, ha, rfl⟩
     omega
 · refine qt ?_
   simp only [List.length_map, decide_eq_false_iff_not] at hlt
   have hkk : k = l.length := by omega
   subst hkk
   rw [List.drop_length] at ha
   rw [ha]
   refine uA ?_
   refine uQ ?_
   exact uF []
theorem joinL_take {l : List Mk} {k : Nat} (h : k < l.length) : wJ (joinL (l.take k)) l[k] = joinL (l.take (k + 1)) := by
 unfold joinL
 rw [List.take_succ_eq_append_getElem h, List.foldl_append]; rfl
theorem combAll_h (alg : Int) (l : List Mk) (hn : l.length ≤ 1000000) (hl : ∀ m ∈ l, m ∈ mks) : Holds Tryz.prog 71 [pI alg, marksP l] (.tup [.p (mkP (allM alg l)), .p (pI (if 1 ≤ alg ∧ alg ≤ 6 then 0 else 1))]) [] := by
 refine qo (ts := [4,5]) Tryz.func71 (by kernel_rfl) rfl rfl rfl ?_
 refine uA ?_
 refine uA ?_
 refine uA ?_
 refine uB ?_
 refine uZ [0, 1, 6, 9, 10, 11] [] ?_
 refine qw (fun m s => ∃ (k : Nat) (kk : Int) (j : Mk), k ≤ l.length ∧ m = l.length - k ∧ kk = k ∧ j = joinL (l.take k) ∧ (j.1 ≤ 2 ∧ j.2 ≤ 2) ∧ s = ⟨49, [(0, .p (pI alg)), (1, .p (marksP l)), (6, .p (mkP j)), (9, .p (marksP l)), (10, .p (pI (l.map fun m => [mkP m]).length)), (11, .p (pI kk))], []⟩) l.length ⟨0, 0, (0, 0), Nat.zero_le _, rfl, rfl, rfl, ⟨by decide, by decide⟩, rfl⟩ ?_
 rintro m s ⟨k, _, j, hk, rfl, rfl, hj, hj2, rfl⟩
 refine uA ?_
 refine uC (fun hlt => ?_) (fun hlt => ?_)
 · refine qd ?_
   simp only [List.length_map, decide_eq_true_eq] at hlt
   have hlt' : k < l.length := by omega
   have hm := hl _ (List.getElem_mem hlt')
   refine uB ?_
   refine uR ?_
   refine qe qa rfl rfl (by simp only [List.length_map]; omega) rfl ?_
   rw [qm hlt']
   refine uS ?_
   refine qb ?_
   refine uR ?_
   refine uK (mkRight_h l[k] hm) ?_
   refine qb ?_
   refine uC (fun hc => ?_) (fun hc => ?_)
   · cases hc
   refine qd ?_
   refine uR ?_
   refine uK (mkJoin_h j l[k] hj2 hm) ?_
   refine qb ?_
   refine uA ?_
   refine ⟨_, _, ?_, qh [0, 1, 6, 9, 10, 11] [] rfl rfl, k + 1, _, wJ j l[k], hlt', rfl, qf hlt' (by omega), ?_, joinM_le hj2 (mks_le hm), rfl⟩
   · omega
   · rw [hj]; exact joinL_take hlt'
 · refine qt ?_
   simp only [List.length_map, decide_eq_false_iff_not] at hlt
   have hkk : k = l.length := by omega
   subst hkk
   rw [List.take_length] at hj
   obtain ⟨a, b⟩ := j
   obtain ⟨h1, h2⟩ := hj2
   simp only at h1 h2
   refine uA ?_
   refine uB ?_
   refine uA ?_
   refine uC (fun c1 => ?_) (fun c1 => ?_)
   · have e : alg = 1 := by simpa using c1
     subst e
     have e : allM 1 l = overM (a, b) := by rw [hj]; rfl
     rw [e]
     refine uR ?_
     refine uK (mkOver_h a b h1 h2) ?_
     refine qb ?_
     refine uQ ?_
     exact uF []
   have n1 : ¬ alg = 1 := by simpa using c1
   refine uA ?_
   refine uC (fun c2 => ?_) (fun c2 => ?_)
   · have e : alg = 2 := by simpa using c2
     subst e
     have e : allM 2 l = turnM (overM (b, a)) := by
      show turnM (overM (turnM (joinL l))) = _
      rw [← hj]; rfl
     rw [e]
     obtain ⟨ho1, ho2⟩ := mks_le (overM_mem (b, a))
     have HO := mkOver_h b a h2 h1
     generalize overM (b, a) = o at *
     obtain ⟨x, y⟩ := o
     refine uR ?_
     refine uK (mkTurn_h a b h1 h2) ?_
     refine uK HO ?_
     refine uK (mkTurn_h x y ho1 ho2) ?_
     refine qb ?_
     refine uQ ?_
     exact uF []
   have n2 : ¬ alg = 2 := by simpa using c2
   refine uA ?_
   refine uC (fun c3 => ?_) (fun c3 => ?_)
   · have e : alg = 3 := by simpa using c3
     subst e
     rw [show allM 3 l = jP l from rfl]
     refine uR ?_
     refine uK (first_h l hn hl) ?_
     refine qb ?_
     refine uQ ?_
     exact uF []
   have n3 : ¬ alg = 3 := by simpa using c3
   refine uA ?_
   refine uC (fun c4 => ?_) (fun c4 => ?_)
   · have e : alg = 4 := by simpa using c4
     subst e
     rw [show allM 4 l = onlyM (0, 0) l from rfl]
     refine uR ?_
     refine uK (only_h l hn hl) ?_
     refine qb ?_
     refine uQ ?_
     exact uF []
   have n4 : ¬ alg = 4 := by simpa using c4
   refine uA ?_
   refine uC (fun c5 => ?_) (fun c5 => ?_)
   · have e : alg = 5 := by simpa using c5
     subst e
     rw [show allM 5 l = wW l (0, 2) (2, 0) from rfl]
     refine uR ?_
     refine uK (unless_h l hn hl (0, 2) (2, 0) (by simp [mks])) ?_
     refine qb ?_
     refine uQ ?_
     exact uF []
   have n5 : ¬ alg = 5 := by simpa using c5
   refine uA ?_
   refine uC (fun c6 => ?_) (fun c6 => ?_)
   · have e : alg = 6 := by simpa using c6
     subst e
     rw [show allM 6 l = wW l (2, 0) (0, 2) from rfl]
     refine uR ?_
     refine uK (unless_h l hn hl (2, 0) (0, 2) (by simp [mks])) ?_
     refine qb ?_
     refine uQ ?_
     exact uF []
   · have n6 : ¬ alg = 6 := by simpa using c6
     have e : allM alg l = (0, 0) := by unfold allM; rw [if_neg n1, if_neg n2, if_neg n3, if_neg n4, if_neg n5, if_neg n6]
     rw [e, if_neg (by omega)]
     refine qd ?_
     refine uA ?_
     refine uQ ?_
     exact uF []
set_option maxHeartbeats 4000000
def rsP (x : Rs) : List PV := [mkP x.m, jc x.obls]
def rssP (l : List Rs) : PV := .sl 2 (l.map rsP)
theorem dutiesS_take {l : List Obli} {m : Mk} {k : Nat} (h : k < l.length) : jZ (l.take (k + 1)) m = if dutyS m l[k] then jZ (l.take k) m ++ [l[k]] else jZ (l.take k) m := by
 unfold jZ
 rw [List.take_succ_eq_append_getElem h, List.filter_append]
 cases hd : dutyS m l[k] <;> simp [hd]
theorem jL (l : List Obli) (m : Mk) : (jZ l m).length ≤ l.length := List.length_filter_le _ _
theorem duties_h (l : List Obli) (hn : l.length ≤ 1000000) (m : Mk) (hm : m ∈ mks) : Holds Tryz.prog 73 [jc l, mkP m] (.p (jc (jZ l m))) [] := by
 have lm : (l.map Obli.pv).length = l.length := by simp
 refine .ofW ?_
 refine qz (T := TTab) qa Tryz.func73 (by kernel_rfl) rfl rfl rfl ?_
 refine uA ?_
 refine uA ?_
 refine uA ?_
 refine uB ?_
 refine SW.wk (zp 5 900 98 3 rfl rfl) ?_
 refine uZ [1, 5, 8, 9, 10] [(900, 0)] ?_
 refine qw (fun n s => ∃ (k : Nat) (kk : Int) (L : List Obli), k ≤ l.length ∧ n = l.length - k ∧ kk = k ∧ L = jZ (l.take k) m ∧ s = ⟨36, [(1, .p (mkP m)), (5, .row 0), (8, .p (jc l)), (9, .p (pI (l.map Obli.pv).length)), (10, .p (pI kk))], [(0, .row 98 3 (L.map Obli.pv))]⟩) l.length ⟨0, 0, [], Nat.zero_le _, rfl, rfl, rfl, rfl⟩ ?_
 rintro n s ⟨k, _, L, hk, rfl, rfl, hL, rfl⟩
 refine uA ?_
 refine uC (fun hlt => ?_) (fun hlt => ?_)
 · refine qd ?_
   rw [lm] at hlt
   simp only [decide_eq_true_eq] at hlt
   have hlt' : k < l.length := by omega
   have hs := dutiesS_take (m := m) hlt'
   have hLl : L.length ≤ k := by rw [hL]; have := jL (l.take k) m; simp at this; omega
   refine uB ?_
   refine uR ?_
   refine qe qa rfl rfl (by rw [lm]; omega) rfl ?_
   rw [qm hlt']
   refine uS ?_
   refine qb ?_
   have hd : dutyS m l[k] = bif (l[k].on == 1) && mkE m (2, 0) then true else (l[k].on == 2) && mkE m (0, 2) := by
    rw [mkE_eq hm (by simp [mks]), mkE_eq hm (by simp [mks])]
    unfold dutyS
    rw [Bool.eq_iff_iff]
    simp
   (repeat refine qH ?_); refine ql (by kernel_rfl) ?_
   repeat (refine qi qa rfl (by exact True.intro) rfl ?_)
   refine qP ?_
   refine uC (fun hc => ?_) (fun hc => ?_)
   · have hd' : dutyS m l[k] = true := by
      rw [hd]
      revert hc
      unfold mkE
      cases (l[k].on == 1) <;> cases (l[k].on == 2) <;> simp [hb]
     rw [hd', if_pos rfl] at hs
     refine uR ?_
     refine qy rfl (qg qa rfl rfl rfl rfl rfl rfl rfl rfl rfl rfl rfl rfl rfl rfl rfl rfl (by simp only [List.length_append, List.length_map, List.length_take, List.length_cons, List.length_nil]; unfold reachBytes; omega) (by simp only [List.length_append, List.length_map, List.length_take, List.length_cons, List.length_nil]; omega) ?_)
     refine uS ?_
     refine qb ?_
     refine uA ?_
     refine ⟨_, _, ?_, qh [1, 5, 8, 9, 10] [(33, 0)] rfl rfl, k + 1, _, jZ (l.take (k + 1)) m, hlt', rfl, qf hlt' (by omega), rfl, ?_⟩
     · omega
     · rw [hs, ← hL, List.map_append]; rfl
   · have hd' : dutyS m l[k] = false := by
      rw [hd]
      revert hc
      unfold mkE
      cases (l[k].on == 1) <;> cases (l[k].on == 2) <;> simp [hb]
     rw [hd', if_neg (by simp)] at hs
     refine qd ?_
     refine uA ?_
     refine ⟨_, _, ?_, qh [1, 5, 8, 9, 10] [(0, 0)] rfl rfl, k + 1, _, L, hlt', rfl, qf hlt' (by omega), by rw [hs]; exact hL, rfl⟩
     omega
 · refine qt ?_
   rw [lm] at hlt
   simp only [decide_eq_false_iff_not] at hlt
   have hkk : k = l.length := by omega
   subst hkk
   rw [List.take_length] at hL
   subst hL
   refine uA ?_
   refine uQ ?_
   exact ⟨Or.inr rfl, _, _, [], _, zg (k := 0) rfl, rfl, rfl, .refl _, rfl, rfl⟩
theorem effect_h (r : Rul) (t c : Int) (ho : r.obls.length ≤ 1000000) : Holds Tryz.prog 65 [.agg (zy r), pI t, pI c] (.p (.agg (rsP (zE r t c)))) [] := by
 obtain ⟨id, deny, tg, cond, obls⟩ := r
 unfold zE effM
 simp only at ho ⊢
 refine .ofW ?_
 cases deny with
 | true =>
   rw [if_pos rfl]
   refine qz (T := TTab) qa Tryz.func65 (by kernel_rfl) rfl rfl rfl ?_
   refine uA ?_
   refine uA ?_
   refine uA ?_
   refine uC (fun hd => ?_) (fun hd => ?_)
   · refine uA ?_
     refine uB ?_
     (repeat refine qH ?_); refine ql (by kernel_rfl) ?_
     repeat (refine qi qa rfl (by exact True.intro) rfl ?_)
     refine qP ?_
     refine uC (fun h0 => ?_) (fun h0 => ?_)
     · have h0' : t = 0 ∨ (t = 2 ∧ c = 0) := by
        revert h0
        by_cases a : t = 0 <;> by_cases b : t = 2 <;> by_cases d : c = 0 <;> simp [a, b, d]
       rw [if_pos h0']
       refine uA ?_
       refine uQ ?_
       exact ⟨Or.inr rfl, _, _, [], _, Wk.refl _, rfl, rfl, .p (CvL.agg (.cons (.refl _) (.cons (.nil 3) .nil))), rfl, rfl⟩
     · have h0' : ¬ (t = 0 ∨ (t = 2 ∧ c = 0)) := by
        revert h0
        by_cases a : t = 0 <;> by_cases b : t = 2 <;> by_cases d : c = 0 <;> simp [a, b, d]
       rw [if_neg h0']
       (repeat refine qH ?_); refine ql (by kernel_rfl) ?_
       repeat (refine qi qa rfl (by exact True.intro) rfl ?_)
       refine qP ?_
       refine uC (fun h1 => ?_) (fun h1 => ?_)
       · have h1' : t = 1 ∨ c = 1 := by
          revert h1
          by_cases a : t = 1 <;> by_cases d : c = 1 <;> simp [a, d]
         rw [if_pos h1']
         refine uR ?_
         refine uK (mkIndet_h (0, 2) (by simp [mks])) ?_
         refine qb ?_
         refine uQ ?_
         exact ⟨Or.inr rfl, _, _, [], _, Wk.refl _, rfl, rfl, .p (CvL.agg (.cons (.refl _) (.cons (.nil 3) .nil))), rfl, rfl⟩
       · have h1' : ¬ (t = 1 ∨ c = 1) := by
          revert h1
          by_cases a : t = 1 <;> by_cases d : c = 1 <;> simp [a, d]
         rw [if_neg h1']
         refine qd ?_
         refine uR ?_
         refine uO (duties_h obls ho (0, 2) (by simp [mks])) ?_
         refine qb ?_
         refine uQ ?_
         exact ⟨Or.inr rfl, _, _, [], _, Wk.refl _, rfl, rfl, .refl _, rfl, rfl⟩
   · cases hd
 | false =>
   simp only [Bool.false_eq_true, if_false]
   refine qz (T := TTab) qa Tryz.func65 (by kernel_rfl) rfl rfl rfl ?_
   refine uA ?_
   refine uA ?_
   refine uA ?_
   refine uC (fun hd => ?_) (fun hd => ?_)
   · cases hd
   · refine qd ?_
     refine uB ?_
     (repeat refine qH ?_); refine ql (by kernel_rfl) ?_
     repeat (refine qi qa rfl (by exact True.intro) rfl ?_)
     refine qP ?_
     refine uC (fun h0 => ?_) (fun h0 => ?_)
     · have h0' : t = 0 ∨ (t = 2 ∧ c = 0) := by
        revert h0
        by_cases a : t = 0 <;> by_cases b : t = 2 <;> by_cases d : c = 0 <;> simp [a, b, d]
       rw [if_pos h0']
       refine uA ?_
       refine uQ ?_
       exact ⟨Or.inr rfl, _, _, [], _, Wk.refl _, rfl, rfl, .p (CvL.agg (.cons (.refl _) (.cons (.nil 3) .nil))), rfl, rfl⟩
     · have h0' : ¬ (t = 0 ∨ (t = 2 ∧ c = 0)) := by
        revert h0
        by_cases a : t = 0 <;> by_cases b : t = 2 <;> by_cases d : c = 0 <;> simp [a, b, d]
       rw [if_neg h0']
       (repeat refine qH ?_); refine ql (by kernel_rfl) ?_
       repeat (refine qi qa rfl (by exact True.intro) rfl ?_)
       refine qP ?_
       refine uC (fun h1 => ?_) (fun h1 => ?_)
       · have h1' : t = 1 ∨ c = 1 := by
          revert h1
          by_cases a : t = 1 <;> by_cases d : c = 1 <;> simp [a, d]
         rw [if_pos h1']
         refine uR ?_
         refine uK (mkIndet_h (2, 0) (by simp [mks])) ?_
         refine qb ?_
         refine uQ ?_
         exact ⟨Or.inr rfl, _, _, [], _, Wk.refl _, rfl, rfl, .p (CvL.agg (.cons (.refl _) (.cons (.nil 3) .nil))), rfl, rfl⟩
       · have h1' : ¬ (t = 1 ∨ c = 1) := by
          revert h1
          by_cases a : t = 1 <;> by_cases d : c = 1 <;> simp [a, d]
         rw [if_neg h1']
         refine qd ?_
         refine uR ?_
         refine uO (duties_h obls ho (2, 0) (by simp [mks])) ?_
         refine qb ?_
         refine uQ ?_
         exact ⟨Or.inr rfl, _, _, [], _, Wk.refl _, rfl, rfl, .refl _, rfl, rfl⟩
theorem ruleR_h (r : Rul) (g : List Giv) (hr : RulFit r) (ht : TarSm r.target) (ho : r.obls.length ≤ 1000000) (hf : ∀ x ∈ g, x.Fit) (hn : g.length ≤ 1000000) (hb : ∀ x ∈ g, x.bag.length ≤ 1000000) : Holds Tryz.prog 59 [.agg (zy r), zm g] (.p (.agg (rsP (wT g r)))) [] := by
 have H1 := metT_h r.target g hr.tgt ht hf hn hb
 have H2 := cond_h r.cond g hr.cond hf hn hb
 have H3 := effect_h r (metT r.target g) (condS r.cond g) ho
 obtain ⟨id, deny, tg, cond, obls⟩ := r
 unfold wT
 simp only at H1 H2 H3 ⊢
 generalize metT tg g = t at *
 generalize condS cond g = c at *
 refine .ofW ?_
 refine qz (T := TTab) qa Tryz.func59 (by kernel_rfl) rfl rfl rfl ?_
 refine uA ?_
 refine uD [4] [1, 3, 5, 7, 11, 13, 15, 8, 16, 18, 20] ?_
 refine uk H1 ?_
 refine uk H2 ?_
 refine uo H3 ?_
 refine qY ?_
 refine uQ ?_
 exact ⟨Or.inr rfl, _, _, [], _, Wk.refl _, rfl, rfl, .refl _, rfl, rfl⟩
section
variable {P : Program} {T : TT} (hT : qX P T) {st : St} {K : List Nat}
include hT
theorem rdO_build3 {o : Oper} {t e : TypeId} {x y z : Int} (ho : o.op = .build t #[(0, .const (.int .i64 x)), (1, .const (.int .i64 y)), (2, .const (.int .i64 z))]) {m m2 : Nat} {q q2 : Bool} {z2 : List Value} (ht : lk t T = some ⟨3, m, .arr 3 e, [.int .i64 0, .int .i64 0, .int .i64 0], q⟩)
 (he : lk e T = some ⟨1, m2, .int .i64, z2, q2⟩) : RdO P K st o (.p (.agg [.v (.int .i64 x), .v (.int .i64 y), .v (.int .i64 z)])) := by
 refine RdO.of_sem (sem := fun a => Instr.build t #[(0, .int .i64 x), (1, .int .i64 y), (2, .int .i64 z)]) (fun a => by simp [execOp, ho, Act.eval]) fun w0 Sx γ a w hI => ?_
 have hu : P.underlying t = some (.array 3 e) := (hT t _ ht).und
 obtain ⟨info, zv, z1, _, _, z2', z3⟩ := (hT t _ ht).info
 have hzc : zv.cells = #[.int .i64 0, .int .i64 0, .int .i64 0] := by
  apply Array.toList_inj.1
  exact z3
 refine ⟨.agg #[.int .i64 x, .int .i64 y, .int .i64 z], .p (.agg (us := [.int .i64 x, .int .i64 y, .int .i64 z]) rfl fun i s u hs hu => ?_), fun w' _ => ?_⟩
 · match i, hs, hu with
   | 0, hs, hu => cases hs; cases hu; exact .v rfl
   | 1, hs, hu => cases hs; cases hu; exact .v rfl
   | 2, hs, hu => cases hs; cases hu; exact .v rfl
 · have hc : ∀ n, (Value.int .i64 n).cells = #[.int .i64 n] := fun _ => rfl
   simp [Instr.build, zeroValue, typeInfo, z1, z2', hzc, run_underlying hu, (hT e _ he).size, Instr.fill, hc, Result.andThen]
end
theorem swm_rdX {P : Program} {ops : List Oper} {K : List Nat} {st : St} {Q : St → Prop} {i : Nat} {r : List (Nat × Bool)} {o : Oper} {s : SV} (hi : nthO ops i = some o) (hw : ja ops st o = some true) (hr : RdO P K st o s) (hd : zl st o.dst = true) (h : SWM P ops K r Q (st.put o.dst s)) : SWM P ops K ((i, true) :: r) Q st := fun w0 Sx γ a w QQ hI hQ => by
 have hrest := fun v (hv : RelS (okO Sx γ st.own) (hp γ st.own) w s v) => h w0 Sx γ _ w QQ (hI.put (dst := o.dst) hd hv) hQ
 simp only [wS] at hrest
 obtain ⟨v, h1, h2⟩ := hr w0 Sx γ a w hI
 exact ⟨SameOn.refl _ _, o, v, (zG ops i).trans hi, Or.inl ⟨zw hI hw, h2⟩, hrest v h1⟩
set_option maxHeartbeats 4000000
def dgmO (at_ : List Atm) (r : Nat) (E : List Rs) : List (Nat × Box) := [(1000000, .cells [.p (.v (.pointer none)), .p (pI 0), .p (atmsP at_), .row r]), (r, .row 37 2 (E.map rsP))]
def qaf (at_ : List Atm) (a : Atm) : Pt := ⟨1, (zU 1 [] ⟨jU at_ a, -1, -2, -3⟩).2.2, (zU 1 [] ⟨jU at_ a, -1, -2, -3⟩).1⟩
structure AtOk (at_ : List Atm) : Prop where
 few : at_.length ≤ 64
 c : ∀ x ∈ at_, x.c.length ≤ 1000000
theorem asked_h (at_ : List Atm) (hat : AtOk at_) (E : List Rs) (a : Atm) (ha : a.c.length ≤ 1000000) : qJ Tryz.prog 61 [.ptr 1000000 0, .p (.agg a.pv)] (dgmO at_ 1000001 E) (.p (.agg (qaf at_ a).pv)) (dgmO at_ 1000001 E) := by
 have HF := find_h at_ a (by have := hat.few; omega) hat.c ha
 have HM := dmake_h 1 [] (by show 0 ≤ 100000; omega) ⟨jU at_ a, -1, -2, -3⟩
 unfold qaf
 generalize jU at_ a = fi at *
 generalize zU 1 [] ⟨fi, -1, -2, -3⟩ = r at *
 obtain ⟨v, e, d2⟩ := r
 simp only at HM ⊢
 refine qz (T := TTab) qa Tryz.func61 (by kernel_rfl) rfl rfl rfl ?_
 refine uA ?_
 refine uR ?_
 refine uO (dnew_h 1 (by omega) (by omega)) ?_
 refine qb ?_
 refine SW.wk (wk_nilc 11000 1 901 68 4 rfl rfl rfl) ?_
 refine uZ [0, 3, 4, 5] [(3, 3), (4, 4), (11000, 1), (901, 5), (1000000, 1000000), (1000001, 1000001)] ?_
 refine uD [1, 5] [1, 3, 5, 7, 9, 11, 15, 12, 17, 18, 21, 23, 25, 27, 29] ?_
 refine swm_rdX rfl rfl (rdO_build3 qa rfl rfl rfl) rfl ?_
 refine uk HF ?_
 refine uT ?_
 refine uw [(1, 1000000), (5, 1000001)] HM ?_
 refine uT ?_
 refine qY ?_
 refine uZ [4, 5, 7] [(4, 4), (1, 1), (24000, 5), (1000000, 1000000), (1000001, 1000001)] ?_
 refine SW.wk (zg (k := 5) rfl) ?_
 refine SW.wk (wk_frzB (k := 1) rfl rfl) ?_
 refine uA ?_
 refine uQ ?_
 exact ⟨Or.inr rfl, _, _, [(1000000, 1000000), (1000001, 1000001)], _, Wk.refl _, rfl, rfl, .refl _, rfl, rfl⟩
structure PtG (p : Pt) : Prop where
 d : WfB p.l
 few : p.l.length ≤ 2000
 r : VB p.r
theorem vb_least {row : List Int} (h : ∀ x ∈ row, VB x) : VB (-1 - wZ (row.map fun x => -1 - x)) := by
 unfold wZ
 cases row with
 | nil => show VB (-1 - 2); exact ⟨by decide, by decide⟩
 | cons y r =>
   rcases qas (f := min) (fun a b => by omega) ((r.map fun x => -1 - x) ++ [2]) (-1 - y) with e | e
   · show VB (-1 - ((r.map fun x => -1 - x) ++ [2]).foldl min (-1 - y))
     rw [e, show -1 - (-1 - y) = y by omega]
     exact h y (by simp)
   · show VB (-1 - ((r.map fun x => -1 - x) ++ [2]).foldl min (-1 - y))
     rcases List.mem_append.1 e with e | e
     · obtain ⟨x, hx, e⟩ := List.mem_map.1 e
       rw [← e, show -1 - (-1 - x) = x by omega]
       exact h x (by simp [hx])
     · rw [List.mem_singleton.1 e]; exact ⟨by decide, by decide⟩
theorem vb_great {row : List Int} (h : ∀ x ∈ row, VB x) : VB (-1 - greatL (row.map fun x => -1 - x)) := by
 unfold greatL
 cases row with
 | nil => show VB (-1 - 0); exact ⟨by decide, by decide⟩
 | cons y r =>
   rcases qas (f := max) (fun a b => by omega) ((r.map fun x => -1 - x) ++ [0]) (-1 - y) with e | e
   · show VB (-1 - ((r.map fun x => -1 - x) ++ [0]).foldl max (-1 - y))
     rw [e, show -1 - (-1 - y) = y by omega]
     exact h y (by simp)
   · show VB (-1 - ((r.map fun x => -1 - x) ++ [0]).foldl max (-1 - y))
     rcases List.mem_append.1 e with e | e
     · obtain ⟨x, hx, e⟩ := List.mem_map.1 e
       rw [← e, show -1 - (-1 - x) = x by omega]
       exact h x (by simp [hx])
     · rw [List.mem_singleton.1 e]; exact ⟨by decide, by decide⟩
theorem psOk_of {ps : List Pt} (hn : ps.length ≤ 1000) (h : ∀ p ∈ ps, PtG p) : PsOk ps (ps.map Pt.r) where
 len := by simp
 few := hn
 dag := fun p hp => by have := (h p hp).few; omega
 ways := fun x hx => by
  obtain ⟨p, hp, rfl⟩ := List.mem_map.1 hx
  exact (h p hp).r
theorem wovenG {ps : List Pt} {fl : List Int → Int} (hn : ps.length ≤ 1000) (h : ∀ p ∈ ps, PtG p) (hf : ∀ row : List Int, (∀ x ∈ row, VB x) → VB (-1 - fl (row.map fun x => -1 - x))) : PtG (wovenP (jg ps fl)) := by
 obtain ⟨h1, h2⟩ := way_wf (f := jV fl) (fun _ row hr => hf row hr) (fun p hp => (h p hp).d) 66 ⟨[], [], 0, ()⟩ (ps.map Pt.r) (psOk_of hn h) ⟨fun i hi => absurd hi (Nat.not_lt_zero i), Nat.zero_le _, fun p hp => by cases hp⟩
 exact ⟨h1.d, h1.few, h2⟩
theorem askedG (at_ : List Atm) (a : Atm) : PtG (qaf at_ a) := by
 have h0 : WfB [] := fun i hi => absurd hi (Nat.not_lt_zero i)
 exact ⟨wfB_make h0, make_len (by show 0 ≤ 2000; omega), make_vb (by show 0 ≤ 2000; omega) ⟨by show _ ≤ (-1 : Int); decide, by show (-1 : Int) ≤ _; decide⟩⟩
def jM {α : Type} (g : α → Pt × Int) : List α → List Pt × Option (Pt × Int)
 | [] => ([], none)
 | x :: r => if (g x).2 ≠ 0 then ([], some (g x)) else ((g x).1 :: (jM g r).1, (jM g r).2)
theorem seqPt_ok {α : Type} {g : α → Pt × Int} : ∀ {l : List α}, (∀ x ∈ l, (g x).2 = 0) → jM g l = (l.map fun x => (g x).1, none)
 | [], _ => rfl
 | x :: r, h => by
   rw [jM, if_neg (by rw [h x (by simp)]; simp), seqPt_ok fun y hy => h y (by simp [hy])]; rfl
theorem seqPt_at {α : Type} {g : α → Pt × Int} : ∀ {l : List α} {k : Nat} (hk : k < l.length), (∀ x ∈ l.take k, (g x).2 = 0) → (g l[k]).2 ≠ 0 → (jM g l).2 = some (g l[k])
 | x :: r, 0, _, _, h => by rw [jM, if_pos (show (g x).2 ≠ 0 from h)]; rfl
 | x :: r, k + 1, hk, ha, h => by
   rw [jM, if_neg (by rw [ha x (by simp)]; simp)]
   exact seqPt_at (by simpa using hk) (fun y hy => ha y (by rw [List.take_succ_cons]; exact List.mem_cons_of_mem _ hy)) h
def wvP (r : Int × Int × Wv Unit) : Pt × Int := (wovenP r, r.2.1)
def wvSeq (fl : List Int → Int) (q : List Pt × Option (Pt × Int)) : Pt × Int := match q.2 with
 | some pe => pe
 | none => wvP (jg q.1 fl)
def wF (at_ : List Atm) (y : List Mat) : Pt × Int := wvP (jg (y.map fun m => qaf at_ ⟨m, []⟩) wZ)
def ju (at_ : List Atm) (x : List (List Mat)) : Pt × Int := wvSeq greatL (jM (wF at_) x)
def zP (at_ : List Atm) (t : Tar) : Pt × Int := wvSeq wZ (jM (ju at_) t)
theorem allG (at_ : List Atm) {y : List Mat} (h : y.length ≤ 1000) : PtG (wF at_ y).1 :=
 wovenG (by simpa using h) (fun p hp => by obtain ⟨m, _, rfl⟩ := List.mem_map.1 hp; exact askedG at_ _) fun row hr => vb_least hr
theorem seqG {α : Type} {g : α → Pt × Int} {fl : List Int → Int} (hf : ∀ row : List Int, (∀ x ∈ row, VB x) → VB (-1 - fl (row.map fun x => -1 - x))) {l : List α} (hn : l.length ≤ 1000) (hg : ∀ x ∈ l, PtG (g x).1) : PtG (wvSeq fl (jM g l)).1 := by
 have key : ∀ l : List α, (∀ x ∈ l, PtG (g x).1) → (∀ p ∈ (jM g l).1, PtG p) ∧ (∀ pe, (jM g l).2 = some pe → PtG pe.1) ∧ (jM g l).1.length ≤ l.length := by
  intro l
  induction l with
  | nil => intro _; exact ⟨(fun p hp => nomatch hp), (fun pe h => nomatch h), Nat.le_refl _⟩
  | cons x r ih =>
    intro h
    obtain ⟨h1, h2, h3⟩ := ih fun y hy => h y (by simp [hy])
    rw [jM]
    split
    · exact ⟨(fun p hp => nomatch hp), (fun pe e => by cases e; exact h x (by simp)), Nat.zero_le _⟩
    · refine ⟨fun p hp => ?_, h2, by simp only [List.length_cons]; omega⟩
      rcases List.mem_cons.1 hp with rfl | hp
      · exact h x (by simp)
      · exact h1 p hp
 obtain ⟨k1, k2, k3⟩ := key l hg
 unfold wvSeq
 cases e : (jM g l).2 with
 | some pe => exact k2 pe e
 | none => exact wovenG (by omega) k1 hf
theorem anyG (at_ : List Atm) {x : List (List Mat)} (h : x.length ≤ 1000) (hy : ∀ y ∈ x, y.length ≤ 1000) : PtG (ju at_ x).1 := seqG (fun row hr => vb_great hr) h fun y h => allG at_ (hy y h)
set_option maxHeartbeats 4000000
theorem HoldsR.cv2x {P : Program} {f : FuncId} {s : SV} {x x' : PV} {own : List (Nat × Box)} {R : SV → List (Nat × Box) → Prop} (h : HoldsR P f [s, .p x] own R) (hc : Cv x' x) : HoldsR P f [s, .p x'] own R :=
 ⟨h.1, fun w Sx γ vs hh hl hr => h.2 w Sx γ vs hh hl fun i t u ht hu => by
  match i, ht with
  | 0, ht => exact hr 0 t u ht hu
  | 1, ht =>
    simp only [List.getElem?_cons_succ, List.getElem?_cons_zero, Option.some.injEq] at ht
    subst ht
    exact .p ((hr 1 (.p x') u rfl hu).p_inv.cv hc)⟩
theorem askedM_h (at_ : List Atm) (hat : AtOk at_) (E : List Rs) (m : Mat) : qJ Tryz.prog 61 [.ptr 1000000 0, .p (.agg (atmP m nilV))] (dgmO at_ 1000001 E) (.p (.agg (qaf at_ ⟨m, []⟩).pv)) (dgmO at_ 1000001 E) :=
 HoldsR.cv2x (asked_h at_ hat E ⟨m, []⟩ (Nat.zero_le _)) (CvL.agg (.cons (.refl _) (.cons (.refl _) (.cons (.refl _) (.cons (.refl _) (.cons (.refl _) (.cons (.refl _) (.cons (.refl _) (.cons (.nil 7) .nil)))))))))
def TarK (t : Tar) : Prop := t.length ≤ 1000 ∧ ∀ x ∈ t, x.length ≤ 1000 ∧ ∀ y ∈ x, y.length ≤ 1000
theorem ctarget_h (at_ : List Atm) (hat : AtOk at_) (E : List Rs) (t : Tar) (ht : TarK t) : qJ Tryz.prog 37 [.ptr 1000000 0, .p (tgtP t)] (dgmO at_ 1000001 E) (.tup [.p (.agg (zP at_ t).1.pv), .p (pI (zP at_ t).2)]) (dgmO at_ 1000001 E) := by
 have lt : (t.map fun x => [anyP x]).length = t.length := by simp
 have ht1 := ht.1
 refine qz (T := TTab) qa Tryz.func37 (by kernel_rfl) rfl rfl rfl ?_
 refine uA ?_
 refine uA ?_
 refine uA ?_
 refine uB ?_
 refine SW.wk (zp 6 900 58 2 rfl rfl) ?_
 refine uZ [0, 4, 6, 19, 20, 21] [(4, 4), (900, 0), (1000000, 1000000), (1000001, 1000001)] ?_
 refine qw (fun m s => ∃ (k : Nat) (kk : Int), k ≤ t.length ∧ m = t.length - k ∧ kk = k ∧ (∀ x ∈ t.take k, (ju at_ x).2 = 0) ∧ s = ⟨77, [(0, .ptr 1000000 0), (4, .ptr 4 0), (6, .row 0), (19, .p (tgtP t)), (20, .p (pI (t.map fun x => [anyP x]).length)), (21, .p (pI kk))], [(4, .cells [.p (.v (.pointer none)), .p (pI 0)]), (0, .row 58 2 (((t.take k).map fun x => (ju at_ x).1).map Pt.pv))] ++ dgmO at_ 1000001 E⟩) t.length ⟨0, 0, Nat.zero_le _, rfl, rfl, by simp, rfl⟩ ?_
 rintro m s ⟨k, _, hk, rfl, rfl, ha, rfl⟩
 refine uA ?_
 refine uC (fun hlt => ?_) (fun hlt => ?_)
 · refine qd ?_
   rw [lt] at hlt
   simp only [decide_eq_true_eq] at hlt
   have hlt' : k < t.length := by omega
   have hx1 := ht.2 _ (List.getElem_mem hlt')
   have hSt := List.take_succ_eq_append_getElem hlt'
   have hstep := fun e => take_ok (p := fun x => (ju at_ x).2 = 0) hlt' ha e
   have herr := seqPt_at (g := ju at_) hlt' ha
   obtain ⟨x, hx⟩ : ∃ x, x = t[k] := ⟨_, rfl⟩
   rw [← hx] at hx1 hSt hstep herr
   have lx : (x.map fun y => [wq y]).length = x.length := by simp
   refine uB ?_
   refine uR ?_
   refine qe qa rfl rfl (by rw [lt]; omega) rfl ?_
   rw [qm hlt', ← hx]
   refine uS ?_
   refine qb ?_
   refine uA ?_
   refine uA ?_
   refine uB ?_
   refine SW.wk (zp 9 901 58 2 rfl rfl) ?_
   refine uZ [0, 4, 6, 9, 19, 20, 21, 25, 26, 27] [(4, 4), (0, 0), (901, 1), (1000000, 1000000), (1000001, 1000001)] ?_
   refine qw (fun m s => ∃ (j : Nat) (jj : Int), j ≤ x.length ∧ m = x.length - j ∧ jj = j ∧ (∀ y ∈ x.take j, (wF at_ y).2 = 0) ∧ s = ⟨77, [(0, .ptr 1000000 0), (4, .ptr 4 0), (6, .row 0), (9, .row 1), (19, .p (tgtP t)), (20, .p (pI (t.map fun x => [anyP x]).length)), (21, .p (pI k)), (25, .p (anyP x)), (26, .p (pI (x.map fun y => [wq y]).length)), (27, .p (pI jj))],
    [(4, .cells [.p (.v (.pointer none)), .p (pI 0)]), (0, .row 58 2 (((t.take k).map fun x => (ju at_ x).1).map Pt.pv)), (1, .row 58 2 (((x.take j).map fun y => (wF at_ y).1).map Pt.pv))] ++ dgmO at_ 1000001 E⟩) x.length ⟨0, 0, Nat.zero_le _, rfl, rfl, by simp, rfl⟩ ?_
   rintro m s ⟨j, _, hj, rfl, rfl, hb, rfl⟩
   refine uA ?_
   refine uC (fun hlj => ?_) (fun hlj => ?_)
   · refine qd ?_
     rw [lx] at hlj
     simp only [decide_eq_true_eq] at hlj
     have hlj' : j < x.length := by omega
     have hy1 := hx1.2 _ (List.getElem_mem hlj')
     have hSx := List.take_succ_eq_append_getElem hlj'
     have hstepx := fun e => take_ok (p := fun y => (wF at_ y).2 = 0) hlj' hb e
     have herrx := seqPt_at (g := wF at_) hlj' hb
     obtain ⟨y, hy⟩ : ∃ y, y = x[j] := ⟨_, rfl⟩
     rw [← hy] at hy1 hSx hstepx herrx
     have ly : (y.map Mat.pv).length = y.length := by simp
     refine uB ?_
     refine uR ?_
     refine qe qa rfl rfl (by rw [lx]; omega) rfl ?_
     rw [qm hlj', ← hy]
     refine uS ?_
     refine qb ?_
     refine uA ?_
     refine uA ?_
     refine uB ?_
     refine SW.wk (zp 12 902 58 2 rfl rfl) ?_
     refine uZ [0, 4, 6, 9, 12, 19, 20, 21, 25, 26, 27, 31, 32, 33] [(4, 4), (0, 0), (1, 1), (902, 2), (1000000, 1000000), (1000001, 1000001)] ?_
     refine qw (fun m s => ∃ (i : Nat) (ii : Int), i ≤ y.length ∧ m = y.length - i ∧ ii = i ∧ s = ⟨77, [(0, .ptr 1000000 0), (4, .ptr 4 0), (6, .row 0), (9, .row 1), (12, .row 2), (19, .p (tgtP t)), (20, .p (pI (t.map fun x => [anyP x]).length)), (21, .p (pI k)), (25, .p (anyP x)), (26, .p (pI (x.map fun y => [wq y]).length)), (27, .p (pI j)), (31, .p (wq y)), (32, .p (pI (y.map Mat.pv).length)), (33, .p (pI ii))],
      [(4, .cells [.p (.v (.pointer none)), .p (pI 0)]), (0, .row 58 2 (((t.take k).map fun x => (ju at_ x).1).map Pt.pv)), (1, .row 58 2 (((x.take j).map fun y => (wF at_ y).1).map Pt.pv)), (2, .row 58 2 (((y.take i).map fun m => qaf at_ ⟨m, []⟩).map Pt.pv))] ++ dgmO at_ 1000001 E⟩) y.length ⟨0, 0, Nat.zero_le _, rfl, rfl, rfl⟩ ?_
     rintro m s ⟨i, _, hi, rfl, rfl, rfl⟩
     refine uA ?_
     refine uC (fun hli => ?_) (fun hli => ?_)
     · refine qd ?_
       rw [ly] at hli
       simp only [decide_eq_true_eq] at hli
       have hli' : i < y.length := by omega
       have hSy := List.take_succ_eq_append_getElem hli'
       obtain ⟨mm, hmm⟩ : ∃ mm, mm = y[i] := ⟨_, rfl⟩
       rw [← hmm] at hSy
       refine uB ?_
       refine uR ?_
       refine qe qa rfl rfl (by rw [ly]; omega) rfl ?_
       rw [qm hli', ← hmm]
       refine uS ?_
       refine qb ?_
       refine uR ?_
       refine uW [(1000000, 1000000), (1000001, 1000001)] (askedM_h at_ hat E mm) ?_
       refine qy rfl (qg qa rfl rfl rfl rfl rfl rfl rfl rfl rfl rfl rfl rfl rfl rfl rfl rfl (by simp only [List.length_append, List.length_map, List.length_take, List.length_cons, List.length_nil]; unfold reachBytes; omega) (by simp only [List.length_append, List.length_map, List.length_take, List.length_cons, List.length_nil]; omega) ?_)
       refine uS ?_
       refine qb ?_
       refine uA ?_
       refine ⟨_, _, ?_, qh [0, 4, 6, 9, 12, 19, 20, 21, 25, 26, 27, 31, 32, 33] [(4, 4), (0, 0), (1, 1), (43, 2), (1000000, 1000000), (1000001, 1000001)] rfl rfl, i + 1, _, hli', rfl, qf hli' (by omega), ?_⟩
       · omega
       · rw [hSy, List.map_append, List.map_append]; rfl
     · refine qt ?_
       rw [ly] at hli
       simp only [decide_eq_false_iff_not] at hli
       have hii : i = y.length := by omega
       subst hii
       rw [List.take_length]
       have HW := woven_h least_ok (y.map fun m => qaf at_ ⟨m, []⟩) (fun p hp => by obtain ⟨m, _, rfl⟩ := List.mem_map.1 hp; exact (askedG at_ _).d) (psOk_of (by simpa using hy1) fun p hp => by obtain ⟨m, _, rfl⟩ := List.mem_map.1 hp; exact askedG at_ _)
       change Holds _ _ _ (.tup [.p (.agg (wF at_ y).1.pv), .p (pI (wF at_ y).2)]) _ at HW
       refine SW.wk (zg (k := 2) rfl) ?_
       have eA : (wF at_ y).2 ≠ 0 → zP at_ t = wF at_ y := fun he => by
        have e1 : ju at_ x = wF at_ y := by unfold ju wvSeq; rw [herrx he]
        have e2 : zP at_ t = ju at_ x := by unfold zP wvSeq; rw [herr (by rw [e1]; exact he)]
        rw [e2, e1]
       have e9 : ((x.take (j + 1)).map fun y => (wF at_ y).1).map Pt.pv = ((x.take j).map fun y => (wF at_ y).1).map Pt.pv ++ [(wF at_ y).1.pv] := by rw [hSx, List.map_append, List.map_append]; rfl
       generalize wF at_ y = Y at *
       obtain ⟨pt, e⟩ := Y
       simp only at *
       refine uR ?_
       refine uO HW ?_
       refine qb ?_
       refine uA ?_
       by_cases he : e = 0
       rotate_left
       · rw [show (e != 0) = true by simpa using he]
         refine uC (fun h6 => ?_) (fun h6 => ?_)
         · rw [eA he]
           refine uA ?_
           refine uQ ?_
           exact ⟨Or.inr rfl, _, _, [(1000000, 1000000), (1000001, 1000001)], _, Wk.refl _, rfl, rfl, .refl _, rfl, rfl⟩
         · cases h6
       subst he
       refine uC (fun h6 => ?_) (fun h6 => ?_)
       · cases h6
       refine qd ?_
       refine uR ?_
       refine qy rfl (qg qa rfl rfl rfl rfl rfl rfl rfl rfl rfl rfl rfl rfl rfl rfl rfl rfl (by simp only [List.length_append, List.length_map, List.length_take, List.length_cons, List.length_nil]; unfold reachBytes; omega) (by simp only [List.length_append, List.length_map, List.length_take, List.length_cons, List.length_nil]; omega) ?_)
       refine uS ?_
       refine qb ?_
       refine uA ?_
       refine ⟨_, _, ?_, qh [0, 4, 6, 9, 19, 20, 21, 25, 26, 27] [(4, 4), (0, 0), (57, 1), (1000000, 1000000), (1000001, 1000001)] rfl rfl, j + 1, _, hlj', rfl, qf hlj' (by omega), hstepx rfl, ?_⟩
       · omega
       · rw [e9]; rfl
   · refine qt ?_
     rw [lx] at hlj
     simp only [decide_eq_false_iff_not] at hlj
     have hjj : j = x.length := by omega
     subst hjj
     rw [List.take_length] at hb ⊢
     have HW := woven_h great_ok (x.map fun y => (wF at_ y).1) (fun p hp => by obtain ⟨y, hy, rfl⟩ := List.mem_map.1 hp; exact (allG at_ (hx1.2 y hy)).d) (psOk_of (by simpa using hx1.1) fun p hp => by obtain ⟨y, hy, rfl⟩ := List.mem_map.1 hp; exact allG at_ (hx1.2 y hy))
     have e1 : ju at_ x = wvP (jg (x.map fun y => (wF at_ y).1) greatL) := by unfold ju wvSeq; rw [seqPt_ok hb]
     rw [show (wovenP (jg (x.map fun y => (wF at_ y).1) greatL)) = (ju at_ x).1 from by rw [e1]; rfl, show (jg (x.map fun y => (wF at_ y).1) greatL).2.1 = (ju at_ x).2 from by rw [e1]; rfl] at HW
     clear e1
     refine SW.wk (zg (k := 1) rfl) ?_
     have eA : (ju at_ x).2 ≠ 0 → zP at_ t = ju at_ x := fun he => by unfold zP wvSeq; rw [herr he]
     have e9 : ((t.take (k + 1)).map fun x => (ju at_ x).1).map Pt.pv = ((t.take k).map fun x => (ju at_ x).1).map Pt.pv ++ [(ju at_ x).1.pv] := by rw [hSt, List.map_append, List.map_append]; rfl
     generalize ju at_ x = Y at *
     obtain ⟨pt, e⟩ := Y
     simp only at *
     refine uR ?_
     refine uO HW ?_
     refine qb ?_
     refine uA ?_
     by_cases he : e = 0
     rotate_left
     · rw [show (e != 0) = true by simpa using he]
       refine uC (fun h6 => ?_) (fun h6 => ?_)
       · rw [eA he]
         refine uA ?_
         refine uQ ?_
         exact ⟨Or.inr rfl, _, _, [(1000000, 1000000), (1000001, 1000001)], _, Wk.refl _, rfl, rfl, .refl _, rfl, rfl⟩
       · cases h6
     subst he
     refine uC (fun h6 => ?_) (fun h6 => ?_)
     · cases h6
     refine qd ?_
     refine uR ?_
     refine qy rfl (qg qa rfl rfl rfl rfl rfl rfl rfl rfl rfl rfl rfl rfl rfl rfl rfl rfl (by simp only [List.length_append, List.length_map, List.length_take, List.length_cons, List.length_nil]; unfold reachBytes; omega) (by simp only [List.length_append, List.length_map, List.length_take, List.length_cons, List.length_nil]; omega) ?_)
     refine uS ?_
     refine qb ?_
     refine uA ?_
     refine ⟨_, _, ?_, qh [0, 4, 6, 19, 20, 21] [(4, 4), (71, 0), (1000000, 1000000), (1000001, 1000001)] rfl rfl, k + 1, _, hlt', rfl, qf hlt' (by omega), hstep rfl, ?_⟩
     · omega
     · rw [e9]; rfl
 · refine qt ?_
   rw [lt] at hlt
   simp only [decide_eq_false_iff_not] at hlt
   have hkk : k = t.length := by omega
   subst hkk
   rw [List.take_length] at ha ⊢
   have hG : ∀ p ∈ t.map (fun x => (ju at_ x).1), PtG p := fun p hp => by obtain ⟨x, hx, rfl⟩ := List.mem_map.1 hp; exact anyG at_ (ht.2 x hx).1 (ht.2 x hx).2
   have HW := woven_h least_ok (t.map fun x => (ju at_ x).1) (fun p hp => (hG p hp).d) (psOk_of (by simpa using ht1) hG)
   have e1 : zP at_ t = wvP (jg (t.map fun x => (ju at_ x).1) wZ) := by unfold zP wvSeq; rw [seqPt_ok ha]
   rw [show (wovenP (jg (t.map fun x => (ju at_ x).1) wZ)) = (zP at_ t).1 from by rw [e1]; rfl, show (jg (t.map fun x => (ju at_ x).1) wZ).2.1 = (zP at_ t).2 from by rw [e1]; rfl] at HW
   clear e1
   generalize zP at_ t = Y at *
   obtain ⟨pt, e⟩ := Y
   simp only at *
   refine SW.wk (zg (k := 0) rfl) ?_
   refine uR ?_
   refine uO HW ?_
   refine qb ?_
   refine uQ ?_
   exact ⟨Or.inr rfl, _, _, [(1000000, 1000000), (1000001, 1000001)], _, Wk.refl _, rfl, rfl, .refl _, rfl, rfl⟩
end Go.Proofs.YtkkbdgijfkocnaaGreatDoor
