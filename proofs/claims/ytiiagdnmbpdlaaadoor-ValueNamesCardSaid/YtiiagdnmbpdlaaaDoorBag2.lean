/-
  Contract of value.Bag (layer 3); where law 13 is not there.
-/
import Derived.Test.YtiiagdnmbpdlaaaDoorValue
import Derived.Test.YtiiagdnmbpdlaaaDoorMove
import Derived.WalkLawsBesides
import Derived.WalkSpells
import Derived.Deep.Cut
import Derived.Deep.Light
namespace Go.Proofs.YtiiagdnmbpdlaaaDoor
open Go.RowKit
set_option linter.unusedSimpArgs false
set_option linter.unusedVariables false
attribute [local go_sem] ext_cell ext_frozen extB_cell extB_frozen
attribute [local go_sem low] alloc_cell alloc_frozen
attribute [local go_sem ↓] eql_val

/-- may a value stand in a bag that begins with one of kind k? -/
def inBag (k : Int) (v : Val) : Bool := v.right && decide (v.kind = k)
def bagOk (l : List Val) : Bool := l.all (inBag (l.getD 0 noVal).kind) && decide (l.length ≤ 16)
set_option maxRecDepth 100000 in
set_option maxHeartbeats 1000000 in
theorem bag_any (l : List Val) (A : Option Addr) (c : Nat) (w : World) (hn : l.length ≤ reachBytes) (h : SlAt rVal 3 w A l) :
    Calls Tryd.prog 22 #[.slice A l.length c] w fun e w' => e = .returned (.bool (bagOk l)) ∧ Below w.heap.size w w' := by
  unfold reachBytes at hn
  replace h := hide h
  go_enter Tryd.func22, Tryd.ntmps22
  go_wp2
  go_loopw [4, 7] (fun _ i wr => ∃ k : Nat, k ≤ l.length ∧ i = .int .i64 k ∧ Below w.heap.size w wr ∧ Hid ((l.take k).all (inBag (l.getD 0 noVal).kind) = true)) (fun _ i _ => l.length - (intOf i).toNat)
  case atStart => exact ⟨0, Nat.zero_le _, rfl, Below.refl _ _, by simp [Hid]⟩
  case round =>
    obtain ⟨k, hk, rfl, hB, hall⟩ := hrel
    by_cases hlt : k < l.length
    · have h0 : 0 < l.length := by omega
      obtain ⟨b, o, rfl, hbb, c0, c1, c2, hf⟩ := (h.out.keep keeps_val hB).val hlt
      obtain ⟨b', o', he, _, d0, d1, d2, hf0⟩ := (h.out.keep keeps_val hB).val h0
      simp only [Option.some.injEq, Addr.mk.injEq, and_true] at he
      obtain ⟨rfl, rfl⟩ := he
      simp only [Nat.zero_mul, Nat.add_zero] at d0
      clear d1 d2 hf0
      have hg : (l.getD 0 noVal).kind = l[0].kind := by
        rw [List.getD_eq_getElem?_getD, List.getElem?_eq_getElem h0]; rfl
      rw [hg] at hall
      replace hg := hide hg
      go_upto_region 4 with (fail)
      refine wp_spec_draw (by kernel_rfl) (by kernel_rfl) (by kernel_rfl) ?_
      repeat (refine spec_step ?_; intro K hK; go_big_quiet_op; go_big_quiet_on)
      refine spec_step ?_; intro K hK; go_big_quiet_op
      refine ⟨_, fun _ => quiet_ext (right_any _ _ _ _ hf.s), ?_⟩
      go_big_quiet_on
      repeat (refine spec_step ?_; intro K hK; go_big_quiet_op; go_big_quiet_on)
      refine spec_nil ?_
      intro us w4 hB4
      simp only [junk, Act.put, List.setIfInBounds_toArray, List.set_cons_zero, List.set_cons_succ]
      obtain ⟨hc4, hf4⟩ := bcell hB4; have hz4 := hB4.size; try simp only [World.size_alloc, World.size_drew] at hc4 hf4 hz4
      go_wp2
      · go_ret
        refine ⟨ret_bool ?_, (by repeat (first | exact Below.refl _ _ | assumption | refine Below.alloc1 ?_ _ | refine Below.drew ?_ | refine below_drewl ?_ | refine Below.setCell ?_ (by first | exact Nat.le_refl _ | (simp; done) | omega | (simp; omega)) _ | refine Below.lift ?_ (by assumption)))⟩
        have e : l.all (inBag l[0].kind) = false := by
          refine all_no hlt ?_
          go_light
          simp_all [inBag]
          try
            intro p1 p2
            rename _ ∨ _ => ho
            rcases ho with ho | ho
            · exact absurd (p1.symm.trans ho) (by simp)
            · exact ho p2
        unfold bagOk
        rw [hg.out, e]; rfl
      · have e : inBag l[0].kind l[k] = true := by
          go_light
          simp_all [inBag]
        go_roundw
        case rel => exact ⟨k + 1, by omega, by go_num, (by repeat (first | exact Below.refl _ _ | assumption | refine Below.alloc1 ?_ _ | refine Below.drew ?_ | refine below_drewl ?_ | refine Below.setCell ?_ (by first | exact Nat.le_refl _ | (simp; done) | omega | (simp; omega)) _ | refine Below.lift ?_ (by assumption))), by rw [hg.out]; exact all_step hlt hall.out e⟩
        case measure => simp [intOf]; omega
    · obtain rfl : k = l.length := by omega
      rw [take_all] at hall
      go_wp2
      go_ret
      refine ⟨ret_bool ?_, (by repeat (first | exact Below.refl _ _ | assumption | refine Below.alloc1 ?_ _ | refine Below.drew ?_ | refine below_drewl ?_ | refine Below.setCell ?_ (by first | exact Nat.le_refl _ | (simp; done) | omega | (simp; omega)) _ | refine Below.lift ?_ (by assumption)))⟩
      unfold bagOk
      rw [hall.out]
      rw [Bool.eq_iff_iff]; simp
      try omega
end Go.Proofs.YtiiagdnmbpdlaaaDoor
