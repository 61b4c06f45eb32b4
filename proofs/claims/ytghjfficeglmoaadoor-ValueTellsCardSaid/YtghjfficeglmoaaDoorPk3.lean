/-
  What the statement leans on, part 3: Bag2, BagH, HasS, HasH, LessH, Within, Fork, Cvt, CellR, ValRuns, RefV, ShMake, LexS, PackP, Bits, ByteH, PackV, PackH, ShStr, PackW, RefT, RefPut, Roomy, ValGet, SameH, ValTells, Data0, Data, LawKit0, LawL, Laid.
-/
import Derived.WalkLawsBesides
import Derived.WalkSpells
import Derived.Deep.Cut
import Derived.Deep.Light
import Derived.Laws.MakeOwn
import Derived.Laws.CopyRow
import Derived.Lib.AppendStr
import Derived.Test.YtghjfficeglmoaaDoorRows
import Derived.Lib.LaidTab
import Derived.Lib.LaidU8
import Derived.LaidLaws
import Derived.LaidHandle
import Derived.Stop.Joined
import Derived.ChangeSame
import Derived.ChangeVars
import Derived.JoinedOf
import Derived.RowKitTokens
import Derived.Test.YtghjfficeglmoaaDoorPk1
import Derived.Test.YtghjfficeglmoaaDoorPk2
namespace Go.Proofs.YtghjfficeglmoaaDoor
open Go.RowKit
set_option linter.unusedSimpArgs false
set_option linter.unusedVariables false
attribute [local go_sem] ext_cell ext_frozen extB_cell extB_frozen
attribute [local go_sem low] alloc_cell zn
attribute [local go_sem ↓] eql_val
def inBag (k : Int) (v : Val) : Bool := v.right && decide (v.kind = k)
def bagOk (l : List Val) : Bool := l.all (inBag (l.getD 0 noVal).kind) && decide (l.length ≤ 16)
set_option maxRecDepth 100000 in
set_option maxHeartbeats 1000000 in
theorem bag_any (l : List Val) (A : Option Addr) (c : Nat) (w : World) (hn : l.length ≤ reachBytes) (h : SlAt rVal 3 w A l) :
    Calls Tryd.prog 19 #[.slice A l.length c] w fun e w' => e = .returned (.bool (bagOk l)) ∧ Below w.heap.size w w' := by
  unfold reachBytes at hn
  replace h := hide h
  go_enter Tryd.func19, Tryd.ntmps19
  go_wp2
  go_loopw [4, 7] (fun _ i wr => ∃ k : Nat, k ≤ l.length ∧ i = .int .i64 k ∧ Below w.heap.size w wr ∧ Hid ((l.take k).all (inBag (l.getD 0 noVal).kind) = true)) (fun _ i _ => l.length - (intOf i).toNat)
  case atStart => exact ⟨0, Nat.zero_le _, rfl, Below.refl _ _, by simp [Hid]⟩
  case round =>
    obtain ⟨k, hk, rfl, hB, hall⟩ := hrel
    by_cases hlt : k < l.length
    · have h0 : 0 < l.length := by omega
      obtain ⟨b, o, rfl, hbb, c0, c1, c2, hf⟩ := (h.out.keep keeps_val hB).val hlt
      obtain ⟨b', o', he, _, d0, d1, d2, hf0⟩ := (h.out.keep keeps_val hB).val h0
      simp only [Option.some.injEq, Addr.mk.injEq, and_true] at he
      obtain ⟨rfl, rfl⟩ := he
      simp only [Nat.zero_mul, Nat.add_zero] at d0
      clear d1 d2 hf0
      have hg : (l.getD 0 noVal).kind = l[0].kind := by
        rw [List.getD_eq_getElem?_getD, List.getElem?_eq_getElem h0]; rfl
      rw [hg] at hall
      replace hg := hide hg
      go_upto_region 4 with (fail)
      refine wp_spec_draw (by kernel_rfl) (by kernel_rfl) (by kernel_rfl) ?_
      repeat (refine zq ?_; intro K hK; go_big_quiet_op; go_big_quiet_on)
      refine zq ?_; intro K hK; go_big_quiet_op
      refine ⟨_, fun _ => quiet_ext (right_any _ _ _ _ hf.s), ?_⟩
      go_big_quiet_on
      repeat (refine zq ?_; intro K hK; go_big_quiet_op; go_big_quiet_on)
      refine ji ?_
      intro us w4 hB4
      simp only [junk, Act.put, List.setIfInBounds_toArray, List.set_cons_zero, List.set_cons_succ]
      obtain ⟨hc4, hf4⟩ := bcell hB4; have hz4 := hB4.size; try simp only [World.size_alloc, World.size_drew] at hc4 hf4 hz4
      go_wp2
      · go_ret
        refine ⟨ret_bool ?_, (by repeat (first | exact Below.refl _ _ | assumption | refine Below.alloc1 ?_ _ | refine Below.drew ?_ | refine jl ?_ | refine Below.setCell ?_ (by first | exact Nat.le_refl _ | (simp; done) | omega | (simp; omega)) _ | refine Below.lift ?_ (by assumption)))⟩
        have e : l.all (inBag l[0].kind) = false := by
          refine all_no hlt ?_
          go_light
          simp_all [inBag]
          try
            intro p1 p2
            rename _ ∨ _ => ho
            rcases ho with ho | ho
            · exact absurd (p1.symm.trans ho) (by simp)
            · exact ho p2
        unfold bagOk
        rw [hg.out, e]; rfl
      · have e : inBag l[0].kind l[k] = true := by
          go_light
          simp_all [inBag]
        go_roundw
        case rel => exact ⟨k + 1, by omega, by go_num, (by repeat (first | exact Below.refl _ _ | assumption | refine Below.alloc1 ?_ _ | refine Below.drew ?_ | refine jl ?_ | refine Below.setCell ?_ (by first | exact Nat.le_refl _ | (simp; done) | omega | (simp; omega)) _ | refine Below.lift ?_ (by assumption))), by rw [hg.out]; exact all_step hlt hall.out e⟩
        case measure => simp [intOf]; omega
    · obtain rfl : k = l.length := by omega
      rw [take_all] at hall
      go_wp2
      go_ret
      refine ⟨ret_bool ?_, (by repeat (first | exact Below.refl _ _ | assumption | refine Below.alloc1 ?_ _ | refine Below.drew ?_ | refine jl ?_ | refine Below.setCell ?_ (by first | exact Nat.le_refl _ | (simp; done) | omega | (simp; omega)) _ | refine Below.lift ?_ (by assumption)))⟩
      unfold bagOk
      rw [hall.out]
      rw [Bool.eq_iff_iff]; simp
      try omega
end Go.Proofs.YtghjfficeglmoaaDoor
namespace Go.Proofs.YtghjfficeglmoaaDoor
set_option linter.unusedVariables false
set_option linter.unusedSimpArgs false
open Go.RowKit
set_option maxHeartbeats 1000000
theorem bag_h (l : List Val) (hf : ∀ x ∈ l, x.Fit) : Holds Tryd.prog 19 [zU l] (.p (pB (bagOk l))) [] :=
  .of_calls Tryd.func19 (by kernel_rfl) rfl (fun w vs hl hr => by
    obtain ⟨u, rfl⟩ := one_arg hl
    obtain ⟨A, c, rfl, h1, h2, h3⟩ := vals_typed (hr 0 _ u rfl rfl) hf
    exact bag_any l A c w h2.1 h3) rfl fun w => .p (.v rfl)
end Go.Proofs.YtghjfficeglmoaaDoor
namespace Go.Proofs.YtghjfficeglmoaaDoor
set_option linter.unusedVariables false
set_option linter.unusedSimpArgs false
def hasV (l : List Val) (v : Val) : Bool := l.any fun x => zW v x
end Go.Proofs.YtghjfficeglmoaaDoor
namespace Go.Proofs.YtghjfficeglmoaaDoor
set_option linter.unusedVariables false
set_option linter.unusedSimpArgs false
open Go.RowKit
set_option maxHeartbeats 1000000
theorem idxV_h (l : List Val) (v : Val) (hn : l.length ≤ 1000000) : Holds Tryd.prog 60 [zU l, .agg v.pv] (.p (pI (if l.findIdx (zW v) < l.length then (l.findIdx (zW v) : Int) else -1))) [] := by
  refine qw (ts := [4]) Tryd.func60 (by kernel_rfl) rfl rfl rfl ?_
  (repeat refine qb ?_); refine qa ?_
  repeat (first | refine zR ?_ | refine zK ?_ | refine zM ?_ | refine zB ?_ | refine zA ?_ | refine zS ?_ | refine zL ?_)
  refine qc ?_
  (repeat refine qb ?_); refine qa ?_
  repeat (first | refine zR ?_ | refine zK ?_ | refine zM ?_ | refine zB ?_ | refine zA ?_ | refine zS ?_ | refine zL ?_)
  refine qc ?_
  (repeat refine qb ?_); refine qS ?_
  refine SW.wk (qy [0, 3, 7, 8] [(3, 3)] rfl rfl) ?_
  refine zV (fun n s => ∃ (k : Nat) (kk : Int), k ≤ l.length ∧ n = l.length - k ∧ kk = k ∧ (∀ x ∈ l.take k, zW v x = false) ∧ s = ⟨19, [(0, .p (zU l)), (3, .ptr 3 0), (7, .p (pI (l.map Val.pv).length)), (8, .p (pI kk))], [(3, .cells (v.pv.map .p))]⟩) l.length ⟨0, 0, Nat.zero_le _, rfl, rfl, by simp, rfl⟩ ?_
  rintro n s ⟨k, _, hk, rfl, rfl, ha, rfl⟩
  (repeat refine qb ?_); refine qa ?_
  repeat (first | refine zR ?_ | refine zK ?_ | refine zM ?_ | refine zB ?_ | refine zA ?_ | refine zS ?_ | refine zL ?_)
  refine qc ?_
  (repeat refine qb ?_); refine qh rfl (fun hlt => ?_) (fun hlt => ?_)
  · refine qu ?_
    simp only [List.length_map, decide_eq_true_eq] at hlt
    have hlt' : k < l.length := by omega
    (repeat refine qb ?_); refine qS ?_
    (repeat refine qb ?_); refine qa ?_
    repeat (first | refine zR ?_ | refine zK ?_ | refine zM ?_ | refine zB ?_ | refine zA ?_ | refine zS ?_ | refine zL ?_)
    refine qc ?_
    (repeat refine qb ?_); refine qv [] [(0, true), (1, true), (2, true), (3, true), (4, true), (5, true)] (by kernel_rfl) (by kernel_rfl) (by kernel_rfl) ?_
    repeat (first | refine yR ?_ | refine yK ?_ | refine yM ?_ | refine yB ?_ | refine yA ?_ | refine yS ?_ | refine yL ?_)
    refine qY ql rfl rfl rfl (by simp only [List.length_map]; omega) rfl ?_
    rw [zY hlt']
    repeat (first | refine yR ?_ | refine yK ?_ | refine yM ?_ | refine yB ?_ | refine yA ?_ | refine yS ?_ | refine yL ?_)
    refine qY ql rfl rfl rfl (rfl) rfl ?_
    repeat (first | refine yR ?_ | refine yK ?_ | refine yM ?_ | refine yB ?_ | refine yA ?_ | refine yS ?_ | refine yL ?_)
    refine qF ?_
    (repeat refine qb ?_); refine qh rfl (fun hp => ?_) (fun hp => ?_)
    · have hp' : zW v l[k] = true := by simpa [zW, beq_bytes2, and_assoc] using hp
      (repeat refine qb ?_); refine qa ?_
      repeat (first | refine zR ?_ | refine zK ?_ | refine zM ?_ | refine zB ?_ | refine zA ?_ | refine zS ?_ | refine zL ?_)
      refine qc ?_
      (repeat refine qb ?_); refine qk ?_
      refine fin_i rfl ?_
      have e : l.findIdx (zW v) = k := (List.findIdx_eq hlt').2 ⟨hp', fun j hj => ha _ (List.mem_take_iff_getElem.2 ⟨j, by omega, rfl⟩)⟩
      rw [e, if_pos hlt']
    · have hp' : zW v l[k] = false := by simpa [zW, beq_bytes2, and_assoc] using hp
      refine qu ?_
      (repeat refine qb ?_); refine qa ?_
      repeat (first | refine zR ?_ | refine zK ?_ | refine zM ?_ | refine zB ?_ | refine zA ?_ | refine zS ?_ | refine zL ?_)
      refine qc ?_
      refine ⟨_, _, ?_, qy [0, 3, 7, 8] [(3, 3)] rfl rfl, k + 1, _, hlt', rfl, zP hlt' (by omega), ?_, rfl⟩
      · omega
      · intro g hg
        rw [List.take_succ_eq_append_getElem hlt', List.mem_append, List.mem_singleton] at hg
        rcases hg with hg | rfl
        · exact ha g hg
        · exact hp'
  · refine zX ?_
    simp only [List.length_map, decide_eq_false_iff_not] at hlt
    have hkk : k = l.length := by omega
    subst hkk
    (repeat refine qb ?_); refine qa ?_
    repeat (first | refine zR ?_ | refine zK ?_ | refine zM ?_ | refine zB ?_ | refine zA ?_ | refine zS ?_ | refine zL ?_)
    refine qc ?_
    (repeat refine qb ?_); refine qk ?_
    refine fin_i rfl ?_
    rw [List.take_length] at ha
    rw [if_neg]
    have := List.findIdx_eq_length_of_false ha
    omega
theorem contains_h (l : List Val) (v : Val) (hn : l.length ≤ 1000000) : Holds Tryd.prog 42 [zU l, .agg v.pv] (.p (pB (hasV l v))) [] := by
  refine qw (ts := [4]) Tryd.func42 (by kernel_rfl) rfl rfl rfl ?_
  (repeat refine qb ?_); refine qa ?_
  repeat (first | refine zR ?_ | refine zK ?_ | refine zM ?_ | refine zB ?_ | refine zA ?_ | refine zS ?_ | refine zL ?_)
  refine qc ?_
  (repeat refine qb ?_); refine qa ?_
  repeat (first | refine zR ?_ | refine zK ?_ | refine zM ?_ | refine zB ?_ | refine zA ?_ | refine zS ?_ | refine zL ?_)
  refine qf rfl (qd rfl rfl rfl rfl (idxV_h l v hn) rfl rfl ?_)
  repeat (first | refine zR ?_ | refine zK ?_ | refine zM ?_ | refine zB ?_ | refine zA ?_ | refine zS ?_ | refine zL ?_)
  refine qc ?_
  (repeat refine qb ?_); refine qk ?_
  refine jd rfl ?_
  unfold hasV
  by_cases h : l.findIdx (zW v) < l.length
  · rw [if_pos h]
    have : l.any (zW v) = true := List.any_eq_true.2 ⟨_, List.getElem_mem h, List.findIdx_getElem (w := h)⟩
    rw [show (l.any fun x => zW v x) = true from this]
    simp
  · rw [if_neg h]
    have h2 : ∀ x ∈ l, zW v x = false := List.findIdx_eq_length.1 (Nat.le_antisymm List.findIdx_le_length (by omega))
    rw [show (l.any fun x => zW v x) = false from List.any_eq_false.2 fun x hx => by simp [h2 x hx]]
    rfl
theorem has_h (l : List Val) (v : Val) (hn : l.length ≤ 1000000) : Holds Tryd.prog 21 [zU l, .agg v.pv] (.p (pB (hasV l v))) [] := by
  refine qw (ts := [4]) Tryd.func21 (by kernel_rfl) rfl rfl rfl ?_
  (repeat refine qb ?_); refine qa ?_
  repeat (first | refine zR ?_ | refine zK ?_ | refine zM ?_ | refine zB ?_ | refine zA ?_ | refine zS ?_ | refine zL ?_)
  refine qc ?_
  (repeat refine qb ?_); refine qa ?_
  repeat (first | refine zR ?_ | refine zK ?_ | refine zM ?_ | refine zB ?_ | refine zA ?_ | refine zS ?_ | refine zL ?_)
  refine qf rfl (qd rfl rfl rfl rfl (contains_h l v hn) rfl rfl ?_)
  repeat (first | refine zR ?_ | refine zK ?_ | refine zM ?_ | refine zB ?_ | refine zA ?_ | refine zS ?_ | refine zL ?_)
  refine qc ?_
  (repeat refine qb ?_); refine qk ?_
  exact jd rfl rfl
end Go.Proofs.YtghjfficeglmoaaDoor
namespace Go.Proofs.YtghjfficeglmoaaDoor
set_option linter.unusedVariables false
set_option linter.unusedSimpArgs false
open Go.RowKit
set_option maxHeartbeats 4000000
theorem texts_h (k : Int) : Holds Tryd.prog 32 [pI k] (.p (pB (textsS k))) [] := by
  refine qw (ts := [2]) Tryd.func32 (by kernel_rfl) rfl rfl rfl ?_
  (repeat refine qb ?_); refine qa ?_
  repeat (first | refine zR ?_ | refine zK ?_ | refine zM ?_ | refine zB ?_ | refine zA ?_ | refine zS ?_ | refine zL ?_)
  refine qc ?_
  (repeat refine qb ?_); refine zG (by kernel_rfl) ?_
  repeat (refine zH ql rfl (by exact True.intro) rfl ?_)
  refine jc ?_
  (repeat refine qb ?_); refine qk ?_
  refine jd rfl ?_
  unfold textsS
  rw [Bool.eq_iff_iff]
  simp
theorem less_h (a b : Val) (ha : a.s.size ≤ reachBytes) (hb : b.s.size ≤ reachBytes) : Holds Tryd.prog 7 [.agg a.pv, .agg b.pv] (.tup [.p (pB (lessS a b).1), .p (pI (lessS a b).2)]) [] := by
  unfold lessS
  cases hra : a.right with
  | false =>
    refine qw (ts := [4,5]) Tryd.func7 (by kernel_rfl) rfl rfl rfl ?_
    (repeat refine qb ?_); refine qa ?_
    repeat (first | refine zR ?_ | refine zK ?_ | refine zM ?_ | refine zB ?_ | refine zA ?_ | refine zS ?_ | refine zL ?_)
    refine qc ?_
    (repeat refine qb ?_); refine qS ?_
    (repeat refine qb ?_); refine qa ?_
    repeat (first | refine zR ?_ | refine zK ?_ | refine zM ?_ | refine zB ?_ | refine zA ?_ | refine zS ?_ | refine zL ?_)
    refine qf rfl (qd rfl rfl rfl rfl (qR a ha) rfl rfl ?_)
    repeat (first | refine zR ?_ | refine zK ?_ | refine zM ?_ | refine zB ?_ | refine zA ?_ | refine zS ?_ | refine zL ?_)
    rw [hra]
    repeat (first | refine zR ?_ | refine zK ?_ | refine zM ?_ | refine zB ?_ | refine zA ?_ | refine zS ?_ | refine zL ?_)
    refine qc ?_
    (repeat refine qb ?_); refine qh rfl (fun hc => ?_) (fun hc => ?_)
    · (repeat refine qb ?_); refine qa ?_
      repeat (first | refine zR ?_ | refine zK ?_ | refine zM ?_ | refine zB ?_ | refine zA ?_ | refine zS ?_ | refine zL ?_)
      refine qc ?_
      (repeat refine qb ?_); refine qk ?_
      exact ⟨Or.inr rfl, _, _, [], Wk.refl _, rfl, rfl, rfl, rfl⟩
    · cases hc
  | true =>
    cases hrb : b.right with
    | false =>
      refine qw (ts := [4,5]) Tryd.func7 (by kernel_rfl) rfl rfl rfl ?_
      (repeat refine qb ?_); refine qa ?_
      repeat (first | refine zR ?_ | refine zK ?_ | refine zM ?_ | refine zB ?_ | refine zA ?_ | refine zS ?_ | refine zL ?_)
      refine qc ?_
      (repeat refine qb ?_); refine qS ?_
      (repeat refine qb ?_); refine qa ?_
      repeat (first | refine zR ?_ | refine zK ?_ | refine zM ?_ | refine zB ?_ | refine zA ?_ | refine zS ?_ | refine zL ?_)
      refine qf rfl (qd rfl rfl rfl rfl (qR a ha) rfl rfl ?_)
      repeat (first | refine zR ?_ | refine zK ?_ | refine zM ?_ | refine zB ?_ | refine zA ?_ | refine zS ?_ | refine zL ?_)
      rw [hra]
      repeat (first | refine zR ?_ | refine zK ?_ | refine zM ?_ | refine zB ?_ | refine zA ?_ | refine zS ?_ | refine zL ?_)
      refine qf rfl (qd rfl rfl rfl rfl (qR b hb) rfl rfl ?_)
      repeat (first | refine zR ?_ | refine zK ?_ | refine zM ?_ | refine zB ?_ | refine zA ?_ | refine zS ?_ | refine zL ?_)
      rw [hrb]
      repeat (first | refine zR ?_ | refine zK ?_ | refine zM ?_ | refine zB ?_ | refine zA ?_ | refine zS ?_ | refine zL ?_)
      refine qc ?_
      (repeat refine qb ?_); refine qh rfl (fun hc => ?_) (fun hc => ?_)
      · (repeat refine qb ?_); refine qa ?_
        repeat (first | refine zR ?_ | refine zK ?_ | refine zM ?_ | refine zB ?_ | refine zA ?_ | refine zS ?_ | refine zL ?_)
        refine qc ?_
        (repeat refine qb ?_); refine qk ?_
        exact ⟨Or.inr rfl, _, _, [], Wk.refl _, rfl, rfl, rfl, rfl⟩
      · cases hc
    | true =>
      refine qw (ts := [4,5]) Tryd.func7 (by kernel_rfl) rfl rfl rfl ?_
      (repeat refine qb ?_); refine qa ?_
      repeat (first | refine zR ?_ | refine zK ?_ | refine zM ?_ | refine zB ?_ | refine zA ?_ | refine zS ?_ | refine zL ?_)
      refine qc ?_
      (repeat refine qb ?_); refine qS ?_
      (repeat refine qb ?_); refine qa ?_
      repeat (first | refine zR ?_ | refine zK ?_ | refine zM ?_ | refine zB ?_ | refine zA ?_ | refine zS ?_ | refine zL ?_)
      refine qf rfl (qd rfl rfl rfl rfl (qR a ha) rfl rfl ?_)
      repeat (first | refine zR ?_ | refine zK ?_ | refine zM ?_ | refine zB ?_ | refine zA ?_ | refine zS ?_ | refine zL ?_)
      rw [hra]
      repeat (first | refine zR ?_ | refine zK ?_ | refine zM ?_ | refine zB ?_ | refine zA ?_ | refine zS ?_ | refine zL ?_)
      refine qf rfl (qd rfl rfl rfl rfl (qR b hb) rfl rfl ?_)
      repeat (first | refine zR ?_ | refine zK ?_ | refine zM ?_ | refine zB ?_ | refine zA ?_ | refine zS ?_ | refine zL ?_)
      rw [hrb]
      repeat (first | refine zR ?_ | refine zK ?_ | refine zM ?_ | refine zB ?_ | refine zA ?_ | refine zS ?_ | refine zL ?_)
      refine qc ?_
      (repeat refine qb ?_); refine qh rfl (fun hc => ?_) (fun hc => ?_)
      · cases hc
      simp only [Bool.not_true, Bool.or_self, Bool.false_eq_true, if_false]
      (repeat refine qb ?_); refine zG (by kernel_rfl) ?_
      repeat (refine zH ql rfl (by exact True.intro) rfl ?_)
      refine jc ?_
      (repeat refine qb ?_); refine qh rfl (fun hk => ?_) (fun hk => ?_)
      · rw [if_pos (by revert hk; by_cases h : a.kind = b.kind <;> simp [h])]
        (repeat refine qb ?_); refine qa ?_
        repeat (first | refine zR ?_ | refine zK ?_ | refine zM ?_ | refine zB ?_ | refine zA ?_ | refine zS ?_ | refine zL ?_)
        refine qc ?_
        (repeat refine qb ?_); refine qk ?_
        exact ⟨Or.inr rfl, _, _, [], Wk.refl _, rfl, rfl, rfl, rfl⟩
      · rw [if_neg (by revert hk; by_cases h : a.kind = b.kind <;> simp [h])]
        (repeat refine qb ?_); refine qa ?_
        repeat (first | refine zR ?_ | refine zK ?_ | refine zM ?_ | refine zB ?_ | refine zA ?_ | refine zS ?_ | refine zL ?_)
        refine qf rfl (qd rfl rfl rfl rfl (texts_h a.kind) rfl rfl ?_)
        repeat (first | refine zR ?_ | refine zK ?_ | refine zM ?_ | refine zB ?_ | refine zA ?_ | refine zS ?_ | refine zL ?_)
        refine qc ?_
        (repeat refine qb ?_); refine qh rfl (fun ht => ?_) (fun ht => ?_)
        · rw [if_pos ht]
          (repeat refine qb ?_); refine qa ?_
          repeat (first | refine zR ?_ | refine zK ?_ | refine zM ?_ | refine zB ?_ | refine zA ?_ | refine zS ?_ | refine zL ?_)
          refine qc ?_
          (repeat refine qb ?_); refine qk ?_
          exact ⟨Or.inr rfl, _, _, [], Wk.refl _, rfl, rfl, rfl, rfl⟩
        · rw [if_neg (by rw [ht]; simp)]
          refine qu ?_
          (repeat refine qb ?_); refine qa ?_
          repeat (first | refine zR ?_ | refine zK ?_ | refine zM ?_ | refine zB ?_ | refine zA ?_ | refine zS ?_ | refine zL ?_)
          refine qc ?_
          (repeat refine qb ?_); refine qk ?_
          exact ⟨Or.inr rfl, _, _, [], Wk.refl _, rfl, rfl, rfl, rfl⟩
end Go.Proofs.YtghjfficeglmoaaDoor
namespace Go.Proofs.YtghjfficeglmoaaDoor
set_option linter.unusedVariables false
set_option linter.unusedSimpArgs false
open Go.RowKit
set_option maxHeartbeats 1000000
theorem slice_min {α : Type} (f : α → List PV) (l : List α) (N : Int) (n : Nat) (hN : N = n) : ((l.map f).drop (Int.toNat 0)).take (Int.toNat (if N < (l.map f).length then N else (l.map f).length) - Int.toNat 0) = (l.take n).map f := by
  subst hN
  simp only [List.length_map, Int.toNat_zero, List.drop_zero, Nat.sub_zero]
  rw [List.map_take]
  split
  · rfl
  · rw [List.take_of_length_le (by simp), List.take_of_length_le (by simp; omega)]
end Go.Proofs.YtghjfficeglmoaaDoor
namespace Go.Proofs.YtghjfficeglmoaaDoor
set_option linter.unusedVariables false
set_option linter.unusedSimpArgs false
open Go.RowKit
def SWB (P : Program) (ops : List Oper) (κ : Kap) (ls : Array Bool) (fuel : Nat) (Q : St → Prop) (st : St) : Prop := ∀ (w0 : Base) (Sx : Nat → Prop) (γ : Nat → Value) (a : Act) (w : World) (QQ : Exit → Act → World → Prop), Sim w0 Sx γ st a w →
  (∀ st' γ' a' w', Sim w0 Sx γ' st' a' w' → Q st' → QQ .normal a' w') → wpAnyP P ops.toArray (NoPanic QQ) fuel (pendOf γ st.own w κ) ls a w
def SWBo (P : Program) (ops : List Oper) (κ : Kap) (ls : Array Bool) (fuel : Nat) (Q : St → Prop) (st : St) (i : Nat) : Prop := ∀ (w0 : Base) (Sx : Nat → Prop) (γ : Nat → Value) (a : Act) (w : World) (QQ : Exit → Act → World → Prop), Sim w0 Sx γ st a w →
  (∀ st' γ' a' w', Sim w0 Sx γ' st' a' w' → Q st' → QQ .normal a' w') → wpOp P ops.toArray (NoPanic QQ) i (fun a' w' => (∀ p ∈ alive ops.toArray i (pendOf γ st.own w κ), p.2 w') ∧ wpAnyP P ops.toArray (NoPanic QQ) fuel (alive ops.toArray i (pendOf γ st.own w κ)) (ls.setIfInBounds i true) a' w') a w
section
variable {P : Program} {ops : List Oper} {κ : Kap} {ls : Array Bool} {fuel : Nat} {st : St} {Q : St → Prop} {i j : Nat} {o : Oper}
theorem jh (hr : Region.ready .any ops.toArray ls = []) (h : Q st) : SWB P ops κ ls fuel Q st := fun _ _ γ a w _ hI hQ => by
  cases fuel with
  | zero => exact ⟨hr, hQ st γ a w hI h⟩
  | succ f => exact ⟨fun _ => hQ st γ a w hI h, fun i hi => by rw [hr] at hi; cases hi⟩
theorem qn (i : Nat) (hr : Region.ready .any ops.toArray ls = [i]) (h : SWBo P ops κ ls fuel Q st i) : SWB P ops κ ls (fuel + 1) Q st := fun w0 Sx γ a w QQ hI hQ =>
  ⟨fun h0 => (by rw [hr] at h0; cases h0), fun k hk => by
    rw [hr] at hk
    obtain rfl : k = i := by simpa using hk
    exact h w0 Sx γ a w QQ hI hQ⟩
theorem swb_fork2 (i j : Nat) (hr : Region.ready .any ops.toArray ls = [i, j]) (h : SWBo P ops κ ls fuel Q st i) (h2 : SWBo P ops κ ls fuel Q st j) : SWB P ops κ ls (fuel + 1) Q st := fun w0 Sx γ a w QQ hI hQ =>
  ⟨fun h0 => (by rw [hr] at h0; cases h0), fun k hk => by
    rw [hr] at hk
    have hk : k = i ∨ k = j := by simpa using hk
    rcases hk with rfl | rfl
    · exact h w0 Sx γ a w QQ hI hQ
    · exact h2 w0 Sx γ a w QQ hI hQ⟩
theorem qt {K : List Nat} {s : SV} (hB : (Region.free .any ops.toArray ls i && (Region.ready .any ops.toArray ls).contains i) = true) (hs : Region.noSelect ops.toArray = true) (hi : nthO ops i = some o) (hw : qP ops st o = some true) (hr : RdO P K st o s) (hd : qX st o.dst = true)
    (h : SWB P ops ((i, K) :: κ) (ls.setIfInBounds i true) fuel Q (st.put o.dst s)) : SWB P ops κ ls (fuel + 1) Q st := fun w0 Sx γ a w QQ hI hQ => by
  obtain ⟨v, h1, h2⟩ := hr w0 Sx γ a w hI
  have hrest := h w0 Sx γ _ w QQ (hI.put (dst := o.dst) hd h1) hQ
  simp only [jj] at hrest
  rw [Bool.and_eq_true] at hB
  have hio := (qC ops i).trans hi
  exact wpAnyP_first hio (Region.noSelect_spec hs) (fun _ _ _ h => h) fuel _ ls a w (Region.free_spec hio hB.1) (by simpa using hB.2) (Or.inl ⟨qJ hI hw, h2⟩) (SameOn.refl _ _) pendOf_at hrest
theorem swb_sk (hB : (Region.free .any ops.toArray ls i && (Region.ready .any ops.toArray ls).contains i) = true) (hs : Region.noSelect ops.toArray = true) (hi : nthO ops i = some o) (hw : qP ops st o = some false) (hd : qX st o.dst = true)
    (h : SWB P ops κ (ls.setIfInBounds i true) fuel Q (st.put o.dst (.tup []))) : SWB P ops κ ls (fuel + 1) Q st := fun w0 Sx γ a w QQ hI hQ => by
  have hrest := h w0 Sx γ _ w QQ (hI.skip hd) hQ
  simp only [jj] at hrest
  rw [Bool.and_eq_true] at hB
  have hio := (qC ops i).trans hi
  refine wpAnyP_first hio (Region.noSelect_spec hs) (fun _ _ _ h => h) (S := fun _ => True) fuel _ ls a w (Region.free_spec hio hB.1) (by simpa using hB.2) (Or.inr ⟨qJ hI hw, rfl⟩) trivial pendOf_at ?_
  refine zZ _ (fun p hp => ?_) _ _ _ hrest
  rcases List.mem_cons.1 hp with rfl | hp
  · exact .inl fun _ => trivial
  · exact .inr ⟨p, hp, rfl, fun _ h => h⟩
theorem qH {Ws : List Nat} (hi : nthO ops i = some o) (hw : qP ops st o = some true) (hK : (kapB o κ).all (fun p => Ws.all fun j => p.2.contains j) = true) (h : ActOk P Ws o st (SWB P ops (kapB o κ) (ls.setIfInBounds i true) fuel Q)) : SWBo P ops κ ls fuel Q st i := fun w0 Sx γ a w QQ hI hQ => by
  have hsub : ∀ p ∈ kapB o κ, ∀ j ∈ Ws, j ∈ p.2 := fun p hp j hj => by simpa using List.all_eq_true.1 (List.all_eq_true.1 hK p hp) j hj
  have hio := (qC ops i).trans hi
  unfold wpOp
  rw [hio]
  simp only [qJ hI hw, if_true]
  refine Or.inl ?_
  have := h w0 Sx γ a w (NoPanic QQ) hI
  have mono : ∀ {a' w'}, (∃ γ' st', SWB P ops (kapB o κ) (ls.setIfInBounds i true) fuel Q st' ∧ Sim w0 Sx γ' st' a' w' ∧ SameOn (vis Ws γ st.own) w w' ∧ ∀ K : List Nat, (∀ i ∈ Ws, i ∈ K) → ∀ b, b < w.heap.size → vis K γ st.own b → vis K γ' st'.own b) →
      (∀ p ∈ alive ops.toArray i (pendOf γ st.own w κ), p.2 w') ∧ wpAnyP P ops.toArray (NoPanic QQ) fuel (alive ops.toArray i (pendOf γ st.own w κ)) (ls.setIfInBounds i true) a' w' := fun {a' w'} ⟨γ', st', h1, h2, h3, h4⟩ => by
    have hc : Covers (alive ops.toArray i (pendOf γ st.own w κ)) (pendOf γ' st'.own w' (kapB o κ)) := fun p hp => by
      obtain ⟨hp1, hp2⟩ := mem_alive.1 hp
      obtain ⟨q, hq, rfl⟩ := List.mem_map.1 hp1
      have hq' : q ∈ kapB o κ := List.mem_filter.2 ⟨hq, by rw [hp2 o hio]; rfl⟩
      have hs := hsub q hq'
      refine .inr ⟨_, List.mem_map.2 ⟨q, hq', rfl⟩, rfl, fun x hx => ⟨Nat.le_trans h3.size hx.size, fun b hb hv => ?_⟩⟩
      have e1 := h3.block b hb (fun j bx hj hjW hjb => hv j bx hj (by simpa using hs j (by simpa using hjW)) hjb)
      have e2 := hx.block b (Nat.lt_of_lt_of_le hb h3.size) (h4 q.2 hs b hb hv)
      exact e2.trans e1
    exact ⟨hc.at pendOf_at, zZ _ hc _ _ _ (h1 w0 Sx γ' a' w' QQ h2 hQ)⟩
  unfold Oper.wp at this ⊢
  generalize (execOp a.eval o).run P w = res at *
  cases res with
  | ok n w' =>
    cases n <;> simp only [Oper.upon] at this ⊢ <;> first
      | exact mono this
      | exact this
      | exact Calls.mono this (fun e w'' he => by cases e <;> first | exact mono he | exact he)
      | exact Rows.mono this (fun _ _ he => mono he)
  | halt x w' => cases x <;> simp only [Oper.upon] at this ⊢ <;> exact this
theorem zT (hi : nthO ops i = some o) (hw : qP ops st o = some false) (hd : qX st o.dst = true) (h : SWB P ops (kapB o κ) (ls.setIfInBounds i true) fuel Q (st.put o.dst (.tup []))) : SWBo P ops κ ls fuel Q st i := fun w0 Sx γ a w QQ hI hQ => by
  have hio := (qC ops i).trans hi
  unfold wpOp
  rw [hio]
  simp only [qJ hI hw, Bool.false_eq_true, if_false]
  have hrest := h w0 Sx γ _ w QQ (hI.skip hd) hQ
  simp only [jj] at hrest
  have hc : Covers (alive ops.toArray i (pendOf γ st.own w κ)) (pendOf γ st.own w (kapB o κ)) := fun p hp => by
    obtain ⟨hp1, hp2⟩ := mem_alive.1 hp
    obtain ⟨q, hq, rfl⟩ := List.mem_map.1 hp1
    have hq' : q ∈ kapB o κ := List.mem_filter.2 ⟨hq, by rw [hp2 o hio]; rfl⟩
    exact .inr ⟨_, List.mem_map.2 ⟨q, hq', rfl⟩, rfl, fun x hx => hx⟩
  exact ⟨hc.at pendOf_at, zZ _ hc _ _ _ hrest⟩
theorem jf {id : Nat} {l : List Oper} {QS : SEx → St → Prop} (n : Nat) (hn : l.length = n) (hm : P.follows .mixedOrders = true) (h : SWB P l [] (Array.replicate n false) n (QS .normal) st) : SW P (.region id l.toArray true) QS st := fun w0 Sx γ a w QQ hI hQ => by
  refine wp_region_noPanic (wp_region_any hm (wpAny_of_pend _ [] _ _ _ ?_))
  have h1 := h w0 Sx γ a w.drew QQ hI.drew fun s' γ' a' w' hI' hq => hQ .normal s' γ' a' w' hI' hq
  have e : l.toArray.size = n := by simpa using hn
  rw [e]
  exact h1
end
end Go.Proofs.YtghjfficeglmoaaDoor
namespace Go.Proofs.YtghjfficeglmoaaDoor
set_option linter.unusedVariables false
set_option linter.unusedSimpArgs false
open Go.RowKit
inductive Cv : PV → PV → Prop
  | refl (p : PV) : Cv p p
  | nil (z : Nat) : Cv (.v (.slice none 0 0)) (.sl z [])
  | agg {cs ds : List PV} (hl : cs.length = ds.length) (h : ∀ (i : Nat) (c d : PV), cs[i]? = some c → ds[i]? = some d → Cv c d) : Cv (.agg cs) (.agg ds)
  | sl {z : Nat} {l m : List (List PV)} (hl : l.length = m.length) (he : ∀ (i : Nat) (e f : List PV), l[i]? = some e → m[i]? = some f → e.length = f.length) (h : ∀ (i j : Nat) (e f : List PV) (c d : PV), l[i]? = some e → m[i]? = some f → e[j]? = some c → f[j]? = some d → Cv c d) : Cv (.sl z l) (.sl z m)
def CvL (cs ds : List PV) : Prop := cs.length = ds.length ∧ ∀ (i : Nat) (c d : PV), cs[i]? = some c → ds[i]? = some d → Cv c d
theorem CvL.nil : CvL [] [] := ⟨rfl, fun i c d h => by simp at h⟩
theorem CvL.cons {c d : PV} {cs ds : List PV} (h : Cv c d) (t : CvL cs ds) : CvL (c :: cs) (d :: ds) := ⟨by simp [t.1], fun i x y hx hy => by
  cases i with
  | zero => simp at hx hy; subst hx; subst hy; exact h
  | succ i => exact t.2 i x y (by simpa using hx) (by simpa using hy)⟩
theorem CvL.refl (l : List PV) : CvL l l := ⟨rfl, fun i c d h1 h2 => by rw [h1] at h2; cases h2; exact .refl _⟩
theorem CvL.agg {cs ds : List PV} (h : CvL cs ds) : Cv (.agg cs) (.agg ds) := .agg h.1 h.2
def CvM (l m : List (List PV)) : Prop := l.length = m.length ∧ ∀ (i : Nat) (e f : List PV), l[i]? = some e → m[i]? = some f → CvL e f
theorem CvM.nil : CvM [] [] := ⟨rfl, fun i c d h => by simp at h⟩
theorem CvM.cons {c d : List PV} {cs ds : List (List PV)} (h : CvL c d) (t : CvM cs ds) : CvM (c :: cs) (d :: ds) := ⟨by simp [t.1], fun i x y hx hy => by
  cases i with
  | zero => simp at hx hy; subst hx; subst hy; exact h
  | succ i => exact t.2 i x y (by simpa using hx) (by simpa using hy)⟩
theorem CvM.sl {z : Nat} {l m : List (List PV)} (h : CvM l m) : Cv (.sl z l) (.sl z m) := .sl h.1 (fun i e f h1 h2 => (h.2 i e f h1 h2).1) fun i j e f c d h1 h2 h3 h4 => (h.2 i e f h1 h2).2 j c d h3 h4
theorem Cv.one {p q : PV} (h : Cv p q) : oneP q = oneP p := by
  cases h <;> rfl
theorem RelP.cv {ok : Nat → Prop} {w : World} {p q : PV} (hc : Cv p q) : ∀ {u : Value}, RelP ok w p u → RelP ok w q u := by
  induction hc with
  | refl => exact fun h => h
  | nil z =>
    intro u h
    cases h
    exact .sl (l := []) (Nat.zero_le _) ⟨Nat.zero_le _, Nat.zero_le _⟩ (by simp) (fun h => absurd h (by simp)) (fun b o i j h => by cases h) (fun b o i j e s u h => by cases h)
  | agg hl h ih =>
    intro u hr
    cases hr with
    | @agg _ us hl2 hr =>
      refine .agg (by omega) fun i s u hs hu => ?_
      have hi : i < us.length := (List.getElem?_eq_some_iff.1 hu).1
      exact ih i _ s (List.getElem?_eq_getElem (by omega)) hs (hr i _ u (List.getElem?_eq_getElem (by omega)) hu)
  | @sl z l m hl he h ih =>
    intro u hr
    cases hr with
    | @sl _ _ A c hc hm hle hA hx hr =>
      rw [hl] at hc hm ⊢
      refine .sl hc hm (fun e hem => ?_) (fun h => hA (by omega)) (fun b o i j hAb hi hj => hx b o i j hAb (by omega) hj) (fun b o i j e s u hAb hi hj hu => ?_)
      · obtain ⟨i, hi, rfl⟩ := List.mem_iff_getElem.1 hem
        have hl0 : l[i]? = some (l[i]'(by omega)) := List.getElem?_eq_getElem (by omega)
        have hm0 : m[i]? = some m[i] := List.getElem?_eq_getElem hi
        obtain ⟨q1, q2⟩ := hle _ (List.getElem_mem (show i < l.length by omega))
        have q3 := he i _ _ hl0 hm0
        refine ⟨by omega, fun s hs => ?_⟩
        obtain ⟨j, hj, rfl⟩ := List.mem_iff_getElem.1 hs
        have := (h i j _ _ _ _ hl0 hm0 (List.getElem?_eq_getElem (by omega)) (List.getElem?_eq_getElem hj)).one
        rw [this]
        exact q2 _ (List.getElem_mem _)
      · have hi' : i < m.length := (List.getElem?_eq_some_iff.1 hi).1
        have hl0 : l[i]? = some (l[i]'(by omega)) := List.getElem?_eq_getElem (by omega)
        have q3 := he i _ _ hl0 hi
        have hj' : j < e.length := (List.getElem?_eq_some_iff.1 hj).1
        exact ih i j _ _ _ _ hl0 hi (List.getElem?_eq_getElem (by omega)) hj (hr b o i j _ _ u hAb hl0 (List.getElem?_eq_getElem (by omega)) hu)
theorem Holds.cv {P : Program} {f : FuncId} {args args' : List PV} {r : SV} {own : List (Nat × Box)} (h : Holds P f args r own) (hc : CvL args' args) : Holds P f args' r own :=
  ⟨h.1, fun w Sx vs hSx hl hr => h.2 w Sx vs hSx (by rw [hl, hc.1]) fun i s u hs hu => by
    have hi : i < args.length := (List.getElem?_eq_some_iff.1 hs).1
    have h0 : args'[i]? = some (args'[i]'(by rw [hc.1]; exact hi)) := List.getElem?_eq_getElem _
    exact (hr i _ u h0 hu).cv (hc.2 i _ s h0 hs)⟩
theorem Holds.res {P : Program} {f : FuncId} {args : List PV} {r r' : SV} {own : List (Nat × Box)} (h : Holds P f args r own) (e : r = r') : Holds P f args r' own := e ▸ h
end Go.Proofs.YtghjfficeglmoaaDoor
namespace Go.Proofs.YtghjfficeglmoaaDoor
set_option linter.unusedVariables false
set_option linter.unusedSimpArgs false
open Go.RowKit
inductive CvS : SV → SV → Prop
  | refl (s : SV) : CvS s s
  | p {a b : PV} (h : Cv a b) : CvS (.p a) (.p b)
  | two {a b c d : PV} (h : Cv a b) (h2 : Cv c d) : CvS (.tup [.p a, .p c]) (.tup [.p b, .p d])
theorem RelS.cvs {ok : Nat → Prop} {H : Nat → Option Value} {w : World} {s s' : SV} {u : Value} (hc : CvS s s') (h : RelS ok H w s u) : RelS ok H w s' u := by
  cases hc with
  | refl => exact h
  | p hc => exact .p (h.p_inv.cv hc)
  | two h1 h2 =>
    cases h with
    | @tup _ us hl hr =>
      refine .tup hl fun i s u hs hu => ?_
      match i, hs with
      | 0, hs => cases hs; exact .p ((hr 0 _ u rfl hu).p_inv.cv h1)
      | 1, hs => cases hs; exact .p ((hr 1 _ u rfl hu).p_inv.cv h2)
def FinC (T : TT) (rs : List ResultVar) (r : SV) (own' : List (Nat × Box)) (e : SEx) (st : St) : Prop := (e = .normal ∨ e = .ret) ∧ ∃ st' s ρ r0, Wk st st' ∧ resC T st' rs = some s ∧ s.mapR ρ = some r0 ∧ CvS r0 r ∧ ownR ρ st'.own ρ = some own' ∧ renOk ρ = true
theorem holdsC_of {P : Program} {T : TT} (hT : qs P T) {f : FuncId} {fn : Func} {c : Code} {args : List SV} {own : List (Nat × Box)} {r : SV} {own' : List (Nat × Box)} {rs : List ResultVar} (hf : P.funcs[f]? = some fn) (hname : (fn.name == "runtime.NumGoroutine") = false) (hb : fn.body = some c)
    (hres : fn.results = rs.toArray) (hn0 : (Nat.ble args.length fn.ntmps && Nat.ble fn.ntmps 900) = true) (h : SW P c (FinC T rs r own') ⟨fn.ntmps, argFrS 0 args, own⟩) : zh P f args own r own' := by
  have hn : args.length ≤ fn.ntmps ∧ fn.ntmps ≤ 900 := by
    rw [Bool.and_eq_true] at hn0
    exact ⟨Nat.le_of_ble_eq_true hn0.1, Nat.le_of_ble_eq_true hn0.2⟩
  refine ⟨⟨fn, hf, hname, by rw [hb]; rfl⟩, fun w Sx γ vs hh hl hr => ?_⟩
  refine calls_of_wp hf hb ?_
  have hget : ∀ t, t < args.length → (vs.toArray ++ Array.replicate (fn.ntmps - vs.toArray.size) undef).getD t undef = vs[t]?.getD undef := fun t ht => by
    have : t < vs.length := by omega
    have h2 : (vs.toArray ++ Array.replicate (fn.ntmps - vs.toArray.size) undef)[t]? = vs[t]? := by
      rw [Array.getElem?_append_left (by simpa using this)]; simp
    rw [Array.getD_eq_getD_getElem?, h2]
  have hI : Sim (zr w γ own) Sx γ ⟨fn.ntmps, argFrS 0 args, own⟩ ⟨vs.toArray ++ Array.replicate (fn.ntmps - vs.toArray.size) undef, []⟩ w := by
    refine ⟨⟨Below.refl _ w, fun _ _ => rfl⟩, ⟨by simp; omega, hn.2⟩, rfl, fun t s ht => ?_, hh⟩
    obtain ⟨_, hx⟩ := argFrS_get ht
    simp only [Nat.sub_zero] at hx
    have hlt : t < args.length := (List.getElem?_eq_some_iff.1 hx).1
    have hv : vs[t]? = some (vs[t]'(by omega)) := List.getElem?_eq_getElem (by omega)
    show RelS _ _ _ _ ((vs.toArray ++ Array.replicate (fn.ntmps - vs.toArray.size) undef).getD t undef)
    rw [hget t hlt, hv]
    exact hr t s _ hx hv
  refine h _ Sx _ _ w _ hI fun e st2 γ' a' w' hI' hq => ?_
  obtain ⟨he, st', s, ρ, r0, hwk, hs, hm, hcv, ho, hρ⟩ := hq
  obtain ⟨γ'', hI''⟩ := hwk _ Sx γ' a' w' hI'
  obtain ⟨γ3, k1, k2⟩ := heap_mapR hI''.heap ho hρ
  obtain ⟨v, k3, k4⟩ := resC_ok hT hI'' hs hres
  have fin : a'.defers = [] ∧ ∃ v, (results fn a'.tmps).run P w' = .ok v w' ∧ ∃ v' γ2 r1 own1, (r1 = r ∧ own1 = own') ∧ Ending.returned v = .returned v' ∧ BelowB (zr w γ own) w' ∧ HeapOk (zr w γ own) Sx γ2 own1 w' ∧ RelS (okO Sx γ2 own1) (hp γ2 own1) w' r1 v' :=
    ⟨hI''.defers, v, k3, v, γ3, r, own', ⟨rfl, rfl⟩, rfl, hI''.below, k1, (k2 s v r0 k4 hm).cvs hcv⟩
  rcases he with rfl | rfl
  · exact fin
  · exact fin
end Go.Proofs.YtghjfficeglmoaaDoor
namespace Go.Proofs.YtghjfficeglmoaaDoor
set_option linter.unusedVariables false
set_option linter.unusedSimpArgs false
open Go.RowKit
set_option maxHeartbeats 4000000
def numV3 (k n : Int) : Val := ⟨k, n, ⟨#[]⟩⟩
theorem of_h (k n : Int) : Holds Tryd.prog 44 [pI k, pI n] (.p (.agg (numV3 k n).pv)) [] := by
  refine .ofW ?_
  refine holdsC_of (T := TTab) ql Tryd.func44 (by kernel_rfl) rfl rfl rfl ?_
  (repeat refine qb ?_); refine qa ?_
  repeat (first | refine zR ?_ | refine zK ?_ | refine zM ?_ | refine zB ?_ | refine zA ?_ | refine zS ?_ | refine zL ?_)
  refine qc ?_
  (repeat refine qb ?_); refine qa ?_
  repeat (first | refine zR ?_ | refine zK ?_ | refine zM ?_ | refine zB ?_ | refine zA ?_ | refine zS ?_ | refine zL ?_)
  refine qc ?_
  (repeat refine qb ?_); refine qk ?_
  exact ⟨Or.inr rfl, _, _, [], _, Wk.refl _, rfl, rfl, .refl _, rfl, rfl⟩
theorem fitV (k n : Int) (s : ByteArray) (h1 : -100 ≤ k ∧ k ≤ 100) (h2 : -100 ≤ n ∧ n ≤ 100) (h3 : s.size ≤ 100) : (⟨k, n, s⟩ : Val).Fit := ⟨⟨by show _ ≤ k; omega, by show k ≤ _; omega⟩, ⟨by show _ ≤ n; omega, by show n ≤ _; omega⟩, by show s.size ≤ _; unfold reachBytes; omega⟩
theorem valRuns_h : Holds Tryd.prog 24 [] (.p (pB true)) [] := by
  have L1 := (less_h (numV3 2 2) (numV3 2 10) (by decide) (by decide)).res (r' := .tup [.p (pB true), .p (pI 0)]) (by rw [show lessS (numV3 2 2) (numV3 2 10) = (true, 0) by kernel_rfl])
  have L2 := (less_h ⟨3, 0, ⟨#[50]⟩⟩ ⟨3, 0, ⟨#[49, 48]⟩⟩ (by decide) (by decide)).res (r' := .tup [.p (pB false), .p (pI 0)]) (by rw [show lessS ⟨3, 0, ⟨#[50]⟩⟩ ⟨3, 0, ⟨#[49, 48]⟩⟩ = (false, 0) by kernel_rfl])
  have L3 := (less_h (numV3 2 2) (numV3 4 10) (by decide) (by decide)).res (r' := .tup [.p (pB false), .p (pI 2)]) (by rw [show lessS (numV3 2 2) (numV3 4 10) = (false, 2) by kernel_rfl])
  have T1 := (text_h (numV3 2 (-7)) (fitV _ _ _ (by omega) (by omega) (by decide))).res (r' := .p (pS ⟨#[45, 55]⟩)) (by rw [show textS (numV3 2 (-7)) = ⟨#[45, 55]⟩ by kernel_rfl])
  have T2 := (text_h (numV3 4 5) (fitV _ _ _ (by omega) (by omega) (by decide))).res (r' := .p (pS ⟨#[64, 53]⟩)) (by rw [show textS (numV3 4 5) = ⟨#[64, 53]⟩ by kernel_rfl])
  have T3 := (text_h ⟨5, 0, ⟨#[97, 110, 110]⟩⟩ (fitV _ _ _ (by omega) (by omega) (by decide))).res (r' := .p (pS ⟨#[35, 97, 110, 110]⟩)) (by rw [show textS ⟨5, 0, ⟨#[97, 110, 110]⟩⟩ = ⟨#[35, 97, 110, 110]⟩ by kernel_rfl])
  have T4 := (text_h ⟨3, 0, ⟨#[97, 34, 98]⟩⟩ (fitV _ _ _ (by omega) (by omega) (by decide))).res (r' := .p (pS ⟨#[34, 97, 92, 50, 50, 98, 34]⟩)) (by rw [show textS ⟨3, 0, ⟨#[97, 34, 98]⟩⟩ = ⟨#[34, 97, 92, 50, 50, 98, 34]⟩ by kernel_rfl])
  refine qw (ts := [0]) Tryd.func24 (by kernel_rfl) rfl rfl rfl ?_
  (repeat refine qb ?_); refine qa ?_
  repeat (first | refine zR ?_ | refine zK ?_ | refine zM ?_ | refine zB ?_ | refine zA ?_ | refine zS ?_ | refine zL ?_)
  refine qc ?_
  (repeat refine qb ?_); refine qa ?_
  repeat (first | refine zR ?_ | refine zK ?_ | refine zM ?_ | refine zB ?_ | refine zA ?_ | refine zS ?_ | refine zL ?_)
  refine qf rfl (qd rfl rfl rfl rfl (of_h 2 2) rfl rfl ?_)
  repeat (first | refine zR ?_ | refine zK ?_ | refine zM ?_ | refine zB ?_ | refine zA ?_ | refine zS ?_ | refine zL ?_)
  refine qf rfl (qd rfl rfl rfl rfl (of_h 2 10) rfl rfl ?_)
  repeat (first | refine zR ?_ | refine zK ?_ | refine zM ?_ | refine zB ?_ | refine zA ?_ | refine zS ?_ | refine zL ?_)
  refine qf rfl (qd rfl rfl rfl rfl (L1) rfl rfl ?_)
  repeat (first | refine zR ?_ | refine zK ?_ | refine zM ?_ | refine zB ?_ | refine zA ?_ | refine zS ?_ | refine zL ?_)
  refine qc ?_
  (repeat refine qb ?_); refine qa ?_
  repeat (first | refine zR ?_ | refine zK ?_ | refine zM ?_ | refine zB ?_ | refine zA ?_ | refine zS ?_ | refine zL ?_)
  refine qf rfl (qd rfl rfl rfl rfl (L2) rfl rfl ?_)
  repeat (first | refine zR ?_ | refine zK ?_ | refine zM ?_ | refine zB ?_ | refine zA ?_ | refine zS ?_ | refine zL ?_)
  refine qc ?_
  (repeat refine qb ?_); refine qa ?_
  repeat (first | refine zR ?_ | refine zK ?_ | refine zM ?_ | refine zB ?_ | refine zA ?_ | refine zS ?_ | refine zL ?_)
  refine qf rfl (qd rfl rfl rfl rfl (of_h 2 2) rfl rfl ?_)
  repeat (first | refine zR ?_ | refine zK ?_ | refine zM ?_ | refine zB ?_ | refine zA ?_ | refine zS ?_ | refine zL ?_)
  refine qf rfl (qd rfl rfl rfl rfl (of_h 4 10) rfl rfl ?_)
  repeat (first | refine zR ?_ | refine zK ?_ | refine zM ?_ | refine zB ?_ | refine zA ?_ | refine zS ?_ | refine zL ?_)
  refine qf rfl (qd rfl rfl rfl rfl (L3) rfl rfl ?_)
  repeat (first | refine zR ?_ | refine zK ?_ | refine zM ?_ | refine zB ?_ | refine zA ?_ | refine zS ?_ | refine zL ?_)
  refine qc ?_
  (repeat refine qb ?_); refine qa ?_
  repeat (first | refine zR ?_ | refine zK ?_ | refine zM ?_ | refine zB ?_ | refine zA ?_ | refine zS ?_ | refine zL ?_)
  refine qf rfl (qd rfl rfl rfl rfl (of_h 2 (-7)) rfl rfl ?_)
  repeat (first | refine zR ?_ | refine zK ?_ | refine zM ?_ | refine zB ?_ | refine zA ?_ | refine zS ?_ | refine zL ?_)
  refine qf rfl (qd rfl rfl rfl rfl (T1) rfl rfl ?_)
  repeat (first | refine zR ?_ | refine zK ?_ | refine zM ?_ | refine zB ?_ | refine zA ?_ | refine zS ?_ | refine zL ?_)
  rw [show ((⟨#[45, 55]⟩ : ByteArray).toList == (⟨#[45, 55]⟩ : ByteArray).toList) = true from beq_self_eq_true _]
  repeat (first | refine zR ?_ | refine zK ?_ | refine zM ?_ | refine zB ?_ | refine zA ?_ | refine zS ?_ | refine zL ?_)
  refine qf rfl (qd rfl rfl rfl rfl (of_h 4 5) rfl rfl ?_)
  repeat (first | refine zR ?_ | refine zK ?_ | refine zM ?_ | refine zB ?_ | refine zA ?_ | refine zS ?_ | refine zL ?_)
  refine qf rfl (qd rfl rfl rfl rfl (T2) rfl rfl ?_)
  repeat (first | refine zR ?_ | refine zK ?_ | refine zM ?_ | refine zB ?_ | refine zA ?_ | refine zS ?_ | refine zL ?_)
  rw [show ((⟨#[64, 53]⟩ : ByteArray).toList == (⟨#[64, 53]⟩ : ByteArray).toList) = true from beq_self_eq_true _]
  repeat (first | refine zR ?_ | refine zK ?_ | refine zM ?_ | refine zB ?_ | refine zA ?_ | refine zS ?_ | refine zL ?_)
  refine qf rfl (qd rfl rfl rfl rfl (T3) rfl rfl ?_)
  repeat (first | refine zR ?_ | refine zK ?_ | refine zM ?_ | refine zB ?_ | refine zA ?_ | refine zS ?_ | refine zL ?_)
  rw [show ((⟨#[35, 97, 110, 110]⟩ : ByteArray).toList == (⟨#[35, 97, 110, 110]⟩ : ByteArray).toList) = true from beq_self_eq_true _]
  repeat (first | refine zR ?_ | refine zK ?_ | refine zM ?_ | refine zB ?_ | refine zA ?_ | refine zS ?_ | refine zL ?_)
  refine qf rfl (qd rfl rfl rfl rfl (T4) rfl rfl ?_)
  repeat (first | refine zR ?_ | refine zK ?_ | refine zM ?_ | refine zB ?_ | refine zA ?_ | refine zS ?_ | refine zL ?_)
  rw [show ((⟨#[34, 97, 92, 50, 50, 98, 34]⟩ : ByteArray).toList == (⟨#[34, 97, 92, 50, 50, 98, 34]⟩ : ByteArray).toList) = true from beq_self_eq_true _]
  repeat (first | refine zR ?_ | refine zK ?_ | refine zM ?_ | refine zB ?_ | refine zA ?_ | refine zS ?_ | refine zL ?_)
  refine qc ?_
  (repeat refine qb ?_); refine qk ?_
  exact jd rfl rfl
def fewV (v : Val) : Val := ⟨v.kind, v.n, v.s.extract 0 (Int.toNat (if (80 : Int) < v.s.size then 80 else v.s.size))⟩
theorem fewV_size (v : Val) : (fewV v).s.size ≤ 80 := by
  show (v.s.extract 0 _).size ≤ 80
  rw [ByteArray.size_extract]
  split <;> omega
theorem fewV_fit {v : Val} (h : v.Fit) : (fewV v).Fit := ⟨h.kind, h.n, Nat.le_trans (by show (v.s.extract 0 _).size ≤ v.s.size; simp [ByteArray.size_extract]; omega) h.s⟩
theorem fewV_h (v : Val) (hv : v.Fit) : Holds Tryd.prog 6 [.agg v.pv] (.p (.agg (fewV v).pv)) [] := by
  refine .ofW ?_
  obtain ⟨k, n, s⟩ := v
  refine holdsC_of (T := TTab) ql Tryd.func6 (by kernel_rfl) rfl rfl rfl ?_
  (repeat refine qb ?_); refine qa ?_
  repeat (first | refine zR ?_ | refine zK ?_ | refine zM ?_ | refine zB ?_ | refine zA ?_ | refine zS ?_ | refine zL ?_)
  refine qc ?_
  (repeat refine qb ?_); refine qa ?_
  repeat (first | refine zR ?_ | refine zK ?_ | refine zM ?_ | refine zB ?_ | refine zA ?_ | refine zS ?_ | refine zL ?_)
  refine zk ql rfl rfl (by simp only; split <;> omega) rfl ?_
  repeat (first | refine zR ?_ | refine zK ?_ | refine zM ?_ | refine zB ?_ | refine zA ?_ | refine zS ?_ | refine zL ?_)
  refine qc ?_
  (repeat refine qb ?_); refine qa ?_
  repeat (first | refine zR ?_ | refine zK ?_ | refine zM ?_ | refine zB ?_ | refine zA ?_ | refine zS ?_ | refine zL ?_)
  refine qc ?_
  (repeat refine qb ?_); refine qk ?_
  exact ⟨Or.inr rfl, _, _, [], _, Wk.refl _, rfl, rfl, .refl _, rfl, rfl⟩
end Go.Proofs.YtghjfficeglmoaaDoor
namespace Go.Proofs.YtghjfficeglmoaaDoor
set_option linter.unusedVariables false
set_option linter.unusedSimpArgs false
open Go.RowKit
set_option maxHeartbeats 4000000
theorem byteAt_get {s : ByteArray} {k : Nat} (hk : k < s.size) : byteAt s k = (s[k].toNat : Int) := by
  unfold byteAt
  have : s.data.getD k 0 = s[k] := by
    rw [Array.getD_eq_getD_getElem?, Array.getElem?_eq_getElem (by exact hk)]; rfl
  rw [this]
theorem refName_h (s : ByteArray) (hs : s.size ≤ reachBytes) : Holds Tryd.prog 15 [pS s] (.p (pB (nameS s))) [] := by
  unfold reachBytes at hs
  refine qw (ts := [2]) Tryd.func15 (by kernel_rfl) rfl rfl rfl ?_
  (repeat refine qb ?_); refine qa ?_
  repeat (first | refine zR ?_ | refine zK ?_ | refine zM ?_ | refine zB ?_ | refine zA ?_ | refine zS ?_ | refine zL ?_)
  refine qc ?_
  (repeat refine qb ?_); refine qa ?_
  repeat (first | refine zR ?_ | refine zK ?_ | refine zM ?_ | refine zB ?_ | refine zA ?_ | refine zS ?_ | refine zL ?_)
  refine qc ?_
  (repeat refine qb ?_); refine qS ?_
  refine SW.wk (qy [0, 3] [] rfl rfl) ?_
  refine zV (fun m st => ∃ (k : Nat) (kk : Int), k ≤ s.size ∧ m = s.size - k ∧ kk = k ∧ (∀ i (h : i < s.size), i < k → okC (i == 0) s[i].toNat = true) ∧ st = ⟨45, [(0, .p (pS s)), (3, .p (pI kk))], []⟩) s.size ⟨0, 0, Nat.zero_le _, rfl, rfl, fun i _ h => absurd h (Nat.not_lt_zero _), rfl⟩ ?_
  rintro m st ⟨k, _, hk, rfl, rfl, ha, rfl⟩
  (repeat refine qb ?_); refine qa ?_
  repeat (first | refine zR ?_ | refine zK ?_ | refine zM ?_ | refine zB ?_ | refine zA ?_ | refine zS ?_ | refine zL ?_)
  refine qc ?_
  (repeat refine qb ?_); refine qh rfl (fun hlt => ?_) (fun hlt => ?_)
  · refine qu ?_
    have hlt' : k < s.size := by simpa using hlt
    (repeat refine qb ?_); refine qS ?_
    (repeat refine qb ?_); refine qa ?_
    repeat (first | refine zR ?_ | refine zK ?_ | refine zM ?_ | refine zB ?_ | refine zA ?_ | refine zS ?_ | refine zL ?_)
    refine zk ql rfl rfl (by omega) rfl ?_
    rw [show Int.toNat (k : Int) = k from rfl, byteAt_get hlt']
    repeat (first | refine zR ?_ | refine zK ?_ | refine zM ?_ | refine zB ?_ | refine zA ?_ | refine zS ?_ | refine zL ?_)
    refine qc ?_
    (repeat refine qb ?_); refine zG (by kernel_rfl) ?_
    repeat (refine zH ql rfl (by exact True.intro) rfl ?_)
    refine jc ?_
    obtain ⟨c, hc⟩ : ∃ c : Nat, c = s[k].toNat := ⟨_, rfl⟩
    rw [← hc]
    have hok : okC (k == 0) s[k].toNat = ((97 ≤ c && c ≤ 122) || (!(k == 0) && ((48 ≤ c && c ≤ 57) || c == 95))) := by rw [← hc]; rfl
    (repeat refine qb ?_); refine qh rfl (fun hb => ?_) (fun hb => ?_)
    · (repeat refine qb ?_); refine qa ?_
      repeat (first | refine zR ?_ | refine zK ?_ | refine zM ?_ | refine zB ?_ | refine zA ?_ | refine zS ?_ | refine zL ?_)
      refine qc ?_
      (repeat refine qb ?_); refine qk ?_
      refine jd rfl (nameS_no hlt' ?_).symm
      rw [hok]
      revert hb
      cases h1 : decide (97 ≤ c) <;> cases h2 : decide (c ≤ 122) <;> cases h3 : decide (48 ≤ c) <;> cases h4 : decide (c ≤ 57) <;> simp_all <;> omega
    · refine qu ?_
      (repeat refine qb ?_); refine qa ?_
      repeat (first | refine zR ?_ | refine zK ?_ | refine zM ?_ | refine zB ?_ | refine zA ?_ | refine zS ?_ | refine zL ?_)
      refine qc ?_
      refine ⟨_, _, ?_, qy [0, 3] [] rfl rfl, k + 1, _, hlt', rfl, zP hlt' (by omega), name_step hlt' ha ?_, rfl⟩
      · omega
      · rw [hok]
        revert hb
        cases h1 : decide (97 ≤ c) <;> cases h2 : decide (c ≤ 122) <;> cases h3 : decide (48 ≤ c) <;> cases h4 : decide (c ≤ 57) <;> simp_all <;> omega
  · refine zX ?_
    have hkk : k = s.size := by
      have : ¬ (k : Int) < (s.size : Int) := by simpa using hlt
      omega
    subst hkk
    (repeat refine qb ?_); refine zG (by kernel_rfl) ?_
    repeat (refine zH ql rfl (by exact True.intro) rfl ?_)
    refine jc ?_
    (repeat refine qb ?_); refine qk ?_
    refine jd rfl ?_
    rw [nameS_end ha, Bool.eq_iff_iff]
    simp
    omega
theorem zQ (v : Val) (hs : v.s.size ≤ reachBytes) : Holds Tryd.prog 10 [.agg v.pv] (.p (pB v.right)) [] := by
  unfold Val.right
  refine qw (ts := [2]) Tryd.func10 (by kernel_rfl) rfl rfl rfl ?_
  (repeat refine qb ?_); refine qa ?_
  repeat (first | refine zR ?_ | refine zK ?_ | refine zM ?_ | refine zB ?_ | refine zA ?_ | refine zS ?_ | refine zL ?_)
  refine qc ?_
  (repeat refine qb ?_); refine qa ?_
  repeat (first | refine zR ?_ | refine zK ?_ | refine zM ?_ | refine zB ?_ | refine zA ?_ | refine zS ?_ | refine zL ?_)
  refine qc ?_
  (repeat refine qb ?_); refine qS ?_
  (repeat refine qb ?_); refine qa ?_
  repeat (first | refine zR ?_ | refine zK ?_ | refine zM ?_ | refine zB ?_ | refine zA ?_ | refine zS ?_ | refine zL ?_)
  refine qc ?_
  (repeat refine qb ?_); refine qh rfl (fun h1 => ?_) (fun h1 => ?_)
  · have e1 : v.kind = 1 := by simpa using h1
    rw [if_pos e1]
    (repeat refine qb ?_); refine zG (by kernel_rfl) ?_
    repeat (refine zH ql rfl (by exact True.intro) rfl ?_)
    refine jc ?_
    (repeat refine qb ?_); refine qk ?_
    refine jd rfl ?_
    rw [Bool.eq_iff_iff]
    simp [zI]
  · have n1 : ¬ v.kind = 1 := by simpa using h1
    rw [if_neg n1]
    (repeat refine qb ?_); refine qa ?_
    repeat (first | refine zR ?_ | refine zK ?_ | refine zM ?_ | refine zB ?_ | refine zA ?_ | refine zS ?_ | refine zL ?_)
    refine qc ?_
    (repeat refine qb ?_); refine qh rfl (fun h2 => ?_) (fun h2 => ?_)
    · have e1 : v.kind = 2 := by simpa using h2
      rw [if_pos e1]
      (repeat refine qb ?_); refine qa ?_
      repeat (first | refine zR ?_ | refine zK ?_ | refine zM ?_ | refine zB ?_ | refine zA ?_ | refine zS ?_ | refine zL ?_)
      refine qc ?_
      (repeat refine qb ?_); refine qk ?_
      refine jd rfl ?_
      rw [Bool.eq_iff_iff]
      simp [zI]
    · have n2 : ¬ v.kind = 2 := by simpa using h2
      rw [if_neg n2]
      (repeat refine qb ?_); refine qa ?_
      repeat (first | refine zR ?_ | refine zK ?_ | refine zM ?_ | refine zB ?_ | refine zA ?_ | refine zS ?_ | refine zL ?_)
      refine qc ?_
      (repeat refine qb ?_); refine qh rfl (fun h3 => ?_) (fun h3 => ?_)
      · have e1 : v.kind = 3 := by simpa using h3
        rw [if_pos e1]
        (repeat refine qb ?_); refine zG (by kernel_rfl) ?_
        repeat (refine zH ql rfl (by exact True.intro) rfl ?_)
        refine jc ?_
        (repeat refine qb ?_); refine qk ?_
        refine jd rfl ?_
        rw [Bool.eq_iff_iff]
        simp
        try omega
      · have n3 : ¬ v.kind = 3 := by simpa using h3
        rw [if_neg n3]
        (repeat refine qb ?_); refine qa ?_
        repeat (first | refine zR ?_ | refine zK ?_ | refine zM ?_ | refine zB ?_ | refine zA ?_ | refine zS ?_ | refine zL ?_)
        refine qc ?_
        (repeat refine qb ?_); refine qh rfl (fun h4 => ?_) (fun h4 => ?_)
        · have e1 : v.kind = 4 := by simpa using h4
          rw [if_pos e1]
          (repeat refine qb ?_); refine zG (by kernel_rfl) ?_
          repeat (refine zH ql rfl (by exact True.intro) rfl ?_)
          refine jc ?_
          (repeat refine qb ?_); refine qk ?_
          refine jd rfl ?_
          rw [Bool.eq_iff_iff]
          simp [zI]
          try omega
        · have n4 : ¬ v.kind = 4 := by simpa using h4
          rw [if_neg n4]
          (repeat refine qb ?_); refine qa ?_
          repeat (first | refine zR ?_ | refine zK ?_ | refine zM ?_ | refine zB ?_ | refine zA ?_ | refine zS ?_ | refine zL ?_)
          refine qc ?_
          (repeat refine qb ?_); refine qh rfl (fun h5 => ?_) (fun h5 => ?_)
          · have e1 : v.kind = 5 := by simpa using h5
            rw [if_pos e1]
            (repeat refine qb ?_); refine zG (by kernel_rfl) ?_
            repeat (refine zH ql rfl (by exact True.intro) rfl ?_)
            refine sws_call rfl rfl rfl rfl (refName_h v.s hs) rfl rfl ?_
            repeat (refine zH ql rfl (by exact True.intro) rfl ?_)
            refine jc ?_
            (repeat refine qb ?_); refine qk ?_
            refine jd rfl ?_
            rw [Bool.eq_iff_iff]
            simp
          · have n5 : ¬ v.kind = 5 := by simpa using h5
            rw [if_neg n5]
            refine qu ?_
            (repeat refine qb ?_); refine qa ?_
            repeat (first | refine zR ?_ | refine zK ?_ | refine zM ?_ | refine zB ?_ | refine zA ?_ | refine zS ?_ | refine zL ?_)
            refine qc ?_
            (repeat refine qb ?_); refine qk ?_
            exact jd rfl rfl
end Go.Proofs.YtghjfficeglmoaaDoor
namespace Go.Proofs.YtghjfficeglmoaaDoor
set_option linter.unusedVariables false
set_option linter.unusedSimpArgs false
open Go.RowKit
theorem made_flat {z : Array Value} {zs : List Value} {size : Nat} (hz : z.toList = zs) (hl : zs.length = size) (hpos : 0 < size) (c : Cel size) (hc : c.val = zs) (N : Nat) : madeCells z (N * size) = ((List.replicate N c).flatMap Subtype.val).toArray := by
  refine Array.ext (by rw [size_madeCells, List.size_toArray, zw (fun x : Cel size => x.2.1), List.length_replicate]) fun k h1 h2 => ?_
  rw [size_madeCells] at h1
  have hdiv : k / size < (List.replicate N c).length := by rw [List.length_replicate]; exact (Nat.div_lt_iff_lt_mul hpos).2 h1
  have hmod : k % size < size := Nat.mod_lt _ hpos
  have hjj : k / size * size + k % size = k := by rw [Nat.mul_comm]; exact Nat.div_add_mod k size
  have g1 := flat_get (fun x : Cel size => x.2.1) (List.replicate N c) (k / size) hdiv (k % size) hmod
  rw [hjj, List.getElem_replicate, hc] at g1
  have e2 : ((List.replicate N c).flatMap Subtype.val)[k]? = some (((List.replicate N c).flatMap Subtype.val)[k]'(by simpa using h2)) := List.getElem?_eq_getElem (by simpa using h2)
  rw [e2] at g1
  have hs : z.size = size := by rw [← Array.length_toList, hz, hl]
  have hk : k % z.size < z.size := by rw [hs]; exact hmod
  have e3 : (madeCells z (N * size))[k]'(by rw [size_madeCells]; exact h1) = z[k % z.size]'hk := by
    unfold madeCells
    rw [Array.getElem_map, Array.getElem_range]
    exact getElem!_pos z (k % z.size) hk
  rw [e3, List.getElem_toArray]
  have e4 : zs[k % size]? = some (z[k % z.size]'hk) := by
    subst hz
    rw [Array.getElem?_toList, ← hs]
    exact Array.getElem?_eq_getElem hk
  rw [e4] at g1
  exact (Option.some.inj g1).symm
section
variable {P : Program} {T : TT} (hT : qs P T) {st : St}
include hT
theorem act_makeSlice {o : Oper} {t e : TypeId} {x y : Operand} (ho : o.op = .makeSlice t x y) {d : Nat} (hdst : o.dst = some d) {ti ei : TyI} (ht : lk t T = some ti) (hte : ti.d = .sl e) (he : lk e T = some ei)
    (hsz : Nat.blt 0 ei.size = true) (hz : Nat.beq ei.zero.length ei.size = true) (hpl : ei.zero.all plain = true) {N : Nat} (hx : evS st x = some (.p (.v (.int .i64 (N : Int))))) (hy : evS st y = some (.p (.v (.int .i64 (N : Int)))))
    (hd : lk d st.own = none) (hn : Nat.blt d st.n = true) (hN : N ≤ reachBytes) (hb : ei.bytes * N ≤ 281474976710656)
    {Q : St → Prop} (h : Q ⟨st.n, (d, .row d) :: st.fr, (d, .row e ei.size (List.replicate N (ei.zero.map PV.v))) :: st.own⟩) : ActOk P [] o st Q := by
  intro w0 Sx γ a w QQ hI
  obtain ⟨info, zv, hinf, hsize, hby, hzv, hzc⟩ := (hT e ei he).info
  have hu := (hT t ti ht).und
  rw [hte] at hu
  simp only [zi] at hu
  have hpos : 0 < ei.size := by simpa [Nat.blt, Nat.lt_iff_add_one_le] using hsz
  have hzl : ei.zero.length = ei.size := Nat.eq_of_beq_eq_true hz
  have hxv := (qg hI hx).v_inv
  have hyv := (qg hI hy).v_inv
  have hplz : ∀ v ∈ ei.zero, plain v = true := fun v hv => List.all_eq_true.1 hpl v hv
  obtain ⟨c, hc⟩ : ∃ c : Cel ei.size, c.val = ei.zero := ⟨⟨ei.zero, hzl, fun u hu => plain_one (hplz u hu)⟩, rfl⟩
  have hflat := made_flat hzc hzl hpos c hc N
  have hr := run_make (P := P) w t e info zv hu hinf hzv .i64 .i64 (N : Int) (N : Int) (by omega) (Int.le_refl _) (by rw [hby]; have : ((ei.bytes * N : Nat) : Int) ≤ 281474976710656 := by omega
                                                                                                                      rwa [Int.natCast_mul] at this) (by unfold reachBytes at hN; omega)
  rw [Int.toNat_natCast, hsize, hflat] at hr
  generalize hcs : (List.replicate N c) = css at hr
  have hcl : css.length = N := by rw [← hcs, List.length_replicate]
  have hci : ∀ (i : Nat) (h : i < css.length), css[i] = c := fun i h => by subst hcs; rw [List.getElem_replicate]
  have hw : Below w.heap.size w (w.alloc (.cells (css.flatMap Subtype.val).toArray e)) := (Below.refl _ w).alloc (Nat.le_refl _) _
  have hll : (List.replicate N (ei.zero.map PV.v)).length = N := List.length_replicate ..
  have hrow : BoxOk w0 Sx (upd γ d (.slice (some ⟨w.heap.size, 0, none⟩) N N)) ((d, .row e ei.size (List.replicate N (ei.zero.map PV.v))) :: st.own) (w.alloc (.cells (css.flatMap Subtype.val).toArray e)) d (.row e ei.size (List.replicate N (ei.zero.map PV.v))) := by
    refine .row ?_ (fun y hy => ?_) (by rw [hll]; exact hN) (fun b hb hk => by simp only [upd, if_true, qq, Option.some.injEq] at hb; have := hI.heap.sx.lt _ hk; omega)
    rotate_left
    · rw [List.eq_of_mem_replicate hy]
      refine ⟨by rw [List.length_map, hzl], fun s hs => ?_⟩
      obtain ⟨v, _, rfl⟩ := List.mem_map.1 hs
      rfl
    rw [show upd γ d (.slice (some ⟨w.heap.size, 0, none⟩) N N) d = .slice (some ⟨w.heap.size, 0, none⟩) N N from if_pos rfl]
    refine ⟨css, ⟨by rw [zw (fun x : Cel ei.size => x.2.1)], Or.inr ⟨w.heap.size, N, _, by rw [hcl], Nat.zero_le _, heap_alloc_new w _, by omega, by unfold maxLen; unfold reachBytes at hN; omega, by rw [List.size_toArray, zw (fun x : Cel ei.size => x.2.1), hcl], ?_⟩⟩, by rw [hcl, hll], fun i a1 a2 => ?_⟩
    · show (css.flatMap Subtype.val).take (css.length * ei.size) = _
      rw [← zw (fun x : Cel ei.size => x.2.1) css, List.take_length]
    · rw [hci i a1, hc, List.getElem_replicate]
      refine ⟨by rw [List.length_map], fun j s u hs hu => ?_⟩
      rw [List.getElem?_map, hu] at hs
      cases hs
      exact .v (hplz u (List.mem_of_getElem? hu))
  have key := hI.addBox hw hd hn (s := .row d) (v := .slice (some ⟨w.heap.size, 0, none⟩) N N) (fun b hb => by simp only [qq, Option.some.injEq] at hb; omega) hrow (.row (by unfold hp; rw [qj, if_pos rfl]; simp [upd]))
  unfold Oper.wp
  have : (execOp a.eval o).run P w = .ok (.value (.slice (some ⟨w.heap.size, 0, none⟩) N N)) (w.alloc (.cells (css.flatMap Subtype.val).toArray e)) := by
    simp only [execOp, ho, hxv, hyv, Sem.run_bind, hr, Result.andThen_ok]; rfl
  rw [this, Oper.upon_value, hdst]
  exact ⟨_, _, h, key.1, key.2.1, key.2.2⟩
end
theorem row_put {w0 : Base} {Sx : Nat → Prop} {γ : Nat → Value} {st : St} {a : Act} {w : World} (hI : Sim w0 Sx γ st a w) {j z b : Nat} {e : TypeId} {l l' : List (List PV)} {cur' : Array Value} (hj : lk j st.own = some (.row e z l)) (hblk : qq (γ j) = some b)
    (hrow' : RowO rPV z (ja Sx γ st.own j) (w.setRow b cur') 0 e (γ j) l') (he' : ∀ y ∈ l', y.length = z ∧ ∀ s ∈ y, oneP s = true) (hlen2 : l'.length = l.length) :
    Sim w0 Sx γ ⟨st.n, st.fr, setB j (.row e z l') st.own⟩ a (w.setRow b cur') ∧ SameOn (vis [j] γ st.own) w (w.setRow b cur') ∧
      ∀ K : List Nat, (∀ i ∈ [j], i ∈ K) → ∀ c, c < w.heap.size → vis K γ st.own c → vis K γ (setB j (.row e z l') st.own) c := by
  cases hI.heap.box j _ hj with
  | row hr he hm hkj =>
  have hother : ∀ k, k ≠ b → (w.setRow b cur').heap[k]? = w.heap[k]? := fun k hk => setRow_other w b k _ hk
  have lk' : ∀ i, lk i (setB j (.row e z l') st.own) = if i = j then some (.row e z l') else lk i st.own := fun i => by
    rw [lk_setB, hj]; rfl
  have hsome : ∀ i, (lk i (setB j (.row e z l') st.own)).isSome = (lk i st.own).isSome := fun i => by
    rw [lk']; split
    · rename_i e; subst e; rw [hj]; rfl
    · rfl
  generalize hown' : setB j (.row e z l') st.own = own' at *
  have hp' : ∀ i, hp γ own' i = hp γ st.own i := fun i => by
    have := hsome i
    unfold hp
    cases h2 : lk i own' <;> cases h3 : lk i st.own <;> rw [h2, h3] at this <;> first | rfl | cases this
  have okc : ∀ c, okO Sx γ own' c ↔ okO Sx γ st.own c := fun c => by
    refine and_congr Iff.rfl ⟨fun hk i bx hi => ?_, fun hk i bx hi => ?_⟩
    · have := hsome i; rw [hi] at this
      obtain ⟨by_, h3⟩ := Option.isSome_iff_exists.1 this
      exact hk i by_ h3
    · have := hsome i; rw [hi] at this
      obtain ⟨by_, h3⟩ := Option.isSome_iff_exists.1 this.symm
      exact hk i by_ h3
  have okb : ∀ i c, ja Sx γ own' i c ↔ ja Sx γ st.own i c := fun i c => by
    refine and_congr Iff.rfl ⟨fun hk k bx hi => ?_, fun hk k bx hi => ?_⟩
    · have := hsome k; rw [hi] at this
      obtain ⟨by_, h3⟩ := Option.isSome_iff_exists.1 this
      exact hk k by_ h3
    · have := hsome k; rw [hi] at this
      obtain ⟨by_, h3⟩ := Option.isSome_iff_exists.1 this.symm
      exact hk k by_ h3
  have keepS : ∀ {s : SV} {u : Value}, RelS (okO Sx γ st.own) (hp γ st.own) w s u → RelS (okO Sx γ own') (hp γ own') (w.setRow b cur') s u := fun h => by
    refine h.keep2 (by simp) (fun c hc hok => ⟨hother c fun e => ?_, (okc c).2 hok⟩) fun i _ => hp' i
    subst e; exact hok.2 j _ hj hblk
  have hrow2 : RowO rPV z (ja Sx γ own' j) (w.setRow b cur') 0 e (γ j) l' := hrow'.keep2 good_PV (Nat.le_refl _) (fun _ _ => rfl) fun c _ hok _ => ⟨rfl, (okb j c).2 hok⟩
  refine ⟨⟨?_, hI.size, hI.defers, fun t s ht => keepS (hI.fr t s ht), ⟨fun i bx hi => ?_, fun i k bi bk c hi hk hbi hbk => ?_, hI.heap.sx.keep (by simp) fun i bx hi => Or.inr ⟨rfl, by rw [← hsome i, hi]; rfl⟩⟩⟩, ⟨by simp, fun c hc hv => hother c fun e => ?_⟩, fun K _ c hc hv i bx hi hK => ?_⟩
  · refine hI.below.step ⟨rfl, rfl, rfl, by simp, fun k hk => absurd hk (Nat.not_lt_zero _)⟩ fun k hk => hother k fun e => by subst e; exact hkj _ hblk hk
  · have hi : lk i own' = some bx := hi
    rw [lk'] at hi
    by_cases e : i = j
    · subst e
      rw [if_pos rfl] at hi
      cases hi
      exact .row hrow2 he' (by rw [hlen2]; exact hm) hkj
    · rw [if_neg e] at hi
      cases hI.heap.box i bx hi with
      | @mp es ens clock b2 hg2 hB2 hh2 hl2 hr2 =>
        have hne : b2 ≠ b := fun eb => e (hI.heap.inj i j _ _ b hi hj (by rw [hg2, ← eb]; rfl) hblk)
        exact .mp hg2 hB2 (by rw [hother b2 hne]; exact hh2) hl2 fun k x en hs hu => ⟨(hr2 k x en hs hu).1, (hr2 k x en hs hu).2.keep2 (by simp) fun c hc hok => ⟨hother c fun ec => by subst ec; exact hok.2 j _ hj hblk, (okc c).2 hok⟩⟩
      | @row e' esz l2 hr' he2 hm2 hk2 =>
        refine .row (hr'.keep2 good_PV (by simp) (fun c hc => hother c fun ec => ?_) fun c hc hok hne => ⟨hother c fun ec => ?_, (okb i c).2 hok⟩) he2 hm2 hk2
        · subst ec
          have : qq (γ i) = some c := by
            rcases hr' with ⟨css, h1', _⟩
            rcases h1'.2 with ⟨hv, _⟩ | ⟨g, cap, cur, hv, _⟩
            · rw [hv] at hc; cases hc
            · rw [hv] at hc ⊢; exact hc
          exact e (hI.heap.inj i j _ _ c hi hj this hblk)
        · subst ec; exact hok.2 j _ hj (fun e2 => e e2.symm) hblk
      | @cells cs2 us2 ty2 b2 hg2 hB2 hh2 hl2 hr2 hone2 =>
        have hne : b2 ≠ b := fun eb => e (hI.heap.inj i j _ _ b hi hj (by rw [hg2, ← eb]; rfl) hblk)
        exact .cells hg2 hB2 (by rw [hother b2 hne]; exact hh2) hl2 (fun k s u hs hu => keepS (hr2 k s u hs hu)) hone2
  · have h2 := hsome i; rw [show lk i own' = some bi from hi] at h2
    have h3 := hsome k; rw [show lk k own' = some bk from hk] at h3
    obtain ⟨x1, h4⟩ := Option.isSome_iff_exists.1 h2.symm
    obtain ⟨x2, h5⟩ := Option.isSome_iff_exists.1 h3.symm
    exact hI.heap.inj i k _ _ c h4 h5 hbi hbk
  · subst e; exact hv j _ hj (by simp) hblk
  · have h2 := hsome i; rw [show lk i own' = some bx from hi] at h2
    obtain ⟨x1, h4⟩ := Option.isSome_iff_exists.1 h2.symm
    exact hv i x1 h4 hK
section
variable {P : Program} {T : TT} (hT : qs P T) {st : St}
include hT
theorem act_copy {o : Oper} {dx sx : Operand} {t t2 e : TypeId} {cl : Call} (ho : o.op = .call cl) (hcl : cl.callee = .builtin .copy) (hargs : cl.args.toList = [dx, sx]) (hts : cl.argTypes.toList = [t, t2])
    {ti ei : TyI} (ht : lk t T = some ti) (hte : ti.d = .sl e) (he : lk e T = some ei) (hsz : Nat.blt 0 ei.size = true) {j : Nat} (hs : evS st dx = some (.row j)) {l : List (List PV)} (hj : lk j st.own = some (.row e ei.size l))
    {s2 : SV} (hx : evS st sx = some s2) {l2 : List (List PV)} (hl2 : srcL st ei.size (some j) s2 = some l2) (hlen : l2.length ≤ l.length) (hpos : 0 < l.length) (hdst : qX st o.dst = true)
    {Q : St → Prop} (h : Q ((⟨st.n, st.fr, setB j (.row e ei.size (l2 ++ l.drop l2.length)) st.own⟩ : St).put o.dst (.p (.v (.int .i64 (l2.length : Int)))))) : ActOk P [j] o st Q := by
  intro w0 Sx γ a w QQ hI
  obtain ⟨info, zv, hinf, hsize, hby, hzv, hzc⟩ := (hT e ei he).info
  have hu := (hT t ti ht).und
  rw [hte] at hu
  simp only [zi] at hu
  have hp0 : 0 < ei.size := by simpa [Nat.blt, Nat.lt_iff_add_one_le] using hsz
  generalize hzz : ei.size = z at *
  have hsv : a.eval dx = γ j := by
    have := qg hI hs
    generalize a.eval dx = u at this ⊢
    cases this with
    | row hg => rw [qp hj] at hg; cases hg; rfl
  obtain ⟨A, c, g1, g2, g3, g4⟩ := srcL_ok hI hx hl2
  cases hI.heap.box j _ hj with
  | row hr hel hm hkj =>
  obtain ⟨css, k1, k2, k3⟩ := hr
  rcases k1.2 with ⟨hv', h0⟩ | ⟨b, cap, cur, hv', hB, hh, hnc, hcm, hcs, htake⟩
  · omega
  have hblk : qq (γ j) = some b := by rw [hv']; rfl
  have hex : ∀ i : Nat, ∃ cs : Cel z, ∀ hi : i < l2.length, rPV (okO Sx γ st.own) w cs.val l2[i] ∧ ∀ b o', A = some ⟨b, o', none⟩ → CellsAt w b (o' + i * z) cs.val := by
    intro i
    by_cases hi : i < l2.length
    · obtain ⟨b, o', hA, _, hc⟩ := g4 (by omega)
      obtain ⟨cs, a1, a2, a3, a4⟩ := hc i hi
      exact ⟨⟨cs, a1, a3⟩, fun _ => ⟨a4, fun b2 o2 hA2 => by
        have := hA.symm.trans hA2
        simp only [Option.some.injEq, Addr.mk.injEq] at this
        obtain ⟨rfl, rfl, _⟩ := this
        exact a2⟩⟩
    · exact ⟨⟨List.replicate z .nilIface, by simp, fun u hu => by rw [List.eq_of_mem_replicate hu]; rfl⟩, fun h => absurd h hi⟩
  obtain ⟨f, hf⟩ := Classical.axiomOfChoice hex
  obtain ⟨css2, hcss2⟩ : ∃ css2 : List (Cel z), css2 = (List.range l2.length).map f := ⟨_, rfl⟩
  have hlen2 : css2.length = l2.length := by rw [hcss2]; simp
  have hget : ∀ i (h : i < css2.length), css2[i] = f i := fun i h => by subst hcss2; simp
  obtain ⟨vs, hvs⟩ : ∃ vs, vs = css2.flatMap Subtype.val := ⟨_, rfl⟩
  have hvl : vs.length = l2.length * z := by rw [hvs, zw (fun x : Cel z => x.2.1), hlen2]
  have hv1 : ∀ v ∈ vs, v.oneCell' = true := fun u hu => by rw [hvs] at hu; obtain ⟨x, _, hx⟩ := List.mem_flatMap.1 hu; exact x.2.2 u hx
  have hll : l2.length * z ≤ css.length * z := Nat.mul_le_mul_right z (by omega)
  have hcapz : css.length * z ≤ cap * z := Nat.mul_le_mul_right z hnc
  have hst := run_storeCells_at P b 0 e vs 0 cur w hh (by omega) hv1
  simp only [Nat.add_zero, List.take_zero, List.nil_append, Nat.zero_add] at hst
  have hload : (Builtin.firstCells z l2.length (.slice A l2.length c)).run P w = .ok vs.toArray w := by
    rcases A with _ | ⟨bA, oA, nA⟩
    · have h0 : l2.length = 0 := by
        rcases Nat.eq_zero_or_pos l2.length with h0 | h0
        · exact h0
        · obtain ⟨b, o', hA, _⟩ := g4 h0; cases hA
      have : vs = [] := List.eq_nil_of_length_eq_zero (by rw [hvl, h0, Nat.zero_mul])
      rw [this]; rfl
    · show (loadCells ⟨bA, oA, nA⟩ (l2.length * z)).run P w = _
      rw [← hvl]
      refine run_loadCells_list (P := P) w _ vs fun q v hq => ?_
      have hql : q < l2.length * z := by rw [← hvl]; exact (List.getElem?_eq_some_iff.1 hq).1
      have hi' : q / z < l2.length := (Nat.div_lt_iff_lt_mul hp0).2 hql
      have hmz : q % z < z := Nat.mod_lt _ hp0
      have hjj : q / z * z + q % z = q := by rw [Nat.mul_comm]; exact Nat.div_add_mod q z
      obtain ⟨b2, o2, hA2, _, _⟩ := g4 (Nat.lt_of_le_of_lt (Nat.zero_le _) hi')
      simp only [Option.some.injEq, Addr.mk.injEq] at hA2
      obtain ⟨rfl, rfl, rfl⟩ := hA2
      have q1 := flat_get (fun x : Cel z => x.2.1) css2 (q / z) (by omega) (q % z) hmz
      rw [hjj, ← hvs, hq, hget] at q1
      have q2 := (hf (q / z) hi').2 _ _ rfl (q % z) v q1.symm
      have e1 : (⟨bA, oA, none⟩ : Addr).add q = ⟨bA, oA + q / z * z + q % z, none⟩ := by
        rw [Nat.add_assoc, hjj]
        unfold Addr.add; split
        · simp [*]
        · rfl
      rw [e1]; exact q2
  have run : (execOp a.eval o).run P w = .ok (.value (goInt l2.length)) (w.setRow b (vs ++ cur.toList.drop vs.length).toArray) := by
    have hargs' : cl.args = #[dx, sx] := by rw [← Array.toArray_toList (xs := cl.args), hargs]
    have hts' : cl.argTypes = #[t, t2] := by rw [← Array.toArray_toList (xs := cl.argTypes), hts]
    have hmin : Nat.min l2.length css.length = l2.length := Nat.min_eq_left (by omega)
    have hcp : (Builtin.copy_ #[t, t2] o.type #[γ j, .slice A l2.length c]).run P w = .ok (goInt l2.length) (w.setRow b (vs ++ cur.toList.drop vs.length).toArray) := by
      rw [hv']
      simp [Builtin.copy_, run_underlying hu, Builtin.lenOf, hmin, sizeOf, typeInfo, hinf, hsize, hload, hst]
    simp only [execOp, ho, resolve, hcl, hargs', hts', Sem.run_bind, Sem.run_pure, Result.andThen_ok, invoke, builtin, List.map_toArray, List.map_cons, List.map_nil, hsv, g1, hcp]
  obtain ⟨cur', hcur'⟩ : ∃ cur', cur' = (vs ++ cur.toList.drop vs.length).toArray := ⟨_, rfl⟩
  rw [← hcur'] at run
  have hother : ∀ k, k ≠ b → (w.setRow b cur').heap[k]? = w.heap[k]? := fun k hk => setRow_other w b k _ hk
  have hnewlen : (l2 ++ l.drop l2.length).length = l.length := by rw [List.length_append, List.length_drop]; omega
  have hflat : (css2 ++ css.drop l2.length).flatMap Subtype.val = vs ++ (css.flatMap Subtype.val).drop vs.length := by
    rw [List.flatMap_append, ← hvs]
    congr 1
    have e1 : css = css.take l2.length ++ css.drop l2.length := (List.take_append_drop _ _).symm
    have e2 : ((css.take l2.length).flatMap Subtype.val).length = vs.length := by rw [zw (fun x : Cel z => x.2.1), List.length_take, Nat.min_eq_left (by omega), hvl]
    conv => rhs; rw [e1]
    rw [List.flatMap_append, ← e2, List.drop_left]
  have hrow' : RowO rPV z (ja Sx γ st.own j) (w.setRow b cur') 0 e (γ j) (l2 ++ l.drop l2.length) := by
    have hcl2 : (css2 ++ css.drop l2.length).length = css.length := by rw [List.length_append, List.length_drop]; omega
    refine ⟨css2 ++ css.drop l2.length, ⟨by rw [zw (fun x : Cel z => x.2.1)], Or.inr ⟨b, cap, cur', by rw [hv', hcl2], hB, setRow_heap w b _ _ e _ hh, by rw [hcl2]; exact hnc, hcm, ?_, ?_⟩⟩, by rw [hcl2, hnewlen, k2], fun i a1 a2 => ?_⟩
    · rw [hcur']; simp only [List.size_toArray, List.length_append, List.length_drop, Array.length_toList]; omega
    · rw [hcl2, hflat, ← htake, hcur']
      show (vs ++ cur.toList.drop vs.length).take (css.length * z) = vs ++ (cur.toList.take (css.length * z)).drop vs.length
      rw [List.take_append, List.take_of_length_le (by omega), List.drop_take]
    · have keepR : ∀ {cs : List Value} {y : List PV}, rPV (okR (ja Sx γ st.own j) (γ j)) w cs y → rPV (okR (ja Sx γ st.own j) (γ j)) (w.setRow b cur') cs y := fun {cs y} h =>
        good_PV.keep _ w _ _ _ ⟨by simp, fun c hc hok => hother c fun ec => by subst ec; exact hok.2 (by rw [hv']; rfl)⟩ h
      by_cases hi : i < l2.length
      · rw [List.getElem_append_left (by omega : i < css2.length), List.getElem_append_left hi, hget]
        refine keepR (good_PV.weak _ _ _ _ _ (fun c _ hok => ?_) ((hf i hi).1))
        exact ⟨⟨hok.1, fun q bx hq _ hb => hok.2 q bx hq hb⟩, fun hb => hok.2 j _ hj (by rw [hblk]; rw [hv'] at hb; exact hb.symm)⟩
      · have e1 : (css2 ++ css.drop l2.length)[i] = css[i]'(by omega) := by
          rw [List.getElem_append_right (by omega), List.getElem_drop]
          congr 1; omega
        have e2 : (l2 ++ l.drop l2.length)[i] = l[i]'(by omega) := by
          rw [List.getElem_append_right (by omega), List.getElem_drop]
          congr 1; omega
        rw [e1, e2]
        exact keepR (k3 i (by omega) (by omega))
  have he' : ∀ y ∈ l2 ++ l.drop l2.length, y.length = z ∧ ∀ s ∈ y, oneP s = true := fun y hy => by
    rcases List.mem_append.1 hy with hy | hy
    · exact g3 y hy
    · exact hel y (List.mem_of_mem_drop hy)
  obtain ⟨r1, r2, r3⟩ := row_put hI hj hblk hrow' he' hnewlen
  unfold Oper.wp
  rw [run, Oper.upon_value]
  refine ⟨γ, _, h, r1.put hdst (.p (.v rfl)), r2, fun K hK b' hb' hv => ?_⟩
  rw [jj]
  exact r3 K hK b' hb' hv
end
end Go.Proofs.YtghjfficeglmoaaDoor
namespace Go.Proofs.YtghjfficeglmoaaDoor
set_option linter.unusedVariables false
set_option linter.unusedSimpArgs false
abbrev Bs := List UInt8
structure TokP where
  kind : Int
  n : Int
  s : Bs
  len : Nat
  deriving DecidableEq
structure Tok where
  kind : Int
  at_ : Nat
  n : Int
  s : Bs
  deriving DecidableEq
def TokP.at_ (t : TokP) (k : Nat) : Tok := ⟨t.kind, k, t.n, t.s⟩
def Tok.shift (d : Nat) (t : Tok) : Tok := ⟨t.kind, t.at_ + d, t.n, t.s⟩
end Go.Proofs.YtghjfficeglmoaaDoor
namespace Go.Proofs.YtghjfficeglmoaaDoor
set_option linter.unusedVariables false
set_option linter.unusedSimpArgs false
def zig (n : Int) : Nat := if n < 0 then (-2 * n - 1).toNat else (2 * n).toNat
theorem zig_lt {n : Int} (h : R64 n) : zig n < 18446744073709551616 := by
  have h1 := h.1
  have h2 := h.2
  unfold zig
  split <;> omega
def putU : Nat → Nat → Bs
  | 0, _ => []
  | f + 1, u => if u < 128 then [UInt8.ofNat u] else UInt8.ofNat (u % 128 + 128) :: putU f (u / 128)
def putN (n : Int) : Bs := putU 10 (zig n)
theorem putU_len : ∀ (f u : Nat), (putU f u).length ≤ f
  | 0, _ => Nat.le_refl _
  | f + 1, u => by
    rw [putU]
    split
    · simp
    · have := putU_len f (u / 128)
      simp; omega
end Go.Proofs.YtghjfficeglmoaaDoor
namespace Go.Proofs.YtghjfficeglmoaaDoor
set_option linter.unusedVariables false
set_option linter.unusedSimpArgs false
theorem ofNat64 (u : Nat) (h : u < 18446744073709551616) : (BitVec.ofInt IntKind.u64.bits (u : Int)).toNat = u := by
  show (BitVec.ofInt 64 (u : Int)).toNat = u
  rw [BitVec.toNat_ofInt]
  omega
theorem u64_nat {u : Nat} (h : u < 18446744073709551616) : IntKind.u64.wrap (u : Int) = (u : Int) := by
  simp [IntKind.wrap, IntKind.bits, IntKind.signed]; omega
theorem and127 {u : Nat} (h : u < 18446744073709551616) : IntKind.u64.wrap ((BitVec.ofInt IntKind.u64.bits (u : Int) &&& BitVec.ofInt IntKind.u64.bits 127).toNat : Int) = ((u % 128 : Nat) : Int) := by
  rw [BitVec.toNat_and, ofNat64 u h, show (BitVec.ofInt IntKind.u64.bits 127).toNat = 2 ^ 7 - 1 from by decide, Nat.and_two_pow_sub_one_eq_mod]
  exact u64_nat (by omega)
theorem or128 {u : Nat} (h : u < 128) : IntKind.u64.wrap ((BitVec.ofInt IntKind.u64.bits (u : Int) ||| BitVec.ofInt IntKind.u64.bits 128).toNat : Int) = ((u + 128 : Nat) : Int) := by
  rw [BitVec.toNat_or, ofNat64 u (by omega), show (BitVec.ofInt IntKind.u64.bits 128).toNat = 1 <<< 7 from by decide, Nat.or_comm, ← Nat.shiftLeft_add_eq_or_of_lt (by omega)]
  rw [show 1 <<< 7 + u = u + 128 by simp [Nat.shiftLeft_eq]; omega]
  exact u64_nat (by omega)
theorem not64 {u : Nat} (h : u < 18446744073709551616) : IntKind.u64.wrap ((BitVec.ofInt IntKind.u64.bits (IntKind.u64.max) ^^^ BitVec.ofInt IntKind.u64.bits (u : Int)).toNat : Int) = ((18446744073709551615 - u : Nat) : Int) := by
  have e : (BitVec.ofInt 64 (IntKind.u64.max) ^^^ BitVec.ofInt 64 (u : Int)).toNat = 18446744073709551615 - u := by
    have e1 : BitVec.ofInt 64 (IntKind.u64.max) = BitVec.allOnes 64 := by decide
    rw [e1, BitVec.allOnes_xor, BitVec.toNat_not, show (BitVec.ofInt 64 (u : Int)).toNat = u from ofNat64 u h]
  show IntKind.u64.wrap ((BitVec.ofInt 64 (IntKind.u64.max) ^^^ BitVec.ofInt 64 (u : Int)).toNat : Int) = _
  rw [e]
  exact u64_nat (by omega)
theorem zig_u {n : Int} (h : R64 n) : IntKind.u64.wrap (IntKind.u64.wrap n * 2 ^ (min (1 : Int).toNat IntKind.u64.bits)) = ((if n < 0 then 18446744073709551616 + 2 * n else 2 * n : Int)) := by
  have h1 := h.1
  have h2 := h.2
  have e : ((2 : Int) ^ (min (1 : Int).toNat IntKind.u64.bits)) = 2 := by decide
  rw [e]
  simp only [IntKind.wrap, IntKind.bits, IntKind.signed, Bool.false_and, Bool.false_eq_true, if_false]
  split <;> omega
end Go.Proofs.YtghjfficeglmoaaDoor
namespace Go.Proofs.YtghjfficeglmoaaDoor
set_option linter.unusedVariables false
set_option linter.unusedSimpArgs false
open Go.RowKit
set_option maxHeartbeats 4000000
abbrev pU (c : UInt8) : PV := .v (.int .u8 (c.toNat : Int))
abbrev pL (l : Bs) : PV := pS ⟨⟨l⟩⟩
def bR (l : Bs) : List (List PV) := l.map fun c => [pU c]
def bP (l : Bs) : PV := .sl 1 (bR l)
theorem zg (l : Bs) : (bR l).length = l.length := by simp [bR]
theorem bR_app (a b : Bs) : bR (a ++ b) = bR a ++ bR b := by simp [bR]
theorem bR_at {l : Bs} {k : Nat} (h : k < l.length) : (bR l).getD k [] = [pU l[k]] := zY h
theorem byteAt_l {l : Bs} {k : Nat} (hk : k < l.length) : byteAt ⟨⟨l⟩⟩ k = (l[k].toNat : Int) := by
  unfold byteAt
  have : (⟨⟨l⟩⟩ : ByteArray).data.getD k 0 = l[k] := by
    show (⟨l⟩ : Array UInt8).getD k 0 = l[k]
    rw [Array.getD_eq_getD_getElem?]
    simp [hk]
  rw [this]
theorem byteAt_k {l : Bs} {k : Nat} (hk : k < l.length) : byteAt ⟨⟨l⟩⟩ (Int.toNat (k : Int)) = (l[k].toNat : Int) := byteAt_l hk
theorem fin_s {ts : List Tmp} {st : St} {b b' : ByteArray} (h : resS st ts = some (.p (.v (.string b)))) (hb : b = b') : Fin ts (.p (.v (.string b'))) [] .ret st := by
  subst hb; exact ⟨Or.inr rfl, st, _, [], Wk.refl _, h, rfl, rfl, rfl⟩
theorem u8_in {n : Int} (h : 0 ≤ n ∧ n < 256) : IntKind.u8.wrap n = n := by
  simp [IntKind.wrap, IntKind.bits, IntKind.signed]; omega
theorem u64_in {n : Int} (h : 0 ≤ n ∧ n < 18446744073709551616) : IntKind.u64.wrap n = n := by
  simp [IntKind.wrap, IntKind.bits, IntKind.signed]; omega
theorem bytesOf_bR : ∀ b : Bs, zF (bR b) = some b
  | [] => rfl
  | c :: b => by
    have h : byteOf [pU c] = some c := by
      show some (UInt8.ofNat (c.toNat : Int).toNat) = some c
      rw [Int.toNat_natCast, UInt8.ofNat_toNat]
    show zF ([pU c] :: bR b) = _
    rw [zF, h, bytesOf_bR b]
section
variable {P : Program} {T : TT} (hT : qs P T) {st : St} {K : List Nat}
include hT
theorem act_textR {o : Oper} {sT dT e : TypeId} {x : Operand} {j z : Nat} {e0 : TypeId} {b : Bs} {s1 s2 d1 d2 e1 e2 : Nat} {s3 d3 e3 : List Value} {s4 d4 e4 : Bool} (ho : o.op = .convert sT dT x) (hx : evS st x = some (.row j)) (hj : lk j st.own = some (.row e0 z (bR b)))
    (hs : lk sT T = some ⟨s1, s2, .sl e, s3, s4⟩) (hd : lk dT T = some ⟨d1, d2, .str, d3, d4⟩) (he : lk e T = some ⟨e1, e2, .int .u8, e3, e4⟩) (hdst : qX st o.dst = true) {Q : St → Prop} (h : Q (st.put o.dst (.p (pL b)))) : ActOk P [] o st Q := by
  have hE : eConv T [] st sT dT (evS st x) some = some (.p (pL b)) := by
    rw [hx]
    unfold eConv eText
    simp only [lkF_eq, hj, hs, hd, he, bytesOf_bR, fList_eq]
    rfl
  obtain ⟨s, h1, h2⟩ := eConv_ok hT ho hE
  cases h2
  exact je h1 hdst h
end
theorem or128b {c : Nat} (h : c < 256) : IntKind.u8.wrap ((BitVec.ofInt IntKind.u8.bits (c : Int) ||| BitVec.ofInt IntKind.u8.bits 128).toNat : Int) = ((c % 128 + 128 : Nat) : Int) := by
  have e : (BitVec.ofInt 8 (c : Int)).toNat = c := by rw [BitVec.toNat_ofInt]; omega
  show IntKind.u8.wrap ((BitVec.ofInt 8 (c : Int) ||| BitVec.ofInt 8 128).toNat : Int) = _
  rw [BitVec.toNat_or, e, show (BitVec.ofInt 8 128).toNat = 1 <<< 7 from by decide]
  by_cases hc : c < 128
  · rw [Nat.or_comm, ← Nat.shiftLeft_add_eq_or_of_lt (by omega), show 1 <<< 7 + c = c % 128 + 128 by simp [Nat.shiftLeft_eq]; omega]
    exact u8_in (by omega)
  · have h2 : c ||| 1 <<< 7 = c := by
      obtain ⟨d, hd, rfl⟩ : ∃ d, d < 128 ∧ c = 1 <<< 7 + d := ⟨c - 128, by omega, by simp [Nat.shiftLeft_eq]; omega⟩
      rw [Nat.shiftLeft_add_eq_or_of_lt (by omega)]
      rw [Nat.or_assoc, Nat.or_comm d, ← Nat.or_assoc, Nat.or_self]
    rw [h2, show c % 128 + 128 = c by omega]
    exact u8_in (by omega)
theorem shr_7 (x : Nat) : (x : Int).fdiv (2 ^ (min (7 : Int).toNat IntKind.u64.bits)) = ((x / 128 : Nat) : Int) := by
  rw [show ((2 : Int) ^ (min (7 : Int).toNat IntKind.u64.bits)) = 128 from by decide, Int.fdiv_eq_ediv_of_nonneg _ (by omega)]
  omega
theorem not_u64s {u : Nat} (h : u < 18446744073709551616) : IntKind.u64.wrap ((BitVec.ofInt IntKind.u64.bits (if IntKind.u64.signed = true then -1 else IntKind.u64.max) ^^^ BitVec.ofInt IntKind.u64.bits (u : Int)).toNat : Int) = ((18446744073709551615 - u : Nat) : Int) := not64 h
theorem swt_wk {P : Program} {ops l : List Oper} {Q : St → Prop} {st st' : St} (h : Wk st st') (h' : SWT P ops l Q st') : SWT P ops l Q st := fun w0 Sx γ a w QQ hI hQ => by
  obtain ⟨γ', hI'⟩ := h w0 Sx γ a w hI
  exact h' w0 Sx γ' a w QQ hI' hQ
theorem SWT.mono {P : Program} {ops l : List Oper} {Q Q' : St → Prop} {st : St} (h : SWT P ops l Q' st) (hm : ∀ s, Q' s → Q s) : SWT P ops l Q st := fun w0 Sx γ a w QQ hI hQ =>
  h w0 Sx γ a w QQ hI fun st' γ' a' w' hI' hq => hQ st' γ' a' w' hI' (hm st' hq)
end Go.Proofs.YtghjfficeglmoaaDoor
namespace Go.Proofs.YtghjfficeglmoaaDoor
set_option linter.unusedVariables false
set_option linter.unusedSimpArgs false
def putV (v : Val) : Bs := putN v.kind ++ (if v.kind = 3 ∨ v.kind = 5 then putN (v.s.size : Int) ++ v.s.data.toList else putN v.n)
theorem right_kind {v : Val} (h : v.right = true) : 1 ≤ v.kind ∧ v.kind ≤ 5 := by
  unfold Val.right at h
  repeat' split at h
  all_goals first | omega | cases h
end Go.Proofs.YtghjfficeglmoaaDoor
namespace Go.Proofs.YtghjfficeglmoaaDoor
set_option linter.unusedVariables false
set_option linter.unusedSimpArgs false
open Go.RowKit
set_option maxHeartbeats 4000000
end Go.Proofs.YtghjfficeglmoaaDoor
namespace Go.Proofs.YtghjfficeglmoaaDoor
set_option linter.unusedVariables false
set_option linter.unusedSimpArgs false
open Go.RowKit
set_option maxHeartbeats 4000000
section
variable {P : Program} {T : TT} {st : St}
theorem act_grow {o : Oper} {d : Nat} (hdst : o.dst = some d) {j z : Nat} {e : TypeId} {l l2 : List (List PV)} (hj : lk j st.own = some (.row e z l)) (hd : lk d (killO j st.own) = none) (hn : Nat.blt d st.n = true) (hr : l.length + l2.length ≤ reachBytes) (g3 : ∀ x ∈ l2, x.length = z ∧ ∀ s ∈ x, oneP s = true)
    (hR : ∀ (w0 : Base) (Sx : Nat → Prop) (γ : Nat → Value) (a : Act) (w : World), Sim w0 Sx γ st a w → RowO rPV z (ja Sx γ st.own j) w 0 e (γ j) l → ja Sx γ st.own j w.heap.size →
      ∃ v' w', (execOp a.eval o).run P w = .ok (.value v') w' ∧ RowO rPV z (ja Sx γ st.own j) w' 0 e v' (l ++ l2) ∧ w.grownBy w' (γ j).ownBlock ∧ (v'.ownBlock = (γ j).ownBlock ∨ v'.ownBlock = some w.heap.size))
    {Q : St → Prop} (h : Q ⟨st.n, (d, .row d) :: killF j st.fr, (d, .row e z (l ++ l2)) :: killO j st.own⟩) : ActOk P [j] o st Q := by
  intro w0 Sx γ a w QQ hI
  have hlt : d < st.n := by simpa [Nat.blt, Nat.lt_iff_add_one_le] using hn
  cases hI.heap.box j _ hj with
  | row hrow hel hml hkj =>
  obtain ⟨v', w', hrun, k1, k2, k3⟩ := hR w0 Sx γ a w hI hrow ⟨fun hs => by have := hI.heap.sx.lt _ (hI.heap.sx.sub _ hs); omega, fun i bx hi _ hb => by have := (hI.heap.blk hi hb).2; omega⟩
  have hoj : (γ j).ownBlock = qq (γ j) := by obtain ⟨A', c', hv', _⟩ := hrow.shape; rw [hv', qD]
  have hov : v'.ownBlock = qq v' := by obtain ⟨A', c', hv', _⟩ := k1.shape; rw [hv', qD]
  have hvb : ∀ b, qq v' = some b → qq (γ j) = some b ∨ b = w.heap.size := fun b hb => by
    rw [← hov] at hb
    rcases k3 with k | k
    · rw [hb, hoj] at k; exact Or.inl k.symm
    · rw [hb] at k; cases k; exact Or.inr rfl
  generalize hown' : ((d, Box.row e z (l ++ l2)) :: killO j st.own) = own' at *
  have lk' : ∀ i, lk i own' = if i = d then some (.row e z (l ++ l2)) else if i = j then none else (lk i st.own).map (klB j) := fun i => by
    rw [← hown', qj, lk_killO]
  have old : ∀ {i bx}, lk i own' = some bx → i ≠ d → i ≠ j ∧ ∃ by_, lk i st.own = some by_ ∧ bx = klB j by_ := fun {i bx} hi hid => by
    rw [lk', if_neg hid] at hi
    by_cases e : i = j
    · rw [if_pos e] at hi; cases hi
    · rw [if_neg e] at hi
      cases h2 : lk i st.own with
      | none => rw [h2] at hi; cases hi
      | some by_ => rw [h2] at hi; cases hi; exact ⟨e, by_, rfl, rfl⟩
  have hud : upd γ d v' d = v' := if_pos rfl
  have huo : ∀ i, i ≠ d → upd γ d v' i = γ i := fun i hi => if_neg hi
  have same : ∀ b, b < w.heap.size → qq (γ j) ≠ some b → w'.heap[b]? = w.heap[b]? := fun b hb hne => k2.block b hb (by rw [hoj]; exact fun e => hne e.symm)
  have okn : ∀ b, b < w.heap.size → okO Sx γ st.own b → okO Sx (upd γ d v') own' b := fun b hb hok => ⟨hok.1, fun i bx hi hib => by
    by_cases e : i = d
    · subst e
      rw [hud] at hib
      rcases hvb b hib with h | h
      · exact hok.2 j _ hj h
      · omega
    · obtain ⟨_, by_, h2, _⟩ := old hi e
      rw [huo i e] at hib
      exact hok.2 i by_ h2 hib⟩
  have keepS : ∀ {s : SV} {u : Value}, RelS (okO Sx γ st.own) (hp γ st.own) w s u → RelS (okO Sx (upd γ d v') own') (hp (upd γ d v') own') w' (kl j s) u := fun {s u} h => by
    have h1 := h.kl j
    refine h1.keep2 k2.size (fun b hb hok => ⟨same b hb fun e => hok.2 j _ hj e, okn b hb hok⟩) fun i hi => ?_
    have hij : i ≠ j := fun e => by subst e; rw [noRef_kl] at hi; cases hi
    have hs := noRef_kl_other hi
    have hlive : (lk i st.own).isSome = true := by
      cases h2 : lk i st.own with
      | some _ => rfl
      | none => rw [h.live (zf h2)] at hs; cases hs.1
    obtain ⟨by_, h2⟩ := Option.isSome_iff_exists.1 hlive
    have hid : i ≠ d := fun e => by
      subst e
      rw [lk_killO, if_neg hij, h2] at hd; cases hd
    rw [qp h2, qp (bx := klB j by_) (by rw [lk', if_neg hid, if_neg hij, h2]; rfl), huo i hid]
  have hbel : BelowB w0 w' := hI.below.step ⟨k2.os, k2.tape, k2.output, k2.size, fun b hb => absurd hb (Nat.not_lt_zero _)⟩ fun b hb => same b (hI.heap.sx.lt b hb) fun e => hkj b e hb
  have hdl : d < 1000000 := by have := hI.size.2; omega
  have hst : Stays w0 Sx (upd γ d v') own' w' := hI.heap.sx.keep k2.size fun i bx hi => by
    by_cases e : i = d
    · exact Or.inl (by omega)
    · obtain ⟨_, by_, h2, _⟩ := old hi e
      exact Or.inr ⟨huo i e, by rw [h2]; rfl⟩
  have hheap : HeapOk w0 Sx (upd γ d v') own' w' := by
    refine ⟨fun i bx hi => ?_, fun i k bi bk b hi hk hbi hbk => ?_, hst⟩
    · by_cases e : i = d
      · subst e
        rw [lk', if_pos rfl] at hi
        cases hi
        refine .row ?_ (fun x hx => ?_) (by rw [List.length_append]; exact hr) (fun b hb hk => by rw [hud] at hb; rcases hvb b hb with h | h; exact hkj b h hk; have := hI.heap.sx.lt _ hk; omega)
        · rw [hud]
          refine k1.keep2 good_PV (Nat.le_refl _) (fun _ _ => rfl) fun b _ hok _ => ⟨rfl, hok.1, fun k bx hk hkd hkb => ?_⟩
          obtain ⟨hkj, by_, h2, _⟩ := old hk hkd
          rw [huo k hkd] at hkb
          exact hok.2 k by_ h2 hkj hkb
        · rcases List.mem_append.1 hx with hx | hx
          · exact hel x hx
          · exact g3 x hx
      · obtain ⟨hij, by_, h2, rfl⟩ := old hi e
        cases hI.heap.box i by_ h2 with
        | @row e' esz' l' hr' he' hm' hk' =>
          show BoxOk _ _ _ _ _ _ (.row e' esz' l')
          refine .row ?_ he' hm' (by rw [huo i e]; exact hk')
          rw [huo i e]
          have hoi : (γ i).ownBlock = qq (γ i) := by obtain ⟨A', c', hv', _⟩ := hr'.shape; rw [hv', qD]
          refine hr'.keep2 good_PV k2.size (fun b hb => same b ?_ fun ej => hij ?_) fun b hb hok hne => ⟨same b hb (hok.2 j _ hj (Ne.symm hij)), hok.1, fun k bk hk hki hkb => ?_⟩
          · rw [hoi] at hb; exact (hI.heap.blk h2 hb).2
          · rw [hoi] at hb; exact hI.heap.inj i j _ _ b h2 hj hb ej
          · by_cases ek : k = d
            · subst ek
              rw [hud] at hkb
              rcases hvb b hkb with h | h
              · exact hok.2 j _ hj (Ne.symm hij) h
              · omega
            · obtain ⟨_, b2, h3, _⟩ := old hk ek
              rw [huo k ek] at hkb
              exact hok.2 k b2 h3 hki hkb
        | @cells cs2 us2 ty2 b2 hg2 hB2 hh2 hl2 hr2 hone2 =>
          show BoxOk _ _ _ _ _ _ (.cells (cs2.map (kl j)))
          have hb2 : qq (γ i) = some b2 := by rw [hg2]; rfl
          refine .cells (by rw [huo i e]; exact hg2) hB2 (by rw [same b2 (lt_of_block hh2) fun ej => hij (hI.heap.inj i j _ _ b2 h2 hj hb2 ej)]; exact hh2) (by rw [List.length_map]; exact hl2) (fun k s u hs hu => ?_) hone2
          rw [List.getElem?_map] at hs
          cases h3 : cs2[k]? with
          | none => rw [h3] at hs; cases hs
          | some s0 => rw [h3] at hs; cases hs; exact keepS (hr2 k s0 u h3 hu)
        | @mp es ens clock b2 hg2 hB2 hh2 hl2 hr2 =>
          show BoxOk _ _ _ _ _ _ (.mp es)
          have hb2 : qq (γ i) = some b2 := by rw [hg2]; rfl
          exact .mp (by rw [huo i e]; exact hg2) hB2 (by rw [same b2 (lt_of_block hh2) fun ej => hij (hI.heap.inj i j _ _ b2 h2 hj hb2 ej)]; exact hh2) hl2 fun k x en hs hu => ⟨(hr2 k x en hs hu).1, (hr2 k x en hs hu).2.keep2 k2.size fun b hb hok => ⟨same b hb fun ej => hok.2 j _ hj ej, okn b hb hok⟩⟩
    · have blt : ∀ {m bm}, lk m own' = some bm → m ≠ d → qq (upd γ d v' m) = some b → m ≠ j ∧ b < w.heap.size ∧ ∃ b0, lk m st.own = some b0 ∧ qq (γ m) = some b := fun {m bm} hm hmd hmb => by
        obtain ⟨h1, by_, h2, _⟩ := old hm hmd
        rw [huo m hmd] at hmb
        exact ⟨h1, (hI.heap.blk h2 hmb).2, by_, h2, hmb⟩
      by_cases e : i = d
      · by_cases e2 : k = d
        · rw [e, e2]
        · exfalso
          obtain ⟨q1, q2, b0, q3, q4⟩ := blt hk e2 hbk
          subst e
          rw [hud] at hbi
          rcases hvb b hbi with h | h
          · exact q1 (hI.heap.inj k j _ _ b q3 hj q4 h)
          · omega
      · obtain ⟨p1, p2, c0, p3, p4⟩ := blt hi e hbi
        by_cases e2 : k = d
        · exfalso
          subst e2
          rw [hud] at hbk
          rcases hvb b hbk with h | h
          · exact p1 (hI.heap.inj i j _ _ b p3 hj p4 h)
          · omega
        · obtain ⟨q1, q2, b0, q3, q4⟩ := blt hk e2 hbk
          exact hI.heap.inj i k _ _ b p3 q3 p4 q4
  have hS : Sim w0 Sx (upd γ d v') ⟨st.n, killF j st.fr, own'⟩ a w' := ⟨hbel, hI.size, hI.defers, fun t s ht => by
    have ht' : (lk t st.fr).map (kl j) = some s := by rw [← lk_killF]; exact ht
    cases h2 : lk t st.fr with
    | none => rw [h2] at ht'; cases ht'
    | some s0 => rw [h2] at ht'; cases ht'; exact keepS (hI.fr t s0 h2), hheap⟩
  have hS2 := hS.put (dst := some d) (s := .row d) (v := v') (by simpa [qX, Nat.blt, Nat.lt_iff_add_one_le] using hlt) (.row (by rw [qp (bx := .row e z (l ++ l2)) (by rw [lk', if_pos rfl]), hud]))
  unfold Oper.wp
  rw [hrun, Oper.upon_value, hdst]
  refine ⟨_, _, h, hS2, ⟨k2.size, fun b hb hv => same b hb fun ej => hv j _ hj (by simp) ej⟩, fun K hK b hb hv i bx hi hiK hib => ?_⟩
  by_cases e : i = d
  · subst e
    rw [hud] at hib
    rcases hvb b hib with h | h
    · exact hv j _ hj (by have := hK j (by simp); simpa using this) h
    · omega
  · obtain ⟨_, by_, h2, _⟩ := old hi e
    rw [huo i e] at hib
    exact hv i by_ h2 hiK hib
end
theorem rPV_byte {ok : Nat → Prop} {w : World} (c : UInt8) : rPV ok w [.int .u8 (c.toNat : Int)] [pU c] := ⟨rfl, fun j s u a b => by
  cases j with
  | zero => simp at a b; subst a; subst b; exact .v rfl
  | succ j => simp at a⟩
theorem run_append_rowS {P : Program} {ok : Nat → Prop} {w : World} (t u ty e : TypeId) (i : TypeInfo) (ht : P.underlying t = some (.slice e)) (hu : P.underlying u = some .string) (hi : P.info? e = some i) (hz : i.zero = some (.int .u8 0)) (hsize : i.size = 1) (hby : i.bytes = 1)
    (v : Value) (l : List (List PV)) (hown : RowO rPV 1 ok w 0 e v l) (s : Bs) (h63 : l.length + s.length ≤ 1000000000) (hokn : ok w.heap.size) :
    ∃ v' w', (Builtin.append_ #[t, u] ty #[v, .string ⟨⟨s⟩⟩]).run P w = .ok v' w' ∧ RowO rPV 1 ok w' 0 e v' (l ++ bR s) ∧ w.grownBy w' v.ownBlock ∧ (v'.ownBlock = v.ownBlock ∨ v'.ownBlock = some w.heap.size) := by
  obtain ⟨css, h1, h2, h3⟩ := hown
  have ls : (⟨⟨s⟩⟩ : ByteArray).size = s.length := rfl
  obtain ⟨v', w', hrun, g1, g2, g4⟩ := Lib.run_append_own_string (P := P) w 0 t u ty e i ht hu hi hz hsize hby v _ _ h1 ⟨⟨s⟩⟩ (by rw [ls]; unfold maxLen; omega) (by rw [ls]; omega) (Nat.zero_le _)
  have g5 : v'.ownBlock = v.ownBlock ∨ v'.ownBlock = some w.heap.size := by
    rcases h1.2 with ⟨rfl, h0⟩ | ⟨g, cap, cur, rfl, _, hg, hnc, hcm, hcs, _⟩
    · by_cases hm : s.length = 0
      · rw [g4.2 ⟨rfl, hm⟩]; exact .inl rfl
      · have hr := run_append_nil_string (P := P) w t u ty e i (.int .u8 0) ht hu hi hz ⟨⟨s⟩⟩ (by rw [ls]; omega) (by rw [ls]; omega) (by rw [hby, ls]; omega)
        have := hrun.symm.trans hr
        simp only [Result.ok.injEq] at this
        rw [this.1]; exact .inr rfl
    · by_cases hroom : css.length + s.length ≤ cap
      · have hr := Lib.run_append_room_string (P := P) w t u ty e i ht hu hi hsize g css.length cap cur hg ⟨⟨s⟩⟩ hroom (by rw [ls]; omega)
        have := hrun.symm.trans hr
        simp only [Result.ok.injEq] at this
        rw [this.1]; exact .inl rfl
      · have hr := Lib.run_append_grow_string (P := P) w t u ty e i (.int .u8 0) ht hu hi hz ⟨g, 0, none⟩ css.length cap (css.flatMap Subtype.val) (by rw [hsize]; exact h1.1) (h1.cells (g := g) rfl) ⟨⟨s⟩⟩ (by rw [ls]; omega) (by rw [ls]; omega) (by rw [hby]; exact growslice_fits (by rw [ls]; omega) (by omega))
        have := hrun.symm.trans hr
        simp only [Result.ok.injEq] at this
        rw [this.1]; exact .inr rfl
  obtain ⟨css2, hcss2⟩ : ∃ css2 : List (Cel 1), css2 = s.map fun c => ⟨[.int .u8 (c.toNat : Int)], rfl, fun u hu => by rw [List.mem_singleton.1 hu]; rfl⟩ := ⟨_, rfl⟩
  have hl2 : css2.length = s.length := by rw [hcss2, List.length_map]
  have hget : ∀ k (hk : k < css2.length) (hs : k < s.length), css2[k].val = [.int .u8 (s[k].toNat : Int)] := fun k hk hs => by subst hcss2; simp
  have hfl : css2.flatMap Subtype.val = Lib.strCells ⟨⟨s⟩⟩ := by
    rw [hcss2]
    show _ = s.map _
    rw [List.flatMap_map]
    clear hrun g1 g4 hl2 hget hcss2 h63 ls
    induction s with
    | nil => rfl
    | cons c s ih => rw [List.flatMap_cons, ih]; rfl
  have hlt : ∀ b, b < w.heap.size → okR ok v b → okR ok v b ∧ okR ok v' b := fun b hb hk => ⟨hk, hk.1, by
    rcases g5 with g | g
    · rw [g]; exact hk.2
    · rw [g]; intro he; simp only [Option.some.injEq] at he; omega⟩
  have hsame : SameOn (fun b => okR ok v b ∧ okR ok v' b) w w' := ⟨g2.size, fun b hb hk => g2.block b hb hk.1.2⟩
  have fin : ∀ cs x, rPV (okR ok v) w cs x → rPV (okR ok v') w' cs x := fun cs x hx => good_PV.weak _ _ _ _ _ (fun _ _ h => h.2) (good_PV.keep _ _ _ _ _ hsame (good_PV.weak _ _ _ _ _ hlt hx))
  refine ⟨v', w', hrun, ⟨css ++ css2, ?_, by rw [List.length_append, List.length_append, h2, hl2, zg], fun j a1 a2 => ?_⟩, g2, g5⟩
  · unfold OwnF
    rw [List.length_append, List.flatMap_append, hl2, hfl]
    exact g1
  · by_cases hj : j < css.length
    · rw [List.getElem_append_left hj, List.getElem_append_left (by omega)]
      exact fin _ _ (h3 j hj (by omega))
    · have hj2 : j - css.length < s.length := by rw [List.length_append] at a1; omega
      rw [List.getElem_append_right (by omega), List.getElem_append_right (by omega), hget _ _ hj2]
      have : (bR s)[j - l.length]'(by rw [zg, ← h2]; exact hj2) = [pU s[j - css.length]] := by simp [bR, h2]
      rw [this]
      exact rPV_byte _
section
variable {P : Program} {T : TT} (hT : qs P T) {st : St}
include hT
theorem act_append_str {o : Oper} {sx xx : Operand} {t u e : TypeId} {cl : Call} (ho : o.op = .call cl) (hcl : cl.callee = .builtin .append) (hargs : cl.args.toList = [sx, xx]) (hts : cl.argTypes.toList = [t, u]) {d : Nat} (hdst : o.dst = some d)
    {ti ui : TyI} (ht : lk t T = some ti) (hte : ti.d = .sl e) (hu : lk u T = some ui) (hue : ui.d = .str) (hz : (P.info? e).map (fun i => (i.zero, i.size, i.bytes)) = some (some (.int .u8 0), 1, 1)) {j : Nat} (hs : evS st sx = some (.row j)) {l : List (List PV)} (hj : lk j st.own = some (.row e 1 l))
    {s : Bs} (hx : evS st xx = some (.p (pL s))) (hd : lk d (killO j st.own) = none) (hn : Nat.blt d st.n = true) (hr : l.length + s.length ≤ 1000000)
    {Q : St → Prop} (h : Q ⟨st.n, (d, .row d) :: killF j st.fr, (d, .row e 1 (l ++ bR s)) :: killO j st.own⟩) : ActOk P [j] o st Q := by
  refine act_grow hdst hj hd hn (by rw [zg]; unfold reachBytes; omega) (fun x hx => ?_) (fun w0 Sx γ a w hI hrow hok => ?_) h
  · obtain ⟨c, _, rfl⟩ := List.mem_map.1 hx
    exact ⟨rfl, fun s hs => by rw [List.mem_singleton.1 hs]; rfl⟩
  · obtain ⟨info, hinf, hzi⟩ := Option.map_eq_some_iff.1 hz
    simp only [Prod.mk.injEq] at hzi
    obtain ⟨hzv, hsize, hbys⟩ := hzi
    have hut := (hT t ti ht).und
    rw [hte] at hut
    have huu := (hT u ui hu).und
    rw [hue] at huu
    have hsv : a.eval sx = γ j := by
      have := qg hI hs
      generalize a.eval sx = u at this ⊢
      cases this with
      | row hg => rw [qp hj] at hg; cases hg; rfl
    have hxv := (qg hI hx).v_inv
    have hargs' : cl.args = #[sx, xx] := by rw [← Array.toArray_toList (xs := cl.args), hargs]
    have hts' : cl.argTypes = #[t, u] := by rw [← Array.toArray_toList (xs := cl.argTypes), hts]
    obtain ⟨v', w', hrun, g1, g2, g3⟩ := run_append_rowS (P := P) t u o.type e info hut huu hinf hzv hsize hbys (γ j) l hrow s (by omega) hok
    refine ⟨v', w', ?_, g1, g2, g3⟩
    simp only [execOp, ho, resolve, hcl, hargs', hts', Sem.run_bind, Sem.run_pure, Result.andThen_ok, invoke, builtin, List.map_toArray, List.map_cons, List.map_nil, hsv, hxv, hrun]
end
end Go.Proofs.YtghjfficeglmoaaDoor
namespace Go.Proofs.YtghjfficeglmoaaDoor
set_option linter.unusedVariables false
set_option linter.unusedSimpArgs false
open Go.RowKit
set_option maxHeartbeats 4000000
abbrev rowB (i : Nat) (l : Bs) : List (Nat × Box) := [(i, .row 5 1 (bR l))]
theorem cloneB_h (l : Bs) (hn : l.length ≤ 1000000) : Holds Tryd.prog 45 [bP l] (.row 0) (rowB 0 l) := by
  refine qw (ts := [2]) Tryd.func45 (by kernel_rfl) rfl rfl rfl ?_
  (repeat refine qb ?_); refine qa ?_
  repeat (first | refine zR ?_ | refine zK ?_ | refine zM ?_ | refine zB ?_ | refine zA ?_ | refine zS ?_ | refine zL ?_)
  refine qc ?_
  (repeat refine qb ?_); refine qa ?_
  repeat (first | refine zR ?_ | refine zK ?_ | refine zM ?_ | refine zB ?_ | refine zA ?_ | refine zS ?_ | refine zL ?_)
  refine qf rfl (act_nilcmp ql rfl rfl rfl rfl rfl rfl (fun b hb => ?_))
  refine qc ?_
  (repeat refine qb ?_); refine qh rfl (fun hc => ?_) (fun hc => ?_)
  · have hl := hb hc
    have hl' : l = [] := by simpa [bR] using hl
    subst hl'
    (repeat refine qb ?_); refine qa ?_
    repeat (first | refine zR ?_ | refine zK ?_ | refine zM ?_ | refine zB ?_ | refine zA ?_ | refine zS ?_ | refine zL ?_)
    refine qc ?_
    (repeat refine qb ?_); refine qk ?_
    exact ⟨Or.inr rfl, _, _, [(0, 0)], wk_nil 2 0 5 1 rfl rfl, rfl, rfl, rfl, rfl⟩
  · refine qu ?_
    (repeat refine qb ?_); refine qa ?_
    repeat (first | refine zR ?_ | refine zK ?_ | refine zM ?_ | refine zB ?_ | refine zA ?_ | refine zS ?_ | refine zL ?_)
    refine qf rfl (zp ql rfl rfl rfl rfl rfl rfl rfl rfl rfl rfl rfl rfl rfl rfl rfl rfl (by simp [reachBytes, zg]; omega) (by simp [zg]; omega) ?_)
    repeat (first | refine zR ?_ | refine zK ?_ | refine zM ?_ | refine zB ?_ | refine zA ?_ | refine zS ?_ | refine zL ?_)
    refine qc ?_
    (repeat refine qb ?_); refine qk ?_
    exact ⟨Or.inr rfl, _, _, [(7, 0)], Wk.refl _, rfl, rfl, rfl, rfl⟩
theorem zig_neg {n : Int} (h : n < 0) (hr : R64 n) : (18446744073709551616 + 2 * n : Int) = ((18446744073709551615 - zig n : Nat) : Int) := by
  have := hr.1
  unfold zig
  rw [if_pos h]; omega
theorem zig_pos {n : Int} (h : ¬ n < 0) : (2 * n : Int) = ((zig n : Nat) : Int) := by
  unfold zig
  rw [if_neg h]; omega
def onP (x k u : Nat) (d : Bs) : Prop := d.length = k ∧ k ≤ 9 ∧ u * 128 ^ k < 18446744073709551616 ∧ putU 10 x = d ++ putU (10 - k) u
theorem onP_0 {x : Nat} (h : x < 18446744073709551616) : onP x 0 x [] := ⟨rfl, by omega, by omega, rfl⟩
theorem onP_more {x k u : Nat} {d : Bs} (h : onP x k u d) (hu : 128 ≤ u) : onP x (k + 1) (u / 128) (d ++ [UInt8.ofNat (u % 128 + 128)]) := by
  obtain ⟨h1, h2, h3, h4⟩ := h
  have hk : k < 9 := by
    rcases Nat.lt_or_ge k 9 with hk | hk
    · exact hk
    · have : k = 9 := by omega
      subst this
      have e : (128 : Nat) ^ 9 = 9223372036854775808 := by decide
      rw [e] at h3; omega
  refine ⟨by simp [h1], by omega, ?_, ?_⟩
  · have e : u / 128 * 128 ^ (k + 1) = (u / 128 * 128) * 128 ^ k := by rw [Nat.pow_succ, Nat.mul_comm (128 ^ k) 128, ← Nat.mul_assoc]
    rw [e]
    exact Nat.lt_of_le_of_lt (Nat.mul_le_mul_right _ (Nat.div_mul_le_self u 128)) h3
  · rw [h4, show 10 - k = (10 - (k + 1)) + 1 by omega, putU, if_neg (by omega)]; simp
theorem onP_last {x k u : Nat} {d : Bs} (h : onP x k u d) (hu : u < 128) : putU 10 x = d ++ [UInt8.ofNat u] := by
  obtain ⟨h1, h2, h3, h4⟩ := h
  rw [h4, show 10 - k = (9 - k) + 1 by omega, putU, if_pos hu]
theorem onP_u {x k u : Nat} {d : Bs} (h : onP x k u d) : u < 18446744073709551616 := by
  obtain ⟨h1, h2, h3, h4⟩ := h
  exact Nat.lt_of_le_of_lt (Nat.le_mul_of_pos_right u (Nat.pow_pos (by omega))) h3
theorem u8_of {x : Nat} (h : x < 256) : ((x : Nat) : Int) = ((UInt8.ofNat x).toNat : Int) := by
  rw [UInt8.toNat_ofNat']; omega
theorem bR_snoc (b d : Bs) (c : UInt8) : bR (b ++ (d ++ [c])) = bR (b ++ d) ++ [[pU c]] := by rw [← List.append_assoc, bR_app (b ++ d)]; rfl
theorem pnum_h (b : Bs) (hb : b.length ≤ 1000) (n : Int) (hn : R64 n) : Holds Tryd.prog 33 [bP b, pI n] (.row 0) (rowB 0 (b ++ putN n)) := by
  have HC := cloneB_h b (by omega)
  have hz := zig_lt hn
  obtain ⟨x, hx⟩ : ∃ x, x = zig n := ⟨_, rfl⟩
  have eP : putN n = putU 10 x := by rw [hx]; rfl
  rw [eP]
  refine qw (ts := [4]) Tryd.func33 (by kernel_rfl) rfl rfl rfl ?_
  (repeat refine qb ?_); refine qa ?_
  repeat (first | refine zR ?_ | refine zK ?_ | refine zM ?_ | refine zB ?_ | refine zA ?_ | refine zS ?_ | refine zL ?_)
  refine qc ?_
  (repeat refine qb ?_); refine qa ?_
  repeat (first | refine zR ?_ | refine zK ?_ | refine zM ?_ | refine zB ?_ | refine zA ?_ | refine zS ?_ | refine zL ?_)
  refine zk ql rfl rfl (by omega) rfl ?_
  rw [zig_u hn]
  repeat (first | refine zR ?_ | refine zK ?_ | refine zM ?_ | refine zB ?_ | refine zA ?_ | refine zS ?_ | refine zL ?_)
  refine qc ?_
  (repeat refine qb ?_); refine qa ?_
  repeat (first | refine zR ?_ | refine zK ?_ | refine zM ?_ | refine zB ?_ | refine zA ?_ | refine zS ?_ | refine zL ?_)
  refine qc ?_
  (repeat refine qb ?_)
  refine SW.mono (Q := fun e s => e = .normal ∧ Wk s ⟨32, [(0, .p (bP b)), (5, .p (.v (.int .u64 (x : Int))))], []⟩) ?_ ?_
  · (repeat refine qb ?_); refine qh rfl (fun hc => ?_) (fun hc => ?_)
    · have hneg : n < 0 := of_decide_eq_true hc
      rw [if_pos hneg, zig_neg hneg hn]
      (repeat refine qb ?_); refine qa ?_
      repeat (first | refine zR ?_ | refine zK ?_ | refine zM ?_ | refine zB ?_ | refine zA ?_ | refine zS ?_ | refine zL ?_)
      rw [not_u64s (by omega), show 18446744073709551615 - (18446744073709551615 - zig n) = x by omega]
      repeat (first | refine zR ?_ | refine zK ?_ | refine zM ?_ | refine zB ?_ | refine zA ?_ | refine zS ?_ | refine zL ?_)
      refine qc ?_
      exact ⟨rfl, qy [0, 5] [] rfl rfl⟩
    · have hneg : ¬ n < 0 := of_decide_eq_false hc
      rw [if_neg hneg, zig_pos hneg, ← hx]
      refine qu ?_
      exact ⟨rfl, qy [0, 5] [] rfl rfl⟩
  rintro e s ⟨rfl, hw⟩
  refine SW.wk hw ?_
  (repeat refine qb ?_); refine qa ?_
  repeat (first | refine zR ?_ | refine zK ?_ | refine zM ?_ | refine zB ?_ | refine zA ?_ | refine zS ?_ | refine zL ?_)
  refine qf rfl (qT rfl rfl rfl rfl (HC) rfl rfl rfl ?_)
  repeat (first | refine zR ?_ | refine zK ?_ | refine zM ?_ | refine zB ?_ | refine zA ?_ | refine zS ?_ | refine zL ?_)
  repeat (first | refine zR ?_ | refine zK ?_ | refine zM ?_ | refine zB ?_ | refine zA ?_ | refine zS ?_ | refine zL ?_)
  refine qc ?_
  (repeat refine qb ?_); refine qS ?_
  refine SW.wk (qy [5, 6] [(16000, 0)] rfl rfl) ?_
  refine zV (fun m s => ∃ (k u : Nat) (uu : Int) (d : Bs), m = 10 - k ∧ uu = u ∧ onP x k u d ∧ s = ⟨32, [(5, .p (.v (.int .u64 uu))), (6, .row 0)], rowB 0 (b ++ d)⟩) 10 ⟨0, x, x, [], rfl, rfl, onP_0 (by omega), by rw [List.append_nil]; rfl⟩ ?_
  rintro m s ⟨k, u, _, d, rfl, rfl, hO, rfl⟩
  have hd := hO.1
  have hk9 := hO.2.1
  have hu := onP_u hO
  (repeat refine qb ?_); refine qa ?_
  repeat (first | refine zR ?_ | refine zK ?_ | refine zM ?_ | refine zB ?_ | refine zA ?_ | refine zS ?_ | refine zL ?_)
  refine qc ?_
  by_cases h7 : 128 ≤ u
  · rw [show decide ((u : Int) ≥ 128) = true by simp; omega]
    (repeat refine qb ?_); refine qh rfl (fun hq => ?_) (fun hq => ?_)
    rotate_left
    · cases hq
    refine qu ?_
    (repeat refine qb ?_); refine qS ?_
    (repeat refine qb ?_); refine qa ?_
    repeat (first | refine zR ?_ | refine zK ?_ | refine zM ?_ | refine zB ?_ | refine zA ?_ | refine zS ?_ | refine zL ?_)
    rw [and127 hu, or128 (Nat.mod_lt _ (by omega)), u8_in (by omega), u8_of (show u % 128 + 128 < 256 by omega)]
    repeat (first | refine zR ?_ | refine zK ?_ | refine zM ?_ | refine zB ?_ | refine zA ?_ | refine zS ?_ | refine zL ?_)
    refine qf rfl (zp ql rfl rfl rfl rfl rfl rfl rfl rfl rfl rfl rfl rfl rfl rfl rfl rfl (by simp only [zg, List.length_append, List.length_cons, List.length_nil]; unfold reachBytes; omega) (by simp only [zg, List.length_append, List.length_cons, List.length_nil]; omega) ?_)
    repeat (first | refine zR ?_ | refine zK ?_ | refine zM ?_ | refine zB ?_ | refine zA ?_ | refine zS ?_ | refine zL ?_)
    refine qc ?_
    (repeat refine qb ?_); refine qa ?_
    repeat (first | refine zR ?_ | refine zK ?_ | refine zM ?_ | refine zB ?_ | refine zA ?_ | refine zS ?_ | refine zL ?_)
    refine zk ql rfl rfl (by omega) rfl ?_
    rw [shr_7]
    repeat (first | refine zR ?_ | refine zK ?_ | refine zM ?_ | refine zB ?_ | refine zA ?_ | refine zS ?_ | refine zL ?_)
    refine qc ?_
    refine ⟨_, _, ?_, qy [5, 6] [(26, 0)] rfl rfl, k + 1, u / 128, _, d ++ [UInt8.ofNat (u % 128 + 128)], rfl, rfl, onP_more hO h7, ?_⟩
    rotate_left
    · have e := bR_snoc b d (UInt8.ofNat (u % 128 + 128))
      unfold rowB
      rw [e]; rfl
    omega
  · rw [show decide ((u : Int) ≥ 128) = false by simp; omega]
    (repeat refine qb ?_); refine qh rfl (fun hq => ?_) (fun hq => ?_)
    · cases hq
    refine zX ?_
    have hL := onP_last hO (by omega)
    (repeat refine qb ?_); refine qa ?_
    repeat (first | refine zR ?_ | refine zK ?_ | refine zM ?_ | refine zB ?_ | refine zA ?_ | refine zS ?_ | refine zL ?_)
    rw [u8_in (by omega), u8_of (show u < 256 by omega)]
    repeat (first | refine zR ?_ | refine zK ?_ | refine zM ?_ | refine zB ?_ | refine zA ?_ | refine zS ?_ | refine zL ?_)
    refine qf rfl (zp ql rfl rfl rfl rfl rfl rfl rfl rfl rfl rfl rfl rfl rfl rfl rfl rfl (by simp only [zg, List.length_append, List.length_cons, List.length_nil]; unfold reachBytes; omega) (by simp only [zg, List.length_append, List.length_cons, List.length_nil]; omega) ?_)
    repeat (first | refine zR ?_ | refine zK ?_ | refine zM ?_ | refine zB ?_ | refine zA ?_ | refine zS ?_ | refine zL ?_)
    refine qc ?_
    (repeat refine qb ?_); refine qk ?_
    unfold rowB
    rw [hL, bR_snoc]
    exact ⟨Or.inr rfl, _, _, [(31, 0)], Wk.refl _, rfl, rfl, rfl, rfl⟩
theorem jg (n : Int) : (putN n).length ≤ 10 := putU_len 10 _
theorem ptext_h (b : Bs) (hb : b.length ≤ 1000) (l : Bs) (hl : l.length ≤ 100000) : Holds Tryd.prog 34 [bP b, pL l] (.row 0) (rowB 0 (b ++ putN (l.length : Int) ++ l)) := by
  have HN := pnum_h b hb (l.length : Int) ⟨by omega, by omega⟩
  have hp := jg (l.length : Int)
  refine qw (ts := [4]) Tryd.func34 (by kernel_rfl) rfl rfl rfl ?_
  (repeat refine qb ?_); refine qa ?_
  repeat (first | refine zR ?_ | refine zK ?_ | refine zM ?_ | refine zB ?_ | refine zA ?_ | refine zS ?_ | refine zL ?_)
  refine qc ?_
  (repeat refine qb ?_); refine qa ?_
  repeat (first | refine zR ?_ | refine zK ?_ | refine zM ?_ | refine zB ?_ | refine zA ?_ | refine zS ?_ | refine zL ?_)
  rw [show (⟨⟨l⟩⟩ : ByteArray).size = l.length from rfl]
  refine qf rfl (qT rfl rfl rfl rfl (HN) rfl rfl rfl ?_)
  repeat (first | refine zR ?_ | refine zK ?_ | refine zM ?_ | refine zB ?_ | refine zA ?_ | refine zS ?_ | refine zL ?_)
  repeat (first | refine zR ?_ | refine zK ?_ | refine zM ?_ | refine zB ?_ | refine zA ?_ | refine zS ?_ | refine zL ?_)
  refine qf rfl (act_append_str ql rfl rfl rfl rfl rfl rfl rfl rfl rfl (by kernel_rfl) rfl rfl rfl rfl rfl (by simp only [zg, List.length_append]; omega) ?_)
  repeat (first | refine zR ?_ | refine zK ?_ | refine zM ?_ | refine zB ?_ | refine zA ?_ | refine zS ?_ | refine zL ?_)
  refine qc ?_
  (repeat refine qb ?_); refine qk ?_
  unfold rowB
  rw [bR_app (b ++ putN (l.length : Int))]
  exact ⟨Or.inr rfl, _, _, [(10, 0)], Wk.refl _, rfl, rfl, rfl, rfl⟩
theorem textsD_h (k : Int) : Holds Tryd.prog 32 [pI k] (.p (pB (decide (k = 3 ∨ k = 5)))) [] := by
  refine qw (ts := [2]) Tryd.func32 (by kernel_rfl) rfl rfl rfl ?_
  (repeat refine qb ?_); refine qa ?_
  repeat (first | refine zR ?_ | refine zK ?_ | refine zM ?_ | refine zB ?_ | refine zA ?_ | refine zS ?_ | refine zL ?_)
  refine qc ?_
  (repeat refine qb ?_); refine qa ?_
  repeat (first | refine zR ?_ | refine zK ?_ | refine zM ?_ | refine zB ?_ | refine zA ?_ | refine zS ?_ | refine zL ?_)
  by_cases h3 : k = 3
  · rw [show (k == 3) = true by simp [h3]]
    repeat (first | refine zR ?_ | refine zK ?_ | refine zM ?_ | refine zB ?_ | refine zA ?_ | refine zS ?_ | refine zL ?_)
    refine qc ?_
    (repeat refine qb ?_); refine qk ?_
    exact jd rfl (by simp [h3])
  · rw [show (k == 3) = false by simp [h3]]
    repeat (first | refine zR ?_ | refine zK ?_ | refine zM ?_ | refine zB ?_ | refine zA ?_ | refine zS ?_ | refine zL ?_)
    refine qc ?_
    (repeat refine qb ?_); refine qk ?_
    exact jd rfl (by rw [Bool.eq_iff_iff]; simp [h3])
end Go.Proofs.YtghjfficeglmoaaDoor
namespace Go.Proofs.YtghjfficeglmoaaDoor
set_option linter.unusedVariables false
set_option linter.unusedSimpArgs false
open Go.RowKit
set_option maxHeartbeats 4000000
theorem rless_h (a b : Val) (ha : a.s.size ≤ reachBytes) (hb : b.s.size ≤ reachBytes) : Holds Tryd.prog 8 [.agg a.pv, .agg b.pv] (.tup [.p (pB (lessS a b).1), .p (pI (lessS a b).2)]) [] := by
  unfold lessS
  cases hra : a.right with
  | false =>
    refine qw (ts := [4,5]) Tryd.func8 (by kernel_rfl) rfl rfl rfl ?_
    (repeat refine qb ?_); refine qa ?_
    repeat (first | refine zR ?_ | refine zK ?_ | refine zM ?_ | refine zB ?_ | refine zA ?_ | refine zS ?_ | refine zL ?_)
    refine qc ?_
    (repeat refine qb ?_); refine qa ?_
    repeat (first | refine zR ?_ | refine zK ?_ | refine zM ?_ | refine zB ?_ | refine zA ?_ | refine zS ?_ | refine zL ?_)
    refine qf rfl (qd rfl rfl rfl rfl (zQ a ha) rfl rfl ?_)
    repeat (first | refine zR ?_ | refine zK ?_ | refine zM ?_ | refine zB ?_ | refine zA ?_ | refine zS ?_ | refine zL ?_)
    rw [hra]
    repeat (first | refine zR ?_ | refine zK ?_ | refine zM ?_ | refine zB ?_ | refine zA ?_ | refine zS ?_ | refine zL ?_)
    refine qc ?_
    (repeat refine qb ?_); refine qh rfl (fun hc => ?_) (fun hc => ?_)
    · (repeat refine qb ?_); refine qa ?_
      repeat (first | refine zR ?_ | refine zK ?_ | refine zM ?_ | refine zB ?_ | refine zA ?_ | refine zS ?_ | refine zL ?_)
      refine qc ?_
      (repeat refine qb ?_); refine qk ?_
      exact ⟨Or.inr rfl, _, _, [], Wk.refl _, rfl, rfl, rfl, rfl⟩
    · cases hc
  | true =>
    cases hrb : b.right with
    | false =>
      refine qw (ts := [4,5]) Tryd.func8 (by kernel_rfl) rfl rfl rfl ?_
      (repeat refine qb ?_); refine qa ?_
      repeat (first | refine zR ?_ | refine zK ?_ | refine zM ?_ | refine zB ?_ | refine zA ?_ | refine zS ?_ | refine zL ?_)
      refine qc ?_
      (repeat refine qb ?_); refine qa ?_
      repeat (first | refine zR ?_ | refine zK ?_ | refine zM ?_ | refine zB ?_ | refine zA ?_ | refine zS ?_ | refine zL ?_)
      refine qf rfl (qd rfl rfl rfl rfl (zQ a ha) rfl rfl ?_)
      repeat (first | refine zR ?_ | refine zK ?_ | refine zM ?_ | refine zB ?_ | refine zA ?_ | refine zS ?_ | refine zL ?_)
      rw [hra]
      repeat (first | refine zR ?_ | refine zK ?_ | refine zM ?_ | refine zB ?_ | refine zA ?_ | refine zS ?_ | refine zL ?_)
      refine qf rfl (qd rfl rfl rfl rfl (zQ b hb) rfl rfl ?_)
      repeat (first | refine zR ?_ | refine zK ?_ | refine zM ?_ | refine zB ?_ | refine zA ?_ | refine zS ?_ | refine zL ?_)
      rw [hrb]
      repeat (first | refine zR ?_ | refine zK ?_ | refine zM ?_ | refine zB ?_ | refine zA ?_ | refine zS ?_ | refine zL ?_)
      refine qc ?_
      (repeat refine qb ?_); refine qh rfl (fun hc => ?_) (fun hc => ?_)
      · (repeat refine qb ?_); refine qa ?_
        repeat (first | refine zR ?_ | refine zK ?_ | refine zM ?_ | refine zB ?_ | refine zA ?_ | refine zS ?_ | refine zL ?_)
        refine qc ?_
        (repeat refine qb ?_); refine qk ?_
        exact ⟨Or.inr rfl, _, _, [], Wk.refl _, rfl, rfl, rfl, rfl⟩
      · cases hc
    | true =>
      refine qw (ts := [4,5]) Tryd.func8 (by kernel_rfl) rfl rfl rfl ?_
      (repeat refine qb ?_); refine qa ?_
      repeat (first | refine zR ?_ | refine zK ?_ | refine zM ?_ | refine zB ?_ | refine zA ?_ | refine zS ?_ | refine zL ?_)
      refine qc ?_
      (repeat refine qb ?_); refine qa ?_
      repeat (first | refine zR ?_ | refine zK ?_ | refine zM ?_ | refine zB ?_ | refine zA ?_ | refine zS ?_ | refine zL ?_)
      refine qf rfl (qd rfl rfl rfl rfl (zQ a ha) rfl rfl ?_)
      repeat (first | refine zR ?_ | refine zK ?_ | refine zM ?_ | refine zB ?_ | refine zA ?_ | refine zS ?_ | refine zL ?_)
      rw [hra]
      repeat (first | refine zR ?_ | refine zK ?_ | refine zM ?_ | refine zB ?_ | refine zA ?_ | refine zS ?_ | refine zL ?_)
      refine qf rfl (qd rfl rfl rfl rfl (zQ b hb) rfl rfl ?_)
      repeat (first | refine zR ?_ | refine zK ?_ | refine zM ?_ | refine zB ?_ | refine zA ?_ | refine zS ?_ | refine zL ?_)
      rw [hrb]
      repeat (first | refine zR ?_ | refine zK ?_ | refine zM ?_ | refine zB ?_ | refine zA ?_ | refine zS ?_ | refine zL ?_)
      refine qc ?_
      (repeat refine qb ?_); refine qh rfl (fun hc => ?_) (fun hc => ?_)
      · cases hc
      refine qu ?_
      simp only [Bool.not_true, Bool.or_self, Bool.false_eq_true, if_false]
      (repeat refine qb ?_); refine zG (by kernel_rfl) ?_
      repeat (refine zH ql rfl (by exact True.intro) rfl ?_)
      refine jc ?_
      (repeat refine qb ?_); refine qh rfl (fun hk => ?_) (fun hk => ?_)
      · rw [if_pos (by revert hk; by_cases h : a.kind = b.kind <;> simp [h])]
        (repeat refine qb ?_); refine qa ?_
        repeat (first | refine zR ?_ | refine zK ?_ | refine zM ?_ | refine zB ?_ | refine zA ?_ | refine zS ?_ | refine zL ?_)
        refine qc ?_
        (repeat refine qb ?_); refine qk ?_
        exact ⟨Or.inr rfl, _, _, [], Wk.refl _, rfl, rfl, rfl, rfl⟩
      · rw [if_neg (by revert hk; by_cases h : a.kind = b.kind <;> simp [h])]
        refine qu ?_
        (repeat refine qb ?_); refine zG (by kernel_rfl) ?_
        repeat (refine zH ql rfl (by exact True.intro) rfl ?_)
        refine jc ?_
        (repeat refine qb ?_); refine qh rfl (fun ht => ?_) (fun ht => ?_)
        · rw [if_pos (show textsS a.kind = true by revert ht; simp [textsS])]
          (repeat refine qb ?_); refine qa ?_
          repeat (first | refine zR ?_ | refine zK ?_ | refine zM ?_ | refine zB ?_ | refine zA ?_ | refine zS ?_ | refine zL ?_)
          refine qc ?_
          (repeat refine qb ?_); refine qk ?_
          exact ⟨Or.inr rfl, _, _, [], Wk.refl _, rfl, rfl, rfl, rfl⟩
        · rw [if_neg (show ¬ textsS a.kind = true by revert ht; simp [textsS])]
          refine qu ?_
          (repeat refine qb ?_); refine qa ?_
          repeat (first | refine zR ?_ | refine zK ?_ | refine zM ?_ | refine zB ?_ | refine zA ?_ | refine zS ?_ | refine zL ?_)
          refine qc ?_
          (repeat refine qb ?_); refine qk ?_
          exact ⟨Or.inr rfl, _, _, [], Wk.refl _, rfl, rfl, rfl, rfl⟩
theorem rbag_h (l : List Val) (hl : l.length ≤ 1000000) (hf : ∀ x ∈ l, x.Fit) : Holds Tryd.prog 20 [zU l] (.p (pB (bagOk l))) [] := by
  have lm : (l.map Val.pv).length = l.length := by simp
  refine qw (ts := [2]) Tryd.func20 (by kernel_rfl) rfl rfl rfl ?_
  (repeat refine qb ?_); refine qa ?_
  repeat (first | refine zR ?_ | refine zK ?_ | refine zM ?_ | refine zB ?_ | refine zA ?_ | refine zS ?_ | refine zL ?_)
  refine qc ?_
  (repeat refine qb ?_); refine qa ?_
  repeat (first | refine zR ?_ | refine zK ?_ | refine zM ?_ | refine zB ?_ | refine zA ?_ | refine zS ?_ | refine zL ?_)
  refine qc ?_
  (repeat refine qb ?_); refine qS ?_
  refine SW.wk (qy [0, 5, 6, 7] [] rfl rfl) ?_
  refine zV (fun m s => ∃ (k : Nat) (kk : Int), k ≤ l.length ∧ k ≤ 16 ∧ m = l.length - k ∧ kk = k ∧ (∀ x ∈ l.take k, inBag (l.getD 0 noVal).kind x = true) ∧ s = ⟨29, [(0, .p (zU l)), (5, .p (zU l)), (6, .p (pI (l.map Val.pv).length)), (7, .p (pI kk))], []⟩) l.length ⟨0, 0, Nat.zero_le _, by omega, rfl, rfl, by simp, rfl⟩ ?_
  rintro m s ⟨k, _, hk, hk6, rfl, rfl, ha, rfl⟩
  (repeat refine qb ?_); refine qa ?_
  repeat (first | refine zR ?_ | refine zK ?_ | refine zM ?_ | refine zB ?_ | refine zA ?_ | refine zS ?_ | refine zL ?_)
  refine qc ?_
  (repeat refine qb ?_); refine qh rfl (fun hlt => ?_) (fun hlt => ?_)
  rotate_left
  · refine zX ?_
    rw [lm] at hlt
    have hkk : k = l.length := by simp only [decide_eq_false_iff_not] at hlt; omega
    subst hkk
    rw [List.take_length] at ha
    (repeat refine qb ?_); refine qa ?_
    repeat (first | refine zR ?_ | refine zK ?_ | refine zM ?_ | refine zB ?_ | refine zA ?_ | refine zS ?_ | refine zL ?_)
    refine qc ?_
    (repeat refine qb ?_); refine qk ?_
    refine jd rfl ?_
    unfold bagOk
    rw [List.all_eq_true.2 ha, decide_eq_true hk6]; rfl
  refine qu ?_
  rw [lm] at hlt
  have hlt' : k < l.length := by simp only [decide_eq_true_eq] at hlt; omega
  have hx := hf _ (List.getElem_mem hlt')
  have h0 : 0 < l.length := by omega
  have hno : inBag (l.getD 0 noVal).kind l[k] = false → bagOk l = false := fun h => by
    unfold bagOk
    rw [Bool.and_eq_false_iff]
    refine Or.inl (List.all_eq_false.2 ⟨_, List.getElem_mem hlt', by rw [h]; simp⟩)
  have e0 : l.getD 0 noVal = l[0] := by rw [List.getD_eq_getElem?_getD, List.getElem?_eq_getElem h0]; rfl
  rw [e0] at hno ha
  obtain ⟨b0, hb0⟩ : ∃ b0, b0 = l[0] := ⟨_, rfl⟩
  have g0 : (l.map Val.pv).getD (Int.toNat 0) [] = b0.pv := by rw [hb0]; exact zY h0
  rw [← hb0] at hno ha
  obtain ⟨x, hxe⟩ : ∃ x, x = l[k] := ⟨_, rfl⟩
  have gk : (l.map Val.pv).getD (Int.toNat (k : Int)) [] = x.pv := by rw [hxe]; exact zY hlt'
  rw [← hxe] at hno hx
  (repeat refine qb ?_); refine qS ?_
  (repeat refine qb ?_); refine qa ?_
  repeat (first | refine zR ?_ | refine zK ?_ | refine zM ?_ | refine zB ?_ | refine zA ?_ | refine zS ?_ | refine zL ?_)
  refine zk ql rfl rfl (by rw [lm]; omega) rfl ?_
  rw [gk]
  repeat (first | refine zR ?_ | refine zK ?_ | refine zM ?_ | refine zB ?_ | refine zA ?_ | refine zS ?_ | refine zL ?_)
  refine qc ?_
  (repeat refine qb ?_); refine qv [] [(0, true), (1, false), (2, true), (3, true), (4, true), (5, true), (6, true), (7, true), (8, true), (9, true), (10, true), (11, true), (12, true), (13, true), (14, true), (15, true)] (by kernel_rfl) (by kernel_rfl) (by kernel_rfl) ?_
  repeat (first | refine yR ?_ | refine yK ?_ | refine yM ?_ | refine yB ?_ | refine yA ?_ | refine yS ?_ | refine yL ?_)
  refine qG rfl rfl rfl (qd rfl rfl rfl rfl (zQ x hx.s) rfl rfl ?_)
  repeat (first | refine yR ?_ | refine yK ?_ | refine yM ?_ | refine yB ?_ | refine yA ?_ | refine yS ?_ | refine yL ?_)
  cases hr : x.right with
  | false =>
    repeat (first | refine yR ?_ | refine yK ?_ | refine yM ?_ | refine yB ?_ | refine yA ?_ | refine yS ?_ | refine yL ?_)
    refine qF ?_
    (repeat refine qb ?_); refine qh rfl (fun hc => ?_) (fun hc => ?_)
    · (repeat refine qb ?_); refine qa ?_
      repeat (first | refine zR ?_ | refine zK ?_ | refine zM ?_ | refine zB ?_ | refine zA ?_ | refine zS ?_ | refine zL ?_)
      refine qc ?_
      (repeat refine qb ?_); refine qk ?_
      exact jd rfl (hno (by unfold inBag; rw [hr]; rfl)).symm
    · cases hc
  | true =>
    repeat (first | refine yR ?_ | refine yK ?_ | refine yM ?_ | refine yB ?_ | refine yA ?_ | refine yS ?_ | refine yL ?_)
    refine qY ql rfl rfl rfl (by rw [lm]; omega) rfl ?_
    rw [g0]
    repeat (first | refine yR ?_ | refine yK ?_ | refine yM ?_ | refine yB ?_ | refine yA ?_ | refine yS ?_ | refine yL ?_)
    by_cases hkd : x.kind = b0.kind
    rotate_left
    · rw [show (x.kind != b0.kind) = true by simp [hkd]]
      repeat (first | refine yR ?_ | refine yK ?_ | refine yM ?_ | refine yB ?_ | refine yA ?_ | refine yS ?_ | refine yL ?_)
      refine qF ?_
      (repeat refine qb ?_); refine qh rfl (fun hc => ?_) (fun hc => ?_)
      · (repeat refine qb ?_); refine qa ?_
        repeat (first | refine zR ?_ | refine zK ?_ | refine zM ?_ | refine zB ?_ | refine zA ?_ | refine zS ?_ | refine zL ?_)
        refine qc ?_
        (repeat refine qb ?_); refine qk ?_
        exact jd rfl (hno (by unfold inBag; rw [hr]; simp [hkd])).symm
      · cases hc
    rw [show (x.kind != b0.kind) = false by simp [hkd]]
    repeat (first | refine yR ?_ | refine yK ?_ | refine yM ?_ | refine yB ?_ | refine yA ?_ | refine yS ?_ | refine yL ?_)
    refine qF ?_
    (repeat refine qb ?_); refine qh rfl (fun hc => ?_) (fun hc => ?_)
    · have h16 : 16 ≤ k := by have := of_decide_eq_true hc; omega
      (repeat refine qb ?_); refine qa ?_
      repeat (first | refine zR ?_ | refine zK ?_ | refine zM ?_ | refine zB ?_ | refine zA ?_ | refine zS ?_ | refine zL ?_)
      refine qc ?_
      (repeat refine qb ?_); refine qk ?_
      refine jd rfl ?_
      unfold bagOk
      rw [show decide (l.length ≤ 16) = false from decide_eq_false (by omega), Bool.and_false]
    · have h16 : k < 16 := by have := of_decide_eq_false hc; omega
      refine qu ?_
      (repeat refine qb ?_); refine qa ?_
      repeat (first | refine zR ?_ | refine zK ?_ | refine zM ?_ | refine zB ?_ | refine zA ?_ | refine zS ?_ | refine zL ?_)
      refine qc ?_
      refine ⟨_, _, ?_, qy [0, 5, 6, 7] [] rfl rfl, k + 1, _, hlt', by omega, rfl, zP hlt' (by omega), ?_, rfl⟩
      · omega
      · intro y hy
        rw [e0, ← hb0]
        rw [List.take_succ_eq_append_getElem hlt', List.mem_append, List.mem_singleton] at hy
        rcases hy with hy | rfl
        · exact ha y hy
        · rw [← hxe]; unfold inBag; rw [hr]; simp [hkd]
theorem rhas_h (l : List Val) (v : Val) (hn : l.length ≤ 1000000) : Holds Tryd.prog 22 [zU l, .agg v.pv] (.p (pB (hasV l v))) [] := by
  have lm : (l.map Val.pv).length = l.length := by simp
  have sym : ∀ x : Val, zW x v = zW v x := fun x => by
    unfold zW
    rw [decide_eq_decide.2 (eq_comm (a := x.kind)), decide_eq_decide.2 (eq_comm (a := x.n)), decide_eq_decide.2 (eq_comm (a := x.s))]
  refine qw (ts := [4]) Tryd.func22 (by kernel_rfl) rfl rfl rfl ?_
  (repeat refine qb ?_); refine qa ?_
  repeat (first | refine zR ?_ | refine zK ?_ | refine zM ?_ | refine zB ?_ | refine zA ?_ | refine zS ?_ | refine zL ?_)
  refine qc ?_
  (repeat refine qb ?_); refine qa ?_
  repeat (first | refine zR ?_ | refine zK ?_ | refine zM ?_ | refine zB ?_ | refine zA ?_ | refine zS ?_ | refine zL ?_)
  refine qc ?_
  (repeat refine qb ?_); refine qS ?_
  refine SW.wk (qy [3, 7, 8, 9] [(3, 3)] rfl rfl) ?_
  refine zV (fun m s => ∃ (k : Nat) (kk : Int), k ≤ l.length ∧ m = l.length - k ∧ kk = k ∧ (∀ x ∈ l.take k, zW v x = false) ∧ s = ⟨17, [(3, .ptr 3 0), (7, .p (zU l)), (8, .p (pI (l.map Val.pv).length)), (9, .p (pI kk))], [(3, .cells (v.pv.map .p))]⟩) l.length ⟨0, 0, Nat.zero_le _, rfl, rfl, by simp, rfl⟩ ?_
  rintro m s ⟨k, _, hk, rfl, rfl, ha, rfl⟩
  (repeat refine qb ?_); refine qa ?_
  repeat (first | refine zR ?_ | refine zK ?_ | refine zM ?_ | refine zB ?_ | refine zA ?_ | refine zS ?_ | refine zL ?_)
  refine qc ?_
  (repeat refine qb ?_); refine qh rfl (fun hlt => ?_) (fun hlt => ?_)
  rotate_left
  · refine zX ?_
    rw [lm] at hlt
    have hkk : k = l.length := by simp only [decide_eq_false_iff_not] at hlt; omega
    subst hkk
    rw [List.take_length] at ha
    (repeat refine qb ?_); refine qa ?_
    repeat (first | refine zR ?_ | refine zK ?_ | refine zM ?_ | refine zB ?_ | refine zA ?_ | refine zS ?_ | refine zL ?_)
    refine qc ?_
    (repeat refine qb ?_); refine qk ?_
    refine jd rfl ?_
    exact (List.any_eq_false.2 fun x hx => by simp [ha x hx]).symm
  refine qu ?_
  rw [lm] at hlt
  have hlt' : k < l.length := by simp only [decide_eq_true_eq] at hlt; omega
  obtain ⟨x, hxe⟩ : ∃ x, x = l[k] := ⟨_, rfl⟩
  have gk : (l.map Val.pv).getD (Int.toNat (k : Int)) [] = x.pv := by rw [hxe]; exact zY hlt'
  (repeat refine qb ?_); refine qS ?_
  (repeat refine qb ?_); refine qa ?_
  repeat (first | refine zR ?_ | refine zK ?_ | refine zM ?_ | refine zB ?_ | refine zA ?_ | refine zS ?_ | refine zL ?_)
  refine zk ql rfl rfl (by rw [lm]; omega) rfl ?_
  rw [gk]
  repeat (first | refine zR ?_ | refine zK ?_ | refine zM ?_ | refine zB ?_ | refine zA ?_ | refine zS ?_ | refine zL ?_)
  refine qc ?_
  (repeat refine qb ?_); refine qa ?_
  repeat (first | refine zR ?_ | refine zK ?_ | refine zM ?_ | refine zB ?_ | refine zA ?_ | refine zS ?_ | refine zL ?_)
  refine zk ql rfl (opR_eqV x v rfl rfl rfl rfl) rfl rfl ?_
  refine qc ?_
  rw [sym]
  cases hs : zW v x with
  | true =>
    (repeat refine qb ?_); refine qh rfl (fun hc => ?_) (fun hc => ?_)
    · (repeat refine qb ?_); refine qa ?_
      repeat (first | refine zR ?_ | refine zK ?_ | refine zM ?_ | refine zB ?_ | refine zA ?_ | refine zS ?_ | refine zL ?_)
      refine qc ?_
      (repeat refine qb ?_); refine qk ?_
      refine jd rfl ?_
      exact (List.any_eq_true.2 ⟨_, List.getElem_mem hlt', by rw [← hxe]; exact hs⟩).symm
    · cases hc
  | false =>
    (repeat refine qb ?_); refine qh rfl (fun hc => ?_) (fun hc => ?_)
    · cases hc
    refine qu ?_
    (repeat refine qb ?_); refine qa ?_
    repeat (first | refine zR ?_ | refine zK ?_ | refine zM ?_ | refine zB ?_ | refine zA ?_ | refine zS ?_ | refine zL ?_)
    refine qc ?_
    refine ⟨_, _, ?_, qy [3, 7, 8, 9] [(3, 3)] rfl rfl, k + 1, _, hlt', rfl, zP hlt' (by omega), ?_, rfl⟩
    · omega
    · intro y hy
      rw [List.take_succ_eq_append_getElem hlt', List.mem_append, List.mem_singleton] at hy
      rcases hy with hy | rfl
      · exact ha y hy
      · rw [← hxe]; exact hs
theorem hexD_lt {n : Nat} (h : n < 16) : ((hexD n).toNat : Int) = if n < 10 then 48 + (n : Int) else 87 + (n : Int) := by
  unfold hexD
  split <;> (rw [UInt8.toNat_ofNat']; omega)
theorem rhex_h (n : Nat) (hn : n < 16) : Holds Tryd.prog 59 [.v (.int .u8 (n : Int))] (.p (pU (hexD n))) [] := by
  have e := hexD_lt hn
  refine qw (ts := [2]) Tryd.func59 (by kernel_rfl) rfl rfl rfl ?_
  (repeat refine qb ?_); refine qa ?_
  repeat (first | refine zR ?_ | refine zK ?_ | refine zM ?_ | refine zB ?_ | refine zA ?_ | refine zS ?_ | refine zL ?_)
  refine qc ?_
  (repeat refine qb ?_); refine qa ?_
  repeat (first | refine zR ?_ | refine zK ?_ | refine zM ?_ | refine zB ?_ | refine zA ?_ | refine zS ?_ | refine zL ?_)
  refine qc ?_
  (repeat refine qb ?_); refine qh rfl (fun hc => ?_) (fun hc => ?_)
  · have h : n < 10 := by have := of_decide_eq_true hc; omega
    rw [if_pos h] at e
    (repeat refine qb ?_); refine qa ?_
    repeat (first | refine zR ?_ | refine zK ?_ | refine zM ?_ | refine zB ?_ | refine zA ?_ | refine zS ?_ | refine zL ?_)
    rw [u8_in (by omega), ← e]
    repeat (first | refine zR ?_ | refine zK ?_ | refine zM ?_ | refine zB ?_ | refine zA ?_ | refine zS ?_ | refine zL ?_)
    refine qc ?_
    (repeat refine qb ?_); refine qk ?_
    exact ⟨Or.inr rfl, _, _, [], Wk.refl _, rfl, rfl, rfl, rfl⟩
  · have h : ¬ n < 10 := by have := of_decide_eq_false hc; omega
    rw [if_neg h] at e
    refine qu ?_
    (repeat refine qb ?_); refine qa ?_
    repeat (first | refine zR ?_ | refine zK ?_ | refine zM ?_ | refine zB ?_ | refine zA ?_ | refine zS ?_ | refine zL ?_)
    rw [u8_in (show (0:Int) ≤ 97 + (n : Int) ∧ 97 + (n : Int) < 256 by omega)]
    repeat (first | refine zR ?_ | refine zK ?_ | refine zM ?_ | refine zB ?_ | refine zA ?_ | refine zS ?_ | refine zL ?_)
    rw [u8_in (by omega), show 97 + (n : Int) - 10 = 87 + (n : Int) by omega, ← e]
    repeat (first | refine zR ?_ | refine zK ?_ | refine zM ?_ | refine zB ?_ | refine zA ?_ | refine zS ?_ | refine zL ?_)
    refine qc ?_
    (repeat refine qb ?_); refine qk ?_
    exact ⟨Or.inr rfl, _, _, [], Wk.refl _, rfl, rfl, rfl, rfl⟩
theorem shr_4 {c : Nat} (h : c < 256) : (c : Int).fdiv (2 ^ (min (4 : Int).toNat IntKind.u8.bits)) = ((c / 16 : Nat) : Int) := by
  show (c : Int).fdiv 16 = _
  rw [Int.fdiv_eq_ediv_of_nonneg _ (by omega)]
  omega
theorem and15b {c : Nat} (h : c < 256) : IntKind.u8.wrap ((BitVec.ofInt IntKind.u8.bits (c : Int) &&& BitVec.ofInt IntKind.u8.bits 15).toNat : Int) = ((c % 16 : Nat) : Int) := by
  have e : (BitVec.ofInt 8 (c : Int)).toNat = c := by rw [BitVec.toNat_ofInt]; omega
  show IntKind.u8.wrap ((BitVec.ofInt 8 (c : Int) &&& BitVec.ofInt 8 15).toNat : Int) = _
  rw [BitVec.toNat_and, e, show (BitVec.ofInt 8 15).toNat = 2 ^ 4 - 1 from by decide, Nat.and_two_pow_sub_one_eq_mod]
  exact u8_in (by omega)
theorem flatQ_len (l : Bs) : (l.flatMap qB).length ≤ 3 * l.length := by
  induction l with
  | nil => simp
  | cons c l ih =>
    have := qB_len c
    simp only [List.flatMap_cons, List.length_append, List.length_cons]
    omega
theorem rquote_h (l : Bs) (hl : l.length ≤ 1000000) : Holds Tryd.prog 41 [pL l] (.p (pS (quoteB ⟨⟨l⟩⟩))) [] := by
  have ls : (⟨⟨l⟩⟩ : ByteArray).size = l.length := rfl
  refine qw (ts := [2]) Tryd.func41 (by kernel_rfl) rfl rfl rfl ?_
  (repeat refine qb ?_); refine qa ?_
  repeat (first | refine zR ?_ | refine zK ?_ | refine zM ?_ | refine zB ?_ | refine zA ?_ | refine zS ?_ | refine zL ?_)
  refine qc ?_
  (repeat refine qb ?_); refine qa ?_
  repeat (first | refine zR ?_ | refine zK ?_ | refine zM ?_ | refine zB ?_ | refine zA ?_ | refine zS ?_ | refine zL ?_)
  refine qc ?_
  (repeat refine qb ?_); refine qa ?_
  repeat (first | refine zR ?_ | refine zK ?_ | refine zM ?_ | refine zB ?_ | refine zA ?_ | refine zS ?_ | refine zL ?_)
  refine qc ?_
  (repeat refine qb ?_); refine qS ?_
  refine SW.wk (qy [0, 3, 4] [(6, 0)] rfl rfl) ?_
  refine zV (fun m s => ∃ (k : Nat) (kk : Int), k ≤ l.length ∧ m = l.length - k ∧ kk = k ∧ s = ⟨47, [(0, .p (pL l)), (3, .row 0), (4, .p (pI kk))], rowB 0 (34 :: (l.take k).flatMap qB)⟩) l.length ⟨0, 0, Nat.zero_le _, rfl, rfl, rfl⟩ ?_
  rintro m s ⟨k, _, hk, rfl, rfl, rfl⟩
  have hq := flatQ_len (l.take k)
  have ht : (l.take k).length = k := by simp; omega
  (repeat refine qb ?_); refine qa ?_
  repeat (first | refine zR ?_ | refine zK ?_ | refine zM ?_ | refine zB ?_ | refine zA ?_ | refine zS ?_ | refine zL ?_)
  refine qc ?_
  rw [ls]
  (repeat refine qb ?_); refine qh rfl (fun hlt => ?_) (fun hlt => ?_)
  rotate_left
  · refine zX ?_
    have hkk : k = l.length := by simp only [decide_eq_false_iff_not] at hlt; omega
    subst hkk
    rw [List.take_length] at hq ⊢
    (repeat refine qb ?_); refine qa ?_
    repeat (first | refine zR ?_ | refine zK ?_ | refine zM ?_ | refine zB ?_ | refine zA ?_ | refine zS ?_ | refine zL ?_)
    refine qf rfl (zp ql rfl rfl rfl rfl rfl rfl rfl rfl rfl rfl rfl rfl rfl rfl rfl rfl (by simp only [zg, List.length_append, List.length_cons, List.length_nil]; unfold reachBytes; omega) (by simp only [zg, List.length_append, List.length_cons, List.length_nil]; omega) ?_)
    repeat (first | refine zR ?_ | refine zK ?_ | refine zM ?_ | refine zB ?_ | refine zA ?_ | refine zS ?_ | refine zL ?_)
    have e : bR (34 :: l.flatMap qB) ++ [[pU 34]] = bR (34 :: l.flatMap qB ++ [34]) := by rw [bR_app]; rfl
    have e2 : ([[PV.v (Value.int IntKind.u8 34)]] : List (List PV)) = [[pU 34]] := rfl
    refine qf rfl (act_textR ql (b := 34 :: l.flatMap qB ++ [34]) rfl rfl (by rw [← e]; rfl) rfl rfl rfl rfl ?_)
    repeat (first | refine zR ?_ | refine zK ?_ | refine zM ?_ | refine zB ?_ | refine zA ?_ | refine zS ?_ | refine zL ?_)
    refine qc ?_
    (repeat refine qb ?_); refine qk ?_
    exact fin_s rfl rfl
  refine qu ?_
  have hlt' : k < l.length := by simp only [decide_eq_true_eq] at hlt; omega
  obtain ⟨c, hc⟩ : ∃ c, c = l[k] := ⟨_, rfl⟩
  have hcl := UInt8.toNat_lt c
  have hstep : (l.take (k + 1)).flatMap qB = (l.take k).flatMap qB ++ qB c := by
    rw [List.take_succ_eq_append_getElem hlt', List.flatMap_append, ← hc]; simp
  (repeat refine qb ?_); refine qS ?_
  (repeat refine qb ?_); refine qa ?_
  repeat (first | refine zR ?_ | refine zK ?_ | refine zM ?_ | refine zB ?_ | refine zA ?_ | refine zS ?_ | refine zL ?_)
  refine zk ql rfl rfl (by rw [ls]; omega) rfl ?_
  rw [byteAt_k hlt', ← hc]
  repeat (first | refine zR ?_ | refine zK ?_ | refine zM ?_ | refine zB ?_ | refine zA ?_ | refine zS ?_ | refine zL ?_)
  refine qc ?_
  (repeat refine qb ?_); refine zG (by kernel_rfl) ?_
  repeat (refine zH ql rfl (by exact True.intro) rfl ?_)
  refine jc ?_
  (repeat refine qb ?_); refine qh rfl (fun ho => ?_) (fun ho => ?_)
  · have hodd : oddB c.toNat = true := by
      revert ho
      unfold oddB
      cases h1 : decide (c.toNat < 32) <;> cases h2 : decide (126 < c.toNat) <;> simp_all <;> omega
    have eq : qB c = [92, hexD (c.toNat / 16), hexD (c.toNat % 16)] := by unfold qB; rw [if_pos hodd]
    (repeat refine qb ?_); refine qa ?_
    repeat (first | refine zR ?_ | refine zK ?_ | refine zM ?_ | refine zB ?_ | refine zA ?_ | refine zS ?_ | refine zL ?_)
    refine zk ql rfl rfl (by omega) rfl ?_
    rw [shr_4 hcl]
    repeat (first | refine zR ?_ | refine zK ?_ | refine zM ?_ | refine zB ?_ | refine zA ?_ | refine zS ?_ | refine zL ?_)
    refine qf rfl (qd rfl rfl rfl rfl (rhex_h (c.toNat / 16) (by omega)) rfl rfl ?_)
    repeat (first | refine zR ?_ | refine zK ?_ | refine zM ?_ | refine zB ?_ | refine zA ?_ | refine zS ?_ | refine zL ?_)
    rw [and15b hcl]
    repeat (first | refine zR ?_ | refine zK ?_ | refine zM ?_ | refine zB ?_ | refine zA ?_ | refine zS ?_ | refine zL ?_)
    refine qf rfl (qd rfl rfl rfl rfl (rhex_h (c.toNat % 16) (by omega)) rfl rfl ?_)
    repeat (first | refine zR ?_ | refine zK ?_ | refine zM ?_ | refine zB ?_ | refine zA ?_ | refine zS ?_ | refine zL ?_)
    refine qf rfl (zp ql rfl rfl rfl rfl rfl rfl rfl rfl rfl rfl rfl rfl rfl rfl rfl rfl (by simp only [zg, List.length_append, List.length_cons, List.length_nil]; unfold reachBytes; omega) (by simp only [zg, List.length_append, List.length_cons, List.length_nil]; omega) ?_)
    repeat (first | refine zR ?_ | refine zK ?_ | refine zM ?_ | refine zB ?_ | refine zA ?_ | refine zS ?_ | refine zL ?_)
    refine qc ?_
    (repeat refine qb ?_); refine qa ?_
    repeat (first | refine zR ?_ | refine zK ?_ | refine zM ?_ | refine zB ?_ | refine zA ?_ | refine zS ?_ | refine zL ?_)
    refine qc ?_
    refine ⟨_, _, ?_, qy [0, 3, 4] [(38, 0)] rfl rfl, k + 1, _, hlt', rfl, zP hlt' (by omega), ?_⟩
    · omega
    · rw [hstep, eq]
      unfold rowB
      rw [show bR (34 :: ((l.take k).flatMap qB ++ [92, hexD (c.toNat / 16), hexD (c.toNat % 16)])) = bR (34 :: (l.take k).flatMap qB) ++ bR [92, hexD (c.toNat / 16), hexD (c.toNat % 16)] from bR_app (34 :: _) _]
      rfl
  · have hodd : oddB c.toNat = false := by
      revert ho
      unfold oddB
      cases h1 : decide (c.toNat < 32) <;> cases h2 : decide (126 < c.toNat) <;> simp_all <;> omega
    have eq : qB c = [c] := by unfold qB; rw [hodd]; rfl
    (repeat refine qb ?_); refine qa ?_
    repeat (first | refine zR ?_ | refine zK ?_ | refine zM ?_ | refine zB ?_ | refine zA ?_ | refine zS ?_ | refine zL ?_)
    refine qf rfl (zp ql rfl rfl rfl rfl rfl rfl rfl rfl rfl rfl rfl rfl rfl rfl rfl rfl (by simp only [zg, List.length_append, List.length_cons, List.length_nil]; unfold reachBytes; omega) (by simp only [zg, List.length_append, List.length_cons, List.length_nil]; omega) ?_)
    repeat (first | refine zR ?_ | refine zK ?_ | refine zM ?_ | refine zB ?_ | refine zA ?_ | refine zS ?_ | refine zL ?_)
    refine qc ?_
    (repeat refine qb ?_); refine qa ?_
    repeat (first | refine zR ?_ | refine zK ?_ | refine zM ?_ | refine zB ?_ | refine zA ?_ | refine zS ?_ | refine zL ?_)
    refine qc ?_
    refine ⟨_, _, ?_, qy [0, 3, 4] [(42, 0)] rfl rfl, k + 1, _, hlt', rfl, zP hlt' (by omega), ?_⟩
    · omega
    · rw [hstep, eq]
      unfold rowB
      rw [show bR (34 :: ((l.take k).flatMap qB ++ [c])) = bR (34 :: (l.take k).flatMap qB) ++ bR [c] from bR_app (34 :: _) _]
      rfl
theorem app_t (a b : Bs) : (⟨⟨a⟩⟩ : ByteArray) ++ ⟨⟨b⟩⟩ = ⟨⟨a ++ b⟩⟩ := by
  have h : ((⟨⟨a⟩⟩ : ByteArray) ++ ⟨⟨b⟩⟩).data.toList = a ++ b := by
    rw [ByteArray.data_append]; simp
  rw [← h]
def onD (u0 f u : Nat) (d : Bs) : Prop := decF 20 u0 = decF (f + 1) u ++ d ∧ u < 10 ^ (f + 1) ∧ d.length + f = 19
theorem onD_0 {u : Nat} (h : u < 18446744073709551616) : onD u 19 u [] := ⟨by simp, by
  have : (10 : Nat) ^ (19 + 1) = 100000000000000000000 := by decide
  omega, rfl⟩
theorem decF_step (f u : Nat) : decF (f + 1) u = if u < 10 then [UInt8.ofNat (48 + u)] else decF f (u / 10) ++ [UInt8.ofNat (48 + u % 10)] := by
  rw [decF]
  by_cases h : u < 10
  · rw [show Nat.blt u 10 = true by simp [Nat.blt]; omega, if_pos h]; rfl
  · have hb : Nat.blt u 10 = false := by
      cases hb : Nat.blt u 10 with
      | false => rfl
      | true => exact absurd (Nat.le_of_ble_eq_true hb) (by omega)
    rw [hb, if_neg h]; rfl
theorem onD_last {u0 f u : Nat} {d : Bs} (h : onD u0 f u d) (hu : u < 10) : decF 20 u0 = UInt8.ofNat (48 + u % 10) :: d := by
  rw [h.1, decF_step, if_pos hu, Nat.mod_eq_of_lt hu]; rfl
theorem onD_more {u0 f u : Nat} {d : Bs} (h : onD u0 f u d) (hu : ¬ u < 10) : ∃ g, f = g + 1 ∧ onD u0 g (u / 10) (UInt8.ofNat (48 + u % 10) :: d) := by
  obtain ⟨h1, h2, h3⟩ := h
  cases f with
  | zero => exact absurd (show u < 10 from h2) hu
  | succ g =>
    refine ⟨g, rfl, ?_, ?_, by simp; omega⟩
    · rw [h1, decF_step, if_neg hu]; simp
    · have : (10 : Nat) ^ (g + 1 + 1) = 10 ^ (g + 1) * 10 := Nat.pow_succ _ _
      rw [this] at h2
      exact Nat.div_lt_of_lt_mul (by omega)
theorem neg_u64 {n : Int} (h : n < 0) (hr : R64 n) : IntKind.u64.wrap (0 - IntKind.u64.wrap n) = ((n.natAbs : Nat) : Int) := by
  have := hr.1
  simp [IntKind.wrap, IntKind.bits, IntKind.signed]
  omega
theorem digits_h (n : Int) (hn : R64 n) : Holds Tryd.prog 40 [pI n] (.p (pL (zb n))) [] := by
  have hr := hn.1
  have hr2 := hn.2
  obtain ⟨u0, hu0⟩ : ∃ u0, u0 = n.natAbs := ⟨_, rfl⟩
  have hlt : u0 < 18446744073709551616 := by omega
  have eN : zb n = if n < 0 then 45 :: decF 20 u0 else decF 20 u0 := by
    subst hu0
    cases n with
    | ofNat u => rw [if_neg (by simp)]; rfl
    | negSucc u => rw [if_pos (Int.negSucc_lt_zero u)]; rfl
  refine qw (ts := [2]) Tryd.func40 (by kernel_rfl) rfl rfl rfl ?_
  (repeat refine qb ?_); refine qa ?_
  repeat (first | refine zR ?_ | refine zK ?_ | refine zM ?_ | refine zB ?_ | refine zA ?_ | refine zS ?_ | refine zL ?_)
  refine qc ?_
  (repeat refine qb ?_); refine qa ?_
  repeat (first | refine zR ?_ | refine zK ?_ | refine zM ?_ | refine zB ?_ | refine zA ?_ | refine zS ?_ | refine zL ?_)
  refine qc ?_
  (repeat refine qb ?_); refine qa ?_
  repeat (first | refine zR ?_ | refine zK ?_ | refine zM ?_ | refine zB ?_ | refine zA ?_ | refine zS ?_ | refine zL ?_)
  refine qc ?_
  (repeat refine qb ?_); refine qa ?_
  repeat (first | refine zR ?_ | refine zK ?_ | refine zM ?_ | refine zB ?_ | refine zA ?_ | refine zS ?_ | refine zL ?_)
  refine qc ?_
  (repeat refine qb ?_)
  refine SW.mono (Q := fun e s => e = .normal ∧ Wk s ⟨28, [(0, .p (pI n)), (3, .p (.v (.int .u64 (u0 : Int)))), (4, .p (pL []))], []⟩) ?_ ?_
  · (repeat refine qb ?_); refine qh rfl (fun hc => ?_) (fun hc => ?_)
    · have hneg : n < 0 := of_decide_eq_true hc
      (repeat refine qb ?_); refine qa ?_
      repeat (first | refine zR ?_ | refine zK ?_ | refine zM ?_ | refine zB ?_ | refine zA ?_ | refine zS ?_ | refine zL ?_)
      rw [neg_u64 hneg hn, ← hu0]
      repeat (first | refine zR ?_ | refine zK ?_ | refine zM ?_ | refine zB ?_ | refine zA ?_ | refine zS ?_ | refine zL ?_)
      refine qc ?_
      exact ⟨rfl, qy [0, 3, 4] [] rfl rfl⟩
    · have hneg : ¬ n < 0 := of_decide_eq_false hc
      refine qu ?_
      rw [u64_in (n := n) (by omega), show n = (u0 : Int) by omega]
      exact ⟨rfl, qy [0, 3, 4] [] rfl rfl⟩
  rintro e s ⟨rfl, hw⟩
  refine SW.wk hw ?_
  (repeat refine qb ?_); refine qS ?_
  refine zV (fun m s => ∃ (f u : Nat) (uu : Int) (d : Bs), m = f ∧ u ≤ u0 ∧ uu = u ∧ onD u0 f u d ∧ s = ⟨28, [(0, .p (pI n)), (3, .p (.v (.int .u64 uu))), (4, .p (pL d))], []⟩) 19 ⟨19, u0, _, [], rfl, Nat.le_refl _, rfl, onD_0 hlt, rfl⟩ ?_
  rintro m s ⟨f, u, _, d, rfl, hu, rfl, hO, rfl⟩
  have hd := hO.2.2
  (repeat refine qb ?_); refine qS ?_
  (repeat refine qb ?_); refine qa ?_
  repeat (first | refine zR ?_ | refine zK ?_ | refine zM ?_ | refine zB ?_ | refine zA ?_ | refine zS ?_ | refine zL ?_)
  refine zk ql rfl rfl (by omega) rfl ?_
  rw [show ((u : Int).tmod 10) = ((u % 10 : Nat) : Int) from (Int.tmod_eq_emod_of_nonneg (by omega)).trans (by omega)]
  repeat (first | refine zR ?_ | refine zK ?_ | refine zM ?_ | refine zB ?_ | refine zA ?_ | refine zS ?_ | refine zL ?_)
  rw [u64_in (show (0 : Int) ≤ 48 + ((u % 10 : Nat) : Int) ∧ 48 + ((u % 10 : Nat) : Int) < 18446744073709551616 by omega)]
  repeat (first | refine zR ?_ | refine zK ?_ | refine zM ?_ | refine zB ?_ | refine zA ?_ | refine zS ?_ | refine zL ?_)
  rw [u8_in (by omega), show (48 : Int) + ((u % 10 : Nat) : Int) = ((48 + u % 10 : Nat) : Int) by omega, u8_of (show 48 + u % 10 < 256 by omega)]
  obtain ⟨c, hc⟩ : ∃ c, c = UInt8.ofNat (48 + u % 10) := ⟨_, rfl⟩
  rw [← hc]
  repeat (first | refine zR ?_ | refine zK ?_ | refine zM ?_ | refine zB ?_ | refine zA ?_ | refine zS ?_ | refine zL ?_)
  refine qf rfl (act_textR ql (b := [c]) rfl rfl rfl rfl rfl rfl rfl ?_)
  repeat (first | refine zR ?_ | refine zK ?_ | refine zM ?_ | refine zB ?_ | refine zA ?_ | refine zS ?_ | refine zL ?_)
  refine zk ql rfl rfl (by show (([c].length + d.length : Nat) : Int) ≤ 9223372036854775807; simp only [List.length_cons, List.length_nil]; omega) rfl ?_
  rw [app_t [c] d]
  repeat (first | refine zR ?_ | refine zK ?_ | refine zM ?_ | refine zB ?_ | refine zA ?_ | refine zS ?_ | refine zL ?_)
  refine qc ?_
  (repeat refine qb ?_); refine qa ?_
  repeat (first | refine zR ?_ | refine zK ?_ | refine zM ?_ | refine zB ?_ | refine zA ?_ | refine zS ?_ | refine zL ?_)
  refine zk ql rfl rfl (by omega) rfl ?_
  rw [show ((u : Int).tdiv 10) = ((u / 10 : Nat) : Int) from (Int.tdiv_eq_ediv_of_nonneg (by omega)).trans (by omega), u64_in (show (0 : Int) ≤ ((u / 10 : Nat) : Int) ∧ ((u / 10 : Nat) : Int) < 18446744073709551616 by omega)]
  repeat (first | refine zR ?_ | refine zK ?_ | refine zM ?_ | refine zB ?_ | refine zA ?_ | refine zS ?_ | refine zL ?_)
  refine qc ?_
  (repeat refine qb ?_); refine qa ?_
  repeat (first | refine zR ?_ | refine zK ?_ | refine zM ?_ | refine zB ?_ | refine zA ?_ | refine zS ?_ | refine zL ?_)
  refine qc ?_
  by_cases h10 : u < 10
  · have hL := onD_last hO h10
    rw [← hc] at hL
    rw [show (((u / 10 : Nat) : Int) == 0) = true by simp; omega]
    (repeat refine qb ?_); refine qh rfl (fun hx => ?_) (fun hx => ?_)
    rotate_left
    · cases hx
    refine zX ?_
    refine SW.wk (qy [0, 4] [] rfl rfl) ?_
    (repeat refine qb ?_); refine qa ?_
    repeat (first | refine zR ?_ | refine zK ?_ | refine zM ?_ | refine zB ?_ | refine zA ?_ | refine zS ?_ | refine zL ?_)
    refine qc ?_
    (repeat refine qb ?_); refine qh rfl (fun hy => ?_) (fun hy => ?_)
    · have hneg : n < 0 := of_decide_eq_true hy
      rw [if_pos hneg, hL] at eN
      (repeat refine qb ?_); refine qa ?_
      repeat (first | refine zR ?_ | refine zK ?_ | refine zM ?_ | refine zB ?_ | refine zA ?_ | refine zS ?_ | refine zL ?_)
      refine zk ql rfl rfl (by show (([45].length + (c :: d).length : Nat) : Int) ≤ 9223372036854775807; simp only [List.length_cons, List.length_nil]; omega) rfl ?_
      repeat (first | refine zR ?_ | refine zK ?_ | refine zM ?_ | refine zB ?_ | refine zA ?_ | refine zS ?_ | refine zL ?_)
      refine qc ?_
      (repeat refine qb ?_); refine qk ?_
      exact fin_s rfl (by rw [eN]; exact app_t [45] (c :: d))
    · have hneg : ¬ n < 0 := of_decide_eq_false hy
      rw [if_neg hneg, hL] at eN
      refine qu ?_
      (repeat refine qb ?_); refine qa ?_
      repeat (first | refine zR ?_ | refine zK ?_ | refine zM ?_ | refine zB ?_ | refine zA ?_ | refine zS ?_ | refine zL ?_)
      refine qc ?_
      (repeat refine qb ?_); refine qk ?_
      exact fin_s rfl (by rw [eN]; rfl)
  · obtain ⟨g, rfl, hO2⟩ := onD_more hO h10
    rw [← hc] at hO2
    rw [show (((u / 10 : Nat) : Int) == 0) = false by simp; omega]
    (repeat refine qb ?_); refine qh rfl (fun hx => ?_) (fun hx => ?_)
    · cases hx
    refine qu ?_
    exact ⟨_, _, Nat.lt_succ_self g, qy [0, 3, 4] [] rfl rfl, g, u / 10, _, c :: d, rfl, by omega, rfl, hO2, rfl⟩
theorem rtext1_h (v : Val) (hv : v.Fit) : Holds Tryd.prog 18 [.agg v.pv] (.p (pS (textS v))) [] := by
  have hvs := hv.s
  have HR := zQ v hvs
  have HD := digits_h v.n hv.n
  unfold reachBytes at hvs
  have eT : textS v = if !v.right then ⟨#[]⟩ else if v.kind = 1 then (if v.n = 1 then ⟨#[116, 114, 117, 101]⟩ else ⟨#[102, 97, 108, 115, 101]⟩) else if v.kind = 4 then ⟨#[64]⟩ ++ ⟨⟨zb v.n⟩⟩ else if v.kind = 5 then ⟨#[35]⟩ ++ v.s else if v.kind = 3 then quoteB v.s else ⟨⟨zb v.n⟩⟩ := rfl
  cases hr : v.right with
  | false =>
    rw [hr] at HR
    rw [eT, hr, if_pos (by rfl)]
    refine qw (ts := [2]) Tryd.func18 (by kernel_rfl) rfl rfl rfl ?_
    (repeat refine qb ?_); refine qa ?_
    repeat (first | refine zR ?_ | refine zK ?_ | refine zM ?_ | refine zB ?_ | refine zA ?_ | refine zS ?_ | refine zL ?_)
    refine qc ?_
    (repeat refine qb ?_); refine qa ?_
    repeat (first | refine zR ?_ | refine zK ?_ | refine zM ?_ | refine zB ?_ | refine zA ?_ | refine zS ?_ | refine zL ?_)
    refine qf rfl (qd rfl rfl rfl rfl (HR) rfl rfl ?_)
    repeat (first | refine zR ?_ | refine zK ?_ | refine zM ?_ | refine zB ?_ | refine zA ?_ | refine zS ?_ | refine zL ?_)
    refine qc ?_
    (repeat refine qb ?_); refine qh rfl (fun hc => ?_) (fun hc => ?_)
    · (repeat refine qb ?_); refine qa ?_
      repeat (first | refine zR ?_ | refine zK ?_ | refine zM ?_ | refine zB ?_ | refine zA ?_ | refine zS ?_ | refine zL ?_)
      refine qc ?_
      (repeat refine qb ?_); refine qk ?_
      exact fin_s rfl rfl
    · cases hc
  | true =>
    rw [hr] at HR
    rw [hr, if_neg (by simp)] at eT
    have hsz : v.kind = 3 → v.s.size ≤ 64 := fun h => right_size hr h
    have hkd := right_kind hr
    refine qw (ts := [2]) Tryd.func18 (by kernel_rfl) rfl rfl rfl ?_
    (repeat refine qb ?_); refine qa ?_
    repeat (first | refine zR ?_ | refine zK ?_ | refine zM ?_ | refine zB ?_ | refine zA ?_ | refine zS ?_ | refine zL ?_)
    refine qc ?_
    (repeat refine qb ?_); refine qa ?_
    repeat (first | refine zR ?_ | refine zK ?_ | refine zM ?_ | refine zB ?_ | refine zA ?_ | refine zS ?_ | refine zL ?_)
    refine qf rfl (qd rfl rfl rfl rfl (HR) rfl rfl ?_)
    repeat (first | refine zR ?_ | refine zK ?_ | refine zM ?_ | refine zB ?_ | refine zA ?_ | refine zS ?_ | refine zL ?_)
    refine qc ?_
    (repeat refine qb ?_); refine qh rfl (fun hc => ?_) (fun hc => ?_)
    · cases hc
    refine qu ?_
    (repeat refine qb ?_); refine qa ?_
    repeat (first | refine zR ?_ | refine zK ?_ | refine zM ?_ | refine zB ?_ | refine zA ?_ | refine zS ?_ | refine zL ?_)
    refine qc ?_
    (repeat refine qb ?_); refine qS ?_
    (repeat refine qb ?_); refine qa ?_
    repeat (first | refine zR ?_ | refine zK ?_ | refine zM ?_ | refine zB ?_ | refine zA ?_ | refine zS ?_ | refine zL ?_)
    refine qc ?_
    by_cases h1 : v.kind = 1
    · rw [show (v.kind == 1) = true by simp [h1]]
      rw [if_pos h1] at eT
      (repeat refine qb ?_); refine qh rfl (fun hx => ?_) (fun hx => ?_)
      rotate_left
      · cases hx
      (repeat refine qb ?_); refine qa ?_
      repeat (first | refine zR ?_ | refine zK ?_ | refine zM ?_ | refine zB ?_ | refine zA ?_ | refine zS ?_ | refine zL ?_)
      refine qc ?_
      by_cases hn : v.n = 1
      · rw [show (v.n == 1) = true by simp [hn]]
        rw [if_pos hn] at eT
        (repeat refine qb ?_); refine qh rfl (fun hy => ?_) (fun hy => ?_)
        rotate_left
        · cases hy
        (repeat refine qb ?_); refine qa ?_
        repeat (first | refine zR ?_ | refine zK ?_ | refine zM ?_ | refine zB ?_ | refine zA ?_ | refine zS ?_ | refine zL ?_)
        refine qc ?_
        (repeat refine qb ?_); refine qk ?_
        exact fin_s rfl eT.symm
      · rw [show (v.n == 1) = false by simp [hn]]
        rw [if_neg hn] at eT
        (repeat refine qb ?_); refine qh rfl (fun hy => ?_) (fun hy => ?_)
        · cases hy
        refine qu ?_
        (repeat refine qb ?_); refine qa ?_
        repeat (first | refine zR ?_ | refine zK ?_ | refine zM ?_ | refine zB ?_ | refine zA ?_ | refine zS ?_ | refine zL ?_)
        refine qc ?_
        (repeat refine qb ?_); refine qk ?_
        exact fin_s rfl eT.symm
    rw [show (v.kind == 1) = false by simp [h1]]
    rw [if_neg h1] at eT
    (repeat refine qb ?_); refine qh rfl (fun hx => ?_) (fun hx => ?_)
    · cases hx
    (repeat refine qb ?_); refine qa ?_
    repeat (first | refine zR ?_ | refine zK ?_ | refine zM ?_ | refine zB ?_ | refine zA ?_ | refine zS ?_ | refine zL ?_)
    refine qc ?_
    by_cases h2 : v.kind = 2
    · rw [show (v.kind == 2) = true by simp [h2]]
      rw [if_neg (by omega), if_neg (by omega), if_neg (by omega)] at eT
      (repeat refine qb ?_); refine qh rfl (fun hy => ?_) (fun hy => ?_)
      rotate_left
      · cases hy
      (repeat refine qb ?_); refine qa ?_
      repeat (first | refine zR ?_ | refine zK ?_ | refine zM ?_ | refine zB ?_ | refine zA ?_ | refine zS ?_ | refine zL ?_)
      refine qf rfl (qd rfl rfl rfl rfl (HD) rfl rfl ?_)
      repeat (first | refine zR ?_ | refine zK ?_ | refine zM ?_ | refine zB ?_ | refine zA ?_ | refine zS ?_ | refine zL ?_)
      refine qc ?_
      (repeat refine qb ?_); refine qk ?_
      exact fin_s rfl eT.symm
    rw [show (v.kind == 2) = false by simp [h2]]
    (repeat refine qb ?_); refine qh rfl (fun hy => ?_) (fun hy => ?_)
    · cases hy
    (repeat refine qb ?_); refine qa ?_
    repeat (first | refine zR ?_ | refine zK ?_ | refine zM ?_ | refine zB ?_ | refine zA ?_ | refine zS ?_ | refine zL ?_)
    refine qc ?_
    by_cases h4 : v.kind = 4
    · rw [show (v.kind == 4) = true by simp [h4]]
      rw [if_pos h4] at eT
      (repeat refine qb ?_); refine qh rfl (fun hz => ?_) (fun hz => ?_)
      rotate_left
      · cases hz
      (repeat refine qb ?_); refine qa ?_
      repeat (first | refine zR ?_ | refine zK ?_ | refine zM ?_ | refine zB ?_ | refine zA ?_ | refine zS ?_ | refine zL ?_)
      refine qf rfl (qd rfl rfl rfl rfl (HD) rfl rfl ?_)
      repeat (first | refine zR ?_ | refine zK ?_ | refine zM ?_ | refine zB ?_ | refine zA ?_ | refine zS ?_ | refine zL ?_)
      refine zk ql rfl rfl (by show (([64].length + (zb v.n).length : Nat) : Int) ≤ 9223372036854775807; have := itoaF_len v.n; simp only [List.length_cons, List.length_nil]; omega) rfl ?_
      repeat (first | refine zR ?_ | refine zK ?_ | refine zM ?_ | refine zB ?_ | refine zA ?_ | refine zS ?_ | refine zL ?_)
      refine qc ?_
      (repeat refine qb ?_); refine qk ?_
      exact fin_s rfl eT.symm
    rw [show (v.kind == 4) = false by simp [h4]]
    rw [if_neg h4] at eT
    (repeat refine qb ?_); refine qh rfl (fun hz => ?_) (fun hz => ?_)
    · cases hz
    (repeat refine qb ?_); refine qa ?_
    repeat (first | refine zR ?_ | refine zK ?_ | refine zM ?_ | refine zB ?_ | refine zA ?_ | refine zS ?_ | refine zL ?_)
    refine qc ?_
    by_cases h5 : v.kind = 5
    · rw [show (v.kind == 5) = true by simp [h5]]
      rw [if_pos h5] at eT
      (repeat refine qb ?_); refine qh rfl (fun hw => ?_) (fun hw => ?_)
      rotate_left
      · cases hw
      (repeat refine qb ?_); refine qa ?_
      repeat (first | refine zR ?_ | refine zK ?_ | refine zM ?_ | refine zB ?_ | refine zA ?_ | refine zS ?_ | refine zL ?_)
      refine zk ql rfl rfl (by show (([35].length + v.s.size : Nat) : Int) ≤ 9223372036854775807; simp only [List.length_cons, List.length_nil]; omega) rfl ?_
      repeat (first | refine zR ?_ | refine zK ?_ | refine zM ?_ | refine zB ?_ | refine zA ?_ | refine zS ?_ | refine zL ?_)
      refine qc ?_
      (repeat refine qb ?_); refine qk ?_
      exact fin_s rfl eT.symm
    rw [show (v.kind == 5) = false by simp [h5]]
    have h3 : v.kind = 3 := by omega
    rw [if_neg h5, if_pos h3] at eT
    (repeat refine qb ?_); refine qh rfl (fun hw => ?_) (fun hw => ?_)
    · cases hw
    refine qu ?_
    have HQ := rquote_h v.s.data.toList (by have := hsz h3; show v.s.size ≤ _; omega)
    (repeat refine qb ?_); refine qa ?_
    repeat (first | refine zR ?_ | refine zK ?_ | refine zM ?_ | refine zB ?_ | refine zA ?_ | refine zS ?_ | refine zL ?_)
    refine qf rfl (qd rfl rfl rfl rfl (HQ) rfl rfl ?_)
    repeat (first | refine zR ?_ | refine zK ?_ | refine zM ?_ | refine zB ?_ | refine zA ?_ | refine zS ?_ | refine zL ?_)
    refine qc ?_
    (repeat refine qb ?_); refine qk ?_
    exact fin_s rfl eT.symm
end Go.Proofs.YtghjfficeglmoaaDoor
namespace Go.Proofs.YtghjfficeglmoaaDoor
set_option linter.unusedVariables false
set_option linter.unusedSimpArgs false
open Go.RowKit
set_option maxHeartbeats 4000000
theorem u8_mod (u : Nat) : IntKind.u8.wrap (u : Int) = ((u % 256 : Nat) : Int) := by
  simp [IntKind.wrap, IntKind.bits, IntKind.signed]
theorem rpnum_h (b : Bs) (hb : b.length ≤ 1000) (n : Int) (hn : R64 n) : zh Tryd.prog 35 [.row 1000000, .p (pI n)] (rowB 1000000 b) (.row 0) (rowB 0 (b ++ putN n)) := by
  have hz := zig_lt hn
  obtain ⟨x, hx⟩ : ∃ x, x = zig n := ⟨_, rfl⟩
  have eP : putN n = putU 10 x := by rw [hx]; rfl
  rw [eP]
  refine qz (ts := [4]) Tryd.func35 (by kernel_rfl) rfl rfl rfl ?_
  (repeat refine qb ?_); refine qa ?_
  repeat (first | refine zR ?_ | refine zK ?_ | refine zM ?_ | refine zB ?_ | refine zA ?_ | refine zS ?_ | refine zL ?_)
  refine qc ?_
  (repeat refine qb ?_); refine qa ?_
  repeat (first | refine zR ?_ | refine zK ?_ | refine zM ?_ | refine zB ?_ | refine zA ?_ | refine zS ?_ | refine zL ?_)
  refine zk ql rfl rfl (by omega) rfl ?_
  rw [zig_u hn]
  repeat (first | refine zR ?_ | refine zK ?_ | refine zM ?_ | refine zB ?_ | refine zA ?_ | refine zS ?_ | refine zL ?_)
  refine qc ?_
  (repeat refine qb ?_); refine qa ?_
  repeat (first | refine zR ?_ | refine zK ?_ | refine zM ?_ | refine zB ?_ | refine zA ?_ | refine zS ?_ | refine zL ?_)
  refine qc ?_
  (repeat refine qb ?_)
  refine SW.mono (Q := fun e s => e = .normal ∧ Wk s ⟨28, [(0, .row 0), (5, .p (.v (.int .u64 (x : Int))))], rowB 0 b⟩) ?_ ?_
  · (repeat refine qb ?_); refine qh rfl (fun hc => ?_) (fun hc => ?_)
    · have hneg : n < 0 := of_decide_eq_true hc
      rw [if_pos hneg, zig_neg hneg hn]
      (repeat refine qb ?_); refine qa ?_
      repeat (first | refine zR ?_ | refine zK ?_ | refine zM ?_ | refine zB ?_ | refine zA ?_ | refine zS ?_ | refine zL ?_)
      rw [not_u64s (by omega), show 18446744073709551615 - (18446744073709551615 - zig n) = x by omega]
      repeat (first | refine zR ?_ | refine zK ?_ | refine zM ?_ | refine zB ?_ | refine zA ?_ | refine zS ?_ | refine zL ?_)
      refine qc ?_
      exact ⟨rfl, qy [0, 5] [(1000000, 0)] rfl rfl⟩
    · have hneg : ¬ n < 0 := of_decide_eq_false hc
      rw [if_neg hneg, zig_pos hneg, ← hx]
      refine qu ?_
      exact ⟨rfl, qy [0, 5] [(1000000, 0)] rfl rfl⟩
  rintro e s ⟨rfl, hw⟩
  refine SW.wk hw ?_
  (repeat refine qb ?_); refine qS ?_
  refine zV (fun m s => ∃ (k u : Nat) (uu : Int) (d : Bs), m = 10 - k ∧ uu = u ∧ onP x k u d ∧ s = ⟨28, [(0, .row 0), (5, .p (.v (.int .u64 uu)))], rowB 0 (b ++ d)⟩) 10 ⟨0, x, x, [], rfl, rfl, onP_0 (by omega), by rw [List.append_nil]⟩ ?_
  rintro m s ⟨k, u, _, d, rfl, rfl, hO, rfl⟩
  have hd := hO.1
  have hk9 := hO.2.1
  have hu := onP_u hO
  (repeat refine qb ?_); refine qa ?_
  repeat (first | refine zR ?_ | refine zK ?_ | refine zM ?_ | refine zB ?_ | refine zA ?_ | refine zS ?_ | refine zL ?_)
  refine qc ?_
  by_cases h7 : 128 ≤ u
  · rw [show decide ((u : Int) ≥ 128) = true by simp; omega]
    (repeat refine qb ?_); refine qh rfl (fun hq => ?_) (fun hq => ?_)
    rotate_left
    · cases hq
    refine qu ?_
    (repeat refine qb ?_); refine qS ?_
    (repeat refine qb ?_); refine qa ?_
    repeat (first | refine zR ?_ | refine zK ?_ | refine zM ?_ | refine zB ?_ | refine zA ?_ | refine zS ?_ | refine zL ?_)
    rw [u8_mod u]
    repeat (first | refine zR ?_ | refine zK ?_ | refine zM ?_ | refine zB ?_ | refine zA ?_ | refine zS ?_ | refine zL ?_)
    rw [or128b (Nat.mod_lt _ (by omega)), show u % 256 % 128 = u % 128 by omega, u8_of (show u % 128 + 128 < 256 by omega)]
    repeat (first | refine zR ?_ | refine zK ?_ | refine zM ?_ | refine zB ?_ | refine zA ?_ | refine zS ?_ | refine zL ?_)
    refine qf rfl (zp ql rfl rfl rfl rfl rfl rfl rfl rfl rfl rfl rfl rfl rfl rfl rfl rfl (by simp only [zg, List.length_append, List.length_cons, List.length_nil]; unfold reachBytes; omega) (by simp only [zg, List.length_append, List.length_cons, List.length_nil]; omega) ?_)
    repeat (first | refine zR ?_ | refine zK ?_ | refine zM ?_ | refine zB ?_ | refine zA ?_ | refine zS ?_ | refine zL ?_)
    refine qc ?_
    (repeat refine qb ?_); refine qa ?_
    repeat (first | refine zR ?_ | refine zK ?_ | refine zM ?_ | refine zB ?_ | refine zA ?_ | refine zS ?_ | refine zL ?_)
    refine zk ql rfl rfl (by omega) rfl ?_
    rw [shr_7]
    repeat (first | refine zR ?_ | refine zK ?_ | refine zM ?_ | refine zB ?_ | refine zA ?_ | refine zS ?_ | refine zL ?_)
    refine qc ?_
    refine ⟨_, _, ?_, qy [0, 5] [(20, 0)] rfl rfl, k + 1, u / 128, _, d ++ [UInt8.ofNat (u % 128 + 128)], rfl, rfl, onP_more hO h7, ?_⟩
    rotate_left
    · have e := bR_snoc b d (UInt8.ofNat (u % 128 + 128))
      unfold rowB
      rw [e]; rfl
    omega
  · rw [show decide ((u : Int) ≥ 128) = false by simp; omega]
    (repeat refine qb ?_); refine qh rfl (fun hq => ?_) (fun hq => ?_)
    · cases hq
    refine zX ?_
    have hL := onP_last hO (by omega)
    (repeat refine qb ?_); refine qa ?_
    repeat (first | refine zR ?_ | refine zK ?_ | refine zM ?_ | refine zB ?_ | refine zA ?_ | refine zS ?_ | refine zL ?_)
    rw [u8_in (by omega), u8_of (show u < 256 by omega)]
    repeat (first | refine zR ?_ | refine zK ?_ | refine zM ?_ | refine zB ?_ | refine zA ?_ | refine zS ?_ | refine zL ?_)
    refine qf rfl (zp ql rfl rfl rfl rfl rfl rfl rfl rfl rfl rfl rfl rfl rfl rfl rfl rfl (by simp only [zg, List.length_append, List.length_cons, List.length_nil]; unfold reachBytes; omega) (by simp only [zg, List.length_append, List.length_cons, List.length_nil]; omega) ?_)
    repeat (first | refine zR ?_ | refine zK ?_ | refine zM ?_ | refine zB ?_ | refine zA ?_ | refine zS ?_ | refine zL ?_)
    refine qc ?_
    (repeat refine qb ?_); refine qk ?_
    unfold rowB
    rw [hL, bR_snoc]
    exact ⟨Or.inr rfl, _, _, [(27, 0)], Wk.refl _, rfl, rfl, rfl, rfl⟩
theorem rptext_h (b : Bs) (hb : b.length ≤ 1000) (l : Bs) (hl : l.length ≤ 100000) : zh Tryd.prog 36 [.row 1000000, .p (pL l)] (rowB 1000000 b) (.row 0) (rowB 0 (b ++ putN (l.length : Int) ++ l)) := by
  have HN := rpnum_h b hb (l.length : Int) ⟨by omega, by omega⟩
  have hp := jg (l.length : Int)
  refine qz (ts := [4]) Tryd.func36 (by kernel_rfl) rfl rfl rfl ?_
  (repeat refine qb ?_); refine qa ?_
  repeat (first | refine zR ?_ | refine zK ?_ | refine zM ?_ | refine zB ?_ | refine zA ?_ | refine zS ?_ | refine zL ?_)
  refine qc ?_
  (repeat refine qb ?_); refine qa ?_
  repeat (first | refine zR ?_ | refine zK ?_ | refine zM ?_ | refine zB ?_ | refine zA ?_ | refine zS ?_ | refine zL ?_)
  rw [show (⟨⟨l⟩⟩ : ByteArray).size = l.length from rfl]
  refine qf rfl (qo [(1000000, 1000000)] rfl rfl rfl rfl rfl rfl (HN) rfl rfl rfl ?_)
  repeat (first | refine zR ?_ | refine zK ?_ | refine zM ?_ | refine zB ?_ | refine zA ?_ | refine zS ?_ | refine zL ?_)
  repeat (first | refine zR ?_ | refine zK ?_ | refine zM ?_ | refine zB ?_ | refine zA ?_ | refine zS ?_ | refine zL ?_)
  refine qf rfl (act_append_str ql rfl rfl rfl rfl rfl rfl rfl rfl rfl (by kernel_rfl) rfl rfl rfl rfl rfl (by simp only [zg, List.length_append]; omega) ?_)
  repeat (first | refine zR ?_ | refine zK ?_ | refine zM ?_ | refine zB ?_ | refine zA ?_ | refine zS ?_ | refine zL ?_)
  refine qc ?_
  (repeat refine qb ?_); refine qk ?_
  unfold rowB
  rw [bR_app (b ++ putN (l.length : Int))]
  exact ⟨Or.inr rfl, _, _, [(10, 0)], Wk.refl _, rfl, rfl, rfl, rfl⟩
theorem rvput_h (b : Bs) (hb : b.length ≤ 900) (v : Val) (hv : v.Fit) (hs : v.s.size ≤ 100000) (hk : R64 v.kind) : zh Tryd.prog 13 [.row 1000000, .p (.agg v.pv)] (rowB 1000000 b) (.row 0) (rowB 0 (b ++ putV v)) := by
  have HN := rpnum_h b (by omega) v.kind hk
  have hp := jg v.kind
  obtain ⟨k, n, ⟨⟨s⟩⟩⟩ := v
  have H2 := rptext_h (b ++ putN k) (by rw [List.length_append]; simp only at hp; omega) s hs
  have H3 := rpnum_h (b ++ putN k) (by rw [List.length_append]; simp only at hp; omega) n ⟨hv.n.1, hv.n.2⟩
  simp only at HN
  refine qz (ts := [4]) Tryd.func13 (by kernel_rfl) rfl rfl rfl ?_
  (repeat refine qb ?_); refine qa ?_
  repeat (first | refine zR ?_ | refine zK ?_ | refine zM ?_ | refine zB ?_ | refine zA ?_ | refine zS ?_ | refine zL ?_)
  refine qc ?_
  (repeat refine qb ?_); refine qa ?_
  repeat (first | refine zR ?_ | refine zK ?_ | refine zM ?_ | refine zB ?_ | refine zA ?_ | refine zS ?_ | refine zL ?_)
  refine qf rfl (qo [(1000000, 1000000)] rfl rfl rfl rfl rfl rfl (HN) rfl rfl rfl ?_)
  repeat (first | refine zR ?_ | refine zK ?_ | refine zM ?_ | refine zB ?_ | refine zA ?_ | refine zS ?_ | refine zL ?_)
  repeat (first | refine zR ?_ | refine zK ?_ | refine zM ?_ | refine zB ?_ | refine zA ?_ | refine zS ?_ | refine zL ?_)
  refine qc ?_
  (repeat refine qb ?_)
  refine SW.mono (Q := fun e st => e = .normal ∧ Wk st ⟨25, [(0, .row 9000), (3, .ptr 3 0), (16, .p (pB (decide (k = 3 ∨ k = 5))))], rowB 9000 (b ++ putN k) ++ [(3, .cells [.p (pI k), .p (pI n), .p (pL s)])]⟩) ?_ ?_
  · (repeat refine qb ?_); refine qa ?_
    repeat (first | refine zR ?_ | refine zK ?_ | refine zM ?_ | refine zB ?_ | refine zA ?_ | refine zS ?_ | refine zL ?_)
    by_cases h3 : k = 3
    · subst h3
      repeat (first | refine zR ?_ | refine zK ?_ | refine zM ?_ | refine zB ?_ | refine zA ?_ | refine zS ?_ | refine zL ?_)
      refine qc ?_
      exact ⟨rfl, qy [0, 3, 16] [(9000, 9000), (3, 3)] rfl rfl⟩
    · rw [show (k == 3) = false by simp [h3]]
      repeat (first | refine zR ?_ | refine zK ?_ | refine zM ?_ | refine zB ?_ | refine zA ?_ | refine zS ?_ | refine zL ?_)
      by_cases h5 : k = 5
      · subst h5
        repeat (first | refine zR ?_ | refine zK ?_ | refine zM ?_ | refine zB ?_ | refine zA ?_ | refine zS ?_ | refine zL ?_)
        refine qc ?_
        exact ⟨rfl, qy [0, 3, 16] [(9000, 9000), (3, 3)] rfl rfl⟩
      · rw [show (k == 5) = false by simp [h5], show decide (k = 3 ∨ k = 5) = false from decide_eq_false (by omega)]
        repeat (first | refine zR ?_ | refine zK ?_ | refine zM ?_ | refine zB ?_ | refine zA ?_ | refine zS ?_ | refine zL ?_)
        refine qc ?_
        exact ⟨rfl, qy [0, 3, 16] [(9000, 9000), (3, 3)] rfl rfl⟩
  rintro e st ⟨rfl, hw⟩
  refine SW.wk hw ?_
  by_cases h : k = 3 ∨ k = 5
  · have e : putV ⟨k, n, ⟨⟨s⟩⟩⟩ = putN k ++ (putN (s.length : Int) ++ s) := by unfold putV; rw [if_pos h]; rfl
    rw [e, show decide (k = 3 ∨ k = 5) = true from decide_eq_true h, ← List.append_assoc, ← List.append_assoc]
    (repeat refine qb ?_); refine qh rfl (fun hc => ?_) (fun hc => ?_)
    rotate_left
    · cases hc
    (repeat refine qb ?_); refine qa ?_
    repeat (first | refine zR ?_ | refine zK ?_ | refine zM ?_ | refine zB ?_ | refine zA ?_ | refine zS ?_ | refine zL ?_)
    refine qf rfl (qo [(9000, 1000000)] rfl rfl rfl rfl rfl rfl (H2) rfl rfl rfl ?_)
    repeat (first | refine zR ?_ | refine zK ?_ | refine zM ?_ | refine zB ?_ | refine zA ?_ | refine zS ?_ | refine zL ?_)
    repeat (first | refine zR ?_ | refine zK ?_ | refine zM ?_ | refine zB ?_ | refine zA ?_ | refine zS ?_ | refine zL ?_)
    refine qc ?_
    (repeat refine qb ?_); refine qk ?_
    exact ⟨Or.inr rfl, _, _, [(21000, 0)], Wk.refl _, rfl, rfl, rfl, rfl⟩
  · have e : putV ⟨k, n, ⟨⟨s⟩⟩⟩ = putN k ++ putN n := by unfold putV; rw [if_neg h]
    rw [e, show decide (k = 3 ∨ k = 5) = false from decide_eq_false h, ← List.append_assoc]
    (repeat refine qb ?_); refine qh rfl (fun hc => ?_) (fun hc => ?_)
    · cases hc
    refine qu ?_
    (repeat refine qb ?_); refine qa ?_
    repeat (first | refine zR ?_ | refine zK ?_ | refine zM ?_ | refine zB ?_ | refine zA ?_ | refine zS ?_ | refine zL ?_)
    refine qf rfl (qo [(9000, 1000000)] rfl rfl rfl rfl rfl rfl (H3) rfl rfl rfl ?_)
    repeat (first | refine zR ?_ | refine zK ?_ | refine zM ?_ | refine zB ?_ | refine zA ?_ | refine zS ?_ | refine zL ?_)
    repeat (first | refine zR ?_ | refine zK ?_ | refine zM ?_ | refine zB ?_ | refine zA ?_ | refine zS ?_ | refine zL ?_)
    refine qc ?_
    (repeat refine qb ?_); refine qk ?_
    exact ⟨Or.inr rfl, _, _, [(25000, 0)], Wk.refl _, rfl, rfl, rfl, rfl⟩
end Go.Proofs.YtghjfficeglmoaaDoor
namespace Go.Proofs.YtghjfficeglmoaaDoor
set_option linter.unusedVariables false
set_option linter.unusedSimpArgs false
open Go.RowKit
set_option maxHeartbeats 4000000
abbrev zVp : List PV := [pI 0, pI 0, pS ⟨#[]⟩]
theorem set_rep {α : Type} (A : List α) (z x : α) (n : Nat) : (A ++ List.replicate (n + 1) z).set A.length x = (A ++ [x]) ++ List.replicate n z := by
  rw [List.replicate_succ, List.set_append]
  simp
theorem roomy_h (l : List Val) (hl : l.length ≤ 1000) (v : Val) : Holds Tryd.prog 9 [zU l, .agg v.pv] (.row 0) [(0, .row 23 3 ((l ++ List.replicate 80 v).map Val.pv))] := by
  have lm : (l.map Val.pv).length = l.length := by simp
  refine qw (ts := [4]) Tryd.func9 (by kernel_rfl) rfl rfl rfl ?_
  (repeat refine qb ?_); refine qa ?_
  repeat (first | refine zR ?_ | refine zK ?_ | refine zM ?_ | refine zB ?_ | refine zA ?_ | refine zS ?_ | refine zL ?_)
  refine qc ?_
  (repeat refine qb ?_); refine qa ?_
  repeat (first | refine zR ?_ | refine zK ?_ | refine zM ?_ | refine zB ?_ | refine zA ?_ | refine zS ?_ | refine zL ?_)
  rw [lm, show IntKind.i64.wrap ((l.length : Int) + 80) = ((l.length + 80 : Nat) : Int) from IntWalk.i64_in _ (by omega)]
  refine qf rfl (act_makeSlice ql rfl rfl rfl rfl rfl rfl rfl rfl (N := l.length + 80) rfl rfl rfl rfl (by unfold reachBytes; omega) (by show 32 * (l.length + 80) ≤ _; omega) ?_)
  repeat (first | refine zR ?_ | refine zK ?_ | refine zM ?_ | refine zB ?_ | refine zA ?_ | refine zS ?_ | refine zL ?_)
  refine qc ?_
  (repeat refine qb ?_); refine qa ?_
  repeat (first | refine zR ?_ | refine zK ?_ | refine zM ?_ | refine zB ?_ | refine zA ?_ | refine zS ?_ | refine zL ?_)
  refine qf rfl (act_copy ql rfl rfl rfl rfl rfl rfl rfl rfl rfl rfl rfl rfl (by rw [lm, List.length_replicate]; omega) (by rw [List.length_replicate]; omega) rfl ?_)
  repeat (first | refine zR ?_ | refine zK ?_ | refine zM ?_ | refine zB ?_ | refine zA ?_ | refine zS ?_ | refine zL ?_)
  refine qc ?_
  (repeat refine qb ?_); refine qa ?_
  repeat (first | refine zR ?_ | refine zK ?_ | refine zM ?_ | refine zB ?_ | refine zA ?_ | refine zS ?_ | refine zL ?_)
  refine qc ?_
  (repeat refine qb ?_); refine qS ?_
  have e0 : l.map Val.pv ++ (List.replicate (l.length + 80) zVp).drop (l.map Val.pv).length = (l ++ List.replicate 0 v).map Val.pv ++ List.replicate (80 - 0) zVp := by
    rw [lm, List.drop_replicate]; simp
  refine SW.wk (qy [3, 5, 6] [(3, 3), (10, 0)] rfl rfl) ?_
  refine zV (fun m s => ∃ (k : Nat) (kk : Int), k ≤ 80 ∧ m = 80 - k ∧ kk = ((l.length + k : Nat) : Int) ∧ s = ⟨27, [(3, .ptr 3 0), (5, .row 0), (6, .p (pI kk))], [(3, .cells (v.pv.map .p)), (0, .row 23 3 ((l ++ List.replicate k v).map Val.pv ++ List.replicate (80 - k) zVp))]⟩) 80 ⟨0, ((l.map Val.pv).length : Int), by omega, rfl, by rw [lm]; rfl, by rw [← e0]; rfl⟩ ?_
  rintro m s ⟨k, _, hk, rfl, rfl, rfl⟩
  have lr : ((l ++ List.replicate k v).map Val.pv ++ List.replicate (80 - k) zVp).length = l.length + 80 := by simp; omega
  (repeat refine qb ?_); refine qa ?_
  repeat (first | refine zR ?_ | refine zK ?_ | refine zM ?_ | refine zB ?_ | refine zA ?_ | refine zS ?_ | refine zL ?_)
  refine qc ?_
  rw [lr]
  by_cases hlt : k < 80
  rotate_left
  · have hk : k = 80 := by omega
    subst hk
    rw [show decide (((l.length + 80 : Nat) : Int) < ((l.length + 80 : Nat) : Int)) = false by simp]
    (repeat refine qb ?_); refine qh rfl (fun hc => ?_) (fun hc => ?_)
    · cases hc
    refine zX ?_
    (repeat refine qb ?_); refine qa ?_
    repeat (first | refine zR ?_ | refine zK ?_ | refine zM ?_ | refine zB ?_ | refine zA ?_ | refine zS ?_ | refine zL ?_)
    refine qc ?_
    (repeat refine qb ?_); refine qk ?_
    rw [Nat.sub_self, List.replicate_zero, List.append_nil]
    exact ⟨Or.inr rfl, _, _, [(0, 0)], Wk.refl _, rfl, rfl, rfl, rfl⟩
  rw [show decide (((l.length + k : Nat) : Int) < ((l.length + 80 : Nat) : Int)) = true by simp; omega]
  (repeat refine qb ?_); refine qh rfl (fun hc => ?_) (fun hc => ?_)
  rotate_left
  · cases hc
  refine qu ?_
  (repeat refine qb ?_); refine qS ?_
  (repeat refine qb ?_); refine qa ?_
  repeat (first | refine zR ?_ | refine zK ?_ | refine zM ?_ | refine zB ?_ | refine zA ?_ | refine zS ?_ | refine zL ?_)
  refine zk ql rfl rfl (by rw [lr]; omega) rfl ?_
  refine qf rfl (act_store_elem ql rfl rfl rfl rfl rfl (by rw [lr, Int.toNat_natCast]; omega) rfl rfl rfl rfl rfl ?_)
  refine qc ?_
  (repeat refine qb ?_); refine qa ?_
  repeat (first | refine zR ?_ | refine zK ?_ | refine zM ?_ | refine zB ?_ | refine zA ?_ | refine zS ?_ | refine zL ?_)
  repeat (first | refine zR ?_ | refine zK ?_ | refine zM ?_ | refine zB ?_ | refine zA ?_ | refine zS ?_ | refine zL ?_)
  refine qc ?_
  obtain ⟨n, hn⟩ : ∃ n, 80 - k = n + 1 := ⟨79 - k, by omega⟩
  refine ⟨_, _, ?_, qy [3, 5, 6] [(3, 3), (0, 0)] rfl rfl, k + 1, _, hlt, rfl, zP (k := l.length + k) (n := l.length + 80) (by omega) (by omega), ?_⟩
  · omega
  · have hA : ((l ++ List.replicate k v).map Val.pv).length = l.length + k := by simp
    have hg : ((l ++ List.replicate k v).map Val.pv ++ List.replicate (n + 1) zVp).getD (l.length + k) [] = zVp := by
      rw [List.getD_eq_getElem?_getD, List.getElem?_append_right (by omega), hA]; simp
    have e1 : ((l ++ List.replicate k v).map Val.pv ++ List.replicate (80 - k) zVp).set (Int.toNat ((l.length + k : Nat) : Int)) ((((l ++ List.replicate k v).map Val.pv ++ List.replicate (80 - k) zVp).getD (Int.toNat ((l.length + k : Nat) : Int)) []).take 0 ++ v.pv ++ (((l ++ List.replicate k v).map Val.pv ++ List.replicate (80 - k) zVp).getD (Int.toNat ((l.length + k : Nat) : Int)) []).drop (0 + v.pv.length)) = (l ++ List.replicate (k + 1) v).map Val.pv ++ List.replicate (80 - (k + 1)) zVp := by
      rw [Int.toNat_natCast, hn, hg, ← hA, show 80 - (k + 1) = n by omega]
      rw [show List.take 0 zVp ++ v.pv ++ List.drop (0 + v.pv.length) zVp = v.pv from rfl, set_rep]
      rw [List.replicate_succ', ← List.append_assoc, List.map_append (l₂ := [v])]; rfl
    rw [← e1]; rfl
theorem sameVV_h (l : List Val) (hl : l.length ≤ 100000) : Holds Tryd.prog 43 [zU l, zU l] (.p (pB true)) [] := by
  have lm : (l.map Val.pv).length = l.length := by simp
  refine qw (ts := [4]) Tryd.func43 (by kernel_rfl) rfl rfl rfl ?_
  (repeat refine qb ?_); refine qa ?_
  repeat (first | refine zR ?_ | refine zK ?_ | refine zM ?_ | refine zB ?_ | refine zA ?_ | refine zS ?_ | refine zL ?_)
  refine qc ?_
  (repeat refine qb ?_); refine qa ?_
  repeat (first | refine zR ?_ | refine zK ?_ | refine zM ?_ | refine zB ?_ | refine zA ?_ | refine zS ?_ | refine zL ?_)
  rw [show (((l.map Val.pv).length : Int) != ((l.map Val.pv).length : Int)) = false by simp]
  refine qc ?_
  (repeat refine qb ?_); refine qh rfl (fun hc => ?_) (fun hc => ?_)
  · cases hc
  refine qu ?_
  (repeat refine qb ?_); refine qa ?_
  repeat (first | refine zR ?_ | refine zK ?_ | refine zM ?_ | refine zB ?_ | refine zA ?_ | refine zS ?_ | refine zL ?_)
  refine qc ?_
  (repeat refine qb ?_); refine qS ?_
  refine SW.wk (qy [0, 1, 5] [] rfl rfl) ?_
  refine zV (fun m s => ∃ (k : Nat) (kk : Int), k ≤ l.length ∧ m = l.length - k ∧ kk = k ∧ s = ⟨26, [(0, .p (zU l)), (1, .p (zU l)), (5, .p (pI kk))], []⟩) l.length ⟨0, 0, Nat.zero_le _, rfl, rfl, rfl⟩ ?_
  rintro m s ⟨k, _, hk, rfl, rfl, rfl⟩
  (repeat refine qb ?_); refine qa ?_
  repeat (first | refine zR ?_ | refine zK ?_ | refine zM ?_ | refine zB ?_ | refine zA ?_ | refine zS ?_ | refine zL ?_)
  rw [lm]
  refine qc ?_
  by_cases hlt : k < l.length
  · rw [show decide ((k : Int) < (l.length : Int)) = true by simp; omega]
    (repeat refine qb ?_); refine qh rfl (fun hq => ?_) (fun hq => ?_)
    rotate_left
    · cases hq
    refine qu ?_
    (repeat refine qb ?_); refine qS ?_
    (repeat refine qb ?_); refine qv [] [(0, true), (1, true), (2, true), (3, true), (4, true), (5, true), (6, true), (7, true), (8, true)] (by kernel_rfl) (by kernel_rfl) (by kernel_rfl) ?_
    repeat (first | refine yR ?_ | refine yK ?_ | refine yM ?_ | refine yB ?_ | refine yA ?_ | refine yS ?_ | refine yL ?_)
    refine qY ql rfl rfl rfl (by rw [lm]; omega) rfl ?_
    rw [zY hlt]
    repeat (first | refine yR ?_ | refine yK ?_ | refine yM ?_ | refine yB ?_ | refine yA ?_ | refine yS ?_ | refine yL ?_)
    refine qY ql rfl rfl rfl (by rw [lm]; omega) rfl ?_
    rw [zY hlt]
    repeat (first | refine yR ?_ | refine yK ?_ | refine yM ?_ | refine yB ?_ | refine yA ?_ | refine yS ?_ | refine yL ?_)
    refine qY ql rfl rfl (opR_neV l[k] l[k] rfl rfl rfl rfl) rfl rfl ?_
    rw [sameV_refl]
    repeat (first | refine yR ?_ | refine yK ?_ | refine yM ?_ | refine yB ?_ | refine yA ?_ | refine yS ?_ | refine yL ?_)
    refine qF ?_
    (repeat refine qb ?_); refine qh rfl (fun hx => ?_) (fun hx => ?_)
    · cases hx
    refine qu ?_
    (repeat refine qb ?_); refine qa ?_
    repeat (first | refine zR ?_ | refine zK ?_ | refine zM ?_ | refine zB ?_ | refine zA ?_ | refine zS ?_ | refine zL ?_)
    refine qc ?_
    refine ⟨_, _, ?_, qy [0, 1, 5] [] rfl rfl, k + 1, _, hlt, rfl, zP hlt (by omega), rfl⟩
    omega
  · rw [show decide ((k : Int) < (l.length : Int)) = false by simp; omega]
    (repeat refine qb ?_); refine qh rfl (fun hq => ?_) (fun hq => ?_)
    · cases hq
    refine zX ?_
    (repeat refine qb ?_); refine qa ?_
    repeat (first | refine zR ?_ | refine zK ?_ | refine zM ?_ | refine zB ?_ | refine zA ?_ | refine zS ?_ | refine zL ?_)
    refine qc ?_
    (repeat refine qb ?_); refine qk ?_
    exact jd rfl rfl
theorem intact_h (l : List Val) (hl : l.length ≤ 1000) (v : Val) : Holds Tryd.prog 23 [zU (l ++ List.replicate 80 v), zU l, .agg v.pv] (.p (pB true)) [] := by
  have lm : (l.map Val.pv).length = l.length := by simp
  have lf : ((l ++ List.replicate 80 v).map Val.pv).length = l.length + 80 := by simp
  have HS := sameVV_h l (by omega)
  refine qw (ts := [6]) Tryd.func23 (by kernel_rfl) rfl rfl rfl ?_
  (repeat refine qb ?_); refine qa ?_
  repeat (first | refine zR ?_ | refine zK ?_ | refine zM ?_ | refine zB ?_ | refine zA ?_ | refine zS ?_ | refine zL ?_)
  refine qc ?_
  (repeat refine qb ?_); refine qa ?_
  repeat (first | refine zR ?_ | refine zK ?_ | refine zM ?_ | refine zB ?_ | refine zA ?_ | refine zS ?_ | refine zL ?_)
  rw [lf, lm, show IntKind.i64.wrap ((l.length : Int) + 80) = ((l.length + 80 : Nat) : Int) from IntWalk.i64_in _ (by omega), show ((((l.length + 80 : Nat) : Int)) != ((l.length + 80 : Nat) : Int)) = false by simp]
  repeat (first | refine zR ?_ | refine zK ?_ | refine zM ?_ | refine zB ?_ | refine zA ?_ | refine zS ?_ | refine zL ?_)
  refine zk ql rfl rfl (by rw [lf, lm]; omega) rfl ?_
  rw [lm, show (((l ++ List.replicate 80 v).map Val.pv).drop (Int.toNat 0)).take (Int.toNat (l.length : Int) - Int.toNat 0) = l.map Val.pv from by rw [List.map_append]; simp]
  repeat (first | refine zR ?_ | refine zK ?_ | refine zM ?_ | refine zB ?_ | refine zA ?_ | refine zS ?_ | refine zL ?_)
  refine qf rfl (qd rfl rfl rfl rfl (HS) rfl rfl ?_)
  repeat (first | refine zR ?_ | refine zK ?_ | refine zM ?_ | refine zB ?_ | refine zA ?_ | refine zS ?_ | refine zL ?_)
  repeat (first | refine zR ?_ | refine zK ?_ | refine zM ?_ | refine zB ?_ | refine zA ?_ | refine zS ?_ | refine zL ?_)
  refine qc ?_
  (repeat refine qb ?_); refine qh rfl (fun hc => ?_) (fun hc => ?_)
  · cases hc
  refine qu ?_
  (repeat refine qb ?_); refine qa ?_
  repeat (first | refine zR ?_ | refine zK ?_ | refine zM ?_ | refine zB ?_ | refine zA ?_ | refine zS ?_ | refine zL ?_)
  refine qc ?_
  (repeat refine qb ?_); refine qS ?_
  rw [lm]
  refine SW.wk (qy [0, 5, 7] [(5, 5)] rfl rfl) ?_
  refine zV (fun m s => ∃ (k : Nat) (kk : Int), k ≤ 80 ∧ m = 80 - k ∧ kk = ((l.length + k : Nat) : Int) ∧ s = ⟨37, [(0, .p (zU (l ++ List.replicate 80 v))), (5, .ptr 5 0), (7, .p (pI kk))], [(5, .cells (v.pv.map .p))]⟩) 80 ⟨0, _, by omega, rfl, rfl, rfl⟩ ?_
  rintro m s ⟨k, _, hk, rfl, rfl, rfl⟩
  (repeat refine qb ?_); refine qa ?_
  repeat (first | refine zR ?_ | refine zK ?_ | refine zM ?_ | refine zB ?_ | refine zA ?_ | refine zS ?_ | refine zL ?_)
  rw [lf]
  refine qc ?_
  by_cases hlt : k < 80
  · rw [show decide (((l.length + k : Nat) : Int) < ((l.length + 80 : Nat) : Int)) = true by simp; omega]
    (repeat refine qb ?_); refine qh rfl (fun hq => ?_) (fun hq => ?_)
    rotate_left
    · cases hq
    refine qu ?_
    have hlt' : l.length + k < (l ++ List.replicate 80 v).length := by simp; omega
    have hv : (l ++ List.replicate 80 v)[l.length + k] = v := by rw [List.getElem_append_right (by omega), List.getElem_replicate]
    (repeat refine qb ?_); refine qS ?_
    (repeat refine qb ?_); refine qv [] [(0, true), (1, true), (2, true), (3, true), (4, true), (5, true)] (by kernel_rfl) (by kernel_rfl) (by kernel_rfl) ?_
    repeat (first | refine yR ?_ | refine yK ?_ | refine yM ?_ | refine yB ?_ | refine yA ?_ | refine yS ?_ | refine yL ?_)
    refine qY ql rfl rfl rfl (by rw [lf]; omega) rfl ?_
    rw [zY hlt', hv]
    repeat (first | refine yR ?_ | refine yK ?_ | refine yM ?_ | refine yB ?_ | refine yA ?_ | refine yS ?_ | refine yL ?_)
    refine qY ql rfl rfl (opR_neV v v rfl rfl rfl rfl) rfl rfl ?_
    rw [sameV_refl]
    repeat (first | refine yR ?_ | refine yK ?_ | refine yM ?_ | refine yB ?_ | refine yA ?_ | refine yS ?_ | refine yL ?_)
    refine qF ?_
    (repeat refine qb ?_); refine qh rfl (fun hx => ?_) (fun hx => ?_)
    · cases hx
    refine qu ?_
    (repeat refine qb ?_); refine qa ?_
    repeat (first | refine zR ?_ | refine zK ?_ | refine zM ?_ | refine zB ?_ | refine zA ?_ | refine zS ?_ | refine zL ?_)
    refine qc ?_
    refine ⟨_, _, ?_, qy [0, 5, 7] [(5, 5)] rfl rfl, k + 1, _, hlt, rfl, zP (k := l.length + k) (n := l.length + 80) (by omega) (by omega), rfl⟩
    omega
  · rw [show decide (((l.length + k : Nat) : Int) < ((l.length + 80 : Nat) : Int)) = false by simp; omega]
    (repeat refine qb ?_); refine qh rfl (fun hq => ?_) (fun hq => ?_)
    · cases hq
    refine zX ?_
    (repeat refine qb ?_); refine qa ?_
    repeat (first | refine zR ?_ | refine zK ?_ | refine zM ?_ | refine zB ?_ | refine zA ?_ | refine zS ?_ | refine zL ?_)
    refine qc ?_
    (repeat refine qb ?_); refine qk ?_
    exact jd rfl rfl
end Go.Proofs.YtghjfficeglmoaaDoor
namespace Go.Proofs.YtghjfficeglmoaaDoor
set_option linter.unusedVariables false
set_option linter.unusedSimpArgs false
open Go.RowKit
set_option maxHeartbeats 4000000
end Go.Proofs.YtghjfficeglmoaaDoor
namespace Go.Proofs.YtghjfficeglmoaaDoor
set_option linter.unusedVariables false
set_option linter.unusedSimpArgs false
open Go.RowKit
set_option maxHeartbeats 4000000
theorem pU_ne (c d : UInt8) : ((c.toNat : Int) != (d.toNat : Int)) = !(c == d) := by
  rw [Bool.eq_iff_iff]
  simp only [bne_iff_ne, ne_eq, Bool.not_eq_true', beq_eq_false_iff_ne]
  constructor
  · intro h e; exact h (by rw [e])
  · intro h e; exact h (UInt8.toNat_inj.1 (by omega))
theorem sameB_h (a b : Bs) (ha : a.length ≤ 1000000) (hb : b.length ≤ 1000000) : zh Tryd.prog 11 [.row 1000000, .row 1000001] [(1000000, .row 5 1 (bR a)), (1000001, .row 5 1 (bR b))] (.p (pB (decide (a = b)))) [] := by
  have la := zg a
  have lb := zg b
  refine qz (ts := [4]) Tryd.func11 (by kernel_rfl) rfl rfl rfl ?_
  refine SW.wk ((wk_frz (k := 1000000) rfl).trans (wk_frz (k := 1000001) rfl)) ?_
  (repeat refine qb ?_); refine qa ?_
  repeat (first | refine zR ?_ | refine zK ?_ | refine zM ?_ | refine zB ?_ | refine zA ?_ | refine zS ?_ | refine zL ?_)
  refine qc ?_
  (repeat refine qb ?_); refine qa ?_
  repeat (first | refine zR ?_ | refine zK ?_ | refine zM ?_ | refine zB ?_ | refine zA ?_ | refine zS ?_ | refine zL ?_)
  rw [la, lb]
  by_cases hl : a.length = b.length
  rotate_left
  · rw [show ((a.length : Int) != (b.length : Int)) = true by simp; omega]
    refine qc ?_
    (repeat refine qb ?_); refine qh rfl (fun hc => ?_) (fun hc => ?_)
    · (repeat refine qb ?_); refine qa ?_
      repeat (first | refine zR ?_ | refine zK ?_ | refine zM ?_ | refine zB ?_ | refine zA ?_ | refine zS ?_ | refine zL ?_)
      refine qc ?_
      (repeat refine qb ?_); refine qk ?_
      exact ⟨Or.inr rfl, _, _, [], Wk.refl _, rfl, by rw [decide_eq_false (fun e => hl (by rw [e]))]; rfl, rfl, rfl⟩
    · cases hc
  rw [show ((a.length : Int) != (b.length : Int)) = false by simp; omega]
  refine qc ?_
  (repeat refine qb ?_); refine qh rfl (fun hc => ?_) (fun hc => ?_)
  · cases hc
  refine qu ?_
  (repeat refine qb ?_); refine qa ?_
  repeat (first | refine zR ?_ | refine zK ?_ | refine zM ?_ | refine zB ?_ | refine zA ?_ | refine zS ?_ | refine zL ?_)
  refine qc ?_
  (repeat refine qb ?_); refine qS ?_
  refine SW.wk (qy [0, 1, 5] [] rfl rfl) ?_
  refine zV (fun m s => ∃ (k : Nat) (kk : Int), k ≤ a.length ∧ m = a.length - k ∧ kk = k ∧ a.take k = b.take k ∧ s = ⟨26, [(0, .p (bP a)), (1, .p (bP b)), (5, .p (pI kk))], []⟩) a.length ⟨0, 0, Nat.zero_le _, rfl, rfl, by simp, rfl⟩ ?_
  rintro m s ⟨k, _, hk, rfl, rfl, he, rfl⟩
  (repeat refine qb ?_); refine qa ?_
  repeat (first | refine zR ?_ | refine zK ?_ | refine zM ?_ | refine zB ?_ | refine zA ?_ | refine zS ?_ | refine zL ?_)
  rw [la]
  refine qc ?_
  by_cases hlt : k < a.length
  · rw [show decide ((k : Int) < (a.length : Int)) = true by simp; omega]
    (repeat refine qb ?_); refine qh rfl (fun hq => ?_) (fun hq => ?_)
    rotate_left
    · cases hq
    refine qu ?_
    (repeat refine qb ?_); refine qS ?_
    (repeat refine qb ?_); refine qv [] [(0, true), (1, true), (2, true), (3, true), (4, true), (5, true), (6, true), (7, true), (8, true)] (by kernel_rfl) (by kernel_rfl) (by kernel_rfl) ?_
    repeat (first | refine yR ?_ | refine yK ?_ | refine yM ?_ | refine yB ?_ | refine yA ?_ | refine yS ?_ | refine yL ?_)
    refine qY ql rfl rfl rfl (by rw [la]; omega) rfl ?_
    rw [Int.toNat_natCast, bR_at hlt]
    repeat (first | refine yR ?_ | refine yK ?_ | refine yM ?_ | refine yB ?_ | refine yA ?_ | refine yS ?_ | refine yL ?_)
    refine qY ql rfl rfl rfl (by rw [lb]; omega) rfl ?_
    rw [Int.toNat_natCast, bR_at (show k < b.length by omega)]
    repeat (first | refine yR ?_ | refine yK ?_ | refine yM ?_ | refine yB ?_ | refine yA ?_ | refine yS ?_ | refine yL ?_)
    rw [pU_ne]
    refine qF ?_
    cases hx : (a[k] == b[k]) with
    | true =>
      (repeat refine qb ?_); refine qh rfl (fun hz => ?_) (fun hz => ?_)
      · cases hz
      refine qu ?_
      (repeat refine qb ?_); refine qa ?_
      repeat (first | refine zR ?_ | refine zK ?_ | refine zM ?_ | refine zB ?_ | refine zA ?_ | refine zS ?_ | refine zL ?_)
      refine qc ?_
      refine ⟨_, _, ?_, qy [0, 1, 5] [] rfl rfl, k + 1, _, hlt, rfl, zP hlt (by omega), ?_, rfl⟩
      · omega
      · rw [List.take_succ_eq_append_getElem hlt, List.take_succ_eq_append_getElem (show k < b.length by omega), he, eq_of_beq hx]
    | false =>
      (repeat refine qb ?_); refine qh rfl (fun hz => ?_) (fun hz => ?_)
      rotate_left
      · cases hz
      (repeat refine qb ?_); refine qa ?_
      repeat (first | refine zR ?_ | refine zK ?_ | refine zM ?_ | refine zB ?_ | refine zA ?_ | refine zS ?_ | refine zL ?_)
      refine qc ?_
      (repeat refine qb ?_); refine qk ?_
      exact ⟨Or.inr rfl, _, _, [], Wk.refl _, rfl, by rw [decide_eq_false (fun e => by subst e; simp at hx)]; rfl, rfl, rfl⟩
  · rw [show decide ((k : Int) < (a.length : Int)) = false by simp; omega]
    (repeat refine qb ?_); refine qh rfl (fun hq => ?_) (fun hq => ?_)
    · cases hq
    refine zX ?_
    (repeat refine qb ?_); refine qa ?_
    repeat (first | refine zR ?_ | refine zK ?_ | refine zM ?_ | refine zB ?_ | refine zA ?_ | refine zS ?_ | refine zL ?_)
    refine qc ?_
    (repeat refine qb ?_); refine qk ?_
    have hab : a = b := by
      rw [List.take_of_length_le (by omega), List.take_of_length_le (by omega)] at he
      exact he
    exact ⟨Or.inr rfl, _, _, [], Wk.refl _, rfl, by rw [decide_eq_true hab]; rfl, rfl, rfl⟩
end Go.Proofs.YtghjfficeglmoaaDoor
namespace Go.Proofs.YtghjfficeglmoaaDoor
set_option linter.unusedVariables false
set_option linter.unusedSimpArgs false
open Go.RowKit
set_option maxHeartbeats 4000000
theorem vputW_h (b : Bs) (hb : b.length ≤ 900) (v : Val) (hv : v.Fit) (hs : v.s.size ≤ 100000) (hk : R64 v.kind) : zh Tryd.prog 12 [.row 1000000, .p (.agg v.pv)] (rowB 1000000 b) (.row 0) (rowB 0 (b ++ putV v)) := by
  have HN := pnum_h b (by omega) v.kind hk
  have hp := jg v.kind
  have HT := textsD_h v.kind
  obtain ⟨k, n, ⟨⟨s⟩⟩⟩ := v
  have H2 := ptext_h (b ++ putN k) (by rw [List.length_append]; simp only at hp; omega) s hs
  have H3 := pnum_h (b ++ putN k) (by rw [List.length_append]; simp only at hp; omega) n ⟨hv.n.1, hv.n.2⟩
  simp only at HN HT
  refine qz (ts := [4]) Tryd.func12 (by kernel_rfl) rfl rfl rfl ?_
  refine SW.wk (wk_frz (k := 1000000) rfl) ?_
  (repeat refine qb ?_); refine qa ?_
  repeat (first | refine zR ?_ | refine zK ?_ | refine zM ?_ | refine zB ?_ | refine zA ?_ | refine zS ?_ | refine zL ?_)
  refine qc ?_
  (repeat refine qb ?_); refine qa ?_
  repeat (first | refine zR ?_ | refine zK ?_ | refine zM ?_ | refine zB ?_ | refine zA ?_ | refine zS ?_ | refine zL ?_)
  refine qf rfl (qT rfl rfl rfl rfl (HN) rfl rfl rfl ?_)
  repeat (first | refine zR ?_ | refine zK ?_ | refine zM ?_ | refine zB ?_ | refine zA ?_ | refine zS ?_ | refine zL ?_)
  repeat (first | refine zR ?_ | refine zK ?_ | refine zM ?_ | refine zB ?_ | refine zA ?_ | refine zS ?_ | refine zL ?_)
  refine qc ?_
  (repeat refine qb ?_); refine qa ?_
  repeat (first | refine zR ?_ | refine zK ?_ | refine zM ?_ | refine zB ?_ | refine zA ?_ | refine zS ?_ | refine zL ?_)
  refine qf rfl (qd rfl rfl rfl rfl (HT) rfl rfl ?_)
  repeat (first | refine zR ?_ | refine zK ?_ | refine zM ?_ | refine zB ?_ | refine zA ?_ | refine zS ?_ | refine zL ?_)
  refine qc ?_
  by_cases h : k = 3 ∨ k = 5
  · have e : putV ⟨k, n, ⟨⟨s⟩⟩⟩ = putN k ++ (putN (s.length : Int) ++ s) := by unfold putV; rw [if_pos h]; rfl
    rw [e, show decide (k = 3 ∨ k = 5) = true from decide_eq_true h, ← List.append_assoc, ← List.append_assoc]
    (repeat refine qb ?_); refine qh rfl (fun hc => ?_) (fun hc => ?_)
    rotate_left
    · cases hc
    (repeat refine qb ?_); refine qa ?_
    repeat (first | refine zR ?_ | refine zK ?_ | refine zM ?_ | refine zB ?_ | refine zA ?_ | refine zS ?_ | refine zL ?_)
    refine swt_wk (wk_frz (k := 9000) rfl) ?_
    refine qf rfl (qT rfl rfl rfl rfl (H2) rfl rfl rfl ?_)
    repeat (first | refine zR ?_ | refine zK ?_ | refine zM ?_ | refine zB ?_ | refine zA ?_ | refine zS ?_ | refine zL ?_)
    repeat (first | refine zR ?_ | refine zK ?_ | refine zM ?_ | refine zB ?_ | refine zA ?_ | refine zS ?_ | refine zL ?_)
    refine qc ?_
    (repeat refine qb ?_); refine qk ?_
    exact ⟨Or.inr rfl, _, _, [(16000, 0)], Wk.refl _, rfl, rfl, rfl, rfl⟩
  · have e : putV ⟨k, n, ⟨⟨s⟩⟩⟩ = putN k ++ putN n := by unfold putV; rw [if_neg h]
    rw [e, show decide (k = 3 ∨ k = 5) = false from decide_eq_false h, ← List.append_assoc]
    (repeat refine qb ?_); refine qh rfl (fun hc => ?_) (fun hc => ?_)
    · cases hc
    refine qu ?_
    (repeat refine qb ?_); refine qa ?_
    repeat (first | refine zR ?_ | refine zK ?_ | refine zM ?_ | refine zB ?_ | refine zA ?_ | refine zS ?_ | refine zL ?_)
    refine swt_wk (wk_frz (k := 9000) rfl) ?_
    refine qf rfl (qT rfl rfl rfl rfl (H3) rfl rfl rfl ?_)
    repeat (first | refine zR ?_ | refine zK ?_ | refine zM ?_ | refine zB ?_ | refine zA ?_ | refine zS ?_ | refine zL ?_)
    repeat (first | refine zR ?_ | refine zK ?_ | refine zM ?_ | refine zB ?_ | refine zA ?_ | refine zS ?_ | refine zL ?_)
    refine qc ?_
    (repeat refine qb ?_); refine qk ?_
    exact ⟨Or.inr rfl, _, _, [(20000, 0)], Wk.refl _, rfl, rfl, rfl, rfl⟩
theorem valTells_h (a b : Val) (s : ByteArray) (l : List Val) (ha : a.Fit) (hb : b.Fit) (hs : s.size ≤ reachBytes) (hll : l.length ≤ reachBytes) (hfl : ∀ x ∈ l, x.Fit) : Holds Tryd.prog 3 [.agg a.pv, .agg b.pv, pS s, zU l] (.p (pB true)) [] := by
  unfold reachBytes at hs hll
  have F1 := fewV_h a ha
  have F2 := fewV_h b hb
  have ha' := fewV_fit ha
  have hb' := fewV_fit hb
  have sa := fewV_size a
  have sb := fewV_size b
  generalize fewV a = x at *
  generalize fewV b = y at *
  refine qw (ts := [8]) Tryd.func3 (by kernel_rfl) rfl rfl rfl ?_
  (repeat refine qb ?_); refine qa ?_
  repeat (first | refine zR ?_ | refine zK ?_ | refine zM ?_ | refine zB ?_ | refine zA ?_ | refine zS ?_ | refine zL ?_)
  refine qc ?_
  (repeat refine qb ?_); refine jf 18 rfl (by kernel_rfl) ?_
  refine qt (i := 0) (K := [5]) (by kernel_rfl) (by kernel_rfl) rfl rfl (qi ql rfl (by exact True.intro)) rfl ?_
  refine qt (i := 2) (K := [4]) (by kernel_rfl) (by kernel_rfl) rfl rfl (qi ql rfl (by exact True.intro)) rfl ?_
  refine qt (i := 4) (K := [4, 5]) (by kernel_rfl) (by kernel_rfl) rfl rfl (qi ql rfl (by exact True.intro)) rfl ?_
  refine qt (i := 5) (K := [4, 5]) (by kernel_rfl) (by kernel_rfl) rfl rfl (qi ql rfl (by exact True.intro)) rfl ?_
  refine qt (i := 6) (K := [4, 5]) (by kernel_rfl) (by kernel_rfl) rfl rfl (qi ql rfl (by exact True.intro)) rfl ?_
  refine qt (i := 7) (K := [4, 5]) (by kernel_rfl) (by kernel_rfl) rfl rfl (qi ql rfl (by exact True.intro)) rfl ?_
  refine qt (i := 8) (K := [4, 5]) (by kernel_rfl) (by kernel_rfl) rfl rfl (qi ql rfl (by dsimp only; split <;> omega)) rfl ?_
  refine qt (i := 9) (K := [4, 5]) (by kernel_rfl) (by kernel_rfl) rfl rfl (qi ql rfl (by exact True.intro)) rfl ?_
  refine qt (i := 10) (K := [4, 5]) (by kernel_rfl) (by kernel_rfl) rfl rfl (qi ql rfl (by exact True.intro)) rfl ?_
  refine qt (i := 11) (K := [4, 5]) (by kernel_rfl) (by kernel_rfl) rfl rfl (qi ql rfl (by exact True.intro)) rfl ?_
  refine qt (i := 12) (K := [4, 5]) (by kernel_rfl) (by kernel_rfl) rfl rfl (qi ql rfl (by exact True.intro)) rfl ?_
  refine qt (i := 13) (K := [4, 5]) (by kernel_rfl) (by kernel_rfl) rfl rfl (qi ql rfl (by simp only [List.length_map]; split <;> omega)) rfl ?_
  refine qn 1 (by kernel_rfl) ?_
  refine qH rfl rfl rfl (qd rfl rfl rfl rfl (F1) rfl rfl ?_)
  refine qn 3 (by kernel_rfl) ?_
  refine qH rfl rfl rfl (qd rfl rfl rfl rfl (F2) rfl rfl ?_)
  refine qn 14 (by kernel_rfl) ?_
  first | refine qH rfl rfl rfl (aM (h := ?_)) | refine qH rfl rfl rfl (aB (h := ?_)) | refine qH rfl rfl rfl (aA (h := ?_)) | refine qH rfl rfl rfl (aS (h := ?_)) | refine qH rfl rfl rfl (aL (h := ?_)) | refine qH rfl rfl rfl (je (K := []) (qi ql rfl (by exact True.intro)) rfl ?_)
  refine qn 15 (by kernel_rfl) ?_
  first | refine qH rfl rfl rfl (aM (h := ?_)) | refine qH rfl rfl rfl (aB (h := ?_)) | refine qH rfl rfl rfl (aA (h := ?_)) | refine qH rfl rfl rfl (aS (h := ?_)) | refine qH rfl rfl rfl (aL (h := ?_)) | refine qH rfl rfl rfl (je (K := []) (qi ql rfl (by exact True.intro)) rfl ?_)
  refine qt (i := 16) (K := [4, 5]) (by kernel_rfl) (by kernel_rfl) rfl rfl (qi ql rfl (by exact True.intro)) rfl ?_
  refine qt (i := 17) (K := [4, 5]) (by kernel_rfl) (by kernel_rfl) rfl rfl (qi ql rfl (by exact True.intro)) rfl ?_
  refine jh (by kernel_rfl) ?_
  refine SW.wk (qy [2, 3, 4, 5] [(4, 4), (5, 5)] rfl rfl) ?_
  refine ?fk1_82
  rotate_left
  change SW _ _ _ ⟨134, [(2, .p (pS _)), (3, .p (.sl 3 _)), (4, .ptr 4 0), (5, .ptr 5 0)], [(4, .cells (x.pv.map .p)), (5, .cells (y.pv.map .p))]⟩
  rw [slice_min Val.pv l 20 20 rfl]
  obtain ⟨tx, htx⟩ : ∃ tx, tx = s.extract (Int.toNat 0) (Int.toNat (if (60 : Int) < s.size then 60 else s.size)) := ⟨_, rfl⟩
  change SW _ _ _ ⟨134, [(2, .p (pS (s.extract (Int.toNat 0) (Int.toNat (if (60 : Int) < s.size then 60 else s.size))))), (3, .p (zU (l.take 20))), (4, .ptr 4 0), (5, .ptr 5 0)], [(4, .cells (x.pv.map .p)), (5, .cells (y.pv.map .p))]⟩
  rw [← htx]
  have hts : tx.size ≤ reachBytes := by
    rw [htx, ByteArray.size_extract]; unfold reachBytes; split <;> omega
  have hl : (l.take 20).length ≤ 20 := by simp; omega
  have hf : ∀ x ∈ l.take 20, x.Fit := fun x hx => hfl x (List.mem_of_mem_take hx)
  generalize l.take 20 = l at *
  clear htx hfl hll hs
  have lm : (l.map Val.pv).length = l.length := by simp
  (repeat refine qb ?_); refine qa ?_
  repeat (first | refine zR ?_ | refine zK ?_ | refine zM ?_ | refine zB ?_ | refine zA ?_ | refine zS ?_ | refine zL ?_)
  refine qc ?_
  refine SW.wk (wk_nil 9 0 23 3 rfl rfl) ?_
  (repeat refine qb ?_); refine qa ?_
  repeat (first | refine zR ?_ | refine zK ?_ | refine zM ?_ | refine zB ?_ | refine zA ?_ | refine zS ?_ | refine zL ?_)
  refine qc ?_
  (repeat refine qb ?_); refine qS ?_
  rw [lm]
  refine SW.wk (qy [2, 3, 4, 5, 9, 33, 34] [(4, 4), (5, 5), (0, 0)] rfl rfl) ?_
  refine zV (fun m st => ∃ (k : Nat) (kk : Int), k ≤ l.length ∧ m = l.length - k ∧ kk = k ∧ st = ⟨134, [(2, .p (pS tx)), (3, .p (zU l)), (4, .ptr 4 0), (5, .ptr 5 0), (9, .row 0), (33, .p (pI l.length)), (34, .p (pI kk))], [(4, .cells (x.pv.map .p)), (5, .cells (y.pv.map .p)), (0, .row 23 3 (((l.take k).map fewV).map Val.pv))]⟩) l.length ⟨0, 0, Nat.zero_le _, rfl, rfl, rfl⟩ ?_
  rintro m st ⟨k, _, hk, rfl, rfl, rfl⟩
  (repeat refine qb ?_); refine qa ?_
  repeat (first | refine zR ?_ | refine zK ?_ | refine zM ?_ | refine zB ?_ | refine zA ?_ | refine zS ?_ | refine zL ?_)
  refine qc ?_
  (repeat refine qb ?_); refine qh rfl (fun hlt => ?_) (fun hlt => ?_)
  · refine qu ?_
    have hlt' : k < l.length := by have := of_decide_eq_true hlt; omega
    have FE := fewV_h l[k] (hf _ (List.getElem_mem hlt'))
    (repeat refine qb ?_); refine qS ?_
    (repeat refine qb ?_); refine qa ?_
    repeat (first | refine zR ?_ | refine zK ?_ | refine zM ?_ | refine zB ?_ | refine zA ?_ | refine zS ?_ | refine zL ?_)
    refine qc ?_
    (repeat refine qb ?_); refine qa ?_
    repeat (first | refine zR ?_ | refine zK ?_ | refine zM ?_ | refine zB ?_ | refine zA ?_ | refine zS ?_ | refine zL ?_)
    refine zk ql rfl rfl (by rw [lm]; omega) rfl ?_
    rw [zY hlt']
    repeat (first | refine zR ?_ | refine zK ?_ | refine zM ?_ | refine zB ?_ | refine zA ?_ | refine zS ?_ | refine zL ?_)
    refine qf rfl (qd rfl rfl rfl rfl (FE) rfl rfl ?_)
    repeat (first | refine zR ?_ | refine zK ?_ | refine zM ?_ | refine zB ?_ | refine zA ?_ | refine zS ?_ | refine zL ?_)
    refine qf rfl (zp ql rfl rfl rfl rfl rfl rfl rfl rfl rfl rfl rfl rfl rfl rfl rfl rfl (by simp only [List.length_map, List.length_take, List.length_cons, List.length_nil]; unfold reachBytes; omega) (by simp only [List.length_map, List.length_take, List.length_cons, List.length_nil]; omega) ?_)
    repeat (first | refine zR ?_ | refine zK ?_ | refine zM ?_ | refine zB ?_ | refine zA ?_ | refine zS ?_ | refine zL ?_)
    refine qc ?_
    (repeat refine qb ?_); refine qa ?_
    repeat (first | refine zR ?_ | refine zK ?_ | refine zM ?_ | refine zB ?_ | refine zA ?_ | refine zS ?_ | refine zL ?_)
    refine qc ?_
    refine ⟨_, _, ?_, qy [2, 3, 4, 5, 9, 33, 34] [(4, 4), (5, 5), (44, 0)] rfl rfl, k + 1, _, hlt', rfl, zP hlt' (by omega), ?_⟩
    · omega
    · rw [List.take_succ_eq_append_getElem hlt']
      simp only [List.map_append, List.map_cons, List.map_nil]
      rfl
  refine zX ?_
  have hkk : k = l.length := by have := of_decide_eq_false hlt; omega
  subst hkk
  rw [List.take_length]
  clear hlt hk
  have hw1 : ∀ x ∈ l.map fewV, x.Fit := fun x hx => by
    obtain ⟨y, hy, rfl⟩ := List.mem_map.1 hx
    exact fewV_fit (hf y hy)
  have hwl : (l.map fewV).length ≤ 20 := by simpa using hl
  refine SW.wk (qy [2, 4, 5, 9] [(4, 4), (5, 5), (0, 0)] rfl rfl) ?_
  refine SW.wk (wk_frz (k := 0) rfl) ?_
  generalize l.map fewV = o at *
  change SW _ _ _ ⟨134, [(2, .p (pS tx)), (4, .ptr 4 0), (5, .ptr 5 0), (9, .p (zU o))], [(4, .cells (x.pv.map .p)), (5, .cells (y.pv.map .p))]⟩
  clear hl hf lm
  have om : (o.map Val.pv).length = o.length := by simp
  have L1 := less_h x y ha'.s hb'.s
  have L2 := rless_h x y ha'.s hb'.s
  have RO := roomy_h o (by omega) x
  obtain ⟨le, hle⟩ : ∃ le, le = lessS x y := ⟨_, rfl⟩
  rw [← hle] at L1 L2
  obtain ⟨l1, l2⟩ := le
  simp only at L1 L2
  (repeat refine qb ?_); refine qa ?_
  repeat (first | refine zR ?_ | refine zK ?_ | refine zM ?_ | refine zB ?_ | refine zA ?_ | refine zS ?_ | refine zL ?_)
  refine qf rfl (qd rfl rfl rfl rfl (L1) rfl rfl ?_)
  repeat (first | refine zR ?_ | refine zK ?_ | refine zM ?_ | refine zB ?_ | refine zA ?_ | refine zS ?_ | refine zL ?_)
  refine qc ?_
  (repeat refine qb ?_); refine qa ?_
  repeat (first | refine zR ?_ | refine zK ?_ | refine zM ?_ | refine zB ?_ | refine zA ?_ | refine zS ?_ | refine zL ?_)
  refine qf rfl (qd rfl rfl rfl rfl (L2) rfl rfl ?_)
  repeat (first | refine zR ?_ | refine zK ?_ | refine zM ?_ | refine zB ?_ | refine zA ?_ | refine zS ?_ | refine zL ?_)
  refine qc ?_
  (repeat refine qb ?_); refine qa ?_
  repeat (first | refine zR ?_ | refine zK ?_ | refine zM ?_ | refine zB ?_ | refine zA ?_ | refine zS ?_ | refine zL ?_)
  refine qf rfl (qT rfl rfl rfl rfl (RO) rfl rfl rfl ?_)
  repeat (first | refine zR ?_ | refine zK ?_ | refine zM ?_ | refine zB ?_ | refine zA ?_ | refine zS ?_ | refine zL ?_)
  repeat (first | refine zR ?_ | refine zK ?_ | refine zM ?_ | refine zB ?_ | refine zA ?_ | refine zS ?_ | refine zL ?_)
  refine qc ?_
  refine SW.wk (qy [2, 4, 5, 9, 11, 12, 13, 14, 15] [(4, 4), (5, 5), (61000, 0)] rfl rfl) ?_
  refine SW.wk (wk_frz (k := 0) rfl) ?_
  obtain ⟨fl, hfl⟩ : ∃ fl, fl = o ++ List.replicate 80 x := ⟨_, rfl⟩
  rw [← hfl]
  change SW _ _ _ ⟨134, [(2, .p (pS tx)), (4, .ptr 4 0), (5, .ptr 5 0), (9, .p (zU o)), (11, .p (pB l1)), (12, .p (pI l2)), (13, .p (pB l1)), (14, .p (pI l2)), (15, .p (zU fl))], [(4, .cells (x.pv.map .p)), (5, .cells (y.pv.map .p))]⟩
  have hft : ((fl.map Val.pv).drop (Int.toNat 0)).take (Int.toNat (o.length : Int) - Int.toNat 0) = o.map Val.pv := by
    rw [hfl, List.map_append]; simp
  have hfz : (fl.map Val.pv).length = o.length + 80 := by rw [hfl]; simp
  (repeat refine qb ?_); refine qa ?_
  repeat (first | refine zR ?_ | refine zK ?_ | refine zM ?_ | refine zB ?_ | refine zA ?_ | refine zS ?_ | refine zL ?_)
  rw [om]
  refine zk ql rfl rfl (by rw [hfz]; omega) rfl ?_
  rw [hft]
  repeat (first | refine zR ?_ | refine zK ?_ | refine zM ?_ | refine zB ?_ | refine zA ?_ | refine zS ?_ | refine zL ?_)
  refine qc ?_
  (repeat refine qb ?_)
  refine SW.mono (Q := fun e s => e = .normal ∧ Wk s ⟨134, [(2, .p (pS tx)), (4, .ptr 4 0), (5, .ptr 5 0), (9, .p (zU o)), (11, .p (pB l1)), (12, .p (pI l2)), (13, .p (pB l1)), (14, .p (pI l2)), (15, .p (zU fl)), (16, .p (zU o)), (17, .p (pB true))], [(4, .cells (x.pv.map .p)), (5, .cells (y.pv.map .p))]⟩) ?_ ?_
  · have R1 := zQ x ha'.s
    cases hr : x.right with
    | false =>
      rw [hr] at R1
      (repeat refine qb ?_); refine jf 13 rfl (by kernel_rfl) ?_
      first | refine qt (i := 0) (K := []) (by kernel_rfl) (by kernel_rfl) rfl rfl (qi ql rfl (by exact True.intro)) rfl ?_ | refine swb_sk (i := 0) (by kernel_rfl) (by kernel_rfl) rfl rfl rfl ?_
      refine qn 1 (by kernel_rfl) ?_
      refine qH rfl rfl rfl (qd rfl rfl rfl rfl (R1) rfl rfl ?_)
      first | refine qt (i := 2) (K := []) (by kernel_rfl) (by kernel_rfl) rfl rfl (qi ql rfl (by exact True.intro)) rfl ?_ | refine swb_sk (i := 2) (by kernel_rfl) (by kernel_rfl) rfl rfl rfl ?_
      first | refine qt (i := 3) (K := []) (by kernel_rfl) (by kernel_rfl) rfl rfl (qi ql rfl (by exact True.intro)) rfl ?_ | refine swb_sk (i := 3) (by kernel_rfl) (by kernel_rfl) rfl rfl rfl ?_
      first | refine qt (i := 5) (K := []) (by kernel_rfl) (by kernel_rfl) rfl rfl (qi ql rfl (by exact True.intro)) rfl ?_ | refine swb_sk (i := 5) (by kernel_rfl) (by kernel_rfl) rfl rfl rfl ?_
      first | refine qt (i := 8) (K := []) (by kernel_rfl) (by kernel_rfl) rfl rfl (qi ql rfl (by exact True.intro)) rfl ?_ | refine swb_sk (i := 8) (by kernel_rfl) (by kernel_rfl) rfl rfl rfl ?_
      refine swb_fork2 4 7 (by kernel_rfl) ?_ ?_
      refine zT rfl rfl rfl ?_
      refine swb_fork2 6 7 (by kernel_rfl) ?_ ?_
      refine zT rfl rfl rfl ?_
      refine qn 7 (by kernel_rfl) ?_
      refine zT rfl rfl rfl ?_
      refine qn 9 (by kernel_rfl) ?_
      refine zT rfl rfl rfl ?_
      refine qn 10 (by kernel_rfl) ?_
      refine zT rfl rfl rfl ?_
      first | refine qt (i := 11) (K := []) (by kernel_rfl) (by kernel_rfl) rfl rfl (qi ql rfl (by exact True.intro)) rfl ?_ | refine swb_sk (i := 11) (by kernel_rfl) (by kernel_rfl) rfl rfl rfl ?_
      first | refine qt (i := 12) (K := []) (by kernel_rfl) (by kernel_rfl) rfl rfl (qi ql rfl (by exact True.intro)) rfl ?_ | refine swb_sk (i := 12) (by kernel_rfl) (by kernel_rfl) rfl rfl rfl ?_
      refine jh (by kernel_rfl) ?_
      exact ⟨rfl, qy [2, 4, 5, 9, 11, 12, 13, 14, 15, 16, 17] [(4, 4), (5, 5)] rfl rfl⟩
      refine zT rfl rfl rfl ?_
      refine qn 6 (by kernel_rfl) ?_
      refine zT rfl rfl rfl ?_
      refine qn 9 (by kernel_rfl) ?_
      refine zT rfl rfl rfl ?_
      refine qn 10 (by kernel_rfl) ?_
      refine zT rfl rfl rfl ?_
      first | refine qt (i := 11) (K := []) (by kernel_rfl) (by kernel_rfl) rfl rfl (qi ql rfl (by exact True.intro)) rfl ?_ | refine swb_sk (i := 11) (by kernel_rfl) (by kernel_rfl) rfl rfl rfl ?_
      first | refine qt (i := 12) (K := []) (by kernel_rfl) (by kernel_rfl) rfl rfl (qi ql rfl (by exact True.intro)) rfl ?_ | refine swb_sk (i := 12) (by kernel_rfl) (by kernel_rfl) rfl rfl rfl ?_
      refine jh (by kernel_rfl) ?_
      exact ⟨rfl, qy [2, 4, 5, 9, 11, 12, 13, 14, 15, 16, 17] [(4, 4), (5, 5)] rfl rfl⟩
      refine zT rfl rfl rfl ?_
      refine qn 4 (by kernel_rfl) ?_
      refine zT rfl rfl rfl ?_
      refine qn 6 (by kernel_rfl) ?_
      refine zT rfl rfl rfl ?_
      refine qn 9 (by kernel_rfl) ?_
      refine zT rfl rfl rfl ?_
      refine qn 10 (by kernel_rfl) ?_
      refine zT rfl rfl rfl ?_
      first | refine qt (i := 11) (K := []) (by kernel_rfl) (by kernel_rfl) rfl rfl (qi ql rfl (by exact True.intro)) rfl ?_ | refine swb_sk (i := 11) (by kernel_rfl) (by kernel_rfl) rfl rfl rfl ?_
      first | refine qt (i := 12) (K := []) (by kernel_rfl) (by kernel_rfl) rfl rfl (qi ql rfl (by exact True.intro)) rfl ?_ | refine swb_sk (i := 12) (by kernel_rfl) (by kernel_rfl) rfl rfl rfl ?_
      refine jh (by kernel_rfl) ?_
      exact ⟨rfl, qy [2, 4, 5, 9, 11, 12, 13, 14, 15, 16, 17] [(4, 4), (5, 5)] rfl rfl⟩
    | true =>
      rw [hr] at R1
      have hsz := sa
      have PW := vputW_h [9] (by simp) x ha' (by omega) ha'.kind
      have RW := rvput_h [9] (by simp) x ha' (by omega) ha'.kind
      have hp : (putV x).length ≤ 100 := by
        unfold putV
        have h1 := jg x.kind
        have h2 := jg (x.s.size : Int)
        have h3 := jg x.n
        have h4 : x.s.data.toList.length = x.s.size := rfl
        rw [List.length_append]
        split
        · rw [List.length_append]; omega
        · omega
      have HS := sameB_h ([9] ++ putV x) ([9] ++ putV x) (by simp; omega) (by simp; omega)
      rw [decide_eq_true rfl] at HS
      (repeat refine qb ?_); refine jf 13 rfl (by kernel_rfl) ?_
      refine qt (i := 0) (K := [69, 72, 72000, 75000]) (by kernel_rfl) (by kernel_rfl) rfl rfl (qi ql rfl (by exact True.intro)) rfl ?_
      refine qn 1 (by kernel_rfl) ?_
      refine qH rfl rfl rfl (qd rfl rfl rfl rfl (R1) rfl rfl ?_)
      refine qt (i := 2) (K := [69, 72, 72000, 75000]) (by kernel_rfl) (by kernel_rfl) rfl rfl (qi ql rfl (by exact True.intro)) rfl ?_
      refine qt (i := 3) (K := [69, 72, 72000, 75000]) (by kernel_rfl) (by kernel_rfl) rfl rfl (qi ql rfl (by exact True.intro)) rfl ?_
      refine qt (i := 5) (K := [69, 72, 72000, 75000]) (by kernel_rfl) (by kernel_rfl) rfl rfl (qi ql rfl (by exact True.intro)) rfl ?_
      refine qt (i := 8) (K := [69, 72, 72000, 75000]) (by kernel_rfl) (by kernel_rfl) rfl rfl (qi ql rfl (by exact True.intro)) rfl ?_
      refine swb_fork2 4 7 (by kernel_rfl) ?_ ?_
      first | refine qH rfl rfl rfl (aM (h := ?_)) | refine qH rfl rfl rfl (aB (h := ?_)) | refine qH rfl rfl rfl (aA (h := ?_)) | refine qH rfl rfl rfl (aS (h := ?_)) | refine qH rfl rfl rfl (aL (h := ?_)) | refine qH rfl rfl rfl (je (K := []) (qi ql rfl (by exact True.intro)) rfl ?_)
      refine swb_fork2 6 7 (by kernel_rfl) ?_ ?_
      refine qH rfl rfl rfl (qo [(69, 1000000)] rfl rfl rfl rfl rfl rfl (PW) rfl rfl rfl ?_)
      refine qn 7 (by kernel_rfl) ?_
      first | refine qH rfl rfl rfl (aM (h := ?_)) | refine qH rfl rfl rfl (aB (h := ?_)) | refine qH rfl rfl rfl (aA (h := ?_)) | refine qH rfl rfl rfl (aS (h := ?_)) | refine qH rfl rfl rfl (aL (h := ?_)) | refine qH rfl rfl rfl (je (K := []) (qi ql rfl (by exact True.intro)) rfl ?_)
      refine qn 9 (by kernel_rfl) ?_
      refine qH rfl rfl rfl (qo [(72, 1000000)] rfl rfl rfl rfl rfl rfl (RW) rfl rfl rfl ?_)
      refine qn 10 (by kernel_rfl) ?_
      refine qH rfl rfl rfl (qo [(72000, 1000000), (75000, 1000001)] rfl rfl rfl rfl rfl rfl (HS) rfl rfl rfl ?_)
      refine qt (i := 11) (K := [69, 72, 72000, 75000]) (by kernel_rfl) (by kernel_rfl) rfl rfl (qi ql rfl (by exact True.intro)) rfl ?_
      refine qt (i := 12) (K := [69, 72, 72000, 75000]) (by kernel_rfl) (by kernel_rfl) rfl rfl (qi ql rfl (by exact True.intro)) rfl ?_
      refine jh (by kernel_rfl) ?_
      exact ⟨rfl, qy [2, 4, 5, 9, 11, 12, 13, 14, 15, 16, 17] [(4, 4), (5, 5)] rfl rfl⟩
      first | refine qH rfl rfl rfl (aM (h := ?_)) | refine qH rfl rfl rfl (aB (h := ?_)) | refine qH rfl rfl rfl (aA (h := ?_)) | refine qH rfl rfl rfl (aS (h := ?_)) | refine qH rfl rfl rfl (aL (h := ?_)) | refine qH rfl rfl rfl (je (K := []) (qi ql rfl (by exact True.intro)) rfl ?_)
      refine qn 6 (by kernel_rfl) ?_
      refine qH rfl rfl rfl (qo [(69, 1000000)] rfl rfl rfl rfl rfl rfl (PW) rfl rfl rfl ?_)
      refine qn 9 (by kernel_rfl) ?_
      refine qH rfl rfl rfl (qo [(72, 1000000)] rfl rfl rfl rfl rfl rfl (RW) rfl rfl rfl ?_)
      refine qn 10 (by kernel_rfl) ?_
      refine qH rfl rfl rfl (qo [(72000, 1000000), (75000, 1000001)] rfl rfl rfl rfl rfl rfl (HS) rfl rfl rfl ?_)
      refine qt (i := 11) (K := [69, 72, 72000, 75000]) (by kernel_rfl) (by kernel_rfl) rfl rfl (qi ql rfl (by exact True.intro)) rfl ?_
      refine qt (i := 12) (K := [69, 72, 72000, 75000]) (by kernel_rfl) (by kernel_rfl) rfl rfl (qi ql rfl (by exact True.intro)) rfl ?_
      refine jh (by kernel_rfl) ?_
      exact ⟨rfl, qy [2, 4, 5, 9, 11, 12, 13, 14, 15, 16, 17] [(4, 4), (5, 5)] rfl rfl⟩
      first | refine qH rfl rfl rfl (aM (h := ?_)) | refine qH rfl rfl rfl (aB (h := ?_)) | refine qH rfl rfl rfl (aA (h := ?_)) | refine qH rfl rfl rfl (aS (h := ?_)) | refine qH rfl rfl rfl (aL (h := ?_)) | refine qH rfl rfl rfl (je (K := []) (qi ql rfl (by exact True.intro)) rfl ?_)
      refine qn 4 (by kernel_rfl) ?_
      first | refine qH rfl rfl rfl (aM (h := ?_)) | refine qH rfl rfl rfl (aB (h := ?_)) | refine qH rfl rfl rfl (aA (h := ?_)) | refine qH rfl rfl rfl (aS (h := ?_)) | refine qH rfl rfl rfl (aL (h := ?_)) | refine qH rfl rfl rfl (je (K := []) (qi ql rfl (by exact True.intro)) rfl ?_)
      refine qn 6 (by kernel_rfl) ?_
      refine qH rfl rfl rfl (qo [(69, 1000000)] rfl rfl rfl rfl rfl rfl (PW) rfl rfl rfl ?_)
      refine qn 9 (by kernel_rfl) ?_
      refine qH rfl rfl rfl (qo [(72, 1000000)] rfl rfl rfl rfl rfl rfl (RW) rfl rfl rfl ?_)
      refine qn 10 (by kernel_rfl) ?_
      refine qH rfl rfl rfl (qo [(72000, 1000000), (75000, 1000001)] rfl rfl rfl rfl rfl rfl (HS) rfl rfl rfl ?_)
      refine qt (i := 11) (K := [69, 72, 72000, 75000]) (by kernel_rfl) (by kernel_rfl) rfl rfl (qi ql rfl (by exact True.intro)) rfl ?_
      refine qt (i := 12) (K := [69, 72, 72000, 75000]) (by kernel_rfl) (by kernel_rfl) rfl rfl (qi ql rfl (by exact True.intro)) rfl ?_
      refine jh (by kernel_rfl) ?_
      exact ⟨rfl, qy [2, 4, 5, 9, 11, 12, 13, 14, 15, 16, 17] [(4, 4), (5, 5)] rfl rfl⟩
  rintro e s ⟨rfl, hw⟩
  refine SW.wk hw ?_
  have N1 := name_h tx hts
  have N2 := refName_h tx hts
  have G1 := qR x ha'.s
  have G2 := zQ x ha'.s
  have T1 := text_h x ha'
  have T2 := rtext1_h x ha'
  have B1 := bag_h o hw1
  have B2 := rbag_h o (by omega) hw1
  have H1 := has_h o y (by omega)
  have H2 := rhas_h o y (by omega)
  have IN := intact_h o (by omega) x
  rw [← hfl] at IN
  (repeat refine qb ?_); refine qv [] [(0, true), (1, true), (2, true), (3, true), (4, true), (5, true), (6, true), (7, true), (8, true), (9, true), (11, true), (10, false), (12, false), (13, true), (14, true), (15, true), (16, true), (18, true), (17, false), (19, false), (20, true), (21, true), (22, true), (23, true), (24, true), (25, true), (26, true), (28, true), (27, false), (29, false), (30, true), (31, true), (32, true), (33, true), (35, true), (34, false), (36, false), (37, true), (38, true), (39, true), (40, true), (41, true), (43, true), (44, true), (42, false), (45, false), (46, true), (47, true), (48, true), (49, true), (50, true), (51, true), (52, false), (53, true), (54, true), (55, false), (56, true), (57, true)] (by kernel_rfl) (by kernel_rfl) (by kernel_rfl) ?_
  repeat (first | refine yR ?_ | refine yK ?_ | refine yM ?_ | refine yB ?_ | refine yA ?_ | refine yS ?_ | refine yL ?_)
  rw [beq_self_eq_true l1]
  repeat (first | refine yR ?_ | refine yK ?_ | refine yM ?_ | refine yB ?_ | refine yA ?_ | refine yS ?_ | refine yL ?_)
  rw [beq_self_eq_true l2]
  repeat (first | refine yR ?_ | refine yK ?_ | refine yM ?_ | refine yB ?_ | refine yA ?_ | refine yS ?_ | refine yL ?_)
  refine qG rfl rfl rfl (qd rfl rfl rfl rfl (N1) rfl rfl ?_)
  repeat (first | refine yR ?_ | refine yK ?_ | refine yM ?_ | refine yB ?_ | refine yA ?_ | refine yS ?_ | refine yL ?_)
  refine qG rfl rfl rfl (qd rfl rfl rfl rfl (N2) rfl rfl ?_)
  repeat (first | refine yR ?_ | refine yK ?_ | refine yM ?_ | refine yB ?_ | refine yA ?_ | refine yS ?_ | refine yL ?_)
  rw [beq_self_eq_true (nameS tx)]
  repeat (first | refine yR ?_ | refine yK ?_ | refine yM ?_ | refine yB ?_ | refine yA ?_ | refine yS ?_ | refine yL ?_)
  refine qG rfl rfl rfl (qd rfl rfl rfl rfl (G1) rfl rfl ?_)
  repeat (first | refine yR ?_ | refine yK ?_ | refine yM ?_ | refine yB ?_ | refine yA ?_ | refine yS ?_ | refine yL ?_)
  refine qG rfl rfl rfl (qd rfl rfl rfl rfl (G2) rfl rfl ?_)
  repeat (first | refine yR ?_ | refine yK ?_ | refine yM ?_ | refine yB ?_ | refine yA ?_ | refine yS ?_ | refine yL ?_)
  rw [beq_self_eq_true x.right]
  repeat (first | refine yR ?_ | refine yK ?_ | refine yM ?_ | refine yB ?_ | refine yA ?_ | refine yS ?_ | refine yL ?_)
  refine qG rfl rfl rfl (qd rfl rfl rfl rfl (T1) rfl rfl ?_)
  repeat (first | refine yR ?_ | refine yK ?_ | refine yM ?_ | refine yB ?_ | refine yA ?_ | refine yS ?_ | refine yL ?_)
  refine qG rfl rfl rfl (qd rfl rfl rfl rfl (T2) rfl rfl ?_)
  repeat (first | refine yR ?_ | refine yK ?_ | refine yM ?_ | refine yB ?_ | refine yA ?_ | refine yS ?_ | refine yL ?_)
  rw [beq_self_eq_true (textS x).toList]
  repeat (first | refine yR ?_ | refine yK ?_ | refine yM ?_ | refine yB ?_ | refine yA ?_ | refine yS ?_ | refine yL ?_)
  refine qG rfl rfl rfl (qd rfl rfl rfl rfl (B1) rfl rfl ?_)
  repeat (first | refine yR ?_ | refine yK ?_ | refine yM ?_ | refine yB ?_ | refine yA ?_ | refine yS ?_ | refine yL ?_)
  refine qG rfl rfl rfl (qd rfl rfl rfl rfl (B2) rfl rfl ?_)
  repeat (first | refine yR ?_ | refine yK ?_ | refine yM ?_ | refine yB ?_ | refine yA ?_ | refine yS ?_ | refine yL ?_)
  rw [beq_self_eq_true (bagOk o)]
  repeat (first | refine yR ?_ | refine yK ?_ | refine yM ?_ | refine yB ?_ | refine yA ?_ | refine yS ?_ | refine yL ?_)
  refine qG rfl rfl rfl (qd rfl rfl rfl rfl (H1) rfl rfl ?_)
  repeat (first | refine yR ?_ | refine yK ?_ | refine yM ?_ | refine yB ?_ | refine yA ?_ | refine yS ?_ | refine yL ?_)
  refine qG rfl rfl rfl (qd rfl rfl rfl rfl (H2) rfl rfl ?_)
  repeat (first | refine yR ?_ | refine yK ?_ | refine yM ?_ | refine yB ?_ | refine yA ?_ | refine yS ?_ | refine yL ?_)
  rw [beq_self_eq_true (hasV o y)]
  repeat (first | refine yR ?_ | refine yK ?_ | refine yM ?_ | refine yB ?_ | refine yA ?_ | refine yS ?_ | refine yL ?_)
  refine qG rfl rfl rfl (qd rfl rfl rfl rfl (IN) rfl rfl ?_)
  repeat (first | refine yR ?_ | refine yK ?_ | refine yM ?_ | refine yB ?_ | refine yA ?_ | refine yS ?_ | refine yL ?_)
  repeat (first | refine yR ?_ | refine yK ?_ | refine yM ?_ | refine yB ?_ | refine yA ?_ | refine yS ?_ | refine yL ?_)
  refine qG rfl rfl rfl (qd rfl rfl rfl rfl (valRuns_h) rfl rfl ?_)
  repeat (first | refine yR ?_ | refine yK ?_ | refine yM ?_ | refine yB ?_ | refine yA ?_ | refine yS ?_ | refine yL ?_)
  repeat (first | refine yR ?_ | refine yK ?_ | refine yM ?_ | refine yB ?_ | refine yA ?_ | refine yS ?_ | refine yL ?_)
  refine qF ?_
  (repeat refine qb ?_); refine qk ?_
  exact jd rfl rfl
end Go.Proofs.YtghjfficeglmoaaDoor
namespace Go.Proofs.YtghjfficeglmoaaDoor
set_option linter.unusedVariables false
set_option linter.unusedSimpArgs false
open Go.RowKit
theorem opens_tint : Opens Tryd.prog 3 1 rInt := opens_int Tryd.underlying3 (by kernel_rfl)
theorem opens_tstr : Opens Tryd.prog 9 1 rStr := opens_str Tryd.underlying9 (by kernel_rfl)
set_option maxRecDepth 100000 in
theorem opens_val : Opens Tryd.prog 23 3 rVal := by
  refine ⟨by kernel_rfl, fun H enc w fuel cs x h hw => ?_⟩
  obtain ⟨hlen, m, _, hf⟩ := struct_open Tryd.underlying23 h hw
  have hc : Tryd.prog.cellsOf 23 = 3 := by kernel_rfl
  rw [hc] at hlen
  match cs, hlen with
  | [c0, c1, c2], _ =>
    obtain ⟨k, hk⟩ := opens_tint.field (off := 0) (hf 0 _ rfl)
    obtain ⟨n, hn⟩ := opens_tint.field (off := 1) (hf 1 _ rfl)
    obtain ⟨s, hs⟩ := opens_tstr.field (off := 2) (hf 2 _ rfl)
    simp only [rInt, rStr, List.drop_succ_cons, List.drop_zero, List.take_succ_cons, List.take_zero, List.cons.injEq, and_true] at hk hn hs
    obtain ⟨rfl, hk⟩ := hk
    obtain ⟨rfl, hn⟩ := hn
    obtain ⟨rfl, hs⟩ := hs
    exact ⟨⟨k, n, s⟩, rfl, hk, hn, hs⟩
end Go.Proofs.YtghjfficeglmoaaDoor
namespace Go.Proofs.YtghjfficeglmoaaDoor
set_option linter.unusedVariables false
set_option linter.unusedSimpArgs false
open Go.RowKit
theorem opens_vals : Opens Tryd.prog 24 1 (rSl rVal 3) := opens_sl Tryd.underlying24 (by kernel_rfl) (by decide +kernel) (by omega) opens_val
end Go.Proofs.YtghjfficeglmoaaDoor
namespace Go.Proofs.YtghjfficeglmoaaDoor
set_option linter.unusedVariables false
set_option linter.unusedSimpArgs false
open Go.RowKit
inductive RelsP (w : World) : List PV → List Value → Prop
  | nil : RelsP w [] []
  | cons {x : PV} {u : Value} {xs : List PV} {us : List Value} (h : RelP (fun _ => True) w x u) (r : RelsP w xs us) : RelsP w (x :: xs) (u :: us)
theorem RelsP.get {w : World} {xs : List PV} {us : List Value} (h : RelsP w xs us) : us.length = xs.length ∧ ∀ (i : Nat) (s : PV) (u : Value), xs[i]? = some s → us[i]? = some u → RelP (fun _ => True) w s u := by
  induction h with
  | nil => exact ⟨rfl, fun i s u h => by simp at h⟩
  | cons h r ih =>
    refine ⟨by simp [ih.1], fun i s u hs hu => ?_⟩
    cases i with
    | zero => simp at hs hu; subst hs; subst hu; exact h
    | succ i => exact ih.2 i s u (by simpa using hs) (by simpa using hu)
theorem law_callsG {P : Program} {f : FuncId} {args : List PV} {us : List Value} {W : World} (hg : GlOk (entry W) fun _ => False) (H : Holds P f args (.p (.v (.bool true))) []) (hr : RelsP W args us) : Calls P f us.toArray W fun e w' => e = .returned (.bool true) ∧ Below W.heap.size W w' := by
  obtain ⟨h1, h2⟩ := hr.get
  refine (H.2 W (fun _ => False) us ⟨fun _ h => h.elim, hg⟩ h1 fun i s u hs hu => (h2 i s u hs hu).weak fun _ _ _ => fun h => h).mono fun e w' ⟨v, γ, he, hb, _, hv⟩ => ?_
  have := hv.v_inv
  subst this
  exact ⟨he, hb⟩
theorem rel_agg {w : World} {cs : List Value} {x : List PV} (h : rPV (fun _ => True) w cs x) : RelP (fun _ => True) w (.agg x) (.agg cs.toArray) := .agg h.1 h.2
theorem rel_str {w : World} (n : ByteArray) : RelP (fun _ => True) w (.v (.string n)) (.string n) := .v rfl
end Go.Proofs.YtghjfficeglmoaaDoor
namespace Go.Proofs.YtghjfficeglmoaaDoor
set_option linter.unusedSimpArgs false
open Go.ChangeShapes Go.WideShapes Go.ChangeAt Go.RowKit
set_option linter.unusedVariables false
theorem law_liftL {H : Type} {enc : TypeId × Value → H} {C : Checked} {os : Os} {f : FuncId} {fn : Func} {s : ChangeSpec} {bt : TypeId} {laid : List (String × DataW Unit)}
    (own : ownKnob C.prog.godebug = none) (started : os.Started) (noInit : C.prog.inits.idxOf? f = none) (hfn : C.prog.funcs[f]? = some fn)
    (witness : ∃ (w : World) (tape : Tape) (i : Input), w.os = os ∧ (w.forCall tape i).Shaped C.prog ∧ i.vars = [] ∧ Input.okWide C.prog (w.forCall tape i) .any w.heap.size f i ∧
      ((s.pre enc C.prog fn [] false (w.forCall tape i).memory i.args ∧ laidMetH C.prog laid (w.forCall tape i).memory) ∧ sizedMet enc C.prog fn (OpenSpec.ofChange s) false (w.forCall tape i).memory i.args) ∧ ({} : Assume).holds C.prog (lone (Frame.enter C.prog f i.args .normal) [] (w.forCall tape i)))
    (hl : laidOutB C.prog = true) (hts : ∀ t ∈ fn.params.toList, C.prog.readableRec t = true ∧ t < C.prog.types.size) (hvars : s.vars = []) (hvt : s.plain.varTypes C.prog = [])
    (hspec : ∀ (W : World) (args : Array Value) (ds : List (DataW H)) (ps : List MemPlace), DataW.TrodAll enc C.prog W 0 (fun _ => true) true fn.params.toList args.toList ds ps → s.fn H ds = { results := [.lit (.bool true)], args := ds })
    (hres : fn.resultTypes = #[bt]) (hbt : C.prog.underlying bt = some .bool)
    (walk : ∀ (W : World) (base : Nat) (args : Array Value) (ds : List (DataW H)) (ps : List MemPlace), laidMetH C.prog laid W →
      (∀ (j : Nat) t v, fn.params[j]? = some t → args[j]? = some v → Value.okWide C.prog W .any base t v) →
      DataW.TrodAll enc C.prog W 0 (fun _ => true) true fn.params.toList args.toList ds ps →
      (∀ n ∈ DataW.weightsEach C.prog fn.params.toList ds, n ≤ reachBytes) →
      Calls C.prog f args W fun e W' => e = .returned (.bool true) ∧ Below W.heap.size W W') :
    ReturnsInHanded {} C os f .any (fun w args => (s.pre enc C.prog fn [] false w args ∧ laidMetH C.prog laid w) ∧ sizedMet enc C.prog fn (OpenSpec.ofChange s) false w args) (s.post enc C.prog fn false true false false) := by
  refine returnsInHanded_of_change_and (X := fun w _ => laidMetH C.prog laid w) (fun _ _ _ hh h => h.of_heap hh) own started noInit hfn witness ?_
  intro W base args ds gs before hval hW _ hsz hL _
  have hlt : ∀ p ∈ before, p.block < W.heap.size := fun p hp => hW.lt p hp
  have hW0 := hW
  obtain ⟨p, q, hA, hV, rfl, hz, hn⟩ := hW0
  rw [hvars] at hV
  obtain ⟨rfl, rfl⟩ := trodVars_none hV
  have hsp := hspec W args ds p hA
  refine (walk W base args ds p hL hval hA ?_).mono fun e W' ⟨he, hb⟩ => ?_
  · intro n hn
    rw [hvt, List.append_nil, List.append_nil] at hsz
    exact of_decide_eq_true (List.all_eq_true.1 hsz n hn)
  · subst he
    refine ⟨_, rfl, ds, [], p ++ [], [], p, [], hW, ?_, ?_, ?_, World.keptBut_mono (fun x hx => ⟨hx, Or.inr (Or.inl (by simpa using hx))⟩) (hb.frame (· ∈ p ++ [])), fun h => by cases h⟩
    · rw [List.append_nil, hsp, hres]
      exact trodAll_mk1 (shut_bool hbt _)
    · rw [List.append_nil, hsp]
      exact trodAll_below hl hb hts (fun x hx => hlt x (by simpa using hx)) (fun x hx => by simpa using hlt x (by simpa using hx)) hA
    · rw [List.append_nil, hsp, hvars]
      rfl
theorem laidMet_tail {P : Program} {x : String × DataW Unit} {l : List (String × DataW Unit)} {W : World} (h : laidMet P (x :: l) W) : laidMet P l W := by
  obtain ⟨ps, ⟨g, t, cs, fuel, p, q, h1, h2, h3, h4, h5, h6⟩, hn, hb⟩ := h
  subst h6
  exact ⟨q, h5, (List.nodup_append.1 hn).2.1, fun b off hm => hb b off (List.mem_append_right _ hm)⟩
theorem block_of_tab {P : Program} {W : World} {name : String} {k : IntKind} {zs : List Int} {g : Nat} (h : Lib.TabIs P W name k zs) (hg : P.globalNamed name = some g) {us : List Value} (hu : us = zs.map fun z => Value.int k z) : g < W.heap.size ∧ ∃ ty m, W.heap[g]? = some (.cells us.toArray ty m) := by
  unfold Lib.TabIs World.var? at h
  rw [hg] at h
  simp only [Option.bind_some] at h
  split at h
  · rename_i cs ty m hb
    cases h
    exact ⟨(Array.getElem?_eq_some_iff.1 hb).1, ty, m, by rw [hb, hu]⟩
  · cases h
end Go.Proofs.YtghjfficeglmoaaDoor
namespace Go.Proofs.YtghjfficeglmoaaDoor
open Go.RowKit
theorem own_none : ownKnob Tryd.prog.godebug = none := by kernel_rfl
theorem gl_of_laid {rest : List (String × DataW Unit)} {W : World} (h : laidMet Tryd.prog (("math/bits.deBruijn32tab", Rows.laid_math_bits_deBruijn32tab) :: ("math/bits.deBruijn64tab", Rows.laid_math_bits_deBruijn64tab) :: ("internal/strconv.uint64pow10", Rows.laid_internal_strconv_uint64pow10) :: rest) W) : GlOk (entry W) fun _ => False := by
  have b0 := block_of_tab (g := 1) (us := [.int .u8 0, .int .u8 1, .int .u8 28, .int .u8 2, .int .u8 29, .int .u8 14, .int .u8 24, .int .u8 3, .int .u8 30, .int .u8 22, .int .u8 20, .int .u8 15, .int .u8 25, .int .u8 17, .int .u8 4, .int .u8 8, .int .u8 31, .int .u8 27, .int .u8 13, .int .u8 23, .int .u8 21, .int .u8 19, .int .u8 16, .int .u8 7, .int .u8 26, .int .u8 12, .int .u8 18, .int .u8 6, .int .u8 11, .int .u8 5, .int .u8 10, .int .u8 9]) (Lib.tabIs_of_head (k := .u8) (zs := [0, 1, 28, 2, 29, 14, 24, 3, 30, 22, 20, 15, 25, 17, 4, 8, 31, 27, 13, 23, 21, 19, 16, 7, 26, 12, 18, 6, 11, 5, 10, 9]) (g := 1) (t := 99) (e := 5) (n := 32) (by kernel_rfl) (by kernel_rfl) Tryd.underlying99 Tryd.underlying5 (by kernel_rfl) (by kernel_rfl) h) (by kernel_rfl) rfl
  have b1 := block_of_tab (g := 2) (us := [.int .u8 0, .int .u8 1, .int .u8 56, .int .u8 2, .int .u8 57, .int .u8 49, .int .u8 28, .int .u8 3, .int .u8 61, .int .u8 58, .int .u8 42, .int .u8 50, .int .u8 38, .int .u8 29, .int .u8 17, .int .u8 4, .int .u8 62, .int .u8 47, .int .u8 59, .int .u8 36, .int .u8 45, .int .u8 43, .int .u8 51, .int .u8 22, .int .u8 53, .int .u8 39, .int .u8 33, .int .u8 30, .int .u8 24, .int .u8 18, .int .u8 12, .int .u8 5, .int .u8 63, .int .u8 55, .int .u8 48, .int .u8 27, .int .u8 60, .int .u8 41, .int .u8 37, .int .u8 16, .int .u8 46, .int .u8 35, .int .u8 44, .int .u8 21, .int .u8 52, .int .u8 32, .int .u8 23, .int .u8 11, .int .u8 54, .int .u8 26, .int .u8 40, .int .u8 15, .int .u8 34, .int .u8 20, .int .u8 31, .int .u8 10, .int .u8 25, .int .u8 14, .int .u8 19, .int .u8 9, .int .u8 13, .int .u8 8, .int .u8 7, .int .u8 6]) (Lib.tabIs_of_head (k := .u8) (zs := [0, 1, 56, 2, 57, 49, 28, 3, 61, 58, 42, 50, 38, 29, 17, 4, 62, 47, 59, 36, 45, 43, 51, 22, 53, 39, 33, 30, 24, 18, 12, 5, 63, 55, 48, 27, 60, 41, 37, 16, 46, 35, 44, 21, 52, 32, 23, 11, 54, 26, 40, 15, 34, 20, 31, 10, 25, 14, 19, 9, 13, 8, 7, 6]) (g := 2) (t := 100) (e := 5) (n := 64) (by kernel_rfl) (by kernel_rfl) Tryd.underlying100 Tryd.underlying5 (by kernel_rfl) (by kernel_rfl) (laidMet_tail h)) (by kernel_rfl) rfl
  have b2 := block_of_tab (g := 0) (us := [.int .u64 1, .int .u64 10, .int .u64 100, .int .u64 1000, .int .u64 10000, .int .u64 100000, .int .u64 1000000, .int .u64 10000000, .int .u64 100000000, .int .u64 1000000000, .int .u64 10000000000, .int .u64 100000000000, .int .u64 1000000000000, .int .u64 10000000000000, .int .u64 100000000000000, .int .u64 1000000000000000, .int .u64 10000000000000000, .int .u64 100000000000000000, .int .u64 1000000000000000000, .int .u64 10000000000000000000]) (Lib.tabIs_of_head (k := .u64) (zs := [1, 10, 100, 1000, 10000, 100000, 1000000, 10000000, 100000000, 1000000000, 10000000000, 100000000000, 1000000000000, 10000000000000, 100000000000000, 1000000000000000, 10000000000000000, 100000000000000000, 1000000000000000000, 10000000000000000000]) (g := 0) (t := 94) (e := 69) (n := 20) (by kernel_rfl) (by kernel_rfl) Tryd.underlying94 Tryd.underlying69 (by kernel_rfl) (by kernel_rfl) (laidMet_tail (laidMet_tail h))) (by kernel_rfl) rfl
  refine ⟨?_, fun g hg => ?_⟩
  rotate_left
  · simp [ETab] at hg
  intro g us hg
  simp only [GTab, qj] at hg
  repeat' split at hg
  all_goals first | cases hg; done | skip
  all_goals (subst_vars; cases hg)
  all_goals first | exact ⟨b0.1, fun h => h, b0.2⟩ | exact ⟨b1.1, fun h => h, b1.2⟩ | exact ⟨b2.1, fun h => h, b2.2⟩
noncomputable def worldA (os : Os) : World :=
  let w0 := World.holding Tryd.prog os ⟨#[], #[], []⟩
  { w0 with heap := ((((((w0.heap).modify 1 fun | .cells _ t frozen => .cells #[.int .u8 0, .int .u8 1, .int .u8 28, .int .u8 2, .int .u8 29, .int .u8 14, .int .u8 24, .int .u8 3, .int .u8 30, .int .u8 22, .int .u8 20, .int .u8 15, .int .u8 25, .int .u8 17, .int .u8 4, .int .u8 8, .int .u8 31, .int .u8 27, .int .u8 13, .int .u8 23, .int .u8 21, .int .u8 19, .int .u8 16, .int .u8 7, .int .u8 26, .int .u8 12, .int .u8 18, .int .u8 6, .int .u8 11, .int .u8 5, .int .u8 10, .int .u8 9] t frozen | o => o)).modify 2 fun | .cells _ t frozen => .cells #[.int .u8 0, .int .u8 1, .int .u8 56, .int .u8 2, .int .u8 57, .int .u8 49, .int .u8 28, .int .u8 3, .int .u8 61, .int .u8 58, .int .u8 42, .int .u8 50, .int .u8 38, .int .u8 29, .int .u8 17, .int .u8 4, .int .u8 62, .int .u8 47, .int .u8 59, .int .u8 36, .int .u8 45, .int .u8 43, .int .u8 51, .int .u8 22, .int .u8 53, .int .u8 39, .int .u8 33, .int .u8 30, .int .u8 24, .int .u8 18, .int .u8 12, .int .u8 5, .int .u8 63, .int .u8 55, .int .u8 48, .int .u8 27, .int .u8 60, .int .u8 41, .int .u8 37, .int .u8 16, .int .u8 46, .int .u8 35, .int .u8 44, .int .u8 21, .int .u8 52, .int .u8 32, .int .u8 23, .int .u8 11, .int .u8 54, .int .u8 26, .int .u8 40, .int .u8 15, .int .u8 34, .int .u8 20, .int .u8 31, .int .u8 10, .int .u8 25, .int .u8 14, .int .u8 19, .int .u8 9, .int .u8 13, .int .u8 8, .int .u8 7, .int .u8 6] t frozen | o => o)).modify 0 fun | .cells _ t frozen => .cells #[.int .u64 1, .int .u64 10, .int .u64 100, .int .u64 1000, .int .u64 10000, .int .u64 100000, .int .u64 1000000, .int .u64 10000000, .int .u64 100000000, .int .u64 1000000000, .int .u64 10000000000, .int .u64 100000000000, .int .u64 1000000000000, .int .u64 10000000000000, .int .u64 100000000000000, .int .u64 1000000000000000, .int .u64 10000000000000000, .int .u64 100000000000000000, .int .u64 1000000000000000000, .int .u64 10000000000000000000] t frozen | o => o) }
theorem worldA_met (os : Os) (args : Array Value) : laidMet Tryd.prog [("math/bits.deBruijn32tab", Rows.laid_math_bits_deBruijn32tab), ("math/bits.deBruijn64tab", Rows.laid_math_bits_deBruijn64tab), ("internal/strconv.uint64pow10", Rows.laid_internal_strconv_uint64pow10)] ((worldA os).forCall (fun _ _ => 0) ⟨#[], args, []⟩).memory :=
  laidMet_of_run' 100 (by kernel_rfl) (by kernel_rfl)
end Go.Proofs.YtghjfficeglmoaaDoor
