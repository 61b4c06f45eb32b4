/-
  TargetGrows: the walk.
-/
import Derived.Test.YtnienipaicckmaaTargetOrder
import Derived.WalkLawsBesides
import Derived.WalkSpells
import Derived.Deep.Cut
import Derived.Deep.Light
namespace Go.Proofs.Ytnienipaicckmaa
open Go.RowKit
set_option linter.unusedSimpArgs false
set_option linter.unusedVariables false
attribute [local go_sem] ext_cell ext_frozen extB_cell extB_frozen
attribute [local go_sem low] alloc_cell alloc_frozen
attribute [local go_sem ↓] eql_val

theorem RowO.len {α : Type} {R : RF α} {size : Nat} {ok : Nat → Prop} {w : World} {base : Nat} {e : TypeId} {A : Option Addr} {n c : Nat} {l : List α} (h : RowO R size ok w base e (.slice A n c) l) : n = l.length := by
  obtain ⟨A', c', he, _⟩ := h.shape
  simp only [Value.slice.injEq] at he
  exact he.2.1
theorem SlAt.take1 {α : Type} {R : Rp α} {size : Nat} {w : World} {A : Option Addr} {l : List α} (h : SlAt R size w A l) (hl : 0 < l.length) : SlAt R size w A [l[0]] := fun _ => by
  obtain ⟨b, o, hA, hlt, hc⟩ := h hl
  refine ⟨b, o, hA, hlt, fun i hi => ?_⟩
  obtain rfl : i = 0 := by simpa using hi
  exact hc 0 hl
set_option maxRecDepth 100000 in
set_option maxHeartbeats 4000000 in
theorem targetGrows_any (t u : Tar) (l : List Giv) (T U A : Option Addr) (d f c : Nat) (w : World) (hT : SlAt rTar' 1 w T t) (ht : t.length ≤ d) (hd : t.length ≤ reachBytes ∧ d ≤ maxLen) (hU : SlAt rTar' 1 w U u) (hu : u.length ≤ f) (hf : u.length ≤ reachBytes ∧ f ≤ maxLen) (h : SlAt rGiv 3 w A l) (hl : l.length ≤ c) (hc : l.length ≤ reachBytes ∧ c ≤ maxLen) :
    Calls Try.prog 6 #[.slice T t.length d, .slice U u.length f, .slice A l.length c] w fun e w' => e = .returned (.bool true) ∧ Below w.heap.size w w' := by
  replace h := hide h
  replace hT := hide hT
  replace hU := hide hU
  obtain ⟨i1, hi1, hy0, hy1, hy2⟩ := info_parts info_all
  obtain ⟨i2, hi2, hx0, hx1, hx2⟩ := info_parts info_any
  have I1 := hide (And.intro hi1 (And.intro hy0 (And.intro hy1 hy2)))
  have I2 := hide (And.intro hi2 (And.intro hx0 (And.intro hx1 hx2)))
  clear hi1 hy0 hy1 hy2 hi2 hx0 hx1 hx2
  go_enter Try.func6, Try.ntmps6
  go_upto_region 3 with (first | (go_at_call 19; (first | (with_reducible refine (small13_any t T d _ (hT.out.keep keeps_tar' (by repeat (first | exact Below.refl _ _ | assumption | refine Below.alloc1 ?_ _ | refine Below.drew ?_ | refine below_drewl ?_ | refine Below.setCell ?_ (by first | exact Nat.le_refl _ | (simp; done) | omega | (simp; omega)) _ | refine Below.lift ?_ (by assumption)))) ht hd).mono ?_) | (with_reducible refine (small13_any u U f _ (hU.out.keep keeps_tar' (by repeat (first | exact Below.refl _ _ | assumption | refine Below.alloc1 ?_ _ | refine Below.drew ?_ | refine below_drewl ?_ | refine Below.setCell ?_ (by first | exact Nat.le_refl _ | (simp; done) | omega | (simp; omega)) _ | refine Below.lift ?_ (by assumption)))) hu hf).mono ?_)); rintro e w2 (⟨rfl, hB2⟩ | ⟨rfl, h2, hB2⟩); all_goals (obtain ⟨hc2, hf2⟩ := bcell hB2; have hz2 := hB2.size; try simp only [World.size_alloc, World.size_drew] at hc2 hf2 hz2)) | (go_at_call 20; (with_reducible refine (few_any l A c _ (by omega) (h.out.keep keeps_giv (by repeat (first | exact Below.refl _ _ | assumption | refine Below.alloc1 ?_ _ | refine Below.drew ?_ | refine below_drewl ?_ | refine Below.setCell ?_ (by first | exact Nat.le_refl _ | (simp; done) | omega | (simp; omega)) _ | refine Below.lift ?_ (by assumption))))).mono ?_); rintro e w3 (⟨rfl, hB3⟩ | ⟨rfl, h3, hB3⟩); all_goals (obtain ⟨hc3, hf3⟩ := bcell hB3; have hz3 := hB3.size; try simp only [World.size_alloc, World.size_drew] at hc3 hf3 hz3)) | (go_at_call 3; (with_reducible refine (targetRuns_any _).mono ?_); rintro e w4 ⟨rfl, hB4⟩; obtain ⟨hc4, hf4⟩ := bcell hB4; have hz4 := hB4.size; try simp only [World.size_alloc, World.size_drew] at hc4 hf4 hz4))
  all_goals first | (go_ret; exact ⟨rfl, (by repeat (first | exact Below.refl _ _ | assumption | refine Below.alloc1 ?_ _ | refine Below.drew ?_ | refine below_drewl ?_ | refine Below.setCell ?_ (by first | exact Nat.le_refl _ | (simp; done) | omega | (simp; omega)) _ | refine Below.lift ?_ (by assumption)))⟩) | skip
  rename Hid (tsz t ≤ 2999) => h1
  obtain ⟨s1, s2⟩ := tSmall3_of h1.out
  obtain ⟨s3, s4⟩ := tSmall3_of h2.out
  have hst := hide (tSmall_of h1.out)
  have hsu := hide (tSmall_of h2.out)
  obtain ⟨f1, f2⟩ := few_len h3.out
  replace f2 : ∀ g ∈ l, g.bag.length ≤ 1000000 := fun g hg => Nat.le_trans (f2 g hg) (by omega)
  replace f1 : l.length ≤ 1000000 := by omega
  replace f2 := hide f2
  replace s2 := hide s2
  replace s4 := hide s4
  have hB : Below w.heap.size w w3 := (by repeat (first | exact Below.refl _ _ | assumption | refine Below.alloc1 ?_ _ | refine Below.drew ?_ | refine below_drewl ?_ | refine Below.setCell ?_ (by first | exact Nat.le_refl _ | (simp; done) | omega | (simp; omega)) _ | refine Below.lift ?_ (by assumption)))
  clear hc2 hf2 hc3 hf3
  obtain ⟨tt, htt⟩ : ∃ tt, tt = t ++ u := ⟨_, rfl⟩
  have g2 := hide (show metS tt l = if metS u l < metS t l then metS u l else metS t l by rw [htt, metS_append]; split <;> omega)
  have n2 : (metS tt l != if metS u l < metS t l then metS u l else metS t l) = false := by rw [g2.out]; simp
  have hbt := hide (show tSmall tt by rw [htt]; exact ⟨by rw [List.length_append]; omega, fun x hx => by rcases List.mem_append.1 hx with hx | hx; exact hst.out.2 x hx; exact hsu.out.2 x hx⟩)
  replace htt := hide htt
  have hz := hB.size
  refine wp_region_lit ?_
  repeat (first | (refine wpL_read (by rfl) (by rfl) ?_; intro K hK; go_big_quiet_op; go_big_quiet_on) | (refine wpL_skip (by rfl) ?_; simp only [Act.put, List.setIfInBounds_toArray, List.set_cons_zero, List.set_cons_succ]))
  refine wpL_act (by rfl) ?_; intro Q' hQ'
  go_wp2_with (fail)
  (refine (met_any t l _ _ _ _ _ hst.out (hT.out.keep keeps_tar' hB) f1 f2.out (h.out.keep keeps_giv hB)).mono ?_; rintro e w4 ⟨rfl, hB4⟩)
  go_wp2
  refine hQ'.out _ _ ?_
  clear hQ' Q'
  repeat (first | (refine wpL_read (by rfl) (by rfl) ?_; intro K hK; go_big_quiet_op; go_big_quiet_on) | (refine wpL_skip (by rfl) ?_; simp only [Act.put, List.setIfInBounds_toArray, List.set_cons_zero, List.set_cons_succ]))
  replace hB4 : Below w.heap.size w w4 := Below.lift hB hB4
  refine wpL_act (by rfl) ?_; intro Q' hQ'
  go_wp2_with (fail)
  (refine (met_any u l _ _ _ _ _ hsu.out (hU.out.keep keeps_tar' hB4) f1 f2.out (h.out.keep keeps_giv hB4)).mono ?_; rintro e w5 ⟨rfl, hB5⟩)
  go_wp2
  refine hQ'.out _ _ ?_
  clear hQ' Q'
  repeat (first | (refine wpL_read (by rfl) (by rfl) ?_; intro K hK; go_big_quiet_op; go_big_quiet_on) | (refine wpL_skip (by rfl) ?_; simp only [Act.put, List.setIfInBounds_toArray, List.set_cons_zero, List.set_cons_succ]))
  refine wpL_done ?_
  have hB50 : Below w.heap.size w w5 := Below.lift hB4 hB5
  have hz5 := hB50.size
  go_upto_region 4 with (fail)
  refine wp_region_lit ?_
  repeat (first | (refine wpL_read (by rfl) (by rfl) ?_; intro K hK; go_big_quiet_op; go_big_quiet_on) | (refine wpL_skip (by rfl) ?_; simp only [Act.put, List.setIfInBounds_toArray, List.set_cons_zero, List.set_cons_succ]))
  refine wpL_act (by rfl) ?_; intro Q' hQ'
  go_wp2_with (fail)
  refine hQ'.out _ _ ?_
  clear hQ' Q'
  repeat (first | (refine wpL_read (by rfl) (by rfl) ?_; intro K hK; go_big_quiet_op; go_big_quiet_on) | (refine wpL_skip (by rfl) ?_; simp only [Act.put, List.setIfInBounds_toArray, List.set_cons_zero, List.set_cons_succ]))
  (refine wpList_append_row (ok := fun _ => True) good_X (by rfl) _ _ 38 rfl w5.heap.size 41 i2 _ 24 Try.underlying38 I2.out.1 I2.out.2.1 I2.out.2.2.1 I2.out.2.2.2 rfl (by decide) _ [] rfl ?_ _ _ t rfl ?_ ?_ ?_ ?_ ?_ ?_; exact rowO_made w5 _ rfl (Nat.le_refl _); exact slat_old good_A lifts_A (Below.alloc1 hB50 _) (ok_new hB50) hT.out; exact (by simp only [List.length_nil, maxLen]; omega); exact (by simp only [List.length_nil]; omega); exact (by simp); exact trivial; intro v6 w6 hrow6 hB6; rw [List.nil_append] at hrow6; have hB61 : Below w.heap.size w w6 := hB50.trans (((Below.refl _ _).alloc hz5 _).trans (hB6.mono hz5)); have hz6 := hB61.size; have hz56 := hB6.size; clear hB6)
  simp only [Act.put, List.setIfInBounds_toArray, List.set_cons_zero, List.set_cons_succ]
  repeat (first | (refine wpL_read (by rfl) (by rfl) ?_; intro K hK; go_big_quiet_op; go_big_quiet_on) | (refine wpL_skip (by rfl) ?_; simp only [Act.put, List.setIfInBounds_toArray, List.set_cons_zero, List.set_cons_succ]))
  (refine wpList_append_row (ok := fun _ => True) good_X (by rfl) _ _ 38 rfl w5.heap.size 41 i2 _ 24 Try.underlying38 I2.out.1 I2.out.2.1 I2.out.2.2.1 I2.out.2.2.2 rfl (by decide) _ t rfl ?_ _ _ u rfl ?_ ?_ ?_ ?_ ?_ ?_; exact hrow6; exact slat_old good_A lifts_A hB61 (fun b hb => ⟨trivial, fun he => by have := (hrow6.lt he.symm).1; omega⟩) hU.out; exact (by simp only [maxLen]; omega); exact (by omega); exact (by simp at hz56; omega); exact trivial; intro v7 w7 hrow7 hB7; replace hB61 : Below w.heap.size w w7 := hB61.trans (hB7.mono hz5); clear hrow6; rw [← htt.out] at hrow7)
  simp only [Act.put, List.setIfInBounds_toArray, List.set_cons_zero, List.set_cons_succ]
  repeat (first | (refine wpL_read (by rfl) (by rfl) ?_; intro K hK; go_big_quiet_op; go_big_quiet_on) | (refine wpL_skip (by rfl) ?_; simp only [Act.put, List.setIfInBounds_toArray, List.set_cons_zero, List.set_cons_succ]))
  refine wpL_done ?_
  obtain ⟨A7, c7, rfl, hc7, hm7⟩ := hrow7.shape
  have hsl := hide (hrow7.slat good_X forget_X)
  go_upto_region 5 with (fail)
  refine wp_region_lit ?_
  repeat (first | (refine wpL_read (by rfl) (by rfl) ?_; intro K hK; go_big_quiet_op; go_big_quiet_on) | (refine wpL_skip (by rfl) ?_; simp only [Act.put, List.setIfInBounds_toArray, List.set_cons_zero, List.set_cons_succ]))
  refine wpL_act (by rfl) ?_; intro Q' hQ'
  go_wp2_with (fail)
  (refine (met_any tt l _ _ _ _ _ hbt.out hsl.out f1 f2.out (h.out.keep keeps_giv hB61)).mono ?_; rintro e w8 ⟨rfl, hB8⟩)
  go_wp2
  refine hQ'.out _ _ ?_
  clear hQ' Q'
  repeat (first | (refine wpL_read (by rfl) (by rfl) ?_; intro K hK; go_big_quiet_op; go_big_quiet_on) | (refine wpL_skip (by rfl) ?_; simp only [Act.put, List.setIfInBounds_toArray, List.set_cons_zero, List.set_cons_succ]))
  refine wpL_done ?_
  have hB80 : Below w.heap.size w w8 := Below.lift hB61 hB8
  have hz8 := hB80.size
  clear hsl hrow7
  generalize (if metS u l < metS t l then metS u l else metS t l) = mm at *
  by_cases h0 : 0 < t.length ∧ 0 < u.length
  · obtain ⟨h0, h00⟩ := h0
    have n0 : ((t.length : Int) == 0) = false := by rw [beq_eq_false_iff_ne]; omega
    have n1 : ((u.length : Int) == 0) = false := by rw [beq_eq_false_iff_ne]; omega
    obtain ⟨b1, o1, B1, j1, rfl, hb1, e1, u1, v1, hX⟩ := hT.out.sl h0
    obtain ⟨b2, o2, B2, j2, rfl, hb2, e2, u2, v2, hY⟩ := hU.out.sl h00
    simp only [Nat.add_zero] at e1 e2
    replace hX := hide hX
    replace hY := hide hY
    obtain ⟨ee, hee⟩ : ∃ ee, ee = t[0] ++ u[0] := ⟨_, rfl⟩
    have g3 := hide (show metS [ee] l = if metS [t[0]] l < metS [u[0]] l then metS [u[0]] l else metS [t[0]] l by rw [hee, metS_either]; split <;> omega)
    have l1 := (s2.out _ (List.getElem_mem h0)).1
    have l2 := (s4.out _ (List.getElem_mem h00)).1
    have hel : ee.length ≤ 6000 := by rw [hee, List.length_append]; omega
    have hbe := hide (show tSmall [ee] from ⟨by simp, fun x hx => by
      obtain rfl : x = ee := by simpa using hx
      refine ⟨by omega, fun y hy => ?_⟩
      rw [hee] at hy
      rcases List.mem_append.1 hy with hy | hy
      · exact (hst.out.2 _ (List.getElem_mem h0)).2 y hy
      · exact (hsu.out.2 _ (List.getElem_mem h00)).2 y hy⟩)
    have hbt0 := hide (show tSmall [t[0]] from ⟨by simp, fun x hx => by
      obtain rfl : x = t[0] := by simpa using hx
      exact hst.out.2 _ (List.getElem_mem h0)⟩)
    have hbu0 := hide (show tSmall [u[0]] from ⟨by simp, fun x hx => by
      obtain rfl : x = u[0] := by simpa using hx
      exact hsu.out.2 _ (List.getElem_mem h00)⟩)
    have n3 : (metS [ee] l == if metS [t[0]] l < metS [u[0]] l then metS [u[0]] l else metS [t[0]] l) = true := by rw [g3.out]; simp
    replace hee := hide hee
    obtain ⟨qc, qf⟩ := bcell hB80
    go_upto_region 9 with (fail)
    refine wp_region_moveB (w.heap.size) [(1, true), (2, true), (3, true), (5, true), (6, true), (7, true), (0, false), (4, false), (8, false), (9, true)] (by kernel_rfl) (by kernel_rfl) (by kernel_rfl) ?_
    repeat (first | (refine moveB_read (by rfl) (by rfl) (by rfl) ?_; intro K hK; go_big_quiet_op; go_big_quiet_on) | (refine moveB_skip (by rfl) (by rfl) ?_; simp only [Act.put, List.setIfInBounds_toArray, List.set_cons_zero, List.set_cons_succ]))
    refine moveB_act (by rfl) (by rfl) ?_; intro Q' hQ'
    go_wp2_with (fail)
    refine hQ'.out _ _ ?_ ?_
    · exact (by repeat (first | exact Below.refl _ _ | assumption | refine Below.alloc ?_ (by first | omega | (simp; omega)) _ | refine Below.drew ?_ | refine below_drewl ?_ | exact Below.mono (by assumption) (by omega)))
    clear hQ' Q'
    repeat (first | (refine moveB_read (by rfl) (by rfl) (by rfl) ?_; intro K hK; go_big_quiet_op; go_big_quiet_on) | (refine moveB_skip (by rfl) (by rfl) ?_; simp only [Act.put, List.setIfInBounds_toArray, List.set_cons_zero, List.set_cons_succ]))
    refine moveB_act (by rfl) (by rfl) ?_; intro Q' hQ'
    (refine wpList_append_row (ok := fun _ => True) good_A (by rfl) _ _ 41 rfl w8.heap.size 40 i1 _ 24 Try.underlying41 I1.out.1 I1.out.2.1 I1.out.2.2.1 I1.out.2.2.2 rfl (by decide) _ [] rfl ?_ _ _ t[0] rfl ?_ ?_ ?_ ?_ ?_ ?_; exact RowO.below good_A (rowO_made w8 _ rfl (Nat.le_refl _)) (Below.refl _ _).drew; exact slat_old good_M (lifts_plain rMat) (Below.drew (Below.alloc1 hB80 _)) (ok_new hB80) hX.out; exact (by simp only [List.length_nil, maxLen]; omega); exact (by simp only [List.length_nil]; omega); exact (by simp); exact trivial; intro v9 w9 hrow9 hB9; rw [List.nil_append] at hrow9; have hB91 : Below w.heap.size w w9 := hB80.trans ((((Below.refl _ _).alloc hz8 _).drew).trans (hB9.mono hz8)); have hz9 := hB91.size; have hz89 := hB9.size; replace hB9 := hB9.mono hz8)
    refine hQ'.out _ _ ?_ ?_
    · exact (by repeat (first | exact Below.refl _ _ | assumption | refine Below.alloc ?_ (by first | omega | (simp; omega)) _ | refine Below.drew ?_ | refine below_drewl ?_ | exact Below.mono (by assumption) (by omega)))
    clear hQ' Q'
    simp only [Act.put, List.setIfInBounds_toArray, List.set_cons_zero, List.set_cons_succ]
    repeat (first | (refine moveB_read (by rfl) (by rfl) (by rfl) ?_; intro K hK; go_big_quiet_op; go_big_quiet_on) | (refine moveB_skip (by rfl) (by rfl) ?_; simp only [Act.put, List.setIfInBounds_toArray, List.set_cons_zero, List.set_cons_succ]))
    refine moveB_act (by rfl) (by rfl) ?_; intro Q' hQ'
    (refine wpList_append_row (ok := fun _ => True) good_A (by rfl) _ _ 41 rfl w8.heap.size 40 i1 _ 24 Try.underlying41 I1.out.1 I1.out.2.1 I1.out.2.2.1 I1.out.2.2.2 rfl (by decide) _ t[0] rfl ?_ _ _ u[0] rfl ?_ ?_ ?_ ?_ ?_ ?_; exact hrow9; exact slat_old good_M (lifts_plain rMat) hB91 (fun b hb => ⟨trivial, fun he => by have := (hrow9.lt he.symm).1; omega⟩) hY.out; exact (by simp only [maxLen]; omega); exact (by omega); exact (by simp at hz89; omega); exact trivial; intro v10 w10 hrow10 hB10; replace hB91 : Below w.heap.size w w10 := hB91.trans (hB10.mono hz8); clear hrow9; rw [← hee.out] at hrow10; replace hB10 := hB10.mono hz8)
    refine hQ'.out _ _ ?_ ?_
    · exact (by repeat (first | exact Below.refl _ _ | assumption | refine Below.alloc ?_ (by first | omega | (simp; omega)) _ | refine Below.drew ?_ | refine below_drewl ?_ | exact Below.mono (by assumption) (by omega)))
    clear hQ' Q'
    simp only [Act.put, List.setIfInBounds_toArray, List.set_cons_zero, List.set_cons_succ]
    repeat (first | (refine moveB_read (by rfl) (by rfl) (by rfl) ?_; intro K hK; go_big_quiet_op; go_big_quiet_on) | (refine moveB_skip (by rfl) (by rfl) ?_; simp only [Act.put, List.setIfInBounds_toArray, List.set_cons_zero, List.set_cons_succ]))
    refine moveB_done ?_
    obtain ⟨A10, c10, rfl, hc10, hm10⟩ := hrow10.shape
    have hsl := hide (hrow10.slat good_A forget_A)
    have t0 := hide (hT.out.take1 h0)
    have t1 := hide (hU.out.take1 h00)
    clear qc qf hrow10
    obtain ⟨qc, qf⟩ := bcell hB91
    go_upto_region 10 with (fail)
    refine wp_region_move [(0, true), (2, true), (4, true), (5, true), (6, true), (8, true), (9, true), (10, true), (1, false), (3, false), (7, false), (11, false), (12, true), (13, true), (14, true), (15, false), (16, true), (17, true)] (by kernel_rfl) (by kernel_rfl) (by kernel_rfl) ?_
    repeat (first | (refine move_read (by rfl) (by rfl) (by rfl) ?_; intro K hK; go_big_quiet_op; go_big_quiet_on) | (refine move_skip (by rfl) (by rfl) ?_; simp only [Act.put, List.setIfInBounds_toArray, List.set_cons_zero, List.set_cons_succ]))
    refine move_act (by rfl) (by rfl) ?_; intro Q' hQ'
    go_wp2_with (fail)
    refine hQ'.out _ _ ?_ ?_
    · exact (by repeat (first | exact Below.refl _ _ | assumption | refine Below.alloc1 ?_ _ | refine Below.drew ?_ | refine below_drewl ?_ | refine Below.setCell ?_ (by first | exact Nat.le_refl _ | (simp; done) | omega | (simp; omega)) _ | refine Below.lift ?_ (by assumption)))
    clear hQ' Q'
    repeat (first | (refine move_read (by rfl) (by rfl) (by rfl) ?_; intro K hK; go_big_quiet_op; go_big_quiet_on) | (refine move_skip (by rfl) (by rfl) ?_; simp only [Act.put, List.setIfInBounds_toArray, List.set_cons_zero, List.set_cons_succ]))
    refine move_act (by rfl) (by rfl) ?_; intro Q' hQ'
    go_wp2_with (fail)
    (refine (met_any [ee] l _ _ 1 _ _ hbe.out (SlAt.keep keeps_tar' (Below.refl _ _).drew (slat_one (R := rSl (rSl rMat 7) 1) w10 _ [.slice A10 ee.length c10] ee _ rfl ⟨A10, c10, rfl, hc10, ⟨by unfold reachBytes; omega, hm10⟩, hsl.out.keep keeps_any' ((Below.refl _ _).alloc (Nat.le_refl _) _)⟩)) f1 f2.out (h.out.keep keeps_giv (Below.drew (Below.alloc1 hB91 _)))).mono ?_; rintro e w11 ⟨rfl, hB11⟩)
    go_wp2
    refine hQ'.out _ _ ?_ ?_
    · exact (by repeat (first | exact Below.refl _ _ | assumption | refine Below.alloc1 ?_ _ | refine Below.drew ?_ | refine below_drewl ?_ | refine Below.setCell ?_ (by first | exact Nat.le_refl _ | (simp; done) | omega | (simp; omega)) _ | refine Below.lift ?_ (by assumption)))
    clear hQ' Q'
    repeat (first | (refine move_read (by rfl) (by rfl) (by rfl) ?_; intro K hK; go_big_quiet_op; go_big_quiet_on) | (refine move_skip (by rfl) (by rfl) ?_; simp only [Act.put, List.setIfInBounds_toArray, List.set_cons_zero, List.set_cons_succ]))
    have hB111 : Below w.heap.size w w11 := Below.lift (Below.drew (Below.alloc1 hB91 _)) hB11
    refine move_act (by rfl) (by rfl) ?_; intro Q' hQ'
    go_wp2_with (fail)
    (refine (met_any [t[0]] l _ _ _ _ _ hbt0.out (t0.out.keep keeps_tar' hB111) f1 f2.out (h.out.keep keeps_giv hB111)).mono ?_; rintro e w12 ⟨rfl, hB12⟩)
    go_wp2
    refine hQ'.out _ _ ?_ ?_
    · exact (by repeat (first | exact Below.refl _ _ | assumption | refine Below.alloc1 ?_ _ | refine Below.drew ?_ | refine below_drewl ?_ | refine Below.setCell ?_ (by first | exact Nat.le_refl _ | (simp; done) | omega | (simp; omega)) _ | refine Below.lift ?_ (by assumption)))
    clear hQ' Q'
    repeat (first | (refine move_read (by rfl) (by rfl) (by rfl) ?_; intro K hK; go_big_quiet_op; go_big_quiet_on) | (refine move_skip (by rfl) (by rfl) ?_; simp only [Act.put, List.setIfInBounds_toArray, List.set_cons_zero, List.set_cons_succ]))
    have hB121 : Below w.heap.size w w12 := Below.lift hB111 hB12
    refine move_act (by rfl) (by rfl) ?_; intro Q' hQ'
    go_wp2_with (fail)
    (refine (met_any [u[0]] l _ _ _ _ _ hbu0.out (t1.out.keep keeps_tar' hB121) f1 f2.out (h.out.keep keeps_giv hB121)).mono ?_; rintro e w13 ⟨rfl, hB13⟩)
    go_wp2
    refine hQ'.out _ _ ?_ ?_
    · exact (by repeat (first | exact Below.refl _ _ | assumption | refine Below.alloc1 ?_ _ | refine Below.drew ?_ | refine below_drewl ?_ | refine Below.setCell ?_ (by first | exact Nat.le_refl _ | (simp; done) | omega | (simp; omega)) _ | refine Below.lift ?_ (by assumption)))
    clear hQ' Q'
    repeat (first | (refine move_read (by rfl) (by rfl) (by rfl) ?_; intro K hK; go_big_quiet_op; go_big_quiet_on) | (refine move_skip (by rfl) (by rfl) ?_; simp only [Act.put, List.setIfInBounds_toArray, List.set_cons_zero, List.set_cons_succ]))
    have hB131 : Below w.heap.size w w13 := Below.lift hB121 hB13
    generalize (if metS [t[0]] l < metS [u[0]] l then metS [u[0]] l else metS [t[0]] l) = mx at *
    refine move_act (by rfl) (by rfl) ?_; intro Q' hQ'
    go_wp2_with (fail)
    (refine (targetRuns_any _).mono ?_; rintro e w14 ⟨rfl, hB14⟩)
    go_wp2
    refine hQ'.out _ _ ?_ ?_
    · exact (by repeat (first | exact Below.refl _ _ | assumption | refine Below.alloc1 ?_ _ | refine Below.drew ?_ | refine below_drewl ?_ | refine Below.setCell ?_ (by first | exact Nat.le_refl _ | (simp; done) | omega | (simp; omega)) _ | refine Below.lift ?_ (by assumption)))
    clear hQ' Q'
    repeat (first | (refine move_read (by rfl) (by rfl) (by rfl) ?_; intro K hK; go_big_quiet_op; go_big_quiet_on) | (refine move_skip (by rfl) (by rfl) ?_; simp only [Act.put, List.setIfInBounds_toArray, List.set_cons_zero, List.set_cons_succ]))
    refine move_done ?_
    go_wp2
    go_ret
    exact ⟨rfl, Below.lift hB131 hB14⟩
  · have hor : t.length = 0 ∨ u.length = 0 := by omega
    by_cases h1' : t.length = 0
    · rw [h1']
      go_wp2_with (go_at_call 3; refine (targetRuns_any _).mono ?_; rintro e w14 ⟨rfl, hB14⟩)
      go_ret
      exact ⟨rfl, Below.lift hB80 hB14⟩
    · have h2' : u.length = 0 := by omega
      have n0 : ((t.length : Int) == 0) = false := by rw [beq_eq_false_iff_ne]; omega
      rw [h2']
      go_wp2_with (go_at_call 3; refine (targetRuns_any _).mono ?_; rintro e w14 ⟨rfl, hB14⟩)
      go_ret
      exact ⟨rfl, Below.lift hB80 hB14⟩
end Go.Proofs.Ytnienipaicckmaa
