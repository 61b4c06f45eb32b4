/-
  TargetOrder: the walk.
-/
import Derived.Test.YtnienipaicckmaaTargetTells
import Derived.Test.YtnienipaicckmaaRowo
import Derived.Test.YtnienipaicckmaaPlain13
import Derived.Test.YtnienipaicckmaaMove
import Derived.WalkLawsBesides
import Derived.WalkSpells
import Derived.Deep.Cut
import Derived.Deep.Light
namespace Go.Proofs.Ytnienipaicckmaa
open Go.RowKit
set_option linter.unusedSimpArgs false
set_option linter.unusedVariables false
attribute [local go_sem] ext_cell ext_frozen extB_cell extB_frozen
attribute [local go_sem low] alloc_cell alloc_frozen
attribute [local go_sem ↓] eql_val

abbrev fM : RF Mat := fun _ => rMat
abbrev fA : RF (List Mat) := fSl fM 7
abbrev fX : RF (List (List Mat)) := fSl fA 1
theorem good_M : Good fM := good_plain rMat fun _ _ _ _ h => h
theorem good_A : Good fA := good_sl good_M 7
theorem good_X : Good fX := good_sl good_A 1
theorem forget_A : Forget fA (rSl rMat 7) := forget_sl (forget_plain rMat) 7
theorem forget_X : Forget fX rTar' := forget_sl forget_A 1
theorem lifts_A : Lifts fA (rSl rMat 7) := lifts_sl (lifts_plain rMat) 7
theorem lifts_X : Lifts fX rTar' := lifts_sl lifts_A 1
theorem info_mat : (Try.prog.info? 28).map (fun i => (i.zero, i.size, i.bytes)) = some (some (.agg #[.int .i64 0, .string .empty, .bool false, .int .i64 0, .int .i64 0, .int .i64 0, .string .empty]), 7, 72) := by kernel_rfl
theorem info_all : (Try.prog.info? 40).map (fun i => (i.zero, i.size, i.bytes)) = some (some (.slice none 0 0), 1, 24) := by kernel_rfl
theorem info_any : (Try.prog.info? 41).map (fun i => (i.zero, i.size, i.bytes)) = some (some (.slice none 0 0), 1, 24) := by kernel_rfl
theorem cells_mat {w : World} {cs : List Value} {m : Mat} (h : rMat w cs m) : ∀ u ∈ cs, u.oneCell' = true := by
  obtain ⟨rfl, _⟩ := h
  intro u hu
  simp [Mat.cells] at hu
  rcases hu with rfl | rfl | rfl | rfl | rfl | rfl | rfl <;> rfl
theorem cells_sl {α : Type} {R : RF α} {size : Nat} {ok : Nat → Prop} {w : World} {cs : List Value} {l : List α} (h : fSl R size ok w cs l) : ∀ u ∈ cs, u.oneCell' = true := by
  obtain ⟨A, c, rfl, _⟩ := h
  intro u hu
  simp at hu
  subst hu; rfl
theorem RowO.lt {α : Type} {R : RF α} {size : Nat} {ok : Nat → Prop} {w : World} {base : Nat} {e : TypeId} {v : Value} {l : List α} (h : RowO R size ok w base e v l) {k : Nat} (hk : v.ownBlock = some k) : base ≤ k ∧ k < w.heap.size := by
  obtain ⟨css, h1, _⟩ := h
  exact h1.lt k hk
theorem ok_new {w w5 : World} {n c : Nat} (hB : Below w.heap.size w w5) (b : Nat) (hb : b < w.heap.size) : okR (fun _ => True) (.slice (some ⟨w5.heap.size, 0, none⟩) n c) b :=
  ⟨trivial, fun he => by
    have h1 := hB.size
    have h2 : b = w5.heap.size := Option.some.inj he
    omega⟩
/-- two matches in new memory -/
theorem slat_mat2 (w : World) (t : TypeId) (b : Nat) (m : Mat) (ok : Nat → Prop) (hb : b = w.heap.size) (hm : m.Fit) :
    SlAt (fun w cs y => (∀ u ∈ cs, u.oneCell' = true) ∧ fM ok w cs y) 7 (w.alloc (.cells #[.int .i64 m.attr.cat, .string m.attr.name, .bool m.attr.must, .int .i64 m.op, .int .i64 m.val.kind, .int .i64 m.val.n, .string m.val.s, .int .i64 m.attr.cat, .string m.attr.name, .bool m.attr.must, .int .i64 m.op, .int .i64 m.val.kind, .int .i64 m.val.n, .string m.val.s] t)) (some ⟨b, 0, none⟩) [m, m] := by
  subst hb
  exact slat_of (R := fun w cs y => (∀ u ∈ cs, u.oneCell' = true) ∧ fM ok w cs y) w t [m, m] Mat.cells (fun _ => rfl) (fun w' y hy => by
    obtain rfl : y = m := by simpa using hy
    exact ⟨cells_mat (w := w') ⟨rfl, hm⟩, rfl, hm⟩)
/-- a slice in new memory -/
theorem slat_hd {α : Type} {R : RF α} {size : Nat} (hR : Good R) (w : World) (t : TypeId) (b : Nat) (A : Option Addr) (c : Nat) (l : List α) (ok : Nat → Prop) (hb : b = w.heap.size) (h1 : l.length ≤ c) (h2 : l.length ≤ reachBytes) (h3 : c ≤ maxLen) (h : SlAtA ok (R ok) size w A l) :
    SlAt (fun w cs y => (∀ u ∈ cs, u.oneCell' = true) ∧ fSl R size ok w cs y) 1 (w.alloc (.cells #[.slice A l.length c] t)) (some ⟨b, 0, none⟩) [l] :=
  slat_one (R := fun w cs y => (∀ u ∈ cs, u.oneCell' = true) ∧ fSl R size ok w cs y) w t [.slice A l.length c] l b hb
    (have q : fSl R size ok (w.alloc (.cells [Value.slice A l.length c].toArray t)) [.slice A l.length c] l := ⟨A, c, rfl, h1, ⟨h2, h3⟩, h.keep hR (SameOn.of ((Below.refl _ _).alloc (Nat.le_refl _) _))⟩
     ⟨cells_sl q, q⟩)
/-- what came in, as elements to be appended -/
theorem slat_old {α : Type} {R : RF α} {R' : Rp α} {size : Nat} (hR : Good R) (hf : Lifts R R') {ok : Nat → Prop} {w0 w : World} {A : Option Addr} {l : List (List α)} (hb : Below w0.heap.size w0 w) (hok : ∀ b, b < w0.heap.size → ok b) (h : SlAt (rSl R' size) 1 w0 A l) :
    SlAt (fun w cs y => (∀ u ∈ cs, u.oneCell' = true) ∧ fSl R size ok w cs y) 1 w A l := by
  have h1 := SlAtA.old (R := fSl R size) (good_sl hR size) (lifts_sl hf size) (ok := ok) hb hok h
  exact h1.drop.imp fun cs x _ hx => ⟨cells_sl hx, hx⟩
set_option maxRecDepth 100000 in
set_option maxHeartbeats 4000000 in
theorem targetOrder_any (t : Tar) (l : List Giv) (T A : Option Addr) (d c : Nat) (w : World) (hT : SlAt rTar' 1 w T t) (ht : t.length ≤ d) (hd : t.length ≤ reachBytes ∧ d ≤ maxLen) (h : SlAt rGiv 3 w A l) (hl : l.length ≤ c) (hc : l.length ≤ reachBytes ∧ c ≤ maxLen) :
    Calls Try.prog 7 #[.slice T t.length d, .slice A l.length c] w fun e w' => e = .returned (.bool true) ∧ Below w.heap.size w w' := by
  replace h := hide h
  replace hT := hide hT
  obtain ⟨i0, hi, hz0, hz1, hz2⟩ := info_parts info_mat
  obtain ⟨i1, hi1, hy0, hy1, hy2⟩ := info_parts info_all
  obtain ⟨i2, hi2, hx0, hx1, hx2⟩ := info_parts info_any
  have I0 := hide (And.intro hi (And.intro hz0 (And.intro hz1 hz2)))
  have I1 := hide (And.intro hi1 (And.intro hy0 (And.intro hy1 hy2)))
  have I2 := hide (And.intro hi2 (And.intro hx0 (And.intro hx1 hx2)))
  clear hi hz0 hz1 hz2 hi1 hy0 hy1 hy2 hi2 hx0 hx1 hx2
  go_enter Try.func7, Try.ntmps7
  go_upto_region 3 with (first | (go_at_call 19; (with_reducible refine (small13_any t T d _ (hT.out.keep keeps_tar' (by repeat (first | exact Below.refl _ _ | assumption | refine Below.alloc1 ?_ _ | refine Below.drew ?_ | refine below_drewl ?_ | refine Below.setCell ?_ (by first | exact Nat.le_refl _ | (simp; done) | omega | (simp; omega)) _ | refine Below.lift ?_ (by assumption)))) ht hd).mono ?_); rintro e w2 (⟨rfl, hB2⟩ | ⟨rfl, h2, hB2⟩); all_goals (obtain ⟨hc2, hf2⟩ := bcell hB2; have hz2 := hB2.size; try simp only [World.size_alloc, World.size_drew] at hc2 hf2 hz2)) | (go_at_call 20; (with_reducible refine (few_any l A c _ (by omega) (h.out.keep keeps_giv (by repeat (first | exact Below.refl _ _ | assumption | refine Below.alloc1 ?_ _ | refine Below.drew ?_ | refine below_drewl ?_ | refine Below.setCell ?_ (by first | exact Nat.le_refl _ | (simp; done) | omega | (simp; omega)) _ | refine Below.lift ?_ (by assumption))))).mono ?_); rintro e w3 (⟨rfl, hB3⟩ | ⟨rfl, h3, hB3⟩); all_goals (obtain ⟨hc3, hf3⟩ := bcell hB3; have hz3 := hB3.size; try simp only [World.size_alloc, World.size_drew] at hc3 hf3 hz3)) | (go_at_call 3; (with_reducible refine (targetRuns_any _).mono ?_); rintro e w4 ⟨rfl, hB4⟩; obtain ⟨hc4, hf4⟩ := bcell hB4; have hz4 := hB4.size; try simp only [World.size_alloc, World.size_drew] at hc4 hf4 hz4))
  all_goals first | (go_ret; exact ⟨rfl, (by repeat (first | exact Below.refl _ _ | assumption | refine Below.alloc1 ?_ _ | refine Below.drew ?_ | refine below_drewl ?_ | refine Below.setCell ?_ (by first | exact Nat.le_refl _ | (simp; done) | omega | (simp; omega)) _ | refine Below.lift ?_ (by assumption)))⟩) | skip
  have hs := tSmall_of h2.out
  obtain ⟨s3, s4⟩ := tSmall3_of h2.out
  replace s4 := hide s4
  obtain ⟨f1, f2⟩ := few_len h3.out
  replace f2 : ∀ g ∈ l, g.bag.length ≤ 1000000 := fun g hg => Nat.le_trans (f2 g hg) (by omega)
  replace f1 : l.length ≤ 1000000 := by omega
  replace f2 := hide f2
  have hB : Below w.heap.size w w3 := (by repeat (first | exact Below.refl _ _ | assumption | refine Below.alloc1 ?_ _ | refine Below.drew ?_ | refine below_drewl ?_ | refine Below.setCell ?_ (by first | exact Nat.le_refl _ | (simp; done) | omega | (simp; omega)) _ | refine Below.lift ?_ (by assumption)))
  have hz : w.heap.size ≤ w3.heap.size := hB.size
  have hs0 := hide hs
  obtain ⟨s1, s2⟩ := hs
  replace s2 := hide s2
  clear hc2 hf2 hc3 hf3
  go_wp2
  go_loopw [5, 6] (fun v i wr => ∃ k : Nat, k ≤ t.length ∧ i = .int .i64 ((k : Int) - 1) ∧ RowO fX 1 (fun _ => True) wr w3.heap.size 41 v (tarBk (t.drop k)) ∧ Below w3.heap.size w3 wr) (fun _ i _ => (intOf i + 1).toNat)
  case atStart => exact ⟨t.length, Nat.le_refl _, by go_num, by rw [List.drop_length]; exact rowO_nil, Below.refl _ _⟩
  case round =>
    obtain ⟨k, hk, rfl, hrow, hBr⟩ := hrel
    have hB1 : Below w.heap.size w wr := Below.lift hB hBr
    obtain ⟨qc, qf⟩ := bcell hB1
    replace hrow := hide hrow
    rcases k with _ | k
    · rw [List.drop_zero] at hrow
      obtain ⟨A5, c5, rfl, hc5, hm5⟩ := hrow.out.shape
      have hsl := hide (hrow.out.slat good_X forget_X)
      have hl5 := tarBk_len t
      have hbs : tSmall (tarBk t) := by
        refine ⟨by rw [hl5]; exact s1, fun x hx => ?_⟩
        simp only [tarBk, List.mem_map, List.mem_reverse] at hx
        obtain ⟨x0, hx0, rfl⟩ := hx
        obtain ⟨y1, y2⟩ := s2.out x0 hx0
        refine ⟨by rw [anyBk_len]; exact y1, fun y hy => ?_⟩
        simp only [anyBk, List.mem_map, List.mem_reverse] at hy
        obtain ⟨y0, hy0, rfl⟩ := hy
        rw [allBk_len]
        have := (s4.out x0 hx0).2 y0 hy0
        omega
      have g1 := hide (metS_bk t l)
      replace hbs := hide hbs
      obtain ⟨tt, htt⟩ : ∃ tt, tt = t ++ t := ⟨_, rfl⟩
      have hbt := hide (show tSmall tt by rw [htt]; exact ⟨by rw [List.length_append]; omega, fun x hx => by rcases List.mem_append.1 hx with hx | hx <;> exact s2.out x hx⟩)
      have g2 := hide (show metS tt l = metS t l by rw [htt]; exact metS_twice t l)
      replace htt := hide htt
      replace hl5 := hide hl5
      go_upto_region 19 with (go_at_call 22; (with_reducible refine (met_any t l _ _ _ _ _ hs0.out (hT.out.keep keeps_tar' hB1) f1 f2.out (h.out.keep keeps_giv hB1)).mono ?_); rintro e w4 ⟨rfl, hB4⟩)
      have hB41 : Below w.heap.size w w4 := Below.lift hB1 hB4
      have hsl' := hide (hsl.out.keep keeps_tar' hB4)
      clear qc qf
      refine wp_region_lit ?_
      repeat (first | (refine wpL_read (by rfl) (by rfl) ?_; intro K hK; go_big_quiet_op; go_big_quiet_on) | (refine wpL_skip (by rfl) ?_; simp only [Act.put, List.setIfInBounds_toArray, List.set_cons_zero, List.set_cons_succ]))
      refine wpL_act (by rfl) ?_; intro Q' hQ'
      go_wp2_with (fail)
      (refine (met_any (tarBk t) l _ _ _ _ _ hbs.out hsl'.out f1 f2.out (h.out.keep keeps_giv hB41)).mono ?_; rw [g1.out]; rintro e w5 ⟨rfl, hB5⟩)
      go_wp2
      refine hQ'.out _ _ ?_
      clear hQ' Q'
      repeat (first | (refine wpL_read (by rfl) (by rfl) ?_; intro K hK; go_big_quiet_op; go_big_quiet_on) | (refine wpL_skip (by rfl) ?_; simp only [Act.put, List.setIfInBounds_toArray, List.set_cons_zero, List.set_cons_succ]))
      refine wpL_act (by rfl) ?_; intro Q' hQ'
      go_wp2_with (fail)
      refine hQ'.out _ _ ?_
      clear hQ' Q'
      repeat (first | (refine wpL_read (by rfl) (by rfl) ?_; intro K hK; go_big_quiet_op; go_big_quiet_on) | (refine wpL_skip (by rfl) ?_; simp only [Act.put, List.setIfInBounds_toArray, List.set_cons_zero, List.set_cons_succ]))
      (refine wpList_append_row (ok := fun _ => True) good_X (by rfl) _ _ 38 rfl w5.heap.size 41 i2 _ 24 Try.underlying38 I2.out.1 I2.out.2.1 I2.out.2.2.1 I2.out.2.2.2 rfl (by decide) _ [] rfl ?_ _ _ t rfl ?_ ?_ ?_ ?_ ?_ ?_; exact rowO_made w5 _ rfl (Nat.le_refl _); exact slat_old good_A lifts_A (Below.alloc1 (Below.lift hB41 hB5) _) (ok_new (Below.lift hB41 hB5)) hT.out; exact (by simp only [List.length_nil, maxLen]; omega); exact (by simp only [List.length_nil]; omega); exact (by simp); exact trivial; intro v6 w6 hrow6 hB6; rw [List.nil_append] at hrow6; have hB61 : Below w.heap.size w w6 := (Below.lift hB41 hB5).trans (((Below.refl _ _).alloc (Below.lift hB41 hB5).size _).trans (hB6.mono (Below.lift hB41 hB5).size)); have hz6 := hB61.size; have hz56 := hB6.size; clear hB6)
      simp only [Act.put, List.setIfInBounds_toArray, List.set_cons_zero, List.set_cons_succ]
      repeat (first | (refine wpL_read (by rfl) (by rfl) ?_; intro K hK; go_big_quiet_op; go_big_quiet_on) | (refine wpL_skip (by rfl) ?_; simp only [Act.put, List.setIfInBounds_toArray, List.set_cons_zero, List.set_cons_succ]))
      (refine wpList_append_row (ok := fun _ => True) good_X (by rfl) _ _ 38 rfl w5.heap.size 41 i2 _ 24 Try.underlying38 I2.out.1 I2.out.2.1 I2.out.2.2.1 I2.out.2.2.2 rfl (by decide) _ t rfl ?_ _ _ t rfl ?_ ?_ ?_ ?_ ?_ ?_; exact hrow6; exact slat_old good_A lifts_A hB61 (fun b hb => ⟨trivial, fun he => by have hz5 := (Below.lift hB41 hB5).size; have := (hrow6.lt he.symm).1; omega⟩) hT.out; exact (by simp only [maxLen]; omega); exact (by omega); exact (by simp at hz56; omega); exact trivial; intro v7 w7 hrow7 hB7; replace hB61 : Below w.heap.size w w7 := hB61.trans (hB7.mono (Below.lift hB41 hB5).size); clear hrow6; rw [← htt.out] at hrow7; have hrow6 := hrow7; clear hrow7 hB7)
      simp only [Act.put, List.setIfInBounds_toArray, List.set_cons_zero, List.set_cons_succ]
      repeat (first | (refine wpL_read (by rfl) (by rfl) ?_; intro K hK; go_big_quiet_op; go_big_quiet_on) | (refine wpL_skip (by rfl) ?_; simp only [Act.put, List.setIfInBounds_toArray, List.set_cons_zero, List.set_cons_succ]))
      obtain ⟨A6, c6, rfl, hc6, hm6⟩ := hrow6.shape
      refine wpL_act (by rfl) ?_; intro Q' hQ'
      go_wp2_with (fail)
      (refine (met_any tt l _ _ _ _ _ hbt.out (hrow6.slat good_X forget_X) f1 f2.out (h.out.keep keeps_giv hB61)).mono ?_; rw [g2.out]; rintro e w8 ⟨rfl, hB8⟩)
      go_wp2
      refine hQ'.out _ _ ?_
      clear hQ' Q'
      repeat (first | (refine wpL_read (by rfl) (by rfl) ?_; intro K hK; go_big_quiet_op; go_big_quiet_on) | (refine wpL_skip (by rfl) ?_; simp only [Act.put, List.setIfInBounds_toArray, List.set_cons_zero, List.set_cons_succ]))
      refine wpL_act (by rfl) ?_; intro Q' hQ'
      go_wp2_with (fail)
      (refine (met_any [] l none _ _ _ _ (by simp [tSmall]) SlAt.nil f1 f2.out (h.out.keep keeps_giv (Below.lift hB61 hB8))).mono ?_; rw [show metS [] l = 2 from rfl]; rintro e w9 ⟨rfl, hB9⟩)
      go_wp2
      refine hQ'.out _ _ ?_
      clear hQ' Q'
      repeat (first | (refine wpL_read (by rfl) (by rfl) ?_; intro K hK; go_big_quiet_op; go_big_quiet_on) | (refine wpL_skip (by rfl) ?_; simp only [Act.put, List.setIfInBounds_toArray, List.set_cons_zero, List.set_cons_succ]))
      have hB91 : Below w.heap.size w w9 := Below.lift (Below.lift hB61 hB8) hB9
      refine wpL_act (by rfl) ?_; intro Q' hQ'
      go_wp2_with (fail)
      refine hQ'.out _ _ ?_
      clear hQ' Q'
      repeat (first | (refine wpL_read (by rfl) (by rfl) ?_; intro K hK; go_big_quiet_op; go_big_quiet_on) | (refine wpL_skip (by rfl) ?_; simp only [Act.put, List.setIfInBounds_toArray, List.set_cons_zero, List.set_cons_succ]))
      refine wpL_act (by rfl) ?_; intro Q' hQ'
      go_wp2_with (fail)
      (refine (met_any [[]] l _ _ 1 _ _ (by simp [tSmall]) (slat_one (R := rSl (rSl rMat 7) 1) w9 _ [.slice none 0 0] [] _ rfl ⟨none, 0, rfl, by simp, by simp [maxLen], SlAt.nil⟩) f1 f2.out (h.out.keep keeps_giv (Below.alloc1 hB91 _))).mono ?_; rw [show metS [[]] l = 0 from rfl]; rintro e w10 ⟨rfl, hB10⟩)
      go_wp2
      refine hQ'.out _ _ ?_
      clear hQ' Q'
      repeat (first | (refine wpL_read (by rfl) (by rfl) ?_; intro K hK; go_big_quiet_op; go_big_quiet_on) | (refine wpL_skip (by rfl) ?_; simp only [Act.put, List.setIfInBounds_toArray, List.set_cons_zero, List.set_cons_succ]))
      have hB101 : Below w.heap.size w w10 := Below.lift (Below.alloc1 hB91 _) hB10
      refine wpL_act (by rfl) ?_; intro Q' hQ'
      go_wp2_with (fail)
      (refine (all_t_nil l _ _ _ f1 f2.out (h.out.keep keeps_giv hB101)).mono ?_; rw [show allT [] l = 2 from rfl]; rintro e w11 ⟨rfl, hB11⟩)
      go_wp2
      refine hQ'.out _ _ ?_
      clear hQ' Q'
      repeat (first | (refine wpL_read (by rfl) (by rfl) ?_; intro K hK; go_big_quiet_op; go_big_quiet_on) | (refine wpL_skip (by rfl) ?_; simp only [Act.put, List.setIfInBounds_toArray, List.set_cons_zero, List.set_cons_succ]))
      refine wpL_act (by rfl) ?_; intro Q' hQ'
      go_wp2_with (fail)
      (refine (targetRuns_any _).mono ?_; rintro e w12 ⟨rfl, hB12⟩)
      go_wp2
      refine hQ'.out _ _ ?_
      clear hQ' Q'
      repeat (first | (refine wpL_read (by rfl) (by rfl) ?_; intro K hK; go_big_quiet_op; go_big_quiet_on) | (refine wpL_skip (by rfl) ?_; simp only [Act.put, List.setIfInBounds_toArray, List.set_cons_zero, List.set_cons_succ]))
      refine wpL_done ?_
      go_wp2
      go_ret
      exact ⟨rfl, Below.lift (Below.lift hB101 hB11) hB12⟩
    · have hlt : k < t.length := by omega
      have hk1 : ((k + 1 : Nat) : Int) - 1 = (k : Int) := by omega
      rw [hk1]
      clear hk1
      obtain ⟨b1, o1, B1, j1, rfl, hb1, e1, u1, v1, hX⟩ := hT.out.sl hlt
      obtain ⟨x1, x2⟩ := s2.out _ (List.getElem_mem hlt)
      replace hX := hide hX
      replace x2 := hide x2
      have hav : ∀ b, wr.heap.size ≤ b → okR (fun _ => True) u5 b := fun b hb => ⟨trivial, fun he => by have := (hrow.out.lt he.symm).2; omega⟩
      replace hav := hide hav
      have hzo := hBr.size
      obtain ⟨B7, hB7a, hB7b⟩ : ∃ B7, B7 ≤ wr.heap.size ∧ wr.heap.size ≤ B7 := ⟨_, Nat.le_refl _, Nat.le_refl _⟩
      go_wp2
      go_loopw [7, 8] (fun v i wr2 => ∃ k2 : Nat, k2 ≤ t[k].length ∧ i = .int .i64 ((k2 : Int) - 1) ∧ RowO fA 1 (fun b => B7 ≤ b) wr2 B7 40 v (anyBk (t[k].drop k2)) ∧ Below wr.heap.size wr wr2) (fun _ i _ => (intOf i + 1).toNat)
      case atStart => exact ⟨t[k].length, Nat.le_refl _, by go_num, by rw [List.drop_length]; exact rowO_nil, Below.refl _ _⟩
      case round =>
        clear qc qf
        obtain ⟨k2, hk2, rfl, hrow2, hBr2⟩ := hrel
        have hB2 : Below w.heap.size w wr := Below.lift hB1 hBr2
        obtain ⟨qc, qf⟩ := bcell hB2
        have hz2' := hBr2.size
        replace hrow2 := hide hrow2
        rcases k2 with _ | k2
        · rw [List.drop_zero] at hrow2
          obtain ⟨A7, c7, rfl, hc7, hm7⟩ := hrow2.out.shape
          have hl7 := anyBk_len t[k]
          have hl5 := tarBk_len (t.drop (k + 1))
          simp only [List.length_drop] at hl5
          replace hl7 := hide hl7
          replace hl5 := hide hl5
          go_wp2_with (at_builtin; refine wpList_append_row (ok := fun _ => True) good_X rfl _ _ 38 rfl w3.heap.size 41 i2 _ 24 Try.underlying38 I2.out.1 I2.out.2.1 I2.out.2.2.1 I2.out.2.2.2 rfl (by decide) _ (tarBk (t.drop (k + 1))) rfl ?_ _ _ [anyBk t[k]] rfl ?_ ?_ ?_ ?_ ?_ ?_; exact hrow.out.below good_X (by repeat (first | exact Below.refl _ _ | assumption | refine Below.alloc1 ?_ _ | refine Below.drew ?_ | refine below_drewl ?_ | refine Below.setCell ?_ (by first | exact Nat.le_refl _ | (simp; done) | omega | (simp; omega)) _ | refine Below.lift ?_ (by assumption))); exact slat_hd good_A wr _ _ A7 c7 (anyBk t[k]) _ rfl hc7 (by rw [hl7.out]; unfold reachBytes; omega) hm7 (hrow2.out.slatA good_A (fun b _ hb => hav.out b (by omega)) (fun b hb _ => hav.out b (by omega))); exact (by simp only [List.length_singleton, maxLen]; rw [hl5.out]; omega); exact (by simp only [List.length_singleton]; rw [hl5.out]; omega); exact (by simp only [World.size_alloc]; omega); exact trivial; intro v' w' hrow' hB')
          go_roundw
          case rel => exact ⟨k, by omega, by go_num, by rw [tarBk_step hlt]; exact hrow', (hBr.trans ((Below.alloc1 hBr2 _).mono hBr.size)).trans hB'⟩
          case measure => simp [intOf]
        · have hlt2 : k2 < t[k].length := by omega
          have hk3 : ((k2 + 1 : Nat) : Int) - 1 = (k2 : Int) := by omega
          rw [hk3]
          clear hk3
          obtain ⟨b2, o2, B2, j2, rfl, hb2, e2, u2, v2, hY⟩ := hX.out.sl hlt2
          have hy := x2.out _ (List.getElem_mem hlt2)
          replace hY := hide hY
          have hav2 : ∀ b, wr.heap.size ≤ b → okR (fun b => B7 ≤ b) u7 b := fun b hb => ⟨show B7 ≤ b by omega, fun he => by have := (hrow2.out.lt he.symm).2; omega⟩
          replace hav2 := hide hav2
          obtain ⟨B9, hB9a, hB9b⟩ : ∃ B9, B9 ≤ wr.heap.size ∧ wr.heap.size ≤ B9 := ⟨_, Nat.le_refl _, Nat.le_refl _⟩
          go_wp2
          go_loopw [9, 10] (fun v i wr3 => ∃ k3 : Nat, k3 ≤ t[k][k2].length ∧ i = .int .i64 ((k3 : Int) - 1) ∧ RowO fM 7 (fun b => B9 ≤ b) wr3 B9 28 v (allBk (t[k][k2].drop k3)) ∧ Below wr.heap.size wr wr3) (fun _ i _ => (intOf i + 1).toNat)
          case atStart => exact ⟨t[k][k2].length, Nat.le_refl _, by go_num, by rw [List.drop_length]; exact rowO_nil, Below.refl _ _⟩
          case round =>
            clear qc qf
            obtain ⟨k3, hk3, rfl, hrow3, hBr3⟩ := hrel
            have hB3' : Below w.heap.size w wr := Below.lift hB2 hBr3
            obtain ⟨qc, qf⟩ := bcell hB3'
            have hz3' := hBr3.size
            replace hrow3 := hide hrow3
            rcases k3 with _ | k3
            · rw [List.drop_zero] at hrow3
              obtain ⟨A9, c9, rfl, hc9, hm9⟩ := hrow3.out.shape
              have hl9 := allBk_len t[k][k2]
              have hl7 := anyBk_len (t[k].drop (k2 + 1))
              simp only [List.length_drop] at hl7
              replace hl7 := hide hl7
              replace hl9 := hide hl9
              go_wp2_with (at_builtin; refine wpList_append_row (ok := fun b => B7 ≤ b) good_A rfl _ _ 41 rfl B7 40 i1 _ 24 Try.underlying41 I1.out.1 I1.out.2.1 I1.out.2.2.1 I1.out.2.2.2 rfl (by decide) _ (anyBk (t[k].drop (k2 + 1))) rfl ?_ _ _ [allBk t[k][k2]] rfl ?_ ?_ ?_ ?_ ?_ ?_; exact hrow2.out.below good_A (by repeat (first | exact Below.refl _ _ | assumption | refine Below.alloc1 ?_ _ | refine Below.drew ?_ | refine below_drewl ?_ | refine Below.setCell ?_ (by first | exact Nat.le_refl _ | (simp; done) | omega | (simp; omega)) _ | refine Below.lift ?_ (by assumption))); exact slat_hd good_M wr _ _ A9 c9 (allBk t[k][k2]) _ rfl hc9 (by rw [hl9.out]; unfold reachBytes; omega) hm9 (hrow3.out.slatA good_M (fun b _ hb => hav2.out b (by omega)) (fun b hb _ => hav2.out b (by omega))); exact (by simp only [List.length_singleton, maxLen]; rw [hl7.out]; omega); exact (by simp only [List.length_singleton]; rw [hl7.out]; omega); exact (by simp only [World.size_alloc]; omega); exact (show B7 ≤ _ by simp only [World.size_alloc]; omega); intro v' w' hrow' hB')
              go_roundw
              case rel => exact ⟨k2, by omega, by go_num, by rw [anyBk_step hlt2]; exact hrow', (hBr2.trans ((Below.alloc1 hBr3 _).mono hBr2.size)).trans (hB'.mono hB7b)⟩
              case measure => simp [intOf]
            · have hlt3 : k3 < t[k][k2].length := by omega
              have hk4 : ((k3 + 1 : Nat) : Int) - 1 = (k3 : Int) := by omega
              rw [hk4]
              clear hk4
              obtain ⟨b3, o3, rfl, hb3, ⟨e3, e4, e5⟩, e6, ⟨e7, e8, e9⟩, hf⟩ := hY.out.mat hlt3
              have hl9 := allBk_len (t[k][k2].drop (k3 + 1))
              simp only [List.length_drop] at hl9
              replace hl9 := hide hl9
              go_upto_region 15 with (fail)
              refine wp_region_moveB (B9) [(0, true), (1, true), (2, true), (3, true), (4, true), (5, true), (6, true), (7, true), (8, true), (9, true), (10, true), (11, true), (12, true), (13, true), (14, true), (15, true), (16, true), (17, true), (18, true), (19, true), (20, true), (21, false), (22, false), (23, true)] (by kernel_rfl) (by kernel_rfl) (by kernel_rfl) ?_
              repeat (first | (refine moveB_read (by rfl) (by rfl) (by rfl) ?_; intro K hK; go_big_quiet_op; go_big_quiet_on) | (refine moveB_skip (by rfl) (by rfl) ?_; simp only [Act.put, List.setIfInBounds_toArray, List.set_cons_zero, List.set_cons_succ]))
              refine moveB_act (by rfl) (by rfl) ?_; intro Q' hQ'
              go_wp2_with (fail)
              refine hQ'.out _ _ ?_ ?_
              · exact (by repeat (first | exact Below.refl _ _ | assumption | refine Below.alloc ?_ (by first | omega | (simp; omega)) _ | refine Below.drew ?_ | refine below_drewl ?_ | exact Below.mono (by assumption) (by omega)))
              clear hQ' Q'
              repeat (first | (refine moveB_read (by rfl) (by rfl) (by rfl) ?_; intro K hK; go_big_quiet_op; go_big_quiet_on) | (refine moveB_skip (by rfl) (by rfl) ?_; simp only [Act.put, List.setIfInBounds_toArray, List.set_cons_zero, List.set_cons_succ]))
              refine moveB_act (by rfl) (by rfl) ?_; intro Q' hQ'
              go_wp2_with (at_builtin; refine wpList_append_row (ok := fun b => B9 ≤ b) good_M rfl _ _ 40 rfl B9 28 i0 _ 72 Try.underlying40 I0.out.1 I0.out.2.1 I0.out.2.2.1 I0.out.2.2.2 rfl (by decide) _ (allBk (t[k][k2].drop (k3 + 1))) rfl ?_ _ _ [t[k][k2][k3], t[k][k2][k3]] rfl ?_ ?_ ?_ ?_ ?_ ?_; exact hrow3.out.below good_M (by repeat (first | exact Below.refl _ _ | assumption | refine Below.alloc1 ?_ _ | refine Below.drew ?_ | refine below_drewl ?_ | refine Below.setCell ?_ (by first | exact Nat.le_refl _ | (simp; done) | omega | (simp; omega)) _ | refine Below.lift ?_ (by assumption))); exact SlAt.keep (fun _ _ _ _ _ h => h) (Below.refl _ _).drew (slat_mat2 _ _ _ t[k][k2][k3] _ rfl hf); exact (by simp only [List.length_cons, List.length_nil, maxLen]; rw [hl9.out]; omega); exact (by simp only [List.length_cons, List.length_nil]; rw [hl9.out]; omega); exact (by simp only [World.size_alloc, World.size_drew]; omega); exact (show B9 ≤ _ by simp only [World.size_alloc, World.size_drew]; omega); intro v' w' hrow' hB')
              refine hQ'.out _ _ ?_ ?_
              · exact (by repeat (first | exact Below.refl _ _ | assumption | refine Below.alloc ?_ (by first | omega | (simp; omega)) _ | refine Below.drew ?_ | refine below_drewl ?_ | exact Below.mono (by assumption) (by omega)))
              clear hQ' Q'
              repeat (first | (refine moveB_read (by rfl) (by rfl) (by rfl) ?_; intro K hK; go_big_quiet_op; go_big_quiet_on) | (refine moveB_skip (by rfl) (by rfl) ?_; simp only [Act.put, List.setIfInBounds_toArray, List.set_cons_zero, List.set_cons_succ]))
              refine moveB_done ?_
              go_wp2
              go_roundw
              case rel => exact ⟨k3, by omega, by go_num, by rw [allBk_step hlt3]; exact hrow', ((Below.alloc1 hBr3 _).drew).trans (hB'.mono hB9b)⟩
              case measure => simp [intOf]
end Go.Proofs.Ytnienipaicckmaa
