/-
  TargetTells: the walk.
-/
import Derived.Test.YtnienipaicckmaaLaw13b
import Derived.WalkLawsBesides
import Derived.WalkSpells
import Derived.Deep.Cut
import Derived.Deep.Light
namespace Go.Proofs.Ytnienipaicckmaa
open Go.RowKit
set_option linter.unusedSimpArgs false
set_option linter.unusedVariables false
attribute [local go_sem] ext_cell ext_frozen
attribute [local go_sem low] alloc_cell alloc_frozen
attribute [local go_sem ↓] eql_val

/-- a slice of one element in new memory -/
theorem slat_one {α : Type} {R : Rp α} (w : World) (t : TypeId) (cs : List Value) (x : α) (b : Nat) (hb : b = w.heap.size) (h : R (w.alloc (.cells cs.toArray t)) cs x) : SlAt R cs.length (w.alloc (.cells cs.toArray t)) (some ⟨b, 0, none⟩) [x] := fun _ => by
  subst hb
  refine ⟨w.heap.size, 0, rfl, by simp, fun i hi => ?_⟩
  obtain rfl : i = 0 := by simpa using hi
  refine ⟨cs, rfl, fun j u hj => ?_, h⟩
  rw [cell_new]
  simpa using hj
theorem all_t_nil (l : List Giv) (A : Option Addr) (c : Nat) (w : World) (hn : l.length ≤ 1000000) (hb : ∀ g ∈ l, g.bag.length ≤ 1000000) (h : SlAt rGiv 3 w A l) :
    Calls Try.prog 24 #[.slice none 0 0, .slice A l.length c] w fun e w' => e = .returned (.int .i64 (allT [] l)) ∧ Below w.heap.size w w' :=
  all_t_any [] l none A 0 c w (by simp) SlAt.nil hn hb h
def mV (m : Mat) : Value := .agg #[.int .i64 m.attr.cat, .string m.attr.name, .bool m.attr.must, .int .i64 m.op, .int .i64 m.val.kind, .int .i64 m.val.n, .string m.val.s]
theorem slat_tar1 (w : World) (m : Mat) (hm : m.Fit) (t1 t2 t3 : TypeId) (b1 b2 b3 : Nat) (h1 : b1 = w.heap.size) (h2 : b2 = w.heap.size + 1) (h3 : b3 = w.heap.size + 1 + 1) :
    SlAt rTar' 1 (((w.alloc (.cells #[.int .i64 m.attr.cat, .string m.attr.name, .bool m.attr.must, .int .i64 m.op, .int .i64 m.val.kind, .int .i64 m.val.n, .string m.val.s] t1)).alloc (.cells #[.slice (some ⟨b1, 0, none⟩) 1 1] t2)).alloc (.cells #[.slice (some ⟨b2, 0, none⟩) 1 1] t3)) (some ⟨b3, 0, none⟩) [[[m]]] := by
  subst h1; subst h2; subst h3
  have a1 : SlAt rMat 7 (w.alloc (.cells #[.int .i64 m.attr.cat, .string m.attr.name, .bool m.attr.must, .int .i64 m.op, .int .i64 m.val.kind, .int .i64 m.val.n, .string m.val.s] t1)) (some ⟨w.heap.size, 0, none⟩) [m] := slat_one w t1 m.cells m _ rfl ⟨rfl, hm⟩
  have a2 := slat_one (R := rSl rMat 7) (w.alloc (.cells #[.int .i64 m.attr.cat, .string m.attr.name, .bool m.attr.must, .int .i64 m.op, .int .i64 m.val.kind, .int .i64 m.val.n, .string m.val.s] t1)) t2 [.slice (some ⟨w.heap.size, 0, none⟩) 1 1] [m] _ rfl ⟨_, 1, rfl, by simp, by simp [reachBytes, maxLen], a1.keep keeps_mat ((Below.refl _ _).alloc (Nat.le_refl _) _)⟩
  have a3 := slat_one (R := rSl (rSl rMat 7) 1) _ t3 [.slice (some ⟨w.heap.size + 1, 0, none⟩) 1 1] [[m]] _ rfl ⟨_, 1, rfl, by simp, by simp [reachBytes, maxLen], SlAt.keep keeps_any' ((Below.refl _ _).alloc (Nat.le_refl _) _) (by simpa using a2)⟩
  simpa using a3
set_option maxRecDepth 100000 in
set_option maxHeartbeats 2000000 in
theorem targetTells_any (t : Tar) (m : Mat) (l : List Giv) (T A : Option Addr) (d c : Nat) (w : World) (hT : SlAt rTar' 1 w T t) (ht : t.length ≤ d) (hd : t.length ≤ reachBytes ∧ d ≤ maxLen) (hm : m.Fit) (h : SlAt rGiv 3 w A l) (hl : l.length ≤ c) (hc : l.length ≤ reachBytes ∧ c ≤ maxLen) :
    Calls Try.prog 5 #[.slice T t.length d, mV m, .slice A l.length c] w fun e w' => e = .returned (.bool true) ∧ Below w.heap.size w w' := by
  unfold mV
  replace h := hide h
  replace hT := hide hT
  go_enter Try.func5, Try.ntmps5
  go_upto_region 3 with (first | (go_at_call 19; (first | (with_reducible refine (small13_any t T d _ (hT.out.keep keeps_tar' (by repeat (first | exact Below.refl _ _ | assumption | refine Below.alloc1 ?_ _ | refine Below.drew ?_ | refine below_drewl ?_ | refine Below.setCell ?_ (by first | exact Nat.le_refl _ | (simp; done) | omega | (simp; omega)) _ | refine Below.lift ?_ (by assumption)))) ht hd).mono ?_) | refine (small13_any [[[m]]] _ 1 _ (slat_tar1 _ m hm _ _ _ _ _ _ (by simp) (by simp) (by simp)) (by simp) (by simp [reachBytes, maxLen])).mono ?_); rintro e w2 (⟨rfl, hB2⟩ | ⟨rfl, h2, hB2⟩); all_goals (obtain ⟨hc2, hf2⟩ := bcell hB2; have hz2 := hB2.size; try simp only [World.size_alloc, World.size_drew] at hc2 hf2 hz2)) | (go_at_call 20; (with_reducible refine (few_any l A c _ (by omega) (h.out.keep keeps_giv (by repeat (first | exact Below.refl _ _ | assumption | refine Below.alloc1 ?_ _ | refine Below.drew ?_ | refine below_drewl ?_ | refine Below.setCell ?_ (by first | exact Nat.le_refl _ | (simp; done) | omega | (simp; omega)) _ | refine Below.lift ?_ (by assumption))))).mono ?_); rintro e w3 (⟨rfl, hB3⟩ | ⟨rfl, h3, hB3⟩); all_goals (obtain ⟨hc3, hf3⟩ := bcell hB3; have hz3 := hB3.size; try simp only [World.size_alloc, World.size_drew] at hc3 hf3 hz3)) | (go_at_call 3; (with_reducible refine (targetRuns_any _).mono ?_); rintro e w4 ⟨rfl, hB4⟩; obtain ⟨hc4, hf4⟩ := bcell hB4; have hz4 := hB4.size; try simp only [World.size_alloc, World.size_drew] at hc4 hf4 hz4))
  all_goals first | (go_ret; exact ⟨rfl, (by repeat (first | exact Below.refl _ _ | assumption | refine Below.alloc1 ?_ _ | refine Below.drew ?_ | refine below_drewl ?_ | refine Below.setCell ?_ (by first | exact Nat.le_refl _ | (simp; done) | omega | (simp; omega)) _ | refine Below.lift ?_ (by assumption)))⟩) | skip
  rename Hid (tsz t ≤ 2999) => g1
  have hs := tSmall_of g1.out
  obtain ⟨f1, f2⟩ := few_len h3.out
  replace f2 : ∀ g ∈ l, g.bag.length ≤ 1000000 := fun g hg => Nat.le_trans (f2 g hg) (by omega)
  replace f1 : l.length ≤ 1000000 := by omega
  replace f2 := hide f2
  obtain ⟨s1, s2⟩ := hs
  have hs := hide (show tSmall t from ⟨s1, s2⟩)
  replace s2 := hide s2
  have hB : Below w.heap.size w w3 := (by repeat (first | exact Below.refl _ _ | assumption | refine Below.alloc1 ?_ _ | refine Below.drew ?_ | refine below_drewl ?_ | refine Below.setCell ?_ (by first | exact Nat.le_refl _ | (simp; done) | omega | (simp; omega)) _ | refine Below.lift ?_ (by assumption)))
  by_cases h0 : 0 < t.length
  · obtain ⟨b1, o1, B1, j1, rfl, hb1, e1, u1, v1, hX⟩ := hT.out.sl h0
    replace hX := hide hX
    by_cases h00 : 0 < t[0].length
    · obtain ⟨b2, o2, B2, j2, rfl, hb2, e2, u2, v2, hY⟩ := hX.out.sl h00
      have hy := (s2.out t[0] (List.getElem_mem h0)).2 t[0][0] (List.getElem_mem h00)
      replace hY := hide hY
      simp only [Nat.add_zero] at e1 e2
      go_upto_region 7 with (fail)
      have hY0 := hide (hY.out)
      obtain ⟨wz, hwz⟩ : ∃ wz, wz = w3 := ⟨_, rfl⟩
      go_wp2
      go_loopw [7, 10, 45] (fun o _ i wr => ∃ k : Nat, k ≤ (t[0][0] : List Mat).length ∧ i = .int .i64 k ∧ o = .int .i64 (allT ((t[0][0] : List Mat).take k) l) ∧ Below w3.heap.size w3 wr) (fun _ _ i _ => (t[0][0] : List Mat).length - (intOf i).toNat)
      case atStart => exact ⟨0, Nat.zero_le _, rfl, rfl, Below.refl _ _⟩
      case round =>
        obtain ⟨k, hk, rfl, rfl, hBr⟩ := hrel
        have hB1 : Below w.heap.size w wr := Below.lift hB hBr
        obtain ⟨hc5, hf5⟩ := bcell hBr
        have hz5 := hBr.size
        by_cases hlt : k < (t[0][0] : List Mat).length
        · skip
          obtain ⟨b, o, rfl, hbb, ⟨c0, c1, c2⟩, c3, ⟨c4, c5, c6⟩, hf⟩ := hY0.out.mat hlt
          go_wp2_with (go_at_call 21; refine (ref_match_any (t[0][0] : List Mat)[k] l _ _ _ hf f1 f2.out (h.out.keep keeps_giv (Below.alloc1 hB1 _))).mono ?_; rintro e w6 ⟨rfl, hB6⟩; obtain ⟨hc6, hf6⟩ := bcell hB6; have hz6 := hB6.size; try simp only [World.size_alloc, World.size_drew] at hc6 hf6 hz6)
          go_roundw
          case rel => exact ⟨k + 1, by omega, by go_num, by rw [allT_step hlt]; congr 1; split <;> omega, (by repeat (first | exact Below.refl _ _ | assumption | refine Below.alloc1 ?_ _ | refine Below.drew ?_ | refine below_drewl ?_ | refine Below.setCell ?_ (by first | exact Nat.le_refl _ | (simp; done) | omega | (simp; omega)) _ | refine Below.lift ?_ (by assumption)))⟩
          case measure => simp [intOf]; omega
        · obtain rfl : k = (t[0][0] : List Mat).length := by omega
          rw [take_all]
          have hb5 := hide f2.out
          go_upto_region 12 with (fail)
          refine wp_spec_draw (by kernel_rfl) (by kernel_rfl) (by kernel_rfl) ?_
          repeat (refine spec_step ?_; intro K hK; go_big_quiet_op; go_big_quiet_on)
          refine spec_step ?_; intro K hK; go_big_quiet_op
          refine ⟨_, fun _ => quiet_ext (match_any m l _ _ _ hm f1 f2.out (h.out.keep keeps_giv (Below.lift hB1 (ext_below _ _)))), ?_⟩
          go_big_quiet_on
          repeat (refine spec_step ?_; intro K hK; go_big_quiet_op; go_big_quiet_on)
          refine spec_step ?_; intro K hK; go_big_quiet_op
          refine ⟨_, fun _ => quiet_ext (ref_match_any m l _ _ _ hm f1 f2.out (h.out.keep keeps_giv (Below.lift hB1 (ext_below _ _)))), ?_⟩
          go_big_quiet_on
          repeat (refine spec_step ?_; intro K hK; go_big_quiet_op; go_big_quiet_on)
          refine spec_step ?_; intro K hK; go_big_quiet_op
          refine ⟨_, fun _ => quiet_ext (met_any t l _ _ _ _ _ hs.out (hT.out.keep keeps_tar' (Below.lift hB1 (ext_below _ _))) f1 f2.out (h.out.keep keeps_giv (Below.lift hB1 (ext_below _ _)))), ?_⟩
          go_big_quiet_on
          repeat (refine spec_step ?_; intro K hK; go_big_quiet_op; go_big_quiet_on)
          refine spec_step ?_; intro K hK; go_big_quiet_op
          refine ⟨_, fun _ => quiet_ext (ref_target_any t l _ _ _ _ _ hs.out (hT.out.keep keeps_tar' (Below.lift hB1 (ext_below _ _))) f1 f2.out (h.out.keep keeps_giv (Below.lift hB1 (ext_below _ _)))), ?_⟩
          go_big_quiet_on
          repeat (refine spec_step ?_; intro K hK; go_big_quiet_op; go_big_quiet_on)
          refine spec_step ?_; intro K hK; go_big_quiet_op
          refine ⟨_, fun _ => quiet_ext (all_t_any t[0][0] l _ _ _ _ _ hy (hY0.out.keep keeps_mat (Below.lift hB1 (ext_below _ _))) f1 f2.out (h.out.keep keeps_giv (Below.lift hB1 (ext_below _ _)))), ?_⟩
          go_big_quiet_on
          repeat (refine spec_step ?_; intro K hK; go_big_quiet_op; go_big_quiet_on)
          refine spec_step ?_; intro K hK; go_big_quiet_op
          refine ⟨_, fun _ => quiet_ext (targetRuns_any _), ?_⟩
          go_big_quiet_on
          repeat (refine spec_step ?_; intro K hK; go_big_quiet_op; go_big_quiet_on)
          refine spec_nil ?_
          intro us w12 hB12
          simp only [junk, Act.put, List.setIfInBounds_toArray, List.set_cons_zero, List.set_cons_succ]
          obtain ⟨hc12, hf12⟩ := bcell hB12; have hz12 := hB12.size; try simp only [World.size_alloc, World.size_drew] at hc12 hf12 hz12
          go_wp2
          go_ret
          exact ⟨rfl, (by repeat (first | exact Below.refl _ _ | assumption | refine Below.alloc1 ?_ _ | refine Below.drew ?_ | refine below_drewl ?_ | refine Below.setCell ?_ (by first | exact Nat.le_refl _ | (simp; done) | omega | (simp; omega)) _ | refine Below.lift ?_ (by assumption)))⟩
    · have h00' : t[0].length = 0 := by omega
      rw [h00'] at e1
      have hy : ([] : List Mat).length ≤ 1000000 := by simp
      simp only [Nat.add_zero] at e1
      go_upto_region 7 with (fail)
      clear h00'
      have hY0 := hide ((SlAt.nil : SlAt rMat 7 w none []))
      obtain ⟨wz, hwz⟩ : ∃ wz, wz = w3 := ⟨_, rfl⟩
      go_wp2
      go_loopw [7, 10, 45] (fun o _ i wr => ∃ k : Nat, k ≤ ([] : List Mat).length ∧ i = .int .i64 k ∧ o = .int .i64 (allT (([] : List Mat).take k) l) ∧ Below w3.heap.size w3 wr) (fun _ _ i _ => ([] : List Mat).length - (intOf i).toNat)
      case atStart => exact ⟨0, Nat.zero_le _, rfl, rfl, Below.refl _ _⟩
      case round =>
        obtain ⟨k, hk, rfl, rfl, hBr⟩ := hrel
        have hB1 : Below w.heap.size w wr := Below.lift hB hBr
        obtain ⟨hc5, hf5⟩ := bcell hBr
        have hz5 := hBr.size
        by_cases hlt : k < ([] : List Mat).length
        · skip
          exact absurd hlt (by simp)
        · obtain rfl : k = ([] : List Mat).length := by omega
          rw [take_all]
          have hb5 := hide f2.out
          go_upto_region 12 with (fail)
          refine wp_spec_draw (by kernel_rfl) (by kernel_rfl) (by kernel_rfl) ?_
          repeat (refine spec_step ?_; intro K hK; go_big_quiet_op; go_big_quiet_on)
          refine spec_step ?_; intro K hK; go_big_quiet_op
          refine ⟨_, fun _ => quiet_ext (match_any m l _ _ _ hm f1 f2.out (h.out.keep keeps_giv (Below.lift hB1 (ext_below _ _)))), ?_⟩
          go_big_quiet_on
          repeat (refine spec_step ?_; intro K hK; go_big_quiet_op; go_big_quiet_on)
          refine spec_step ?_; intro K hK; go_big_quiet_op
          refine ⟨_, fun _ => quiet_ext (ref_match_any m l _ _ _ hm f1 f2.out (h.out.keep keeps_giv (Below.lift hB1 (ext_below _ _)))), ?_⟩
          go_big_quiet_on
          repeat (refine spec_step ?_; intro K hK; go_big_quiet_op; go_big_quiet_on)
          refine spec_step ?_; intro K hK; go_big_quiet_op
          refine ⟨_, fun _ => quiet_ext (met_any t l _ _ _ _ _ hs.out (hT.out.keep keeps_tar' (Below.lift hB1 (ext_below _ _))) f1 f2.out (h.out.keep keeps_giv (Below.lift hB1 (ext_below _ _)))), ?_⟩
          go_big_quiet_on
          repeat (refine spec_step ?_; intro K hK; go_big_quiet_op; go_big_quiet_on)
          refine spec_step ?_; intro K hK; go_big_quiet_op
          refine ⟨_, fun _ => quiet_ext (ref_target_any t l _ _ _ _ _ hs.out (hT.out.keep keeps_tar' (Below.lift hB1 (ext_below _ _))) f1 f2.out (h.out.keep keeps_giv (Below.lift hB1 (ext_below _ _)))), ?_⟩
          go_big_quiet_on
          repeat (refine spec_step ?_; intro K hK; go_big_quiet_op; go_big_quiet_on)
          refine spec_step ?_; intro K hK; go_big_quiet_op
          refine ⟨_, fun _ => quiet_ext (all_t_nil l _ _ _ f1 f2.out (h.out.keep keeps_giv (Below.lift hB1 (ext_below _ _)))), ?_⟩
          go_big_quiet_on
          repeat (refine spec_step ?_; intro K hK; go_big_quiet_op; go_big_quiet_on)
          refine spec_step ?_; intro K hK; go_big_quiet_op
          refine ⟨_, fun _ => quiet_ext (targetRuns_any _), ?_⟩
          go_big_quiet_on
          repeat (refine spec_step ?_; intro K hK; go_big_quiet_op; go_big_quiet_on)
          refine spec_nil ?_
          intro us w12 hB12
          simp only [junk, Act.put, List.setIfInBounds_toArray, List.set_cons_zero, List.set_cons_succ]
          obtain ⟨hc12, hf12⟩ := bcell hB12; have hz12 := hB12.size; try simp only [World.size_alloc, World.size_drew] at hc12 hf12 hz12
          go_wp2
          go_ret
          exact ⟨rfl, (by repeat (first | exact Below.refl _ _ | assumption | refine Below.alloc1 ?_ _ | refine Below.drew ?_ | refine below_drewl ?_ | refine Below.setCell ?_ (by first | exact Nat.le_refl _ | (simp; done) | omega | (simp; omega)) _ | refine Below.lift ?_ (by assumption)))⟩
  · have h0' : t.length = 0 := by omega
    have hy : ([] : List Mat).length ≤ 1000000 := by simp
    go_upto_region 7 with (fail)
    clear h0 h0'
    have hY0 := hide ((SlAt.nil : SlAt rMat 7 w none []))
    obtain ⟨wz, hwz⟩ : ∃ wz, wz = w3 := ⟨_, rfl⟩
    go_wp2
    go_loopw [7, 10, 45] (fun o _ i wr => ∃ k : Nat, k ≤ ([] : List Mat).length ∧ i = .int .i64 k ∧ o = .int .i64 (allT (([] : List Mat).take k) l) ∧ Below w3.heap.size w3 wr) (fun _ _ i _ => ([] : List Mat).length - (intOf i).toNat)
    case atStart => exact ⟨0, Nat.zero_le _, rfl, rfl, Below.refl _ _⟩
    case round =>
      obtain ⟨k, hk, rfl, rfl, hBr⟩ := hrel
      have hB1 : Below w.heap.size w wr := Below.lift hB hBr
      obtain ⟨hc5, hf5⟩ := bcell hBr
      have hz5 := hBr.size
      by_cases hlt : k < ([] : List Mat).length
      · skip
        exact absurd hlt (by simp)
      · obtain rfl : k = ([] : List Mat).length := by omega
        rw [take_all]
        have hb5 := hide f2.out
        go_upto_region 12 with (fail)
        refine wp_spec_draw (by kernel_rfl) (by kernel_rfl) (by kernel_rfl) ?_
        repeat (refine spec_step ?_; intro K hK; go_big_quiet_op; go_big_quiet_on)
        refine spec_step ?_; intro K hK; go_big_quiet_op
        refine ⟨_, fun _ => quiet_ext (match_any m l _ _ _ hm f1 f2.out (h.out.keep keeps_giv (Below.lift hB1 (ext_below _ _)))), ?_⟩
        go_big_quiet_on
        repeat (refine spec_step ?_; intro K hK; go_big_quiet_op; go_big_quiet_on)
        refine spec_step ?_; intro K hK; go_big_quiet_op
        refine ⟨_, fun _ => quiet_ext (ref_match_any m l _ _ _ hm f1 f2.out (h.out.keep keeps_giv (Below.lift hB1 (ext_below _ _)))), ?_⟩
        go_big_quiet_on
        repeat (refine spec_step ?_; intro K hK; go_big_quiet_op; go_big_quiet_on)
        refine spec_step ?_; intro K hK; go_big_quiet_op
        refine ⟨_, fun _ => quiet_ext (met_any t l _ _ _ _ _ hs.out (hT.out.keep keeps_tar' (Below.lift hB1 (ext_below _ _))) f1 f2.out (h.out.keep keeps_giv (Below.lift hB1 (ext_below _ _)))), ?_⟩
        go_big_quiet_on
        repeat (refine spec_step ?_; intro K hK; go_big_quiet_op; go_big_quiet_on)
        refine spec_step ?_; intro K hK; go_big_quiet_op
        refine ⟨_, fun _ => quiet_ext (ref_target_any t l _ _ _ _ _ hs.out (hT.out.keep keeps_tar' (Below.lift hB1 (ext_below _ _))) f1 f2.out (h.out.keep keeps_giv (Below.lift hB1 (ext_below _ _)))), ?_⟩
        go_big_quiet_on
        repeat (refine spec_step ?_; intro K hK; go_big_quiet_op; go_big_quiet_on)
        refine spec_step ?_; intro K hK; go_big_quiet_op
        refine ⟨_, fun _ => quiet_ext (all_t_nil l _ _ _ f1 f2.out (h.out.keep keeps_giv (Below.lift hB1 (ext_below _ _)))), ?_⟩
        go_big_quiet_on
        repeat (refine spec_step ?_; intro K hK; go_big_quiet_op; go_big_quiet_on)
        refine spec_step ?_; intro K hK; go_big_quiet_op
        refine ⟨_, fun _ => quiet_ext (targetRuns_any _), ?_⟩
        go_big_quiet_on
        repeat (refine spec_step ?_; intro K hK; go_big_quiet_op; go_big_quiet_on)
        refine spec_nil ?_
        intro us w12 hB12
        simp only [junk, Act.put, List.setIfInBounds_toArray, List.set_cons_zero, List.set_cons_succ]
        obtain ⟨hc12, hf12⟩ := bcell hB12; have hz12 := hB12.size; try simp only [World.size_alloc, World.size_drew] at hc12 hf12 hz12
        go_wp2
        go_ret
        exact ⟨rfl, (by repeat (first | exact Below.refl _ _ | assumption | refine Below.alloc1 ?_ _ | refine Below.drew ?_ | refine below_drewl ?_ | refine Below.setCell ?_ (by first | exact Nat.le_refl _ | (simp; done) | omega | (simp; omega)) _ | refine Below.lift ?_ (by assumption)))⟩
end Go.Proofs.Ytnienipaicckmaa
