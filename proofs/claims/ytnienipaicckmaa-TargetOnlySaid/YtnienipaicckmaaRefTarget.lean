/-
  Contracts of the reference's Match and Target (bailiffref11).
-/
import Derived.Test.YtnienipaicckmaaTarget
import Derived.WalkLawsBesides
import Derived.WalkSpells
import Derived.Deep.Cut
import Derived.Deep.Light
namespace Go.Proofs.Ytnienipaicckmaa
open Go.RowKit
set_option linter.unusedSimpArgs false
set_option linter.unusedVariables false
attribute [local go_sem] ext_cell ext_frozen
attribute [local go_sem low] alloc_cell alloc_frozen
attribute [local go_sem ↓] eql_val

theorem ok_same {m : Mat} {v : Val} (h : (m.op == 1) = true) (a : (v.kind != m.val.kind) = false) {x : Bool} (b : sameV ⟨v.kind, v.n, v.s⟩ ⟨m.val.kind, m.val.n, m.val.s⟩ = x) : okV m v = x := by
  simp only [beq_iff_eq, beq_eq_false_iff_ne, ne_eq] at *
  unfold okV againstS
  rw [if_pos h, if_neg (by simpa using a)]
  exact b
theorem bad_same {m : Mat} {v : Val} (h : (m.op == 1) = true) (a : (v.kind != m.val.kind) = false) : badV m v = false := by
  simp only [beq_iff_eq, beq_eq_false_iff_ne, ne_eq] at *
  unfold badV againstS
  rw [if_pos h, if_neg (by simpa using a)]
  rfl
theorem ok_kind {m : Mat} {v : Val} (h : (m.op == 1) = true) (a : (v.kind != m.val.kind) = true) : okV m v = false := by
  simp only [beq_iff_eq, beq_eq_false_iff_ne, ne_eq] at *
  unfold okV againstS
  rw [if_pos h, if_pos (by simpa using a)]
theorem bad_kind {m : Mat} {v : Val} (h : (m.op == 1) = true) (a : (v.kind != m.val.kind) = true) : badV m v = true := by
  simp only [beq_iff_eq, beq_eq_false_iff_ne, ne_eq] at *
  unfold badV againstS
  rw [if_pos h, if_pos (by simpa using a)]
  rfl
theorem same_kind {v u : Val} (a : (v.kind != u.kind) = true) : sameV ⟨v.kind, v.n, v.s⟩ ⟨u.kind, u.n, u.s⟩ = false := by
  have : v.kind ≠ u.kind := by simpa using a
  simp [sameV, this]
theorem ok_l2 {m : Mat} {v : Val} (h : (m.op == 1) = false) (h2 : (m.op == 2) = true) {x : Bool} (b : (lessS ⟨v.kind, v.n, v.s⟩ ⟨m.val.kind, m.val.n, m.val.s⟩).1 = x) : okV m v = x := by
  simp only [beq_iff_eq, beq_eq_false_iff_ne, ne_eq] at *
  unfold okV againstS
  rw [if_neg h, if_pos h2]
  exact b
theorem bad_l2 {m : Mat} {v : Val} (h : (m.op == 1) = false) (h2 : (m.op == 2) = true) {x : Bool} (b : decide ((lessS ⟨v.kind, v.n, v.s⟩ ⟨m.val.kind, m.val.n, m.val.s⟩).2 ≠ 0) = x) : badV m v = x := by
  simp only [beq_iff_eq, beq_eq_false_iff_ne, ne_eq] at *
  unfold badV againstS
  rw [if_neg h, if_pos h2]
  exact b
theorem ok_l3 {m : Mat} {v : Val} (h : (m.op == 1) = false) (h2 : (m.op == 2) = false) {x : Bool} (b : (lessS ⟨m.val.kind, m.val.n, m.val.s⟩ ⟨v.kind, v.n, v.s⟩).1 = x) : okV m v = x := by
  simp only [beq_iff_eq, beq_eq_false_iff_ne, ne_eq] at *
  unfold okV againstS
  rw [if_neg h, if_neg h2]
  exact b
theorem bad_l3 {m : Mat} {v : Val} (h : (m.op == 1) = false) (h2 : (m.op == 2) = false) {x : Bool} (b : decide ((lessS ⟨m.val.kind, m.val.n, m.val.s⟩ ⟨v.kind, v.n, v.s⟩).2 ≠ 0) = x) : badV m v = x := by
  simp only [beq_iff_eq, beq_eq_false_iff_ne, ne_eq] at *
  unfold badV againstS
  rw [if_neg h, if_neg h2]
  exact b
set_option maxRecDepth 100000 in
set_option maxHeartbeats 1000000 in
theorem ref_match_any (m : Mat) (l : List Giv) (A : Option Addr) (c : Nat) (w : World) (hm : m.Fit) (hn : l.length ≤ 1000000) (hb : ∀ g ∈ l, g.bag.length ≤ 1000000) (h : SlAt rGiv 3 w A l) :
    Calls Try.prog 21 #[.agg #[.int .i64 m.attr.cat, .string m.attr.name, .bool m.attr.must, .int .i64 m.op, .int .i64 m.val.kind, .int .i64 m.val.n, .string m.val.s], .slice A l.length c] w fun e w' => e = .returned (.int .i64 (matchS m l)) ∧ Below w.heap.size w w' := by
  have H := hide h
  clear h
  go_enter Try.func21, Try.ntmps21
  go_upto_region 2 with (go_at_call 43; refine (ref_get_any m.attr l A c _ hn hb (H.out.keep keeps_giv (by repeat (first | exact Below.refl _ _ | assumption | refine Below.alloc1 ?_ _ | refine Below.drew ?_ | refine below_drewl ?_ | refine Below.setCell ?_ (by first | exact Nat.le_refl _ | (simp; done) | omega | (simp; omega)) _ | refine Below.lift ?_ (by assumption))))).mono ?_; rintro e w2 ⟨v, rfl, A2, c2, rfl, h2, hB2⟩; obtain ⟨hc2, hf2⟩ := bcell hB2; have hz2 := hB2.size; try simp only [World.size_alloc, World.size_drew] at hc2 hf2 hz2)
  clear hc2 hf2 hz2
  simp only [World.size_alloc] at hB2
  obtain ⟨g0, gf, gz⟩ := res_all hB2
  have hlen := getS_len m.attr l hb
  have hr : matchS m l = if (getS m.attr l).2 ≠ 0 then 1 else if (getS m.attr l).1.any (okV m) then 2 else someI ((getS m.attr l).1.any (badV m)) := by
    unfold matchS someI
    rfl
  replace hr := hide hr
  generalize getS m.attr l = gs at *
  obtain ⟨bag, er⟩ := gs
  simp only at hlen
  have H2 := hide h2
  clear h2
  by_cases he : er = 0
  · subst he
    have hr2 : matchS m l = if bag.any (okV m) then 2 else someI (bag.any (badV m)) := by
      rw [hr.out]; rfl
    clear hr
    replace hr2 := hide hr2
    go_wp2
    go_loopw [7, 9, 23] (fun o _ i wr => ∃ k : Nat, k ≤ bag.length ∧ i = .int .i64 k ∧ o = .int .i64 (someI ((bag.take k).any (badV m))) ∧ Below (w.heap.size + 1) (w.alloc (.cells #[.int .i64 m.attr.cat, .string m.attr.name, .bool m.attr.must, .int .i64 m.op, .int .i64 m.val.kind, .int .i64 m.val.n, .string m.val.s] 28)) wr ∧ Below w2.heap.size w2 wr ∧ Hid ((bag.take k).any (okV m) = false)) (fun _ _ i _ => bag.length - (intOf i).toNat)
    case atStart => exact ⟨0, Nat.zero_le _, rfl, rfl, hB2, Below.refl _ _, rfl⟩
    case round =>
      obtain ⟨k, hk, rfl, rfl, hB1, hB5, hall⟩ := hrel
      clear g0 gf gz
      obtain ⟨g0, gf, gz⟩ := res_all hB1
      have hB : Below w.heap.size w wr := ((Below.refl _ _).alloc (Nat.le_refl _) _).trans (hB1.mono (by omega))
      by_cases hlt : k < bag.length
      · obtain ⟨b, o, rfl, hbb, c0, c1, c2, hf⟩ := (H2.out.keep keeps_val hB5).val hlt
        have f1 := hm.val.s
        have f2 := hf.s
        rcases Bool.eq_false_or_eq_true (m.op == 1) with o1 | o1
        · go_wp2
          · rename_i a b
            exact absurd (same_kind a) (by rw [b]; simp)
          · rename_i a b
            have e1 : okV m bag[k] = false := ok_kind o1 a
            have e2 : badV m bag[k] = true := bad_kind o1 a
            go_roundw
            case rel => exact ⟨k + 1, by omega, by go_num, by rw [any_snoc hlt, e2]; simp [someI], hB1.alloc (by omega) _, (by repeat (first | exact Below.refl _ _ | assumption | refine Below.alloc1 ?_ _ | refine Below.drew ?_ | refine below_drewl ?_ | refine Below.setCell ?_ (by first | exact Nat.le_refl _ | (simp; done) | omega | (simp; omega)) _ | refine Below.lift ?_ (by assumption))), any_step hlt hall.out e1⟩
            case measure => simp [intOf]; omega
          · rename_i a b
            go_ret
            have e : bag.any (okV m) = true := any_yes hlt (ok_same o1 a b)
            refine ⟨ret_int (by rw [hr2.out, e]; rfl), (by repeat (first | exact Below.refl _ _ | assumption | refine Below.alloc1 ?_ _ | refine Below.drew ?_ | refine below_drewl ?_ | refine Below.setCell ?_ (by first | exact Nat.le_refl _ | (simp; done) | omega | (simp; omega)) _ | refine Below.lift ?_ (by assumption)))⟩
          · rename_i a b
            have e1 : okV m bag[k] = false := ok_same o1 a b
            have e2 : badV m bag[k] = false := bad_same o1 a
            go_roundw
            case rel => exact ⟨k + 1, by omega, by go_num, by rw [any_snoc hlt, e2]; simp [someI], hB1.alloc (by omega) _, (by repeat (first | exact Below.refl _ _ | assumption | refine Below.alloc1 ?_ _ | refine Below.drew ?_ | refine below_drewl ?_ | refine Below.setCell ?_ (by first | exact Nat.le_refl _ | (simp; done) | omega | (simp; omega)) _ | refine Below.lift ?_ (by assumption))), any_step hlt hall.out e1⟩
            case measure => simp [intOf]; omega
        · rcases Bool.eq_false_or_eq_true (m.op == 2) with o2 | o2
          · skip
            go_wp2_with (go_at_call 44; refine (ref_less_any _ _ _ _ _ _ _ f2 f1).mono ?_; rintro e w3 ⟨rfl, hB3⟩; obtain ⟨hc3, hf3⟩ := bcell hB3; have hz3 := hB3.size; try simp only [World.size_alloc, World.size_drew] at hc3 hf3 hz3)
            · go_ret
              have e : bag.any (okV m) = true := any_yes hlt (ok_l2 o1 o2 (by assumption))
              refine ⟨ret_int (by rw [hr2.out, e]; rfl), (by repeat (first | exact Below.refl _ _ | assumption | refine Below.alloc1 ?_ _ | refine Below.drew ?_ | refine below_drewl ?_ | refine Below.setCell ?_ (by first | exact Nat.le_refl _ | (simp; done) | omega | (simp; omega)) _ | refine Below.lift ?_ (by assumption)))⟩
            · have e1 : okV m bag[k] = false := ok_l2 o1 o2 (by simp_all)
              have e2 : badV m bag[k] = true := bad_l2 o1 o2 (by simp_all)
              go_roundw
              case rel => exact ⟨k + 1, by omega, by go_num, by rw [any_snoc hlt, e2]; simp [someI], (hB1.alloc (by omega) _).trans (hB3.mono (by simp; omega)), (by repeat (first | exact Below.refl _ _ | assumption | refine Below.alloc1 ?_ _ | refine Below.drew ?_ | refine below_drewl ?_ | refine Below.setCell ?_ (by first | exact Nat.le_refl _ | (simp; done) | omega | (simp; omega)) _ | refine Below.lift ?_ (by assumption))), any_step hlt hall.out e1⟩
              case measure => simp [intOf]; omega
            · have e1 : okV m bag[k] = false := ok_l2 o1 o2 (by simp_all)
              have e2 : badV m bag[k] = false := bad_l2 o1 o2 (by simp_all)
              go_roundw
              case rel => exact ⟨k + 1, by omega, by go_num, by rw [any_snoc hlt, e2]; simp [someI], (hB1.alloc (by omega) _).trans (hB3.mono (by simp; omega)), (by repeat (first | exact Below.refl _ _ | assumption | refine Below.alloc1 ?_ _ | refine Below.drew ?_ | refine below_drewl ?_ | refine Below.setCell ?_ (by first | exact Nat.le_refl _ | (simp; done) | omega | (simp; omega)) _ | refine Below.lift ?_ (by assumption))), any_step hlt hall.out e1⟩
              case measure => simp [intOf]; omega

          · skip
            go_wp2_with (go_at_call 44; refine (ref_less_any _ _ _ _ _ _ _ f1 f2).mono ?_; rintro e w3 ⟨rfl, hB3⟩; obtain ⟨hc3, hf3⟩ := bcell hB3; have hz3 := hB3.size; try simp only [World.size_alloc, World.size_drew] at hc3 hf3 hz3)
            · go_ret
              have e : bag.any (okV m) = true := any_yes hlt (ok_l3 o1 o2 (by assumption))
              refine ⟨ret_int (by rw [hr2.out, e]; rfl), (by repeat (first | exact Below.refl _ _ | assumption | refine Below.alloc1 ?_ _ | refine Below.drew ?_ | refine below_drewl ?_ | refine Below.setCell ?_ (by first | exact Nat.le_refl _ | (simp; done) | omega | (simp; omega)) _ | refine Below.lift ?_ (by assumption)))⟩
            · have e1 : okV m bag[k] = false := ok_l3 o1 o2 (by simp_all)
              have e2 : badV m bag[k] = true := bad_l3 o1 o2 (by simp_all)
              go_roundw
              case rel => exact ⟨k + 1, by omega, by go_num, by rw [any_snoc hlt, e2]; simp [someI], (hB1.alloc (by omega) _).trans (hB3.mono (by simp; omega)), (by repeat (first | exact Below.refl _ _ | assumption | refine Below.alloc1 ?_ _ | refine Below.drew ?_ | refine below_drewl ?_ | refine Below.setCell ?_ (by first | exact Nat.le_refl _ | (simp; done) | omega | (simp; omega)) _ | refine Below.lift ?_ (by assumption))), any_step hlt hall.out e1⟩
              case measure => simp [intOf]; omega
            · have e1 : okV m bag[k] = false := ok_l3 o1 o2 (by simp_all)
              have e2 : badV m bag[k] = false := bad_l3 o1 o2 (by simp_all)
              go_roundw
              case rel => exact ⟨k + 1, by omega, by go_num, by rw [any_snoc hlt, e2]; simp [someI], (hB1.alloc (by omega) _).trans (hB3.mono (by simp; omega)), (by repeat (first | exact Below.refl _ _ | assumption | refine Below.alloc1 ?_ _ | refine Below.drew ?_ | refine below_drewl ?_ | refine Below.setCell ?_ (by first | exact Nat.le_refl _ | (simp; done) | omega | (simp; omega)) _ | refine Below.lift ?_ (by assumption))), any_step hlt hall.out e1⟩
              case measure => simp [intOf]; omega
      · obtain rfl : k = bag.length := by omega
        have e := hall.out
        rw [take_all] at e ⊢
        go_wp2
        go_ret
        refine ⟨ret_int ?_, (by repeat (first | exact Below.refl _ _ | assumption | refine Below.alloc1 ?_ _ | refine Below.drew ?_ | refine below_drewl ?_ | refine Below.setCell ?_ (by first | exact Nat.le_refl _ | (simp; done) | omega | (simp; omega)) _ | refine Below.lift ?_ (by assumption)))⟩
        rw [hr2.out, e]
        rfl
  · go_wp2
    go_ret
    refine ⟨ret_int ?_, ((Below.refl _ _).alloc (Nat.le_refl _) _).trans (hB2.mono (by omega))⟩
    rw [hr.out, if_pos he]
set_option maxRecDepth 100000 in
set_option maxHeartbeats 1000000 in
theorem ref_target_any (t : List (List (List Mat))) (l : List Giv) (T A : Option Addr) (d c : Nat) (w : World) (ht : tSmall t) (hT : SlAt rTar 1 w T t) (hn : l.length ≤ 1000000) (hb : ∀ g ∈ l, g.bag.length ≤ 1000000) (h : SlAt rGiv 3 w A l) :
    Calls Try.prog 23 #[.slice T t.length d, .slice A l.length c] w fun e w' => e = .returned (.int .i64 (metS t l)) ∧ Below w.heap.size w w' := by
  have H := hide h
  have HT := hide hT
  obtain ⟨ht1, ht2⟩ := ht
  replace ht2 := hide ht2
  clear h hT
  go_enter Try.func23, Try.ntmps23
  go_wp2
  go_loopw [5, 16] (fun o i wr => ∃ k : Nat, k ≤ t.length ∧ i = .int .i64 k ∧ o = .int .i64 (metS (t.take k) l) ∧ Below w.heap.size w wr) (fun _ i _ => t.length - (intOf i).toNat)
  case atStart => exact ⟨0, Nat.zero_le _, rfl, rfl, Below.refl _ _⟩
  case round =>
    obtain ⟨k, hk, rfl, rfl, hB⟩ := hrel
    by_cases hlt : k < t.length
    · obtain ⟨b, o, B2, cb2, rfl, hbb, c0, cl, cl', h2⟩ := (HT.out.keep keeps_tar hB).sl hlt
      obtain ⟨hx1, hx2⟩ := ht2.out _ (List.getElem_mem hlt)
      have H2 := hide h2
      replace hx2 := hide hx2
      clear h2
      go_wp2
      go_loopw [8, 22] (fun o i wr2 => ∃ j : Nat, j ≤ t[k].length ∧ i = .int .i64 j ∧ o = .int .i64 (anyT (t[k].take j) l) ∧ Below wr.heap.size wr wr2) (fun _ i _ => t[k].length - (intOf i).toNat)
      case atStart => exact ⟨0, Nat.zero_le _, rfl, rfl, Below.refl _ _⟩
      case round =>
        clear hbb c0
        obtain ⟨j, hj, rfl, rfl, hB2⟩ := hrel
        by_cases hlt2 : j < t[k].length
        · obtain ⟨b2, o2, B3, cb3, rfl, hbb, c0, cm, cm', h3⟩ := (H2.out.keep keeps_any hB2).sl hlt2
          have hy := hx2.out _ (List.getElem_mem hlt2)
          have H3 := hide h3
          clear h3
          go_wp2
          go_loopw [11, 28] (fun o i wr3 => ∃ n : Nat, n ≤ t[k][j].length ∧ i = .int .i64 n ∧ o = .int .i64 (allT (t[k][j].take n) l) ∧ Below wr.heap.size wr wr3) (fun _ i _ => t[k][j].length - (intOf i).toNat)
          case atStart => exact ⟨0, Nat.zero_le _, rfl, rfl, Below.refl _ _⟩
          case round =>
            clear hbb c0
            obtain ⟨n, hj2, rfl, rfl, hB4⟩ := hrel
            by_cases hlt3 : n < t[k][j].length
            · obtain ⟨b, o, rfl, hbb, ⟨c0, c1, c2⟩, c3, ⟨c4, c5, c6⟩, hf⟩ := (H3.out.keep keeps_mat hB4).mat hlt3
              go_wp2_with (go_at_call 21; refine (ref_match_any t[k][j][n] l _ _ _ hf hn hb (H.out.keep keeps_giv (Below.lift hB (Below.lift hB2 (Below.lift hB4 (by repeat (first | exact Below.refl _ _ | assumption | refine Below.alloc1 ?_ _ | refine Below.drew ?_ | refine below_drewl ?_ | refine Below.setCell ?_ (by first | exact Nat.le_refl _ | (simp; done) | omega | (simp; omega)) _ | refine Below.lift ?_ (by assumption)))))))).mono ?_; rintro e w3 ⟨rfl, hB3⟩; obtain ⟨hc3, hf3⟩ := bcell hB3; have hz3 := hB3.size; try simp only [World.size_alloc, World.size_drew] at hc3 hf3 hz3)
              go_roundw
              case rel => exact ⟨n + 1, by omega, by go_num, by rw [allT_step hlt3]; congr 1; split <;> omega, (by repeat (first | exact Below.refl _ _ | assumption | refine Below.alloc1 ?_ _ | refine Below.drew ?_ | refine below_drewl ?_ | refine Below.setCell ?_ (by first | exact Nat.le_refl _ | (simp; done) | omega | (simp; omega)) _ | refine Below.lift ?_ (by assumption)))⟩
              case measure => simp [intOf]; omega
            · obtain rfl : n = t[k][j].length := by omega
              rw [take_all]
              go_wp2
              go_roundw
              case rel => exact ⟨j + 1, by omega, by go_num, by rw [anyT_step hlt2]; congr 1; split <;> omega, Below.lift hB2 hB4⟩
              case measure => simp [intOf]; omega
        · obtain rfl : j = t[k].length := by omega
          rw [take_all]
          go_wp2
          go_roundw
          case rel => exact ⟨k + 1, by omega, by go_num, by rw [metS_step hlt]; congr 1; split <;> omega, (by repeat (first | exact Below.refl _ _ | assumption | refine Below.alloc1 ?_ _ | refine Below.drew ?_ | refine below_drewl ?_ | refine Below.setCell ?_ (by first | exact Nat.le_refl _ | (simp; done) | omega | (simp; omega)) _ | refine Below.lift ?_ (by assumption)))⟩
          case measure => simp [intOf]; omega
    · obtain rfl : k = t.length := by omega
      rw [take_all]
      go_wp2
      go_ret
      exact ⟨rfl, (by repeat (first | exact Below.refl _ _ | assumption | refine Below.alloc1 ?_ _ | refine Below.drew ?_ | refine below_drewl ?_ | refine Below.setCell ?_ (by first | exact Nat.le_refl _ | (simp; done) | omega | (simp; omega)) _ | refine Below.lift ?_ (by assumption)))⟩
end Go.Proofs.Ytnienipaicckmaa
