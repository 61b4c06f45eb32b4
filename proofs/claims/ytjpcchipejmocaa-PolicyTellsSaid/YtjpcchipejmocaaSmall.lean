/-
  Contracts of bailiffkeep's left.obls, left.policy, Small and Few.
-/
import Derived.Test.YtjpcchipejmocaaPol
import Derived.WalkLawsBesides
import Derived.WalkSpells
import Derived.Deep.Cut
import Derived.Deep.Light
namespace Go.Proofs.Ytjpcchipejmocaa
open Go.RowKit
set_option linter.unusedSimpArgs false
set_option linter.unusedVariables false
attribute [local go_sem] ext_cell ext_frozen
attribute [local go_sem low] alloc_cell alloc_frozen

set_option maxRecDepth 100000 in
set_option maxHeartbeats 2000000 in
theorem cnt_obls (b c : Nat) (l : List Obli) (L : Option Addr) (d : Nat) (w0 w : World) (hL : SlAt rObl 3 w0 L l) (hl : l.length ≤ reachBytes) (hB0 : Below w0.heap.size w0 w) (hb : w0.heap.size ≤ b)
    (hc : w.heap[b]? = some (cntObj c)) (hcc : c ≤ 3000) :
    Calls Try.prog 77 #[.pointer (some ⟨b, 0, none⟩), .slice L l.length d] w (cntPost b c (osz l) w) := by
  unfold reachBytes at hl
  have HL := hide hL
  clear hL
  replace hc := hide hc
  go_enter Try.func77, Try.ntmps77
  go_upto_region 3 with (go_at_call 48; refine (takes_at b c l.length _ _ (by simp) hc.out (by omega) hcc).mono ?_; rintro e w1 (⟨c1, rfl, h1, h3⟩ | ⟨c1, rfl, h1, h2, h3⟩))
  · go_ret
    exact Or.inl ⟨c1, rfl, h1, h3⟩
  · clear hc
    go_wp2
    go_loopw [6, 14] (fun _ i wr => ∃ k c2 : Nat, k ≤ l.length ∧ i = .int .i64 k ∧ c2 ≤ c ∧ CntR b c2 w wr ∧ Hid (l.length + sumBy (fun o : Obli => txt o.arg) (l.take k) + c2 = c)) (fun _ i _ => l.length - (intOf i).toNat)
    case atStart => exact ⟨0, c1, Nat.zero_le _, rfl, h1, h3, h2.out⟩
    case round =>
      clear h1 h2 h3
      obtain ⟨k, c2, hk, rfl, h1, h3, h2⟩ := hrel
      have hB1 := Below.cnt hB0 h3 hb (Nat.le_refl _)
      by_cases hlt : k < l.length
      · obtain ⟨b4, o4, rfl, hbb, e0, e1, e2, hf⟩ := (HL.out.keep keeps_obl hB1).obl hlt
        have hs := hide (sumBy_step (f := fun o : Obli => txt o.arg) hlt)
        have n1 := hf.arg
        have hc := hide h3.cnt
        have hsz := lt_of_block h3.cnt
        go_wp2_with (go_at_call 49; (with_reducible refine (text_any b c2 _ _ (heap_alloc hc.out _) n1 (by omega)).mono ?_); rintro e w2 (⟨c7, rfl, h10, h12⟩ | ⟨c7, rfl, h10, h11, h12⟩); all_goals (first | replace hA := CntR.trans hA h12 | have hA := CntR.trans hR h12 | have hA := CntR.trans (CntR.alloc hR _) h12 | skip); all_goals (first | replace hL := CntR.trans hL h12 | have hL := h12); (try clear q1 q2 q3 q4); all_goals (clear h12; obtain ⟨q1, q2, q3, q4⟩ := CntR.facts hL; try simp only [World.size_alloc] at q1 q2 q3 q4))
        · go_ret
          exact Or.inl ⟨c7, rfl, by omega, (h3.alloc _).trans hL⟩
        · go_roundw
          case rel => exact ⟨k + 1, c7, by omega, by go_num, by omega, (h3.alloc _).trans hL, hide (by have := h2.out; have := hs.out; have := h11.out; omega)⟩
          case measure => simp [intOf]; omega
      · obtain rfl : k = l.length := by omega
        rw [List.take_length] at h2
        go_wp2
        go_ret
        exact Or.inr ⟨c2, rfl, h1, h2, h3⟩
def CntPolicy (n : Nat) : Prop := ∀ (b c : Nat) (p : Pol) (w0 w : World) (c3 c4 c5 c6 : Value), rPolN n w0 [.string p.id, .bool p.set, .int .i64 p.alg, c3, c4, c5, c6] p → Below w0.heap.size w0 w → w0.heap.size ≤ b →
    w.heap[b]? = some (cntObj c) → c ≤ 3000 →
    Calls Try.prog 57 #[.pointer (some ⟨b, 0, none⟩), .agg #[.string p.id, .bool p.set, .int .i64 p.alg, c3, c4, c5, c6]] w (cntPost b c p.sz w)
set_option maxRecDepth 100000 in
set_option maxHeartbeats 4000000 in
theorem cnt_policy_step (n : Nat) (ih : CntPolicy n) : CntPolicy (n + 1) := by
    intro b c p w0 w c3 c4 c5 c6 hp hB0 hb hc hcc
    obtain ⟨_, _, _, _, he, hid, halg, h3, h4, h5, h6⟩ := hp
    simp only [List.cons.injEq, true_and, and_true] at he
    obtain ⟨rfl, rfl, rfl, rfl⟩ := he
    obtain ⟨A3, d3, rfl, l3, m3, h3⟩ := h3
    obtain ⟨A4, d4, rfl, l4, m4, h4⟩ := h4
    obtain ⟨A5, d5, rfl, l5, m5, h5⟩ := h5
    obtain ⟨A6, d6, rfl, l6, m6, h6⟩ := h6
    replace h3 := hide h3
    replace h4 := hide h4
    replace h5 := hide h5
    replace h6 := hide h6
    have hsz := lt_of_block hc
    replace ih := hide ih
    simp only [reachBytes] at m3 m4 m5 m6
    have e := hide p.sz_eq
    replace hc := hide hc
    go_enter Try.func57, Try.ntmps57
    have hR : CntR b c (w.alloc (.cells #[.string p.id, .bool p.set, .int .i64 p.alg, .slice A3 (List.length p.target) d3, .slice A4 p.rules.length d4, .slice A5 p.kids.length d5, .slice A6 p.obls.length d6] 64)) (w.alloc (.cells #[.string p.id, .bool p.set, .int .i64 p.alg, .slice A3 (List.length p.target) d3, .slice A4 p.rules.length d4, .slice A5 p.kids.length d5, .slice A6 p.obls.length d6] 64)) := CntR.refl (heap_alloc hc.out _)
    go_upto_region 3 with (first | (go_at_call 48; (with_reducible refine (takes_at b c (1 + p.rules.length) _ _ (by simp) (heap_alloc hc.out _) (by omega) hcc).mono ?_); rintro e w2 (⟨c7, rfl, h10, h12⟩ | ⟨c7, rfl, h10, h11, h12⟩); all_goals (first | replace hA := CntR.trans hA h12 | have hA := CntR.trans hR h12 | have hA := CntR.trans (CntR.alloc hR _) h12 | skip); all_goals (first | replace hL := CntR.trans hL h12 | have hL := h12); (try clear q1 q2 q3 q4); all_goals (clear h12; obtain ⟨q1, q2, q3, q4⟩ := CntR.facts hL; try simp only [World.size_alloc] at q1 q2 q3 q4)) | (go_at_call 49; (with_reducible refine (text_any b _ _ _ hA.cnt hid (by omega)).mono ?_); rintro e w2 (⟨c7, rfl, h10, h12⟩ | ⟨c7, rfl, h10, h11, h12⟩); all_goals (first | replace hA := CntR.trans hA h12 | have hA := CntR.trans hR h12 | have hA := CntR.trans (CntR.alloc hR _) h12 | skip); all_goals (first | replace hL := CntR.trans hL h12 | have hL := h12); (try clear q1 q2 q3 q4); all_goals (clear h12; obtain ⟨q1, q2, q3, q4⟩ := CntR.facts hL; try simp only [World.size_alloc] at q1 q2 q3 q4)) | (go_at_call 76; (with_reducible refine (cnt_target b _ p.target _ _ w0 _ h3.out (by simp only [reachBytes]; omega) (Below.cnt (Below.alloc1 hB0 _) hA hb (Nat.le_refl _)) hb hA.cnt (by omega)).mono ?_); rintro e w2 (⟨c7, rfl, h10, h12⟩ | ⟨c7, rfl, h10, h11, h12⟩); all_goals (first | replace hA := CntR.trans hA h12 | have hA := CntR.trans hR h12 | have hA := CntR.trans (CntR.alloc hR _) h12 | skip); all_goals (first | replace hL := CntR.trans hL h12 | have hL := h12); (try clear q1 q2 q3 q4); all_goals (clear h12; obtain ⟨q1, q2, q3, q4⟩ := CntR.facts hL; try simp only [World.size_alloc] at q1 q2 q3 q4)) | (go_at_call 77; (with_reducible refine (cnt_obls b _ p.obls _ _ w0 _ h6.out (by simp only [reachBytes]; omega) (Below.cnt (Below.alloc1 hB0 _) hA hb (Nat.le_refl _)) hb hA.cnt (by omega)).mono ?_); rintro e w2 (⟨c7, rfl, h10, h12⟩ | ⟨c7, rfl, h10, h11, h12⟩); all_goals (first | replace hA := CntR.trans hA h12 | have hA := CntR.trans hR h12 | have hA := CntR.trans (CntR.alloc hR _) h12 | skip); all_goals (first | replace hL := CntR.trans hL h12 | have hL := h12); (try clear q1 q2 q3 q4); all_goals (clear h12; obtain ⟨q1, q2, q3, q4⟩ := CntR.facts hL; try simp only [World.size_alloc] at q1 q2 q3 q4)))
    all_goals first | (go_ret; exact Or.inl ⟨_, rfl, by omega, (CntR.alloc (CntR.refl hc.out) _).trans hA⟩) | skip
    rename Hid (1 + p.rules.length + _ = c) => g1
    rename Hid (txt p.id + _ = _) => g2
    rename Hid (tsz p.target + _ = _) => g3
    replace hR := hA
    clear hA
    obtain ⟨k0, hk0⟩ : ∃ k0, k0 = 1 + p.rules.length + txt p.id + tsz p.target + osz p.obls := ⟨_, rfl⟩
    have g := hide (show k0 + c7 = c by have := g1.out; have := g2.out; have := g3.out; have := h11.out; omega)
    have hcc7 : c7 ≤ c := by omega
    replace hk0 := hide hk0
    clear g1 g2 g3 h11 q1 q2 q3 q4 h10 hL
    obtain ⟨q1, q2, q3, q4⟩ := CntR.facts hR
    simp only [World.size_alloc] at q3
    go_wp2
    clear q1 q2 q3 q4
    go_loopw [6, 8, 42] (fun _ _ i wr => ∃ k c2 : Nat, k ≤ p.rules.length ∧ i = .int .i64 k ∧ c2 ≤ c ∧ CntR b c2 (w.alloc (.cells #[.string p.id, .bool p.set, .int .i64 p.alg, .slice A3 (List.length p.target) d3, .slice A4 p.rules.length d4, .slice A5 p.kids.length d5, .slice A6 p.obls.length d6] 64)) wr ∧ Hid (k0 + sumBy rusz (p.rules.take k) + c2 = c)) (fun _ _ i _ => p.rules.length - (intOf i).toNat)
    case atStart => exact ⟨0, c7, Nat.zero_le _, rfl, hcc7, hR, g.out⟩
    case round =>
      clear hR g hcc7
      obtain ⟨k, c2, hk, rfl, hc2, hR, g⟩ := hrel
      have hB1 : Below w0.heap.size w0 wr := Below.cnt (Below.alloc1 hB0 _) hR hb (Nat.le_refl _)
      by_cases hlt : k < p.rules.length
      · obtain ⟨b2, o2, v2, v3, v4, rfl, hbb, e0, e1, e2, e3, e4, n1, s2, s3, s4⟩ := h4.out.rul0 hB1 hlt
        obtain ⟨B2, j2, rfl, u2, t2, s2⟩ := s2
        obtain ⟨B3, j3, rfl, u3, t3, s3⟩ := s3
        obtain ⟨B4, j4, rfl, u4, t4, s4⟩ := s4
        replace s2 := hide s2
        replace s3 := hide s3
        replace s4 := hide s4
        have hs := hide (sumBy_step (f := rusz) hlt)
        have hbw := hB1.size
        have hbr := lt_of_block hR.cnt
        simp only [reachBytes] at t2 t3 t4
        go_upto_region 8 with (first | (go_at_call 48; (with_reducible refine (takes_at b _ p.rules[k].cond.length _ _ (by simp) hA.cnt (by omega) (by omega)).mono ?_); rintro e w2 (⟨c7, rfl, h10, h12⟩ | ⟨c7, rfl, h10, h11, h12⟩); all_goals (first | replace hA := CntR.trans hA h12 | have hA := CntR.trans hR h12 | have hA := CntR.trans (CntR.alloc hR _) h12 | skip); all_goals (first | replace hL := CntR.trans hL h12 | have hL := h12); (try clear q1 q2 q3 q4); all_goals (clear h12; obtain ⟨q1, q2, q3, q4⟩ := CntR.facts hL; try simp only [World.size_alloc] at q1 q2 q3 q4)) | (go_at_call 49; (with_reducible refine (text_any b _ _ _ (heap_alloc hR.cnt _) n1 (by omega)).mono ?_); rintro e w2 (⟨c7, rfl, h10, h12⟩ | ⟨c7, rfl, h10, h11, h12⟩); all_goals (first | replace hA := CntR.trans hA h12 | have hA := CntR.trans hR h12 | have hA := CntR.trans (CntR.alloc hR _) h12 | skip); all_goals (first | replace hL := CntR.trans hL h12 | have hL := h12); (try clear q1 q2 q3 q4); all_goals (clear h12; obtain ⟨q1, q2, q3, q4⟩ := CntR.facts hL; try simp only [World.size_alloc] at q1 q2 q3 q4)) | (go_at_call 76; (with_reducible refine (cnt_target b _ p.rules[k].target _ _ w0 _ s2.out (by simp only [reachBytes]; omega) (Below.cnt (Below.alloc1 hB0 _) hA hb (Nat.le_refl _)) hb hA.cnt (by omega)).mono ?_); rintro e w2 (⟨c7, rfl, h10, h12⟩ | ⟨c7, rfl, h10, h11, h12⟩); all_goals (first | replace hA := CntR.trans hA h12 | have hA := CntR.trans hR h12 | have hA := CntR.trans (CntR.alloc hR _) h12 | skip); all_goals (first | replace hL := CntR.trans hL h12 | have hL := h12); (try clear q1 q2 q3 q4); all_goals (clear h12; obtain ⟨q1, q2, q3, q4⟩ := CntR.facts hL; try simp only [World.size_alloc] at q1 q2 q3 q4)) | (go_at_call 77; (with_reducible refine (cnt_obls b _ p.rules[k].obls _ _ w0 _ s4.out (by simp only [reachBytes]; omega) (Below.cnt (Below.alloc1 hB0 _) hA hb (Nat.le_refl _)) hb hA.cnt (by omega)).mono ?_); rintro e w2 (⟨c7, rfl, h10, h12⟩ | ⟨c7, rfl, h10, h11, h12⟩); all_goals (first | replace hA := CntR.trans hA h12 | have hA := CntR.trans hR h12 | have hA := CntR.trans (CntR.alloc hR _) h12 | skip); all_goals (first | replace hL := CntR.trans hL h12 | have hL := h12); (try clear q1 q2 q3 q4); all_goals (clear h12; obtain ⟨q1, q2, q3, q4⟩ := CntR.facts hL; try simp only [World.size_alloc] at q1 q2 q3 q4)))
        all_goals first | (go_ret; exact Or.inl ⟨_, rfl, by omega, (CntR.alloc (CntR.refl hc.out) _).trans hA⟩) | skip
        rename Hid (txt p.rules[k].id + _ = _) => g1
        rename Hid (tsz p.rules[k].target + _ = _) => g2
        rename Hid (p.rules[k].cond.length + _ = _) => g3
        obtain ⟨k1, hk1⟩ : ∃ k1, k1 = txt p.rules[k].id + tsz p.rules[k].target + p.rules[k].cond.length + osz p.rules[k].obls := ⟨_, rfl⟩
        have g' := hide (show k1 + c7 = c2 by have := g1.out; have := g2.out; have := g3.out; have := h11.out; omega)
        have hcc7 : c7 ≤ c := by omega
        have e1 := hide (show rusz p.rules[k] = k1 + sumBy nsz p.rules[k].cond by subst hk1; rfl)
        clear g1 g2 g3 h11 h10 hk1
        go_wp2
        clear q1 q2 q3 q4
        replace hR := hA
        clear hA
        go_loopw [8, 76] (fun _ i wr' => ∃ k' c4 : Nat, k' ≤ p.rules[k].cond.length ∧ i = .int .i64 k' ∧ c4 ≤ c ∧ CntR b c4 (w.alloc (.cells #[.string p.id, .bool p.set, .int .i64 p.alg, .slice A3 (List.length p.target) d3, .slice (some ⟨b2, o2, none⟩) p.rules.length d4, .slice A5 p.kids.length d5, .slice A6 p.obls.length d6] 64)) wr' ∧ Hid (k1 + sumBy nsz (p.rules[k].cond.take k') + c4 = c2)) (fun _ i _ => p.rules[k].cond.length - (intOf i).toNat)
        case atStart => exact ⟨0, c7, Nat.zero_le _, rfl, hcc7, hR, g'.out⟩
        case round =>
          clear hR g' hcc7 hL hbb hB1
          obtain ⟨k', c4, hk', rfl, hc4, hR, g'⟩ := hrel
          have hB1 : Below w0.heap.size w0 wr := Below.cnt (Below.alloc1 hB0 _) hR hb (Nat.le_refl _)
          by_cases hlt' : k' < p.rules[k].cond.length
          · obtain ⟨b4, o4, rfl, hbb, e0, ⟨e3, e4, e5⟩, ⟨e6, e7, e8⟩, hf⟩ := (s3.out.keep keeps_nod hB1).nod hlt'
            have hs' := hide (sumBy_step (f := nsz) hlt')
            have n1 := hf.attr.name
            have n2 := hf.val.s
            have hbw := hB1.size
            have hbr := lt_of_block hR.cnt
            go_wp2_with (go_at_call 49; (first | (with_reducible refine (text_any b c4 _ _ (heap_alloc hR.cnt _) n1 (by omega)).mono ?_) | (with_reducible refine (text_any b _ _ _ hA.cnt n2 (by omega)).mono ?_)); rintro e w2 (⟨c7, rfl, h10, h12⟩ | ⟨c7, rfl, h10, h11, h12⟩); all_goals (first | replace hA := CntR.trans hA h12 | have hA := CntR.trans hR h12 | have hA := CntR.trans (CntR.alloc hR _) h12 | skip); all_goals (first | replace hL := CntR.trans hL h12 | have hL := h12); (try clear q1 q2 q3 q4); all_goals (clear h12; obtain ⟨q1, q2, q3, q4⟩ := CntR.facts hL; try simp only [World.size_alloc] at q1 q2 q3 q4))
            · go_ret
              exact Or.inl ⟨_, rfl, by omega, (CntR.alloc (CntR.refl hc.out) _).trans hA⟩
            · go_ret
              exact Or.inl ⟨_, rfl, by omega, (CntR.alloc (CntR.refl hc.out) _).trans hA⟩
            · rename Hid (txt p.rules[k].cond[k'].attr.name + _ = c4) => g1
              go_roundw
              case rel => exact ⟨k' + 1, c7, by omega, by go_num, by omega, hA, hide (by have := g'.out; have := hs'.out; have := h11.out; have := g1.out; have e : nsz p.rules[k].cond[k'] = txt p.rules[k].cond[k'].attr.name + txt p.rules[k].cond[k'].val.s := rfl; omega)⟩
              case measure => simp [intOf]; omega
          · obtain rfl : k' = p.rules[k].cond.length := by omega
            rw [List.take_length] at g'
            go_wp2
            go_roundw
            case rel => exact ⟨k + 1, c4, by omega, by go_num, hc4, hR, hide (by have := g.out; have := g'.out; have := hs.out; have := e1.out; omega)⟩
            case measure => simp [intOf]; omega
      · obtain rfl : k = p.rules.length := by omega
        rw [List.take_length] at g
        obtain ⟨q1, q2, q3, q4⟩ := CntR.facts hR
        simp only [World.size_alloc] at q3
        go_wp2
        clear q1 q2 q3 q4
        go_loopw [10, 99] (fun _ i wr' => ∃ k' c4 : Nat, k' ≤ p.kids.length ∧ i = .int .i64 k' ∧ c4 ≤ c ∧ CntR b c4 (w.alloc (.cells #[.string p.id, .bool p.set, .int .i64 p.alg, .slice A3 (List.length p.target) d3, .slice A4 p.rules.length d4, .slice A5 p.kids.length d5, .slice A6 p.obls.length d6] 64)) wr' ∧ Hid (k0 + sumBy rusz p.rules + sumBy Pol.sz (p.kids.take k') + c4 = c)) (fun _ i _ => p.kids.length - (intOf i).toNat)
        case atStart => exact ⟨0, c2, Nat.zero_le _, rfl, hc2, hR, g.out⟩
        case round =>
          clear hR g hB1 hc2
          obtain ⟨k', c4, hk', rfl, hc4, hR, g⟩ := hrel
          have hB1 : Below w0.heap.size w0 wr := Below.cnt (Below.alloc1 hB0 _) hR hb (Nat.le_refl _)
          by_cases hlt' : k' < p.kids.length
          · obtain ⟨b2, o2, v3, v4, v5, v6, rfl, hbb, e0, e1, e2, e3, e4, e5, e6, hr⟩ := h5.out.pol0 hB1 hlt'
            have hs' := hide (sumBy_step (f := Pol.sz) hlt')
            obtain ⟨B3, j3, B4, j4, B5, j5, B6, j6, rfl, rfl, rfl, rfl⟩ := rPolN_form hr
            replace hr := hide hr
            have hbw := hB1.size
            have hbr := lt_of_block hR.cnt
            go_wp2_with (go_at_call 57; refine (ih.out b c4 p.kids[k'] w0 _ _ _ _ _ hr.out (Below.alloc1 hB1 _) hb (heap_alloc hR.cnt _) (by omega)).mono ?_; rintro e w2 (⟨c7, rfl, h10, h12⟩ | ⟨c7, rfl, h10, h11, h12⟩); all_goals (first | replace hA := CntR.trans hA h12 | have hA := CntR.trans hR h12 | have hA := CntR.trans (CntR.alloc hR _) h12 | skip); all_goals (first | replace hL := CntR.trans hL h12 | have hL := h12); (try clear q1 q2 q3 q4); all_goals (clear h12; obtain ⟨q1, q2, q3, q4⟩ := CntR.facts hL; try simp only [World.size_alloc] at q1 q2 q3 q4))
            · go_ret
              exact Or.inl ⟨_, rfl, by omega, (CntR.alloc (CntR.refl hc.out) _).trans hA⟩
            · go_roundw
              case rel => exact ⟨k' + 1, c7, by omega, by go_num, by omega, hA, hide (by have := g.out; have := hs'.out; have := h11.out; omega)⟩
              case measure => simp [intOf]; omega
          · obtain rfl : k' = p.kids.length := by omega
            rw [List.take_length] at g
            go_wp2
            go_ret
            exact Or.inr ⟨c4, rfl, hc4, hide (by have := g.out; have := e.out; have := hk0.out; omega), (CntR.alloc (CntR.refl hc.out) _).trans hR⟩
theorem cnt_policy (n : Nat) : CntPolicy n := by
  induction n with
  | zero => intro b c p w0 w c3 c4 c5 c6 h; exact h.elim
  | succ n ih => exact cnt_policy_step n ih
/-- it is small, or it isn't -/
def upTo (k m : Nat) (w : World) (e : Ending) (w' : World) : Prop := (e = .returned (.bool false) ∧ Below w.heap.size w w') ∨ (e = .returned (.bool true) ∧ Hid (k ≤ m) ∧ Below w.heap.size w w')
theorem heap_new (w : World) (o : Obj) : (w.alloc o).heap[w.heap.size]? = some o := by
  show (w.heap.push o)[w.heap.size]? = _
  simp
theorem heap_at (w : World) (o : Obj) (b : Nat) (hb : b = w.heap.size) : (w.alloc o).heap[b]? = some o := by subst hb; exact heap_new w o
theorem small_any (n : Nat) (p : Pol) (w : World) (c3 c4 c5 c6 : Value) (hp : rPolN n w [.string p.id, .bool p.set, .int .i64 p.alg, c3, c4, c5, c6] p) :
    Calls Try.prog 30 #[.agg #[.string p.id, .bool p.set, .int .i64 p.alg, c3, c4, c5, c6]] w (upTo p.sz 3000 w) := by
  obtain ⟨A3, d3, A4, d4, A5, d5, A6, d6, rfl, rfl, rfl, rfl⟩ := rPolN_form hp
  replace hp := hide hp
  go_enter Try.func30, Try.ntmps30
  go_wp2_with (go_at_call 57; refine (cnt_policy n (w.heap.size + 1) 3000 p w _ _ _ _ _ hp.out (by repeat (first | exact Below.refl _ _ | assumption | refine Below.alloc1 ?_ _ | refine Below.drew ?_ | refine below_drewl ?_ | refine Below.setCell ?_ (by first | exact Nat.le_refl _ | (simp; done) | omega | (simp; omega)) _ | refine Below.lift ?_ (by assumption))) (by omega) ?_ (Nat.le_refl _)).mono ?_; exact heap_at _ _ _ (by simp); rintro e w2 (⟨c7, rfl, h10, h12⟩ | ⟨c7, rfl, h10, h11, h12⟩))
  · go_ret
    exact Or.inl ⟨rfl, ((Below.refl _ _).alloc (Nat.le_refl _) _).alloc (by simp) _ |>.trans (h12.below (by omega) (by simp; omega))⟩
  · go_ret
    exact Or.inr ⟨rfl, hide (by have := h11.out; omega), ((Below.refl _ _).alloc (Nat.le_refl _) _).alloc (by simp) _ |>.trans (h12.below (by omega) (by simp; omega))⟩

def gsz (g : Giv) : Nat := txt g.name + g.bag.length + sumBy (fun v : Val => txt v.s) g.bag
def fsz (l : List Giv) : Nat := 2 * l.length + sumBy gsz l
theorem SlAt.giv0 {w0 w : World} {A : Option Addr} {l : List Giv} (h : SlAt rGiv 3 w0 A l) (hB : Below w0.heap.size w0 w) {k : Nat} (hk : k < l.length) :
    ∃ b o B c, A = some ⟨b, o, none⟩ ∧ b < w0.heap.size ∧ w.cell? ⟨b, o + k * 3, none⟩ = some (.int .i64 l[k].cat) ∧ w.cell? ⟨b, o + k * 3 + 1, none⟩ = some (.string l[k].name) ∧
      w.cell? ⟨b, o + k * 3 + 2, none⟩ = some (.slice B l[k].bag.length c) ∧ R64 l[k].cat ∧ l[k].name.size ≤ reachBytes ∧ l[k].bag.length ≤ c ∧ (l[k].bag.length ≤ reachBytes ∧ c ≤ maxLen) ∧ SlAt rVal 3 w0 B l[k].bag := by
  obtain ⟨b, o, B, c, hA, hb, h0, h1, h2, h3⟩ := h.giv hk
  have cell : ∀ j, w.cell? ⟨b, j, none⟩ = w0.cell? ⟨b, j, none⟩ := fun j => hB.cell (p := ⟨b, j, none⟩) hb
  exact ⟨b, o, B, c, hA, hb, (cell _).trans h0, (cell _).trans h1, (cell _).trans h2, h3⟩
set_option maxRecDepth 100000 in
set_option maxHeartbeats 4000000 in
theorem few_any (l : List Giv) (A : Option Addr) (c : Nat) (w0 : World) (hl : l.length ≤ reachBytes) (h : SlAt rGiv 3 w0 A l) :
    Calls Try.prog 21 #[.slice A l.length c] w0 (upTo (fsz l) 1200 w0) := by
  unfold reachBytes at hl
  replace h := hide h
  have hb : w0.heap.size ≤ w0.heap.size := Nat.le_refl _
  have hB0 : Below w0.heap.size w0 w0 := Below.refl _ _
  have hc := hide (heap_new w0 (cntObj 1200))
  go_enter Try.func21, Try.ntmps21
  go_upto_region 4 with (go_at_call 48; refine (takes_at w0.heap.size 1200 (2 * l.length) _ _ (by simp) hc.out (by omega) (by omega)).mono ?_; rintro e w1 (⟨c1, rfl, h1, h3⟩ | ⟨c1, rfl, h1, h2, h3⟩))
  · go_ret
    exact Or.inl ⟨rfl, ((Below.refl _ _).alloc (Nat.le_refl _) _).trans (h3.below (by omega) (by simp))⟩
  · go_wp2
    go_loopw [5, 7, 18] (fun _ _ i wr => ∃ k c2 : Nat, k ≤ l.length ∧ i = .int .i64 k ∧ c2 ≤ 1200 ∧ CntR w0.heap.size c2 (w0.alloc (cntObj 1200)) wr ∧ Hid (2 * l.length + sumBy gsz (l.take k) + c2 = 1200)) (fun _ _ i _ => l.length - (intOf i).toNat)
    case atStart => exact ⟨0, c1, Nat.zero_le _, rfl, h1, h3, h2.out⟩
    case round =>
      clear h1 h2 h3
      obtain ⟨k, c2, hk, rfl, hc2, hR, g⟩ := hrel
      have hB1 : Below w0.heap.size w0 wr := Below.cnt (Below.alloc1 hB0 _) hR hb (Nat.le_refl _)
      by_cases hlt : k < l.length
      · obtain ⟨b2, o2, B2, j2, rfl, hbb, e0, e1, e2, hcat, n1, t1, t2, hbag⟩ := h.out.giv0 hB1 hlt
        have hs := hide (sumBy_step (f := gsz) hlt)
        replace hbag := hide hbag
        have hbw := hB1.size
        have hbr := lt_of_block hR.cnt
        simp only [reachBytes] at t2
        go_upto_region 9 with (first | (go_at_call 48; (with_reducible refine (takes_at _ _ l[k].bag.length _ _ (by simp) hA.cnt (by omega) (by omega)).mono ?_); rintro e w2 (⟨c7, rfl, h10, h12⟩ | ⟨c7, rfl, h10, h11, h12⟩); all_goals (first | replace hA := CntR.trans hA h12 | have hA := CntR.trans hR h12 | have hA := CntR.trans (CntR.alloc hR _) h12 | skip); all_goals (first | replace hL := CntR.trans hL h12 | have hL := h12); (try clear q1 q2 q3 q4); all_goals (clear h12; obtain ⟨q1, q2, q3, q4⟩ := CntR.facts hL; try simp only [World.size_alloc] at q1 q2 q3 q4)) | (go_at_call 49; (with_reducible refine (text_any _ c2 _ _ (heap_alloc hR.cnt _) n1 (by omega)).mono ?_); rintro e w2 (⟨c7, rfl, h10, h12⟩ | ⟨c7, rfl, h10, h11, h12⟩); all_goals (first | replace hA := CntR.trans hA h12 | have hA := CntR.trans hR h12 | have hA := CntR.trans (CntR.alloc hR _) h12 | skip); all_goals (first | replace hL := CntR.trans hL h12 | have hL := h12); (try clear q1 q2 q3 q4); all_goals (clear h12; obtain ⟨q1, q2, q3, q4⟩ := CntR.facts hL; try simp only [World.size_alloc] at q1 q2 q3 q4)))
        · go_ret
          exact Or.inl ⟨rfl, ((Below.refl _ _).alloc (Nat.le_refl _) _).trans (hA.below (by omega) (by simp))⟩
        · go_ret
          exact Or.inl ⟨rfl, ((Below.refl _ _).alloc (Nat.le_refl _) _).trans (hA.below (by omega) (by simp))⟩
        · rename Hid (txt l[k].name + _ = _) => g1
          obtain ⟨k1, hk1⟩ : ∃ k1, k1 = txt l[k].name + l[k].bag.length := ⟨_, rfl⟩
          have g' := hide (show k1 + c7 = c2 by have := g1.out; have := h11.out; omega)
          have hcc7 : c7 ≤ 1200 := by omega
          have e1 := hide (show gsz l[k] = k1 + sumBy (fun v : Val => txt v.s) l[k].bag by subst hk1; rfl)
          clear g1 h11 h10 hk1
          go_wp2
          clear q1 q2 q3 q4
          replace hR := hA
          clear hA
          go_loopw [7, 38] (fun _ i wr' => ∃ k' c4 : Nat, k' ≤ l[k].bag.length ∧ i = .int .i64 k' ∧ c4 ≤ 1200 ∧ CntR w0.heap.size c4 (w0.alloc (cntObj 1200)) wr' ∧ Hid (k1 + sumBy (fun v : Val => txt v.s) (l[k].bag.take k') + c4 = c2)) (fun _ i _ => l[k].bag.length - (intOf i).toNat)
          case atStart => exact ⟨0, c7, Nat.zero_le _, rfl, hcc7, hR, g'.out⟩
          case round =>
            clear hR g' hcc7 hL hbb hB1
            obtain ⟨k', c4, hk', rfl, hc4, hR, g'⟩ := hrel
            have hB1 : Below w0.heap.size w0 wr := Below.cnt (Below.alloc1 hB0 _) hR hb (Nat.le_refl _)
            by_cases hlt' : k' < l[k].bag.length
            · obtain ⟨b4, o4, rfl, hbb, e3, e4, e5, hf⟩ := (hbag.out.keep keeps_val hB1).val hlt'
              have hs' := hide (sumBy_step (f := fun v : Val => txt v.s) hlt')
              have n2 := hf.s
              have hbw := hB1.size
              have hbr := lt_of_block hR.cnt
              go_wp2_with (go_at_call 49; (with_reducible refine (text_any _ c4 _ _ (heap_alloc hR.cnt _) n2 (by omega)).mono ?_); rintro e w2 (⟨c7, rfl, h10, h12⟩ | ⟨c7, rfl, h10, h11, h12⟩); all_goals (first | replace hA := CntR.trans hA h12 | have hA := CntR.trans hR h12 | have hA := CntR.trans (CntR.alloc hR _) h12 | skip); all_goals (first | replace hL := CntR.trans hL h12 | have hL := h12); (try clear q1 q2 q3 q4); all_goals (clear h12; obtain ⟨q1, q2, q3, q4⟩ := CntR.facts hL; try simp only [World.size_alloc] at q1 q2 q3 q4))
              · go_ret
                exact Or.inl ⟨rfl, ((Below.refl _ _).alloc (Nat.le_refl _) _).trans (hA.below (by omega) (by simp))⟩
              · go_roundw
                case rel => exact ⟨k' + 1, c7, by omega, by go_num, by omega, hA, hide (by have := g'.out; have := hs'.out; have := h11.out; omega)⟩
                case measure => simp [intOf]; omega
            · obtain rfl : k' = l[k].bag.length := by omega
              rw [List.take_length] at g'
              go_wp2
              go_roundw
              case rel => exact ⟨k + 1, c4, by omega, by go_num, hc4, hR, hide (by have := g.out; have := g'.out; have := hs.out; have := e1.out; omega)⟩
              case measure => simp [intOf]; omega
      · obtain rfl : k = l.length := by omega
        rw [List.take_length] at g
        go_wp2
        go_ret
        exact Or.inr ⟨rfl, hide (by have := g.out; unfold fsz; omega), ((Below.refl _ _).alloc (Nat.le_refl _) _).trans (hR.below (by omega) (by simp))⟩
end Go.Proofs.Ytjpcchipejmocaa
