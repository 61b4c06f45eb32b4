/-
  What the statement leans on, part 3: Small, ConvV, Conv, Value, PolS, ValH, PolH, AskS, AskG, LessH, HasS, ExS, ExT, EvS, Fun, Fun2, Fun3, ExF, TgtH, FewH, GivO, Pend, Eval.
-/
import Derived.WalkLawsBesides
import Derived.WalkSpells
import Derived.Deep.Cut
import Derived.Deep.Light
import Derived.Test.YtppfcacnofjmdaaGreatDoorRows
import Derived.Test.YtppfcacnofjmdaaGreatDoorPk1
import Derived.Test.YtppfcacnofjmdaaGreatDoorPk2
namespace Go.Proofs.YtppfcacnofjmdaaGreatDoor
open Go.RowKit
set_option linter.unusedSimpArgs false
set_option linter.unusedVariables false
attribute [local go_sem] ext_cell wi
attribute [local go_sem low] we jp
set_option maxRecDepth 100000 in
set_option maxHeartbeats 2000000 in
theorem cnt_obls (b c : Nat) (l : List Obli) (L : Option Addr) (d : Nat) (w0 w : World) (hL : SlAt rObl 3 w0 L l) (hl : l.length ≤ reachBytes) (hB0 : Below w0.heap.size w0 w) (hb : w0.heap.size ≤ b)
    (hc : w.heap[b]? = some (cntObj c)) (hcc : c ≤ 3000) :
    Calls Tryz.prog 66 #[.pointer (some ⟨b, 0, none⟩), .slice L l.length d] w (cntPost b c (osz l) w) := by
  unfold reachBytes at hl
  have HL := hide hL
  clear hL
  replace hc := hide hc
  go_enter Tryz.func66, Tryz.ntmps66
  go_upto_region 3 with (go_at_call 42; refine (wG b c l.length _ _ (by simp) hc.out (by omega) hcc).mono ?_; rintro e w1 (⟨c1, rfl, h1, h3⟩ | ⟨c1, rfl, h1, h2, h3⟩))
  · go_ret
    exact Or.inl ⟨c1, rfl, h1, h3⟩
  · clear hc
    go_wp2
    go_loopw [6, 14] (fun _ i wr => ∃ k c2 : Nat, k ≤ l.length ∧ i = .int .i64 k ∧ c2 ≤ c ∧ CntR b c2 w wr ∧ Hid (l.length + qT (fun o : Obli => txt o.arg) (l.take k) + c2 = c)) (fun _ i _ => l.length - (intOf i).toNat)
    case atStart => exact ⟨0, c1, Nat.zero_le _, rfl, h1, h3, h2.out⟩
    case round =>
      clear h1 h2 h3
      obtain ⟨k, c2, hk, rfl, h1, h3, h2⟩ := hrel
      have hB1 := Below.cnt hB0 h3 hb (Nat.le_refl _)
      by_cases hlt : k < l.length
      · obtain ⟨b4, o4, rfl, hbb, e0, e1, e2, hf⟩ := (HL.out.keep keeps_obl hB1).obl hlt
        have hs := hide (zG (f := fun o : Obli => txt o.arg) hlt)
        have n1 := hf.arg
        have hc := hide h3.cnt
        have hsz := lt_of_block h3.cnt
        go_wp2_with (go_at_call 43; (with_reducible refine (jY b c2 _ _ (heap_alloc hc.out _) n1 (by omega)).mono ?_); rintro e w2 (⟨c7, rfl, h10, h12⟩ | ⟨c7, rfl, h10, h11, h12⟩); all_goals (first | replace hA := CntR.trans hA h12 | have hA := CntR.trans hR h12 | have hA := CntR.trans (CntR.alloc hR _) h12 | skip); all_goals (first | replace hL := CntR.trans hL h12 | have hL := h12); (try clear q1 q2 q3 q4); all_goals (clear h12; obtain ⟨q1, q2, q3, q4⟩ := CntR.facts hL; try simp only [World.size_alloc] at q1 q2 q3 q4))
        · go_ret
          exact Or.inl ⟨c7, rfl, by omega, (h3.alloc _).trans hL⟩
        · go_roundw
          case rel => exact ⟨k + 1, c7, by omega, by go_num, by omega, (h3.alloc _).trans hL, hide (by have := h2.out; have := hs.out; have := h11.out; omega)⟩
          case measure => simp [intOf]; omega
      · obtain rfl : k = l.length := by omega
        rw [List.take_length] at h2
        go_wp2
        go_ret
        exact Or.inr ⟨c2, rfl, h1, h2, h3⟩
def CntPolicy (n : Nat) : Prop := ∀ (b c : Nat) (p : Pol) (w0 w : World) (c3 c4 c5 c6 : Value), rPolN n w0 [.string p.id, .bool p.set, .int .i64 p.alg, c3, c4, c5, c6] p → Below w0.heap.size w0 w → w0.heap.size ≤ b →
    w.heap[b]? = some (cntObj c) → c ≤ 3000 →
    Calls Tryz.prog 41 #[.pointer (some ⟨b, 0, none⟩), .agg #[.string p.id, .bool p.set, .int .i64 p.alg, c3, c4, c5, c6]] w (cntPost b c p.sz w)
set_option maxRecDepth 100000 in
set_option maxHeartbeats 4000000 in
theorem cnt_policy_step (n : Nat) (ih : CntPolicy n) : CntPolicy (n + 1) := by
    intro b c p w0 w c3 c4 c5 c6 hp hB0 hb hc hcc
    obtain ⟨_, _, _, _, he, hid, halg, h3, h4, h5, h6⟩ := hp
    simp only [List.cons.injEq, true_and, and_true] at he
    obtain ⟨rfl, rfl, rfl, rfl⟩ := he
    obtain ⟨A3, d3, rfl, l3, m3, h3⟩ := h3
    obtain ⟨A4, d4, rfl, l4, m4, h4⟩ := h4
    obtain ⟨A5, d5, rfl, l5, m5, h5⟩ := h5
    obtain ⟨A6, d6, rfl, l6, m6, h6⟩ := h6
    replace h3 := hide h3
    replace h4 := hide h4
    replace h5 := hide h5
    replace h6 := hide h6
    have hsz := lt_of_block hc
    replace ih := hide ih
    simp only [reachBytes] at m3 m4 m5 m6
    have e := hide p.sz_eq
    replace hc := hide hc
    go_enter Tryz.func41, Tryz.ntmps41
    have hR : CntR b c (w.alloc (.cells #[.string p.id, .bool p.set, .int .i64 p.alg, .slice A3 (List.length p.target) d3, .slice A4 p.rules.length d4, .slice A5 p.kids.length d5, .slice A6 p.obls.length d6] 28)) (w.alloc (.cells #[.string p.id, .bool p.set, .int .i64 p.alg, .slice A3 (List.length p.target) d3, .slice A4 p.rules.length d4, .slice A5 p.kids.length d5, .slice A6 p.obls.length d6] 28)) := CntR.refl (heap_alloc hc.out _)
    go_upto_region 3 with (first | (go_at_call 42; (with_reducible refine (wG b c (1 + p.rules.length) _ _ (by simp) (heap_alloc hc.out _) (by omega) hcc).mono ?_); rintro e w2 (⟨c7, rfl, h10, h12⟩ | ⟨c7, rfl, h10, h11, h12⟩); all_goals (first | replace hA := CntR.trans hA h12 | have hA := CntR.trans hR h12 | have hA := CntR.trans (CntR.alloc hR _) h12 | skip); all_goals (first | replace hL := CntR.trans hL h12 | have hL := h12); (try clear q1 q2 q3 q4); all_goals (clear h12; obtain ⟨q1, q2, q3, q4⟩ := CntR.facts hL; try simp only [World.size_alloc] at q1 q2 q3 q4)) | (go_at_call 43; (with_reducible refine (jY b _ _ _ hA.cnt hid (by omega)).mono ?_); rintro e w2 (⟨c7, rfl, h10, h12⟩ | ⟨c7, rfl, h10, h11, h12⟩); all_goals (first | replace hA := CntR.trans hA h12 | have hA := CntR.trans hR h12 | have hA := CntR.trans (CntR.alloc hR _) h12 | skip); all_goals (first | replace hL := CntR.trans hL h12 | have hL := h12); (try clear q1 q2 q3 q4); all_goals (clear h12; obtain ⟨q1, q2, q3, q4⟩ := CntR.facts hL; try simp only [World.size_alloc] at q1 q2 q3 q4)) | (go_at_call 65; (with_reducible refine (cnt_target b _ p.target _ _ w0 _ h3.out (by simp only [reachBytes]; omega) (Below.cnt (Below.alloc1 hB0 _) hA hb (Nat.le_refl _)) hb hA.cnt (by omega)).mono ?_); rintro e w2 (⟨c7, rfl, h10, h12⟩ | ⟨c7, rfl, h10, h11, h12⟩); all_goals (first | replace hA := CntR.trans hA h12 | have hA := CntR.trans hR h12 | have hA := CntR.trans (CntR.alloc hR _) h12 | skip); all_goals (first | replace hL := CntR.trans hL h12 | have hL := h12); (try clear q1 q2 q3 q4); all_goals (clear h12; obtain ⟨q1, q2, q3, q4⟩ := CntR.facts hL; try simp only [World.size_alloc] at q1 q2 q3 q4)) | (go_at_call 66; (with_reducible refine (cnt_obls b _ p.obls _ _ w0 _ h6.out (by simp only [reachBytes]; omega) (Below.cnt (Below.alloc1 hB0 _) hA hb (Nat.le_refl _)) hb hA.cnt (by omega)).mono ?_); rintro e w2 (⟨c7, rfl, h10, h12⟩ | ⟨c7, rfl, h10, h11, h12⟩); all_goals (first | replace hA := CntR.trans hA h12 | have hA := CntR.trans hR h12 | have hA := CntR.trans (CntR.alloc hR _) h12 | skip); all_goals (first | replace hL := CntR.trans hL h12 | have hL := h12); (try clear q1 q2 q3 q4); all_goals (clear h12; obtain ⟨q1, q2, q3, q4⟩ := CntR.facts hL; try simp only [World.size_alloc] at q1 q2 q3 q4)))
    all_goals first | (go_ret; exact Or.inl ⟨_, rfl, by omega, (CntR.alloc (CntR.refl hc.out) _).trans hA⟩) | skip
    rename Hid (1 + p.rules.length + _ = c) => g1
    rename Hid (txt p.id + _ = _) => g2
    rename Hid (tsz p.target + _ = _) => g3
    replace hR := hA
    clear hA
    obtain ⟨k0, hk0⟩ : ∃ k0, k0 = 1 + p.rules.length + txt p.id + tsz p.target + osz p.obls := ⟨_, rfl⟩
    have g := hide (show k0 + c7 = c by have := g1.out; have := g2.out; have := g3.out; have := h11.out; omega)
    have hcc7 : c7 ≤ c := by omega
    replace hk0 := hide hk0
    clear g1 g2 g3 h11 q1 q2 q3 q4 h10 hL
    obtain ⟨q1, q2, q3, q4⟩ := CntR.facts hR
    simp only [World.size_alloc] at q3
    go_wp2
    clear q1 q2 q3 q4
    go_loopw [6, 8, 42] (fun _ _ i wr => ∃ k c2 : Nat, k ≤ p.rules.length ∧ i = .int .i64 k ∧ c2 ≤ c ∧ CntR b c2 (w.alloc (.cells #[.string p.id, .bool p.set, .int .i64 p.alg, .slice A3 (List.length p.target) d3, .slice A4 p.rules.length d4, .slice A5 p.kids.length d5, .slice A6 p.obls.length d6] 28)) wr ∧ Hid (k0 + qT rusz (p.rules.take k) + c2 = c)) (fun _ _ i _ => p.rules.length - (intOf i).toNat)
    case atStart => exact ⟨0, c7, Nat.zero_le _, rfl, hcc7, hR, g.out⟩
    case round =>
      clear hR g hcc7
      obtain ⟨k, c2, hk, rfl, hc2, hR, g⟩ := hrel
      have hB1 : Below w0.heap.size w0 wr := Below.cnt (Below.alloc1 hB0 _) hR hb (Nat.le_refl _)
      by_cases hlt : k < p.rules.length
      · obtain ⟨b2, o2, v2, v3, v4, rfl, hbb, e0, e1, e2, e3, e4, n1, s2, s3, s4⟩ := h4.out.rul0 hB1 hlt
        obtain ⟨B2, j2, rfl, u2, t2, s2⟩ := s2
        obtain ⟨B3, j3, rfl, u3, t3, s3⟩ := s3
        obtain ⟨B4, j4, rfl, u4, t4, s4⟩ := s4
        replace s2 := hide s2
        replace s3 := hide s3
        replace s4 := hide s4
        have hs := hide (zG (f := rusz) hlt)
        have hbw := hB1.size
        have hbr := lt_of_block hR.cnt
        simp only [reachBytes] at t2 t3 t4
        go_upto_region 8 with (first | (go_at_call 42; (with_reducible refine (wG b _ p.rules[k].cond.length _ _ (by simp) hA.cnt (by omega) (by omega)).mono ?_); rintro e w2 (⟨c7, rfl, h10, h12⟩ | ⟨c7, rfl, h10, h11, h12⟩); all_goals (first | replace hA := CntR.trans hA h12 | have hA := CntR.trans hR h12 | have hA := CntR.trans (CntR.alloc hR _) h12 | skip); all_goals (first | replace hL := CntR.trans hL h12 | have hL := h12); (try clear q1 q2 q3 q4); all_goals (clear h12; obtain ⟨q1, q2, q3, q4⟩ := CntR.facts hL; try simp only [World.size_alloc] at q1 q2 q3 q4)) | (go_at_call 43; (with_reducible refine (jY b _ _ _ (heap_alloc hR.cnt _) n1 (by omega)).mono ?_); rintro e w2 (⟨c7, rfl, h10, h12⟩ | ⟨c7, rfl, h10, h11, h12⟩); all_goals (first | replace hA := CntR.trans hA h12 | have hA := CntR.trans hR h12 | have hA := CntR.trans (CntR.alloc hR _) h12 | skip); all_goals (first | replace hL := CntR.trans hL h12 | have hL := h12); (try clear q1 q2 q3 q4); all_goals (clear h12; obtain ⟨q1, q2, q3, q4⟩ := CntR.facts hL; try simp only [World.size_alloc] at q1 q2 q3 q4)) | (go_at_call 65; (with_reducible refine (cnt_target b _ p.rules[k].target _ _ w0 _ s2.out (by simp only [reachBytes]; omega) (Below.cnt (Below.alloc1 hB0 _) hA hb (Nat.le_refl _)) hb hA.cnt (by omega)).mono ?_); rintro e w2 (⟨c7, rfl, h10, h12⟩ | ⟨c7, rfl, h10, h11, h12⟩); all_goals (first | replace hA := CntR.trans hA h12 | have hA := CntR.trans hR h12 | have hA := CntR.trans (CntR.alloc hR _) h12 | skip); all_goals (first | replace hL := CntR.trans hL h12 | have hL := h12); (try clear q1 q2 q3 q4); all_goals (clear h12; obtain ⟨q1, q2, q3, q4⟩ := CntR.facts hL; try simp only [World.size_alloc] at q1 q2 q3 q4)) | (go_at_call 66; (with_reducible refine (cnt_obls b _ p.rules[k].obls _ _ w0 _ s4.out (by simp only [reachBytes]; omega) (Below.cnt (Below.alloc1 hB0 _) hA hb (Nat.le_refl _)) hb hA.cnt (by omega)).mono ?_); rintro e w2 (⟨c7, rfl, h10, h12⟩ | ⟨c7, rfl, h10, h11, h12⟩); all_goals (first | replace hA := CntR.trans hA h12 | have hA := CntR.trans hR h12 | have hA := CntR.trans (CntR.alloc hR _) h12 | skip); all_goals (first | replace hL := CntR.trans hL h12 | have hL := h12); (try clear q1 q2 q3 q4); all_goals (clear h12; obtain ⟨q1, q2, q3, q4⟩ := CntR.facts hL; try simp only [World.size_alloc] at q1 q2 q3 q4)))
        all_goals first | (go_ret; exact Or.inl ⟨_, rfl, by omega, (CntR.alloc (CntR.refl hc.out) _).trans hA⟩) | skip
        rename Hid (txt p.rules[k].id + _ = _) => g1
        rename Hid (tsz p.rules[k].target + _ = _) => g2
        rename Hid (p.rules[k].cond.length + _ = _) => g3
        obtain ⟨k1, hk1⟩ : ∃ k1, k1 = txt p.rules[k].id + tsz p.rules[k].target + p.rules[k].cond.length + osz p.rules[k].obls := ⟨_, rfl⟩
        have g' := hide (show k1 + c7 = c2 by have := g1.out; have := g2.out; have := g3.out; have := h11.out; omega)
        have hcc7 : c7 ≤ c := by omega
        have e1 := hide (show rusz p.rules[k] = k1 + qT nsz p.rules[k].cond by subst hk1; rfl)
        clear g1 g2 g3 h11 h10 hk1
        go_wp2
        clear q1 q2 q3 q4
        replace hR := hA
        clear hA
        go_loopw [8, 76] (fun _ i wr' => ∃ k' c4 : Nat, k' ≤ p.rules[k].cond.length ∧ i = .int .i64 k' ∧ c4 ≤ c ∧ CntR b c4 (w.alloc (.cells #[.string p.id, .bool p.set, .int .i64 p.alg, .slice A3 (List.length p.target) d3, .slice (some ⟨b2, o2, none⟩) p.rules.length d4, .slice A5 p.kids.length d5, .slice A6 p.obls.length d6] 28)) wr' ∧ Hid (k1 + qT nsz (p.rules[k].cond.take k') + c4 = c2)) (fun _ i _ => p.rules[k].cond.length - (intOf i).toNat)
        case atStart => exact ⟨0, c7, Nat.zero_le _, rfl, hcc7, hR, g'.out⟩
        case round =>
          clear hR g' hcc7 hL hbb hB1
          obtain ⟨k', c4, hk', rfl, hc4, hR, g'⟩ := hrel
          have hB1 : Below w0.heap.size w0 wr := Below.cnt (Below.alloc1 hB0 _) hR hb (Nat.le_refl _)
          by_cases hlt' : k' < p.rules[k].cond.length
          · obtain ⟨b4, o4, rfl, hbb, e0, ⟨e3, e4, e5⟩, ⟨e6, e7, e8⟩, hf⟩ := (s3.out.keep keeps_nod hB1).nod hlt'
            have hs' := hide (zG (f := nsz) hlt')
            have n1 := hf.attr.name
            have n2 := hf.val.s
            have hbw := hB1.size
            have hbr := lt_of_block hR.cnt
            go_wp2_with (go_at_call 43; (first | (with_reducible refine (jY b c4 _ _ (heap_alloc hR.cnt _) n1 (by omega)).mono ?_) | (with_reducible refine (jY b _ _ _ hA.cnt n2 (by omega)).mono ?_)); rintro e w2 (⟨c7, rfl, h10, h12⟩ | ⟨c7, rfl, h10, h11, h12⟩); all_goals (first | replace hA := CntR.trans hA h12 | have hA := CntR.trans hR h12 | have hA := CntR.trans (CntR.alloc hR _) h12 | skip); all_goals (first | replace hL := CntR.trans hL h12 | have hL := h12); (try clear q1 q2 q3 q4); all_goals (clear h12; obtain ⟨q1, q2, q3, q4⟩ := CntR.facts hL; try simp only [World.size_alloc] at q1 q2 q3 q4))
            · go_ret
              exact Or.inl ⟨_, rfl, by omega, (CntR.alloc (CntR.refl hc.out) _).trans hA⟩
            · go_ret
              exact Or.inl ⟨_, rfl, by omega, (CntR.alloc (CntR.refl hc.out) _).trans hA⟩
            · rename Hid (txt p.rules[k].cond[k'].attr.name + _ = c4) => g1
              go_roundw
              case rel => exact ⟨k' + 1, c7, by omega, by go_num, by omega, hA, hide (by have := g'.out; have := hs'.out; have := h11.out; have := g1.out; have e : nsz p.rules[k].cond[k'] = txt p.rules[k].cond[k'].attr.name + txt p.rules[k].cond[k'].val.s := rfl; omega)⟩
              case measure => simp [intOf]; omega
          · obtain rfl : k' = p.rules[k].cond.length := by omega
            rw [List.take_length] at g'
            go_wp2
            go_roundw
            case rel => exact ⟨k + 1, c4, by omega, by go_num, hc4, hR, hide (by have := g.out; have := g'.out; have := hs.out; have := e1.out; omega)⟩
            case measure => simp [intOf]; omega
      · obtain rfl : k = p.rules.length := by omega
        rw [List.take_length] at g
        obtain ⟨q1, q2, q3, q4⟩ := CntR.facts hR
        simp only [World.size_alloc] at q3
        go_wp2
        clear q1 q2 q3 q4
        go_loopw [10, 99] (fun _ i wr' => ∃ k' c4 : Nat, k' ≤ p.kids.length ∧ i = .int .i64 k' ∧ c4 ≤ c ∧ CntR b c4 (w.alloc (.cells #[.string p.id, .bool p.set, .int .i64 p.alg, .slice A3 (List.length p.target) d3, .slice A4 p.rules.length d4, .slice A5 p.kids.length d5, .slice A6 p.obls.length d6] 28)) wr' ∧ Hid (k0 + qT rusz p.rules + qT Pol.sz (p.kids.take k') + c4 = c)) (fun _ i _ => p.kids.length - (intOf i).toNat)
        case atStart => exact ⟨0, c2, Nat.zero_le _, rfl, hc2, hR, g.out⟩
        case round =>
          clear hR g hB1 hc2
          obtain ⟨k', c4, hk', rfl, hc4, hR, g⟩ := hrel
          have hB1 : Below w0.heap.size w0 wr := Below.cnt (Below.alloc1 hB0 _) hR hb (Nat.le_refl _)
          by_cases hlt' : k' < p.kids.length
          · obtain ⟨b2, o2, v3, v4, v5, v6, rfl, hbb, e0, e1, e2, e3, e4, e5, e6, hr⟩ := h5.out.pol0 hB1 hlt'
            have hs' := hide (zG (f := Pol.sz) hlt')
            obtain ⟨B3, j3, B4, j4, B5, j5, B6, j6, rfl, rfl, rfl, rfl⟩ := rPolN_form hr
            replace hr := hide hr
            have hbw := hB1.size
            have hbr := lt_of_block hR.cnt
            go_wp2_with (go_at_call 41; refine (ih.out b c4 p.kids[k'] w0 _ _ _ _ _ hr.out (Below.alloc1 hB1 _) hb (heap_alloc hR.cnt _) (by omega)).mono ?_; rintro e w2 (⟨c7, rfl, h10, h12⟩ | ⟨c7, rfl, h10, h11, h12⟩); all_goals (first | replace hA := CntR.trans hA h12 | have hA := CntR.trans hR h12 | have hA := CntR.trans (CntR.alloc hR _) h12 | skip); all_goals (first | replace hL := CntR.trans hL h12 | have hL := h12); (try clear q1 q2 q3 q4); all_goals (clear h12; obtain ⟨q1, q2, q3, q4⟩ := CntR.facts hL; try simp only [World.size_alloc] at q1 q2 q3 q4))
            · go_ret
              exact Or.inl ⟨_, rfl, by omega, (CntR.alloc (CntR.refl hc.out) _).trans hA⟩
            · go_roundw
              case rel => exact ⟨k' + 1, c7, by omega, by go_num, by omega, hA, hide (by have := g.out; have := hs'.out; have := h11.out; omega)⟩
              case measure => simp [intOf]; omega
          · obtain rfl : k' = p.kids.length := by omega
            rw [List.take_length] at g
            go_wp2
            go_ret
            exact Or.inr ⟨c4, rfl, hc4, hide (by have := g.out; have := e.out; have := hk0.out; omega), (CntR.alloc (CntR.refl hc.out) _).trans hR⟩
theorem cnt_policy (n : Nat) : CntPolicy n := by
  induction n with
  | zero => intro b c p w0 w c3 c4 c5 c6 h; exact h.elim
  | succ n ih => exact cnt_policy_step n ih
def upTo (k m : Nat) (w : World) (e : Ending) (w' : World) : Prop := (e = .returned (.bool false) ∧ Below w.heap.size w w') ∨ (e = .returned (.bool true) ∧ Hid (k ≤ m) ∧ Below w.heap.size w w')
theorem heap_new (w : World) (o : Obj) : (w.alloc o).heap[w.heap.size]? = some o := by
  show (w.heap.push o)[w.heap.size]? = _
  simp
theorem heap_at (w : World) (o : Obj) (b : Nat) (hb : b = w.heap.size) : (w.alloc o).heap[b]? = some o := by subst hb; exact heap_new w o
theorem small_any (n : Nat) (p : Pol) (w : World) (c3 c4 c5 c6 : Value) (hp : rPolN n w [.string p.id, .bool p.set, .int .i64 p.alg, c3, c4, c5, c6] p) :
    Calls Tryz.prog 15 #[.agg #[.string p.id, .bool p.set, .int .i64 p.alg, c3, c4, c5, c6]] w (upTo p.sz 3000 w) := by
  obtain ⟨A3, d3, A4, d4, A5, d5, A6, d6, rfl, rfl, rfl, rfl⟩ := rPolN_form hp
  replace hp := hide hp
  go_enter Tryz.func15, Tryz.ntmps15
  go_wp2_with (go_at_call 41; refine (cnt_policy n (w.heap.size + 1) 3000 p w _ _ _ _ _ hp.out (by repeat (first | exact Below.refl _ _ | assumption | refine Below.alloc1 ?_ _ | refine Below.drew ?_ | refine qt ?_ | refine Below.setCell ?_ (by first | exact Nat.le_refl _ | (simp; done) | omega | (simp; omega)) _ | refine Below.lift ?_ (by assumption))) (by omega) ?_ (Nat.le_refl _)).mono ?_; exact heap_at _ _ _ (by simp); rintro e w2 (⟨c7, rfl, h10, h12⟩ | ⟨c7, rfl, h10, h11, h12⟩))
  · go_ret
    exact Or.inl ⟨rfl, ((Below.refl _ _).alloc (Nat.le_refl _) _).alloc (by simp) _ |>.trans (h12.below (by omega) (by simp; omega))⟩
  · go_ret
    exact Or.inr ⟨rfl, hide (by have := h11.out; omega), ((Below.refl _ _).alloc (Nat.le_refl _) _).alloc (by simp) _ |>.trans (h12.below (by omega) (by simp; omega))⟩
def gsz (g : Giv) : Nat := txt g.name + g.bag.length + qT (fun v : Val => txt v.s) g.bag
def fsz (l : List Giv) : Nat := 2 * l.length + qT gsz l
theorem SlAt.giv0 {w0 w : World} {A : Option Addr} {l : List Giv} (h : SlAt rGiv 3 w0 A l) (hB : Below w0.heap.size w0 w) {k : Nat} (hk : k < l.length) :
    ∃ b o B c, A = some ⟨b, o, none⟩ ∧ b < w0.heap.size ∧ w.cell? ⟨b, o + k * 3, none⟩ = some (.int .i64 l[k].cat) ∧ w.cell? ⟨b, o + k * 3 + 1, none⟩ = some (.string l[k].name) ∧
      w.cell? ⟨b, o + k * 3 + 2, none⟩ = some (.slice B l[k].bag.length c) ∧ R64 l[k].cat ∧ l[k].name.size ≤ reachBytes ∧ l[k].bag.length ≤ c ∧ (l[k].bag.length ≤ reachBytes ∧ c ≤ maxLen) ∧ SlAt rVal 3 w0 B l[k].bag := by
  obtain ⟨b, o, B, c, hA, hb, h0, h1, h2, h3⟩ := h.giv hk
  have cell : ∀ j, w.cell? ⟨b, j, none⟩ = w0.cell? ⟨b, j, none⟩ := fun j => hB.cell (p := ⟨b, j, none⟩) hb
  exact ⟨b, o, B, c, hA, hb, (cell _).trans h0, (cell _).trans h1, (cell _).trans h2, h3⟩
set_option maxRecDepth 100000 in
set_option maxHeartbeats 4000000 in
theorem few_any (l : List Giv) (A : Option Addr) (c : Nat) (w0 : World) (hl : l.length ≤ reachBytes) (h : SlAt rGiv 3 w0 A l) :
    Calls Tryz.prog 16 #[.slice A l.length c] w0 (upTo (fsz l) 1200 w0) := by
  unfold reachBytes at hl
  replace h := hide h
  have hb : w0.heap.size ≤ w0.heap.size := Nat.le_refl _
  have hB0 : Below w0.heap.size w0 w0 := Below.refl _ _
  have hc := hide (heap_new w0 (cntObj 1200))
  go_enter Tryz.func16, Tryz.ntmps16
  go_upto_region 4 with (go_at_call 42; refine (wG w0.heap.size 1200 (2 * l.length) _ _ (by simp) hc.out (by omega) (by omega)).mono ?_; rintro e w1 (⟨c1, rfl, h1, h3⟩ | ⟨c1, rfl, h1, h2, h3⟩))
  · go_ret
    exact Or.inl ⟨rfl, ((Below.refl _ _).alloc (Nat.le_refl _) _).trans (h3.below (by omega) (by simp))⟩
  · go_wp2
    go_loopw [5, 7, 18] (fun _ _ i wr => ∃ k c2 : Nat, k ≤ l.length ∧ i = .int .i64 k ∧ c2 ≤ 1200 ∧ CntR w0.heap.size c2 (w0.alloc (cntObj 1200)) wr ∧ Hid (2 * l.length + qT gsz (l.take k) + c2 = 1200)) (fun _ _ i _ => l.length - (intOf i).toNat)
    case atStart => exact ⟨0, c1, Nat.zero_le _, rfl, h1, h3, h2.out⟩
    case round =>
      clear h1 h2 h3
      obtain ⟨k, c2, hk, rfl, hc2, hR, g⟩ := hrel
      have hB1 : Below w0.heap.size w0 wr := Below.cnt (Below.alloc1 hB0 _) hR hb (Nat.le_refl _)
      by_cases hlt : k < l.length
      · obtain ⟨b2, o2, B2, j2, rfl, hbb, e0, e1, e2, hcat, n1, t1, t2, hbag⟩ := h.out.giv0 hB1 hlt
        have hs := hide (zG (f := gsz) hlt)
        replace hbag := hide hbag
        have hbw := hB1.size
        have hbr := lt_of_block hR.cnt
        simp only [reachBytes] at t2
        go_upto_region 9 with (first | (go_at_call 42; (with_reducible refine (wG _ _ l[k].bag.length _ _ (by simp) hA.cnt (by omega) (by omega)).mono ?_); rintro e w2 (⟨c7, rfl, h10, h12⟩ | ⟨c7, rfl, h10, h11, h12⟩); all_goals (first | replace hA := CntR.trans hA h12 | have hA := CntR.trans hR h12 | have hA := CntR.trans (CntR.alloc hR _) h12 | skip); all_goals (first | replace hL := CntR.trans hL h12 | have hL := h12); (try clear q1 q2 q3 q4); all_goals (clear h12; obtain ⟨q1, q2, q3, q4⟩ := CntR.facts hL; try simp only [World.size_alloc] at q1 q2 q3 q4)) | (go_at_call 43; (with_reducible refine (jY _ c2 _ _ (heap_alloc hR.cnt _) n1 (by omega)).mono ?_); rintro e w2 (⟨c7, rfl, h10, h12⟩ | ⟨c7, rfl, h10, h11, h12⟩); all_goals (first | replace hA := CntR.trans hA h12 | have hA := CntR.trans hR h12 | have hA := CntR.trans (CntR.alloc hR _) h12 | skip); all_goals (first | replace hL := CntR.trans hL h12 | have hL := h12); (try clear q1 q2 q3 q4); all_goals (clear h12; obtain ⟨q1, q2, q3, q4⟩ := CntR.facts hL; try simp only [World.size_alloc] at q1 q2 q3 q4)))
        · go_ret
          exact Or.inl ⟨rfl, ((Below.refl _ _).alloc (Nat.le_refl _) _).trans (hA.below (by omega) (by simp))⟩
        · go_ret
          exact Or.inl ⟨rfl, ((Below.refl _ _).alloc (Nat.le_refl _) _).trans (hA.below (by omega) (by simp))⟩
        · rename Hid (txt l[k].name + _ = _) => g1
          obtain ⟨k1, hk1⟩ : ∃ k1, k1 = txt l[k].name + l[k].bag.length := ⟨_, rfl⟩
          have g' := hide (show k1 + c7 = c2 by have := g1.out; have := h11.out; omega)
          have hcc7 : c7 ≤ 1200 := by omega
          have e1 := hide (show gsz l[k] = k1 + qT (fun v : Val => txt v.s) l[k].bag by subst hk1; rfl)
          clear g1 h11 h10 hk1
          go_wp2
          clear q1 q2 q3 q4
          replace hR := hA
          clear hA
          go_loopw [7, 38] (fun _ i wr' => ∃ k' c4 : Nat, k' ≤ l[k].bag.length ∧ i = .int .i64 k' ∧ c4 ≤ 1200 ∧ CntR w0.heap.size c4 (w0.alloc (cntObj 1200)) wr' ∧ Hid (k1 + qT (fun v : Val => txt v.s) (l[k].bag.take k') + c4 = c2)) (fun _ i _ => l[k].bag.length - (intOf i).toNat)
          case atStart => exact ⟨0, c7, Nat.zero_le _, rfl, hcc7, hR, g'.out⟩
          case round =>
            clear hR g' hcc7 hL hbb hB1
            obtain ⟨k', c4, hk', rfl, hc4, hR, g'⟩ := hrel
            have hB1 : Below w0.heap.size w0 wr := Below.cnt (Below.alloc1 hB0 _) hR hb (Nat.le_refl _)
            by_cases hlt' : k' < l[k].bag.length
            · obtain ⟨b4, o4, rfl, hbb, e3, e4, e5, hf⟩ := (hbag.out.keep qS hB1).val hlt'
              have hs' := hide (zG (f := fun v : Val => txt v.s) hlt')
              have n2 := hf.s
              have hbw := hB1.size
              have hbr := lt_of_block hR.cnt
              go_wp2_with (go_at_call 43; (with_reducible refine (jY _ c4 _ _ (heap_alloc hR.cnt _) n2 (by omega)).mono ?_); rintro e w2 (⟨c7, rfl, h10, h12⟩ | ⟨c7, rfl, h10, h11, h12⟩); all_goals (first | replace hA := CntR.trans hA h12 | have hA := CntR.trans hR h12 | have hA := CntR.trans (CntR.alloc hR _) h12 | skip); all_goals (first | replace hL := CntR.trans hL h12 | have hL := h12); (try clear q1 q2 q3 q4); all_goals (clear h12; obtain ⟨q1, q2, q3, q4⟩ := CntR.facts hL; try simp only [World.size_alloc] at q1 q2 q3 q4))
              · go_ret
                exact Or.inl ⟨rfl, ((Below.refl _ _).alloc (Nat.le_refl _) _).trans (hA.below (by omega) (by simp))⟩
              · go_roundw
                case rel => exact ⟨k' + 1, c7, by omega, by go_num, by omega, hA, hide (by have := g'.out; have := hs'.out; have := h11.out; omega)⟩
                case measure => simp [intOf]; omega
            · obtain rfl : k' = l[k].bag.length := by omega
              rw [List.take_length] at g'
              go_wp2
              go_roundw
              case rel => exact ⟨k + 1, c4, by omega, by go_num, hc4, hR, hide (by have := g.out; have := g'.out; have := hs.out; have := e1.out; omega)⟩
              case measure => simp [intOf]; omega
      · obtain rfl : k = l.length := by omega
        rw [List.take_length] at g
        go_wp2
        go_ret
        exact Or.inr ⟨rfl, hide (by have := g.out; unfold fsz; omega), ((Below.refl _ _).alloc (Nat.le_refl _) _).trans (hR.below (by omega) (by simp))⟩
end Go.Proofs.YtppfcacnofjmdaaGreatDoor
namespace Go.Proofs.YtppfcacnofjmdaaGreatDoor
set_option linter.unusedVariables false
set_option linter.unusedSimpArgs false
open Go.RowKit
theorem val_back {ok : Nat → Prop} {w : World} {cs : List Value} {x : Val} (h : rPV ok w cs x.pv) : cs = x.cells := rPV_plain (xs := x.cells) h
theorem val_pv {w : World} {cs : List Value} {x : Val} (h : rVal w cs x) : rPV (fun _ => True) w cs x.pv := by
  obtain ⟨rfl, _⟩ := h
  exact plain_rPV (xs := x.cells) (fun v hv => by simp [Val.cells] at hv; rcases hv with rfl | rfl | rfl <;> rfl)
theorem vals_typed {ok : Nat → Prop} {w : World} {u : Value} {l : List Val} (h : RelP ok w (valsP l) u) (hf : ∀ x ∈ l, x.Fit) : ∃ A c, u = .slice A l.length c ∧ l.length ≤ c ∧ (l.length ≤ reachBytes ∧ c ≤ maxLen) ∧ SlAt rVal 3 w A l :=
  sl_typed h fun x hx cs hcs => ⟨val_back hcs, hf x hx⟩
theorem SlAt.fit {α : Type} {R : Rp α} {size : Nat} {w : World} {A : Option Addr} {l : List α} {F : α → Prop} (h : SlAt R size w A l) (hR : ∀ cs x, R w cs x → F x) : ∀ x ∈ l, F x := fun x hx => by
  obtain ⟨i, hi, rfl⟩ := List.mem_iff_getElem.1 hx
  obtain ⟨b, o, _, _, hc⟩ := h (by omega)
  obtain ⟨cs, _, _, h3⟩ := hc i hi
  exact hR cs _ h3
end Go.Proofs.YtppfcacnofjmdaaGreatDoor
namespace Go.Proofs.YtppfcacnofjmdaaGreatDoor
set_option linter.unusedVariables false
set_option linter.unusedSimpArgs false
open Go.RowKit
theorem mat_back {ok : Nat → Prop} {w : World} {cs : List Value} {x : Mat} (h : rPV ok w cs x.pv) : cs = x.cells := rPV_plain (xs := x.cells) h
theorem mat_pv {w : World} {cs : List Value} {x : Mat} (h : rMat w cs x) : rPV (fun _ => True) w cs x.pv := by
  obtain ⟨rfl, _⟩ := h
  exact plain_rPV (xs := x.cells) (fun v hv => by simp [Mat.cells, Atr.cells, Val.cells] at hv; rcases hv with rfl | rfl | rfl | rfl | rfl | rfl | rfl <;> rfl)
theorem mats_typed {ok : Nat → Prop} {w : World} {u : Value} {l : List Mat} (h : RelP ok w (matsP l) u) (hf : ∀ x ∈ l, x.Fit) : ∃ A c, u = .slice A l.length c ∧ l.length ≤ c ∧ (l.length ≤ reachBytes ∧ c ≤ maxLen) ∧ SlAt rMat 7 w A l :=
  sl_typed h fun x hx cs hcs => ⟨mat_back hcs, hf x hx⟩
structure Giv.Fit (x : Giv) : Prop where
  cat : R64 x.cat
  name : x.name.size ≤ reachBytes
  bag : ∀ v ∈ x.bag, v.Fit
theorem giv_back {ok : Nat → Prop} {w : World} {cs : List Value} {x : Giv} (h : rPV ok w cs x.pv) (hf : x.Fit) : rGiv w cs x := by
  have h0 := h.1
  match cs, h0 with
  | [a, b, c], _ =>
    have h1 := h.2 0 _ a rfl rfl
    have h2 := h.2 1 _ b rfl rfl
    have h3 := h.2 2 _ c rfl rfl
    cases h1; cases h2
    obtain ⟨A, d, rfl, g1, g2, g3⟩ := vals_typed h3 hf.bag
    exact ⟨A, d, rfl, hf.cat, hf.name, g1, g2, g3⟩
theorem giv_pv {w : World} {cs : List Value} {x : Giv} (h : rGiv w cs x) : rPV (fun _ => True) w cs x.pv := by
  obtain ⟨A, c, rfl, h1, h2, h3, h4, h5⟩ := h
  refine ⟨rfl, fun j s u hs hu => ?_⟩
  match j with
  | 0 => cases hs; cases hu; exact .v rfl
  | 1 => cases hs; cases hu; exact .v rfl
  | 2 => cases hs; cases hu; exact rel_sl h5 h3 h4 (fun _ => ⟨rfl, rfl⟩) fun x _ cs hcs => val_pv hcs
  | j + 3 => simp [Giv.pv] at hs
theorem givs_typed {ok : Nat → Prop} {w : World} {u : Value} {l : List Giv} (h : RelP ok w (zP l) u) (hf : ∀ x ∈ l, x.Fit) : ∃ A c, u = .slice A l.length c ∧ l.length ≤ c ∧ (l.length ≤ reachBytes ∧ c ≤ maxLen) ∧ SlAt rGiv 3 w A l :=
  sl_typed h fun x hx cs hcs => giv_back hcs (hf x hx)
theorem givs_rel {w : World} {A : Option Addr} {c : Nat} {l : List Giv} (h : SlAt rGiv 3 w A l) (hl : l.length ≤ c) (hc : l.length ≤ reachBytes ∧ c ≤ maxLen) : RelP (fun _ => True) w (zP l) (.slice A l.length c) :=
  rel_sl h hl hc (fun _ => ⟨rfl, rfl⟩) fun x _ cs hcs => giv_pv hcs
theorem any_back {ok : Nat → Prop} {w : World} {cs : List Value} {x : List Mat} (h : rPV ok w cs [matsP x]) (hf : ∀ m ∈ x, m.Fit) : rSl rMat 7 w cs x := by
  have h0 := h.1
  match cs, h0 with
  | [a], _ =>
    obtain ⟨A, d, rfl, g1, g2, g3⟩ := mats_typed (h.2 0 _ a rfl rfl) hf
    exact ⟨A, d, rfl, g1, g2, g3⟩
theorem anys_back {ok : Nat → Prop} {w : World} {cs : List Value} {x : List (List Mat)} (h : rPV ok w cs [anyP x]) (hf : ∀ l ∈ x, ∀ m ∈ l, m.Fit) : rTar' w cs x := by
  have h0 := h.1
  match cs, h0 with
  | [a], _ =>
    obtain ⟨A, d, rfl, g1, g2, g3⟩ := sl_typed (R := rSl rMat 7) (h.2 0 _ a rfl rfl) fun y hy cs hcs => any_back hcs (hf y hy)
    exact ⟨A, d, rfl, g1, g2, g3⟩
theorem tgt_typed {ok : Nat → Prop} {w : World} {u : Value} {t : Tar} (h : RelP ok w (tgtP t) u) (hf : ∀ x ∈ t, ∀ l ∈ x, ∀ m ∈ l, m.Fit) : ∃ A c, u = .slice A t.length c ∧ t.length ≤ c ∧ (t.length ≤ reachBytes ∧ c ≤ maxLen) ∧ SlAt rTar' 1 w A t :=
  sl_typed h fun x hx cs hcs => anys_back hcs (hf x hx)
theorem giv_fit {w : World} {cs : List Value} {x : Giv} (h : rGiv w cs x) : x.Fit := by
  obtain ⟨A, c, rfl, h1, h2, h3, h4, h5⟩ := h
  exact ⟨h1, h2, h5.fit fun _ _ h => h.2⟩
end Go.Proofs.YtppfcacnofjmdaaGreatDoor
namespace Go.Proofs.YtppfcacnofjmdaaGreatDoor
open Go.RowKit
set_option linter.unusedSimpArgs false
set_option linter.unusedVariables false
attribute [local go_sem] ext_cell wi
attribute [local go_sem low] we jp
theorem eql_val (a b : Int) (s : ByteArray) (a' b' : Int) (s' : ByteArray) (w : World) :
    (binOp .eql 52 (.agg #[.int .i64 a, .int .i64 b, .string s]) (.agg #[.int .i64 a', .int .i64 b', .string s'])).run Tryz.prog w = .ok (.bool (jh ⟨a, b, s⟩ ⟨a', b', s'⟩)) w := by
  unfold jh
  by_cases h1 : a = a'
  · by_cases h2 : b = b'
    · by_cases h3 : s = s'
      · subst h1; subst h2; subst h3
        go_simp
      · have : s.toList ≠ s'.toList := fun h => h3 (toList_inj h)
        subst h1; subst h2
        go_simp
    · subst h1
      go_simp
  · go_simp
set_option maxHeartbeats 2000000 in
theorem name_any (s : ByteArray) (w : World) (hs : s.size ≤ reachBytes) :
    Calls Tryz.prog 105 #[.string s] w fun e w' => e = .returned (.bool (wO s)) ∧ w = w' := by
  unfold reachBytes at hs
  go_enter Tryz.func105, Tryz.ntmps105
  go_wp2
  go_loop [3, 4, 5, 6, 9] (fun _ _ _ _ i => ∃ k : Nat, k ≤ s.size ∧ i = .int .i64 k ∧ Hid (∀ i (h : i < s.size), i < k → okC (i == 0) s[i].toNat = true)) (fun _ _ _ _ i => s.size - (intOf i).toNat)
  case atStart => exact ⟨0, Nat.zero_le _, rfl, fun i _ h => absurd h (by omega)⟩
  case round =>
    obtain ⟨k, hk, rfl, hok⟩ := hrel
    by_cases hlt : k < s.size
    · skip
      go_upto_region 5 with (fail)
      refine wp_spec (by kernel_rfl) ?_
      repeat (refine qH ?_; intro K hK; go_big_quiet_op; go_big_quiet_on)
      refine zx ?_
      intro us
      simp only [junk, Act.put, List.setIfInBounds_toArray, List.set_cons_zero, List.set_cons_succ]
      go_upto_region 6 with (fail)
      refine wp_spec (by kernel_rfl) ?_
      repeat (refine qH ?_; intro K hK; go_big_quiet_op; go_big_quiet_on)
      refine zx ?_
      intro us
      simp only [junk, Act.put, List.setIfInBounds_toArray, List.set_cons_zero, List.set_cons_succ]
      go_upto_region 7 with (fail)
      refine wp_spec (by kernel_rfl) ?_
      repeat (refine qH ?_; intro K hK; go_big_quiet_op; go_big_quiet_on)
      refine zx ?_
      intro us
      simp only [junk, Act.put, List.setIfInBounds_toArray, List.set_cons_zero, List.set_cons_succ]
      go_wp2
      · go_ret
        refine ⟨wc (nameS_no hlt ?_).symm, rfl⟩
        go_light
        simp [okC] at *
        omega
      · go_round
        case rel =>
          refine ⟨k + 1, by omega, by go_num, name_step hlt hok.out ?_⟩
          go_light
          simp [okC] at *
          omega
        case measure => simp [intOf]; omega
    · obtain rfl : k = s.size := by omega
      have e1 := hide (nameS_end hok.out)
      go_upto_region 10 with (fail)
      refine wp_spec (by kernel_rfl) ?_
      repeat (refine qH ?_; intro K hK; go_big_quiet_op; go_big_quiet_on)
      refine zx ?_
      intro us
      simp only [junk, Act.put, List.setIfInBounds_toArray, List.set_cons_zero, List.set_cons_succ]
      go_wp2
      go_ret
      refine ⟨wc ?_, rfl⟩
      rw [e1.out, jg, Bool.eq_iff_iff]
      simp only [Bool.and_eq_true, decide_eq_true_eq, Bool.not_eq_true', decide_eq_false_iff_not]
      omega
theorem right_any (k n : Int) (s : ByteArray) (w : World) (hs : s.size ≤ reachBytes) :
    Calls Tryz.prog 103 #[.agg #[.int .i64 k, .int .i64 n, .string s]] w fun e w' => e = .returned (.bool (Val.right ⟨k, n, s⟩)) ∧ Below w.heap.size w w' := by
  unfold reachBytes at hs
  have hs' : s.size ≤ reachBytes := hs
  go_enter Tryz.func103, Tryz.ntmps103
  go_wp2_with (go_at_call 105; refine (name_any _ _ hs').mono ?_; rintro e w1 ⟨rfl, rfl⟩)
  all_goals
    go_ret
    refine ⟨wc ?_, (Below.refl _ _).alloc (Nat.le_refl _) _⟩
    go_light
    simp only [beq_iff_eq, beq_eq_false_iff_ne, ne_eq] at *
    simp [Val.right, jg, *]
    try omega
theorem texts_any (k : Int) (w : World) :
    Calls Tryz.prog 104 #[.int .i64 k] w fun e w' => e = .returned (.bool (textsS k)) ∧ w = w' := by
  go_enter Tryz.func104, Tryz.ntmps104
  go_upto_region 1 with (fail)
  refine wp_spec (by kernel_rfl) ?_
  repeat (refine qH ?_; intro K hK; go_big_quiet_op; go_big_quiet_on)
  refine zx ?_
  intro us
  simp only [junk, Act.put, List.setIfInBounds_toArray, List.set_cons_zero, List.set_cons_succ]
  go_wp2
  go_ret
  exact ⟨wc (by rw [Bool.eq_iff_iff]; simp [textsS]), rfl⟩
theorem less_any (k n : Int) (s : ByteArray) (k' n' : Int) (s' : ByteArray) (w : World) (hs : s.size ≤ reachBytes) (hs' : s'.size ≤ reachBytes) :
    Calls Tryz.prog 83 #[.agg #[.int .i64 k, .int .i64 n, .string s], .agg #[.int .i64 k', .int .i64 n', .string s']] w
      fun e w' => e = .returned (.tuple #[.bool (wN ⟨k, n, s⟩ ⟨k', n', s'⟩).1, .int .i64 (wN ⟨k, n, s⟩ ⟨k', n', s'⟩).2]) ∧ Below w.heap.size w w' := by
  go_enter Tryz.func83, Tryz.ntmps83
  go_upto_region 1 with (fail)
  refine wp_spec_ext (by kernel_rfl) ?_
  repeat (refine qH ?_; intro K hK; go_big_quiet_op; go_big_quiet_on)
  refine qH ?_; intro K hK; go_big_quiet_op
  refine ⟨_, fun _ => wQ (right_any _ _ _ _ hs), ?_⟩
  go_big_quiet_on
  repeat (refine qH ?_; intro K hK; go_big_quiet_op; go_big_quiet_on)
  refine qH ?_; intro K hK; go_big_quiet_op
  refine ⟨_, fun _ => wQ (right_any _ _ _ _ hs'), ?_⟩
  go_big_quiet_on
  repeat (refine qH ?_; intro K hK; go_big_quiet_op; go_big_quiet_on)
  refine zx ?_
  intro us w1 hB1
  simp only [junk, Act.put, List.setIfInBounds_toArray, List.set_cons_zero, List.set_cons_succ]
  obtain ⟨hc1, hf1⟩ := jF hB1; have hz1 := hB1.size; try simp only [World.size_alloc, World.size_drew] at hc1 hf1 hz1
  go_upto_region 3 with (fail)
  · go_ret2
    refine ⟨ret_bi ?_, (by repeat (first | exact Below.refl _ _ | assumption | refine Below.alloc1 ?_ _ | refine Below.drew ?_ | refine qt ?_ | refine Below.setCell ?_ (by first | exact Nat.le_refl _ | (simp; done) | omega | (simp; omega)) _ | refine Below.lift ?_ (by assumption)))⟩
    go_light
    simp_all [wN]
  · have h : (!{ kind := k, n := n, s := s : Val }.right) = false ∧ (!{ kind := k', n := n', s := s' : Val }.right) = false := by assumption
    have H := hide h
    clear h
    refine wp_spec (by kernel_rfl) ?_
    repeat (refine qH ?_; intro K hK; go_big_quiet_op; go_big_quiet_on)
    refine zx ?_
    intro us
    simp only [junk, Act.put, List.setIfInBounds_toArray, List.set_cons_zero, List.set_cons_succ]
    go_wp2_with (go_at_call 104; refine (texts_any _ _).mono ?_; rintro e w2 ⟨rfl, rfl⟩)
    all_goals
      go_ret2
      refine ⟨ret_bi ?_, (by repeat (first | exact Below.refl _ _ | assumption | refine Below.alloc1 ?_ _ | refine Below.drew ?_ | refine qt ?_ | refine Below.setCell ?_ (by first | exact Nat.le_refl _ | (simp; done) | omega | (simp; omega)) _ | refine Below.lift ?_ (by assumption)))⟩
      have h := H.out
      go_light
      simp_all [wN, lessB]
      try (intro h1; simp_all)
end Go.Proofs.YtppfcacnofjmdaaGreatDoor
namespace Go.Proofs.YtppfcacnofjmdaaGreatDoor
set_option linter.unusedVariables false
set_option linter.unusedSimpArgs false
def attrS (a : Atr) : Bool := decide (1 ≤ a.cat) && decide (a.cat ≤ 4) && wO a.name
def zu (op : Int) : Option (List Bool) :=
  if op = 1 ∨ op = 2 then some []
  else if op = 3 ∨ op = 4 then some [true]
  else if op = 5 then some [true, false]
  else if op = 11 then some [false]
  else if 6 ≤ op ∧ op ≤ 13 then some [false, false]
  else none
def isNoVal (v : Val) : Bool := decide (v.kind = 0) && decide (v.n = 0) && decide (v.s.size = 0)
def isNoAtr (a : Atr) : Bool := decide (a.cat = 0) && decide (a.name.size = 0) && !a.must
def ji (n : Nod) : Bool :=
  if n.op = 1 then n.val.right && isNoAtr n.attr
  else if n.op = 2 then attrS n.attr && isNoVal n.val
  else isNoVal n.val && isNoAtr n.attr
def zy (l : List Bool) (n : Nod) : Option (List Bool) := match zu n.op with
  | none => none
  | some w => if ji n = true ∧ w.length ≤ l.length ∧ l.drop (l.length - w.length) = w then some (l.take (l.length - w.length) ++ [decide (n.op = 2)]) else none
def qW : List Bool → List Nod → Option (List Bool)
  | l, [] => some l
  | l, n :: r => match zy l n with
    | some l' => qW l' r
    | none => none
def zo (l : List Nod) : Int :=
  if 32 < l.length then 6 else match qW [] l with
    | none => 1
    | some made => if l = [] ∨ made = [false] then 0 else 1
structure Wlk where
  met : List ByteArray
  rules : Int
def hasS (m : List ByteArray) (s : ByteArray) : Bool := m.any fun t => decide (s = t)
end Go.Proofs.YtppfcacnofjmdaaGreatDoor
namespace Go.Proofs.YtppfcacnofjmdaaGreatDoor
set_option linter.unusedVariables false
set_option linter.unusedSimpArgs false
open Go.RowKit
set_option maxHeartbeats 1000000
theorem one_arg {vs : List Value} (h : vs.length = 1) : ∃ u, vs = [u] := by
  match vs, h with
  | [u], _ => exact ⟨u, rfl⟩
theorem name_h (s : ByteArray) (hs : s.size ≤ reachBytes) : Holds Tryz.prog 105 [pS s] (.p (pB (wO s))) [] :=
  .of_calls Tryz.func105 (by kernel_rfl) rfl (fun w vs hl hr => by
    obtain ⟨u, rfl⟩ := one_arg hl
    have h := zX (hr 0 _ u rfl rfl) rfl
    subst h
    exact (name_any s w hs).mono fun e w' ⟨h1, h2⟩ => ⟨h1, h2 ▸ Below.refl _ _⟩) rfl fun w => .p (.v rfl)
theorem qad (v : Val) (hs : v.s.size ≤ reachBytes) : Holds Tryz.prog 103 [.agg v.pv] (.p (pB v.right)) [] :=
  .of_calls Tryz.func103 (by kernel_rfl) rfl (fun w vs hl hr => by
    obtain ⟨u, rfl⟩ := one_arg hl
    have h := zX (hr 0 _ u rfl rfl) rfl
    subst h
    exact right_any v.kind v.n v.s w hs) rfl fun w => .p (.v rfl)
theorem beq_bytes2 (a b : ByteArray) : (a.toList == b.toList) = decide (a = b) := by
  rw [Bool.eq_iff_iff]
  simp only [beq_iff_eq, decide_eq_true_eq]
  exact ⟨toList_inj, fun h => by rw [h]⟩
theorem eqL_val (x y : Val) : eqL x.pv y.pv = some (jh x y) := by
  have h : eqL x.pv y.pv = some ((x.kind == y.kind) && ((x.n == y.n) && ((x.s.toList == y.s.toList) && true))) := rfl
  rw [h, beq_bytes2, Bool.and_true]
  congr 1
  rw [Bool.eq_iff_iff]
  simp [jh, and_assoc]
theorem opR_eqV {T : TT} {K : List Nat} {st : St} {o : Op} {t t' : TypeId} {a b : Operand} (x y : Val) (ho : o = .binOp .eql t a b t') {n m : Nat} {d : Ty} {z : List Value} (ht : lk t T = some ⟨n, m, d, z, true⟩) (ha : evS st a = some (.p (.agg x.pv))) (hb : evS st b = some (.p (.agg y.pv))) : opR T K st o = some (zm x.pv z = true, .p (pB (jh x y))) := by
  subst ho
  show rBin T .eql t (evS st a) (evS st b) = _
  rw [ha, hb]
  unfold rBin
  simp only [ht, eqL_val]
end Go.Proofs.YtppfcacnofjmdaaGreatDoor
namespace Go.Proofs.YtppfcacnofjmdaaGreatDoor
set_option linter.unusedVariables false
set_option linter.unusedSimpArgs false
open Go.RowKit
set_option maxHeartbeats 1000000
def Nod.pv (x : Nod) : List PV := [pI x.op, pI x.val.kind, pI x.val.n, pS x.val.s, pI x.attr.cat, pS x.attr.name, pB x.attr.must]
def Obli.pv (x : Obli) : List PV := [pI x.on, pI x.kind, pS x.arg]
def qar (l : List Nod) : PV := .sl 7 (l.map Nod.pv)
def zQ (l : List Obli) : PV := .sl 3 (l.map Obli.pv)
def jA (l : List Bool) : List (List PV) := l.map fun b => [pB b]
def zt (r : Rul) : List PV := [pS r.id, pB r.deny, tgtP r.target, qar r.cond, zQ r.obls]
theorem attr_h (a : Atr) (ha : a.name.size ≤ reachBytes) : Holds Tryz.prog 143 [.agg a.pv] (.p (pB (attrS a))) [] := by
  refine qA (ts := [2]) Tryz.func143 (by kernel_rfl) rfl rfl rfl ?_
  (repeat refine qb ?_); refine qa ?_
  repeat (first | refine zR ?_ | refine zK ?_ | refine zM ?_ | refine zB ?_ | refine zA ?_ | refine zS ?_ | refine zL ?_)
  refine qc ?_
  (repeat refine qb ?_); refine qs (by kernel_rfl) ?_
  repeat (refine qr qe rfl (by exact True.intro) rfl ?_)
  refine zj rfl rfl rfl rfl (name_h a.name ha) rfl rfl ?_
  repeat (refine qr qe rfl (by exact True.intro) rfl ?_)
  refine qQ ?_
  (repeat refine qb ?_); refine qk ?_
  refine wS rfl ?_
  unfold attrS
  cases h1 : decide (1 ≤ a.cat) <;> cases h2 : decide (a.cat ≤ 4) <;> simp_all
theorem wk_nilp {st : St} (t d : Nat) (e : TypeId) (z : Nat) (ht : lk t st.fr = some (.p (.v (.slice none 0 0)))) (hd : lk d st.own = none) (hdl : Nat.blt d 1000000 = true := by rfl) : Wk st (St.frz ⟨st.n, (t, .row d) :: st.fr, (d, .row e z []) :: st.own⟩ d z []) :=
  (jP t d e z ht hd hdl).trans (zN (e := e) (by show lk d ((d, Box.row e z []) :: st.own) = _; rw [qE, if_pos rfl]))
theorem wants_h (op : Int) : Holds Tryz.prog 113 [pI op] (.tup [.p (.sl 1 (jA ((zu op).getD []))), .p (pB (zu op).isSome)]) [] := by
  refine qA (ts := [2,3]) Tryz.func113 (by kernel_rfl) rfl rfl rfl ?_
  (repeat refine qb ?_); refine qa ?_
  repeat (first | refine zR ?_ | refine zK ?_ | refine zM ?_ | refine zB ?_ | refine zA ?_ | refine zS ?_ | refine zL ?_)
  refine qc ?_
  (repeat refine qb ?_); refine ql ?_
  (repeat refine qb ?_); refine qs (by kernel_rfl) ?_
  repeat (refine qr qe rfl (by exact True.intro) rfl ?_)
  refine qQ ?_
  (repeat refine qb ?_); refine qf rfl (fun h => ?_) (fun h => ?_)
  · have e : zu op = some [] := by
      unfold zu; rw [if_pos (by simpa using h)]
    rw [e]
    (repeat refine qb ?_); refine qa ?_
    repeat (first | refine zR ?_ | refine zK ?_ | refine zM ?_ | refine zB ?_ | refine zA ?_ | refine zS ?_ | refine zL ?_)
    refine qc ?_
    (repeat refine qb ?_); refine qk ?_
    exact ⟨Or.inr rfl, _, _, [], wk_nilp 2 0 4 1 rfl rfl, rfl, rfl, rfl, rfl⟩
  · have n1 : ¬ (op = 1 ∨ op = 2) := by simpa using h
    (repeat refine qb ?_); refine qs (by kernel_rfl) ?_
    repeat (refine qr qe rfl (by exact True.intro) rfl ?_)
    refine qQ ?_
    (repeat refine qb ?_); refine qf rfl (fun h => ?_) (fun h => ?_)
    · have e : zu op = some [true] := by
        unfold zu; rw [if_neg n1, if_pos (by simpa using h)]
      rw [e]
      (repeat refine qb ?_); refine qa ?_
      repeat (first | refine zR ?_ | refine zK ?_ | refine zM ?_ | refine zB ?_ | refine zA ?_ | refine zS ?_ | refine zL ?_)
      refine qc ?_
      (repeat refine qb ?_); refine qk ?_
      exact ⟨Or.inr rfl, _, _, [], zN (k := 18) rfl, rfl, rfl, rfl, rfl⟩
    · have n2 : ¬ (op = 3 ∨ op = 4) := by simpa using h
      (repeat refine qb ?_); refine qa ?_
      repeat (first | refine zR ?_ | refine zK ?_ | refine zM ?_ | refine zB ?_ | refine zA ?_ | refine zS ?_ | refine zL ?_)
      refine qc ?_
      (repeat refine qb ?_); refine qf rfl (fun h => ?_) (fun h => ?_)
      · have e : zu op = some [true, false] := by
          unfold zu; rw [if_neg n1, if_neg n2, if_pos (by simpa using h)]
        rw [e]
        (repeat refine qb ?_); refine qa ?_
        repeat (first | refine zR ?_ | refine zK ?_ | refine zM ?_ | refine zB ?_ | refine zA ?_ | refine zS ?_ | refine zL ?_)
        refine qc ?_
        (repeat refine qb ?_); refine qk ?_
        exact ⟨Or.inr rfl, _, _, [], zN (k := 22) rfl, rfl, rfl, rfl, rfl⟩
      · have n3 : ¬ op = 5 := by simpa using h
        (repeat refine qb ?_); refine qa ?_
        repeat (first | refine zR ?_ | refine zK ?_ | refine zM ?_ | refine zB ?_ | refine zA ?_ | refine zS ?_ | refine zL ?_)
        refine qc ?_
        (repeat refine qb ?_); refine qf rfl (fun h => ?_) (fun h => ?_)
        · have e : zu op = some [false] := by
            unfold zu; rw [if_neg n1, if_neg n2, if_neg n3, if_pos (by simpa using h)]
          rw [e]
          (repeat refine qb ?_); refine qa ?_
          repeat (first | refine zR ?_ | refine zK ?_ | refine zM ?_ | refine zB ?_ | refine zA ?_ | refine zS ?_ | refine zL ?_)
          refine qc ?_
          (repeat refine qb ?_); refine qk ?_
          exact ⟨Or.inr rfl, _, _, [], zN (k := 26) rfl, rfl, rfl, rfl, rfl⟩
        · have n4 : ¬ op = 11 := by simpa using h
          (repeat refine qb ?_); refine qs (by kernel_rfl) ?_
          repeat (refine qr qe rfl (by exact True.intro) rfl ?_)
          refine qQ ?_
          (repeat refine qb ?_); refine qf rfl (fun h => ?_) (fun h => ?_)
          · have e : zu op = some [false, false] := by
              unfold zu; rw [if_neg n1, if_neg n2, if_neg n3, if_neg n4, if_pos (by simp at h; omega)]
            rw [e]
            (repeat refine qb ?_); refine qa ?_
            repeat (first | refine zR ?_ | refine zK ?_ | refine zM ?_ | refine zB ?_ | refine zA ?_ | refine zS ?_ | refine zL ?_)
            refine qc ?_
            (repeat refine qb ?_); refine qk ?_
            exact ⟨Or.inr rfl, _, _, [], zN (k := 34) rfl, rfl, rfl, rfl, rfl⟩
          · have e : zu op = none := by
              unfold zu; rw [if_neg n1, if_neg n2, if_neg n3, if_neg n4, if_neg (by simp at h; omega)]
            rw [e]
            refine qm ?_
            (repeat refine qb ?_); refine qa ?_
            repeat (first | refine zR ?_ | refine zK ?_ | refine zM ?_ | refine zB ?_ | refine zA ?_ | refine zS ?_ | refine zL ?_)
            refine qc ?_
            (repeat refine qb ?_); refine qk ?_
            exact ⟨Or.inr rfl, _, _, [], wk_nilp 2 0 4 1 rfl rfl, rfl, rfl, rfl, rfl⟩
theorem noVal_eq (v : Val) : (v.kind == 0 && (v.n == 0 && v.s.toList.isEmpty)) = isNoVal v := by
  rw [jg, Bool.eq_iff_iff]
  simp [isNoVal, and_assoc]
theorem noAtr_eq (a : Atr) : (a.cat == 0 && (a.name.toList.isEmpty && !a.must)) = isNoAtr a := by
  rw [jg, Bool.eq_iff_iff]
  simp [isNoAtr, and_assoc]
theorem fields_h (n : Nod) (hn : n.Fit) : Holds Tryz.prog 114 [.agg n.pv] (.p (pB (ji n))) [] := by
  refine qA (ts := [2]) Tryz.func114 (by kernel_rfl) rfl rfl rfl ?_
  (repeat refine qb ?_); refine qa ?_
  repeat (first | refine zR ?_ | refine zK ?_ | refine zM ?_ | refine zB ?_ | refine zA ?_ | refine zS ?_ | refine zL ?_)
  refine qc ?_
  (repeat refine qb ?_); refine qa ?_
  repeat (first | refine zR ?_ | refine zK ?_ | refine zM ?_ | refine zB ?_ | refine zA ?_ | refine zS ?_ | refine zL ?_)
  refine qc ?_
  (repeat refine qb ?_); refine ql ?_
  (repeat refine qb ?_); refine qa ?_
  repeat (first | refine zR ?_ | refine zK ?_ | refine zM ?_ | refine zB ?_ | refine zA ?_ | refine zS ?_ | refine zL ?_)
  refine qc ?_
  (repeat refine qb ?_); refine qf rfl (fun h => ?_) (fun h => ?_)
  · have h1 : n.op = 1 := by simpa using h
    (repeat refine qb ?_); refine qs (by kernel_rfl) ?_
    repeat (refine qr qe rfl (by exact True.intro) rfl ?_)
    refine zj rfl rfl rfl rfl (qad n.val hn.val.s) rfl rfl ?_
    repeat (refine qr qe rfl (by exact True.intro) rfl ?_)
    refine qr qe rfl (rfl) rfl ?_
    repeat (refine qr qe rfl (by exact True.intro) rfl ?_)
    refine qQ ?_
    (repeat refine qb ?_); refine qk ?_
    refine wS rfl ?_
    unfold ji
    rw [if_pos h1]
    cases n.val.right <;> simp [← noAtr_eq]
  · have n1 : ¬ n.op = 1 := by simpa using h
    (repeat refine qb ?_); refine qa ?_
    repeat (first | refine zR ?_ | refine zK ?_ | refine zM ?_ | refine zB ?_ | refine zA ?_ | refine zS ?_ | refine zL ?_)
    refine qc ?_
    (repeat refine qb ?_); refine qf rfl (fun h => ?_) (fun h => ?_)
    · have h2 : n.op = 2 := by simpa using h
      (repeat refine qb ?_); refine qs (by kernel_rfl) ?_
      repeat (refine qr qe rfl (by exact True.intro) rfl ?_)
      refine zj rfl rfl rfl rfl (attr_h n.attr hn.attr.name) rfl rfl ?_
      repeat (refine qr qe rfl (by exact True.intro) rfl ?_)
      refine qr qe rfl (rfl) rfl ?_
      repeat (refine qr qe rfl (by exact True.intro) rfl ?_)
      refine qQ ?_
      (repeat refine qb ?_); refine qk ?_
      refine wS rfl ?_
      unfold ji
      rw [if_neg n1, if_pos h2]
      cases attrS n.attr <;> simp [← noVal_eq]
    · have n2 : ¬ n.op = 2 := by simpa using h
      refine qm ?_
      (repeat refine qb ?_); refine qs (by kernel_rfl) ?_
      repeat (refine qr qe rfl (by exact True.intro) rfl ?_)
      refine qr qe rfl (rfl) rfl ?_
      repeat (refine qr qe rfl (by exact True.intro) rfl ?_)
      refine qr qe rfl (rfl) rfl ?_
      repeat (refine qr qe rfl (by exact True.intro) rfl ?_)
      refine qQ ?_
      (repeat refine qb ?_); refine qk ?_
      refine wS rfl ?_
      unfold ji
      rw [if_neg n1, if_neg n2]
      simp [← noVal_eq, ← noAtr_eq]
end Go.Proofs.YtppfcacnofjmdaaGreatDoor
namespace Go.Proofs.YtppfcacnofjmdaaGreatDoor
set_option linter.unusedVariables false
set_option linter.unusedSimpArgs false
open Go.RowKit
def isG (cat : Int) (name : ByteArray) (g : Giv) : Bool := decide (g.cat = cat) && decide (g.name = name)
def placeS (cat : Int) (name : ByteArray) (l : List Giv) : Int := if l.findIdx (isG cat name) < l.length then (l.findIdx (isG cat name) : Int) else -1
theorem placeS_at {cat : Int} {name : ByteArray} {l : List Giv} {k : Nat} (hk : k < l.length) (h : ∀ g ∈ l.take k, isG cat name g = false) (hg : isG cat name l[k] = true) : placeS cat name l = k := by
  have e : l.findIdx (isG cat name) = k := (List.findIdx_eq hk).2 ⟨hg, fun j hj => h _ (List.mem_take_iff_getElem.2 ⟨j, by omega, rfl⟩)⟩
  unfold placeS
  rw [e, if_pos hk]
theorem placeS_no {cat : Int} {name : ByteArray} {l : List Giv} (h : ∀ g ∈ l, isG cat name g = false) : placeS cat name l = -1 := by
  have e : l.findIdx (isG cat name) = l.length := List.findIdx_eq_length.2 h
  unfold placeS
  rw [e, if_neg (Nat.lt_irrefl _)]
def bagS (cat : Int) (name : ByteArray) (l : List Giv) : List Val := match l.find? (isG cat name) with | some g => g.bag | none => []
def getS (a : Atr) (l : List Giv) : List Val × Int := if (bagS a.cat a.name l).isEmpty && a.must then ([], 4) else (bagS a.cat a.name l, 0)
theorem bagS_no {cat : Int} {name : ByteArray} {l : List Giv} (h : ∀ g ∈ l, isG cat name g = false) : bagS cat name l = [] := by
  have : l.find? (isG cat name) = none := List.find?_eq_none.2 fun g hg => by simp [h g hg]
  simp [bagS, this]
theorem bagS_at {cat : Int} {name : ByteArray} {l : List Giv} {k : Nat} (hk : k < l.length) (h : ∀ g ∈ l.take k, isG cat name g = false) (hg : isG cat name l[k] = true) : bagS cat name l = l[k].bag := by
  have e : l = l.take k ++ l[k] :: l.drop (k + 1) := by rw [← List.drop_eq_getElem_cons hk, List.take_append_drop]
  have : l.find? (isG cat name) = some l[k] := by
    conv => lhs; rw [e]
    rw [List.find?_append, List.find?_eq_none.2 fun g hm => by simp [h g hm], List.find?_cons, hg]
    rfl
  simp [bagS, this]
theorem place_cases (cat : Int) (name : ByteArray) (l : List Giv) : (placeS cat name l = -1 ∧ bagS cat name l = [] ∧ ∀ g ∈ l, isG cat name g = false) ∨ ∃ (k : Nat) (hk : k < l.length), placeS cat name l = k ∧ bagS cat name l = l[k].bag ∧ isG cat name l[k] = true ∧ ∀ g ∈ l.take k, isG cat name g = false := by
  by_cases h : l.findIdx (isG cat name) < l.length
  · right
    have h1 : isG cat name l[l.findIdx (isG cat name)] = true := List.findIdx_getElem (w := h)
    have h2 : ∀ g ∈ l.take (l.findIdx (isG cat name)), isG cat name g = false := by
      intro g hg
      obtain ⟨j, hj, rfl⟩ := List.mem_take_iff_getElem.1 hg
      exact List.not_of_lt_findIdx (by omega)
    exact ⟨_, h, placeS_at h h2 h1, bagS_at h h2 h1, h1, h2⟩
  · left
    have h1 : l.findIdx (isG cat name) = l.length := Nat.le_antisymm List.findIdx_le_length (by omega)
    have h2 := List.findIdx_eq_length.1 h1
    exact ⟨placeS_no h2, bagS_no h2, h2⟩
end Go.Proofs.YtppfcacnofjmdaaGreatDoor
namespace Go.Proofs.YtppfcacnofjmdaaGreatDoor
set_option linter.unusedVariables false
set_option linter.unusedSimpArgs false
open Go.RowKit
set_option maxHeartbeats 1000000
theorem beq_bytes (a b : ByteArray) : (a.toList == b.toList) = decide (a = b) := by
  rw [Bool.eq_iff_iff]
  simp only [beq_iff_eq, decide_eq_true_eq]
  exact ⟨toList_inj, fun h => by rw [h]⟩
theorem cloneV_h (l : List Val) (hn : l.length ≤ 1000000) : Holds Tryz.prog 82 [valsP l] (.row 0) [(0, .row 52 3 (l.map Val.pv))] := by
  refine qA (ts := [2]) Tryz.func82 (by kernel_rfl) rfl rfl rfl ?_
  (repeat refine qb ?_); refine qa ?_
  repeat (first | refine zR ?_ | refine zK ?_ | refine zM ?_ | refine zB ?_ | refine zA ?_ | refine zS ?_ | refine zL ?_)
  refine qc ?_
  (repeat refine qb ?_); refine qa ?_
  repeat (first | refine zR ?_ | refine zK ?_ | refine zM ?_ | refine zB ?_ | refine zA ?_ | refine zS ?_ | refine zL ?_)
  refine qn rfl (act_nilcmp qe rfl rfl rfl rfl rfl rfl (fun b hb => ?_))
  refine qc ?_
  (repeat refine qb ?_); refine qf rfl (fun hc => ?_) (fun hc => ?_)
  · have hl := hb hc
    have hl' : l = [] := by simpa using hl
    subst hl'
    (repeat refine qb ?_); refine qa ?_
    repeat (first | refine zR ?_ | refine zK ?_ | refine zM ?_ | refine zB ?_ | refine zA ?_ | refine zS ?_ | refine zL ?_)
    refine qc ?_
    (repeat refine qb ?_); refine qk ?_
    exact ⟨Or.inr rfl, _, _, [(0, 0)], jP 2 0 52 3 rfl rfl, rfl, rfl, rfl, rfl⟩
  · refine qm ?_
    (repeat refine qb ?_); refine qa ?_
    repeat (first | refine zR ?_ | refine zK ?_ | refine zM ?_ | refine zB ?_ | refine zA ?_ | refine zS ?_ | refine zL ?_)
    refine qn rfl (qp qe rfl rfl rfl rfl rfl rfl rfl rfl rfl rfl rfl rfl rfl rfl rfl rfl (by simp [reachBytes]; omega) (by simp; omega) ?_)
    repeat (first | refine zR ?_ | refine zK ?_ | refine zM ?_ | refine zB ?_ | refine zA ?_ | refine zS ?_ | refine zL ?_)
    refine qc ?_
    (repeat refine qb ?_); refine qk ?_
    exact ⟨Or.inr rfl, _, _, [(7, 0)], Wk.refl _, rfl, rfl, rfl, rfl⟩
theorem place1_h (cat : Int) (name : ByteArray) (g : Giv) : Holds Tryz.prog 102 [.agg g.pv, .rp [pI cat], .rp [pS name]] (.p (pB (isG cat name g))) [] := by
  refine qA (ts := [4]) Tryz.func102 (by kernel_rfl) rfl rfl rfl ?_
  (repeat refine qb ?_); refine qa ?_
  repeat (first | refine zR ?_ | refine zK ?_ | refine zM ?_ | refine zB ?_ | refine zA ?_ | refine zS ?_ | refine zL ?_)
  refine qc ?_
  (repeat refine qb ?_); refine qs (by kernel_rfl) ?_
  repeat (refine qr qe rfl (by exact True.intro) rfl ?_)
  refine qQ ?_
  (repeat refine qb ?_); refine qk ?_
  refine wS rfl ?_
  unfold isG
  rw [beq_bytes]
  cases h : decide (g.cat = cat) <;> simp_all
theorem index_h (l : List Giv) (hn : l.length ≤ 1000000) (f : FuncId) (caps : List PV) (p : Giv → Bool) (hF : ∀ g, Holds Tryz.prog f ([.agg g.pv] ++ caps) (.p (pB (p g))) []) :
    Holds Tryz.prog 101 [zP l, .fn f caps] (.p (pI (if l.findIdx p < l.length then (l.findIdx p : Int) else -1))) [] := by
  refine qA (ts := [4]) Tryz.func101 (by kernel_rfl) rfl rfl rfl ?_
  (repeat refine qb ?_); refine qa ?_
  repeat (first | refine zR ?_ | refine zK ?_ | refine zM ?_ | refine zB ?_ | refine zA ?_ | refine zS ?_ | refine zL ?_)
  refine qc ?_
  (repeat refine qb ?_); refine qa ?_
  repeat (first | refine zR ?_ | refine zK ?_ | refine zM ?_ | refine zB ?_ | refine zA ?_ | refine zS ?_ | refine zL ?_)
  refine qc ?_
  (repeat refine qb ?_); refine ql ?_
  refine SW.wk (qq [0, 1, 7, 8] [] rfl rfl) ?_
  refine qO (fun n s => ∃ (k : Nat) (kk : Int), k ≤ l.length ∧ n = l.length - k ∧ kk = k ∧ (∀ g ∈ l.take k, p g = false) ∧ s = ⟨19, [(0, .p (zP l)), (1, .p (.fn f caps)), (7, .p (pI (l.map Giv.pv).length)), (8, .p (pI kk))], []⟩) l.length ⟨0, 0, Nat.zero_le _, rfl, rfl, by simp, rfl⟩ ?_
  rintro n s ⟨k, _, hk, rfl, rfl, ha, rfl⟩
  (repeat refine qb ?_); refine qa ?_
  repeat (first | refine zR ?_ | refine zK ?_ | refine zM ?_ | refine zB ?_ | refine zA ?_ | refine zS ?_ | refine zL ?_)
  refine qc ?_
  (repeat refine qb ?_); refine qf rfl (fun hlt => ?_) (fun hlt => ?_)
  · refine qm ?_
    simp only [List.length_map, decide_eq_true_eq] at hlt
    have hlt' : k < l.length := by omega
    (repeat refine qb ?_); refine ql ?_
    (repeat refine qb ?_); refine qa ?_
    repeat (first | refine zR ?_ | refine zK ?_ | refine zM ?_ | refine zB ?_ | refine zA ?_ | refine zS ?_ | refine zL ?_)
    refine qc ?_
    (repeat refine qb ?_); refine qa ?_
    repeat (first | refine zR ?_ | refine zK ?_ | refine zM ?_ | refine zB ?_ | refine zA ?_ | refine zS ?_ | refine zL ?_)
    refine qw qe rfl rfl (by simp only [List.length_map]; omega) rfl ?_
    rw [qJ hlt']
    repeat (first | refine zR ?_ | refine zK ?_ | refine zM ?_ | refine zB ?_ | refine zA ?_ | refine zS ?_ | refine zL ?_)
    refine qn rfl (qg rfl rfl rfl rfl (hF l[k]) rfl rfl ?_)
    repeat (first | refine zR ?_ | refine zK ?_ | refine zM ?_ | refine zB ?_ | refine zA ?_ | refine zS ?_ | refine zL ?_)
    refine qc ?_
    (repeat refine qb ?_); refine qf rfl (fun hp => ?_) (fun hp => ?_)
    · (repeat refine qb ?_); refine qa ?_
      repeat (first | refine zR ?_ | refine zK ?_ | refine zM ?_ | refine zB ?_ | refine zA ?_ | refine zS ?_ | refine zL ?_)
      refine qc ?_
      (repeat refine qb ?_); refine qk ?_
      refine zg rfl ?_
      have e : l.findIdx p = k := (List.findIdx_eq hlt').2 ⟨hp, fun j hj => ha _ (List.mem_take_iff_getElem.2 ⟨j, by omega, rfl⟩)⟩
      rw [e, if_pos hlt']
    · refine qm ?_
      (repeat refine qb ?_); refine qa ?_
      repeat (first | refine zR ?_ | refine zK ?_ | refine zM ?_ | refine zB ?_ | refine zA ?_ | refine zS ?_ | refine zL ?_)
      refine qc ?_
      refine ⟨_, _, ?_, qq [0, 1, 7, 8] [] rfl rfl, k + 1, _, hlt', rfl, qz hlt' (by omega), ?_, rfl⟩
      · omega
      · intro g hg
        rw [List.take_succ_eq_append_getElem hlt', List.mem_append, List.mem_singleton] at hg
        rcases hg with hg | rfl
        · exact ha g hg
        · exact hp
  · refine qK ?_
    simp only [List.length_map, decide_eq_false_iff_not] at hlt
    have hkk : k = l.length := by omega
    subst hkk
    (repeat refine qb ?_); refine qa ?_
    repeat (first | refine zR ?_ | refine zK ?_ | refine zM ?_ | refine zB ?_ | refine zA ?_ | refine zS ?_ | refine zL ?_)
    refine qc ?_
    (repeat refine qb ?_); refine qk ?_
    refine zg rfl ?_
    rw [List.take_length] at ha
    rw [if_neg]
    have := List.findIdx_eq_length_of_false ha
    omega
theorem place_h (cat : Int) (name : ByteArray) (l : List Giv) (hn : l.length ≤ 1000000) : Holds Tryz.prog 81 [zP l, pI cat, pS name] (.p (pI (placeS cat name l))) [] := by
  refine qA (ts := [6]) Tryz.func81 (by kernel_rfl) rfl rfl rfl ?_
  (repeat refine qb ?_); refine qa ?_
  repeat (first | refine zR ?_ | refine zK ?_ | refine zM ?_ | refine zB ?_ | refine zA ?_ | refine zS ?_ | refine zL ?_)
  refine qc ?_
  (repeat refine qb ?_); refine qa ?_
  repeat (first | refine zR ?_ | refine zK ?_ | refine zM ?_ | refine zB ?_ | refine zA ?_ | refine zS ?_ | refine zL ?_)
  refine qn rfl (qg rfl rfl rfl rfl (index_h l hn _ _ (isG cat name) (fun g => place1_h cat name g)) rfl rfl ?_)
  repeat (first | refine zR ?_ | refine zK ?_ | refine zM ?_ | refine zB ?_ | refine zA ?_ | refine zS ?_ | refine zL ?_)
  refine qc ?_
  (repeat refine qb ?_); refine qk ?_
  exact zg rfl rfl
theorem get_h (a : Atr) (l : List Giv) (hn : l.length ≤ 1000000) (hb : ∀ g ∈ l, g.bag.length ≤ 1000000) : Holds Tryz.prog 62 [zP l, .agg a.pv] (.tup [.p (valsP (getS a l).1), .p (pI (getS a l).2)]) [] := by
  refine qA (ts := [4,5]) Tryz.func62 (by kernel_rfl) rfl rfl rfl ?_
  (repeat refine qb ?_); refine qa ?_
  repeat (first | refine zR ?_ | refine zK ?_ | refine zM ?_ | refine zB ?_ | refine zA ?_ | refine zS ?_ | refine zL ?_)
  refine qc ?_
  (repeat refine qb ?_); refine qa ?_
  repeat (first | refine zR ?_ | refine zK ?_ | refine zM ?_ | refine zB ?_ | refine zA ?_ | refine zS ?_ | refine zL ?_)
  refine qc ?_
  (repeat refine qb ?_); refine qa ?_
  repeat (first | refine zR ?_ | refine zK ?_ | refine zM ?_ | refine zB ?_ | refine zA ?_ | refine zS ?_ | refine zL ?_)
  refine qn rfl (qg rfl rfl rfl rfl (place_h a.cat a.name l hn) rfl rfl ?_)
  repeat (first | refine zR ?_ | refine zK ?_ | refine zM ?_ | refine zB ?_ | refine zA ?_ | refine zS ?_ | refine zL ?_)
  refine qc ?_
  rcases place_cases a.cat a.name l with ⟨hp, hbag, _⟩ | ⟨k, hk, hp, hbag, _, _⟩
  · rw [hp]
    (repeat refine qb ?_); refine qa ?_
    repeat (first | refine zR ?_ | refine zK ?_ | refine zM ?_ | refine zB ?_ | refine zA ?_ | refine zS ?_ | refine zL ?_)
    refine qc ?_
    (repeat refine qb ?_); refine qf rfl (fun hc => ?_) (fun hc => ?_)
    · simp at hc
    · refine qm ?_
      (repeat refine qb ?_); refine qa ?_
      repeat (first | refine zR ?_ | refine zK ?_ | refine zM ?_ | refine zB ?_ | refine zA ?_ | refine zS ?_ | refine zL ?_)
      refine qc ?_
      (repeat refine qb ?_); refine qf rfl (fun hm => ?_) (fun hm => ?_)
      · replace hm : a.must = true := hm
        have e : getS a l = ([], 4) := by simp [getS, hbag, hm]
        rw [e]
        (repeat refine qb ?_); refine qa ?_
        repeat (first | refine zR ?_ | refine zK ?_ | refine zM ?_ | refine zB ?_ | refine zA ?_ | refine zS ?_ | refine zL ?_)
        refine qc ?_
        (repeat refine qb ?_); refine qk ?_
        exact ⟨Or.inr rfl, _, _, [], wk_nilp 4 900 52 3 rfl rfl, rfl, rfl, rfl, rfl⟩
      · replace hm : a.must = false := hm
        have e : getS a l = ([], 0) := by simp [getS, hbag, hm]
        rw [e]
        refine qm ?_
        (repeat refine qb ?_); refine qa ?_
        repeat (first | refine zR ?_ | refine zK ?_ | refine zM ?_ | refine zB ?_ | refine zA ?_ | refine zS ?_ | refine zL ?_)
        refine qc ?_
        (repeat refine qb ?_); refine qk ?_
        exact ⟨Or.inr rfl, _, _, [], wk_nilp 4 900 52 3 rfl rfl, rfl, rfl, rfl, rfl⟩
  · rw [hp]
    (repeat refine qb ?_); refine qa ?_
    repeat (first | refine zR ?_ | refine zK ?_ | refine zM ?_ | refine zB ?_ | refine zA ?_ | refine zS ?_ | refine zL ?_)
    refine qc ?_
    (repeat refine qb ?_); refine qf rfl (fun hc => ?_) (fun hc => ?_)
    · (repeat refine qb ?_); refine qa ?_
      repeat (first | refine zR ?_ | refine zK ?_ | refine zM ?_ | refine zB ?_ | refine zA ?_ | refine zS ?_ | refine zL ?_)
      refine qw qe rfl rfl (by simp only [List.length_map]; omega) rfl ?_
      rw [qJ hk]
      repeat (first | refine zR ?_ | refine zK ?_ | refine zM ?_ | refine zB ?_ | refine zA ?_ | refine zS ?_ | refine zL ?_)
      refine qn rfl (qD rfl rfl rfl rfl ((cloneV_h l[k].bag (hb _ (List.getElem_mem hk))).row_sl) rfl rfl rfl ?_)
      repeat (first | refine zR ?_ | refine zK ?_ | refine zM ?_ | refine zB ?_ | refine zA ?_ | refine zS ?_ | refine zL ?_)
      refine qc ?_
      generalize l[k].bag = b at *
      cases b with
      | nil =>
        (repeat refine qb ?_); refine qa ?_
        repeat (first | refine zR ?_ | refine zK ?_ | refine zM ?_ | refine zB ?_ | refine zA ?_ | refine zS ?_ | refine zL ?_)
        refine qc ?_
        (repeat refine qb ?_); refine qf rfl (fun hm => ?_) (fun hm => ?_)
        · replace hm : a.must = true := hm
          have e : getS a l = ([], 4) := by simp [getS, hbag, hm]
          rw [e]
          (repeat refine qb ?_); refine qa ?_
          repeat (first | refine zR ?_ | refine zK ?_ | refine zM ?_ | refine zB ?_ | refine zA ?_ | refine zS ?_ | refine zL ?_)
          refine qc ?_
          (repeat refine qb ?_); refine qk ?_
          exact ⟨Or.inr rfl, _, _, [], wk_nilp 4 900 52 3 rfl rfl, rfl, rfl, rfl, rfl⟩
        · replace hm : a.must = false := hm
          have e : getS a l = ([], 0) := by simp [getS, hbag, hm]
          rw [e]
          refine qm ?_
          (repeat refine qb ?_); refine qa ?_
          repeat (first | refine zR ?_ | refine zK ?_ | refine zM ?_ | refine zB ?_ | refine zA ?_ | refine zS ?_ | refine zL ?_)
          refine qc ?_
          (repeat refine qb ?_); refine qk ?_
          exact ⟨Or.inr rfl, _, _, [], Wk.refl _, rfl, rfl, rfl, rfl⟩
      | cons v r =>
        have e : getS a l = (v :: r, 0) := by simp [getS, hbag]
        rw [e]
        (repeat refine qb ?_); refine qa ?_
        repeat (first | refine zR ?_ | refine zK ?_ | refine zM ?_ | refine zB ?_ | refine zA ?_ | refine zS ?_ | refine zL ?_)
        rw [show ((((v :: r).map Val.pv).length : Int) == 0) = false by simp; omega]
        repeat (first | refine zR ?_ | refine zK ?_ | refine zM ?_ | refine zB ?_ | refine zA ?_ | refine zS ?_ | refine zL ?_)
        refine qc ?_
        (repeat refine qb ?_); refine qf rfl (fun hm => ?_) (fun hm => ?_)
        · cases hm
        · refine qm ?_
          (repeat refine qb ?_); refine qa ?_
          repeat (first | refine zR ?_ | refine zK ?_ | refine zM ?_ | refine zB ?_ | refine zA ?_ | refine zS ?_ | refine zL ?_)
          refine qc ?_
          (repeat refine qb ?_); refine qk ?_
          exact ⟨Or.inr rfl, _, _, [], Wk.refl _, rfl, rfl, rfl, rfl⟩
    · exfalso
      simp at hc
end Go.Proofs.YtppfcacnofjmdaaGreatDoor
namespace Go.Proofs.YtppfcacnofjmdaaGreatDoor
set_option linter.unusedVariables false
set_option linter.unusedSimpArgs false
open Go.RowKit
set_option maxHeartbeats 4000000
theorem texts_h (k : Int) : Holds Tryz.prog 104 [pI k] (.p (pB (textsS k))) [] := by
  refine qA (ts := [2]) Tryz.func104 (by kernel_rfl) rfl rfl rfl ?_
  (repeat refine qb ?_); refine qa ?_
  repeat (first | refine zR ?_ | refine zK ?_ | refine zM ?_ | refine zB ?_ | refine zA ?_ | refine zS ?_ | refine zL ?_)
  refine qc ?_
  (repeat refine qb ?_); refine qs (by kernel_rfl) ?_
  repeat (refine qr qe rfl (by exact True.intro) rfl ?_)
  refine qQ ?_
  (repeat refine qb ?_); refine qk ?_
  refine wS rfl ?_
  unfold textsS
  rw [Bool.eq_iff_iff]
  simp
theorem less_h (a b : Val) (ha : a.s.size ≤ reachBytes) (hb : b.s.size ≤ reachBytes) : Holds Tryz.prog 83 [.agg a.pv, .agg b.pv] (.tup [.p (pB (wN a b).1), .p (pI (wN a b).2)]) [] := by
  unfold wN
  cases hra : a.right with
  | false =>
    refine qA (ts := [4,5]) Tryz.func83 (by kernel_rfl) rfl rfl rfl ?_
    (repeat refine qb ?_); refine qa ?_
    repeat (first | refine zR ?_ | refine zK ?_ | refine zM ?_ | refine zB ?_ | refine zA ?_ | refine zS ?_ | refine zL ?_)
    refine qc ?_
    (repeat refine qb ?_); refine ql ?_
    (repeat refine qb ?_); refine qa ?_
    repeat (first | refine zR ?_ | refine zK ?_ | refine zM ?_ | refine zB ?_ | refine zA ?_ | refine zS ?_ | refine zL ?_)
    refine qn rfl (qg rfl rfl rfl rfl (qad a ha) rfl rfl ?_)
    repeat (first | refine zR ?_ | refine zK ?_ | refine zM ?_ | refine zB ?_ | refine zA ?_ | refine zS ?_ | refine zL ?_)
    rw [hra]
    repeat (first | refine zR ?_ | refine zK ?_ | refine zM ?_ | refine zB ?_ | refine zA ?_ | refine zS ?_ | refine zL ?_)
    refine qc ?_
    (repeat refine qb ?_); refine qf rfl (fun hc => ?_) (fun hc => ?_)
    · (repeat refine qb ?_); refine qa ?_
      repeat (first | refine zR ?_ | refine zK ?_ | refine zM ?_ | refine zB ?_ | refine zA ?_ | refine zS ?_ | refine zL ?_)
      refine qc ?_
      (repeat refine qb ?_); refine qk ?_
      exact ⟨Or.inr rfl, _, _, [], Wk.refl _, rfl, rfl, rfl, rfl⟩
    · cases hc
  | true =>
    cases hrb : b.right with
    | false =>
      refine qA (ts := [4,5]) Tryz.func83 (by kernel_rfl) rfl rfl rfl ?_
      (repeat refine qb ?_); refine qa ?_
      repeat (first | refine zR ?_ | refine zK ?_ | refine zM ?_ | refine zB ?_ | refine zA ?_ | refine zS ?_ | refine zL ?_)
      refine qc ?_
      (repeat refine qb ?_); refine ql ?_
      (repeat refine qb ?_); refine qa ?_
      repeat (first | refine zR ?_ | refine zK ?_ | refine zM ?_ | refine zB ?_ | refine zA ?_ | refine zS ?_ | refine zL ?_)
      refine qn rfl (qg rfl rfl rfl rfl (qad a ha) rfl rfl ?_)
      repeat (first | refine zR ?_ | refine zK ?_ | refine zM ?_ | refine zB ?_ | refine zA ?_ | refine zS ?_ | refine zL ?_)
      rw [hra]
      repeat (first | refine zR ?_ | refine zK ?_ | refine zM ?_ | refine zB ?_ | refine zA ?_ | refine zS ?_ | refine zL ?_)
      refine qn rfl (qg rfl rfl rfl rfl (qad b hb) rfl rfl ?_)
      repeat (first | refine zR ?_ | refine zK ?_ | refine zM ?_ | refine zB ?_ | refine zA ?_ | refine zS ?_ | refine zL ?_)
      rw [hrb]
      repeat (first | refine zR ?_ | refine zK ?_ | refine zM ?_ | refine zB ?_ | refine zA ?_ | refine zS ?_ | refine zL ?_)
      refine qc ?_
      (repeat refine qb ?_); refine qf rfl (fun hc => ?_) (fun hc => ?_)
      · (repeat refine qb ?_); refine qa ?_
        repeat (first | refine zR ?_ | refine zK ?_ | refine zM ?_ | refine zB ?_ | refine zA ?_ | refine zS ?_ | refine zL ?_)
        refine qc ?_
        (repeat refine qb ?_); refine qk ?_
        exact ⟨Or.inr rfl, _, _, [], Wk.refl _, rfl, rfl, rfl, rfl⟩
      · cases hc
    | true =>
      refine qA (ts := [4,5]) Tryz.func83 (by kernel_rfl) rfl rfl rfl ?_
      (repeat refine qb ?_); refine qa ?_
      repeat (first | refine zR ?_ | refine zK ?_ | refine zM ?_ | refine zB ?_ | refine zA ?_ | refine zS ?_ | refine zL ?_)
      refine qc ?_
      (repeat refine qb ?_); refine ql ?_
      (repeat refine qb ?_); refine qa ?_
      repeat (first | refine zR ?_ | refine zK ?_ | refine zM ?_ | refine zB ?_ | refine zA ?_ | refine zS ?_ | refine zL ?_)
      refine qn rfl (qg rfl rfl rfl rfl (qad a ha) rfl rfl ?_)
      repeat (first | refine zR ?_ | refine zK ?_ | refine zM ?_ | refine zB ?_ | refine zA ?_ | refine zS ?_ | refine zL ?_)
      rw [hra]
      repeat (first | refine zR ?_ | refine zK ?_ | refine zM ?_ | refine zB ?_ | refine zA ?_ | refine zS ?_ | refine zL ?_)
      refine qn rfl (qg rfl rfl rfl rfl (qad b hb) rfl rfl ?_)
      repeat (first | refine zR ?_ | refine zK ?_ | refine zM ?_ | refine zB ?_ | refine zA ?_ | refine zS ?_ | refine zL ?_)
      rw [hrb]
      repeat (first | refine zR ?_ | refine zK ?_ | refine zM ?_ | refine zB ?_ | refine zA ?_ | refine zS ?_ | refine zL ?_)
      refine qc ?_
      (repeat refine qb ?_); refine qf rfl (fun hc => ?_) (fun hc => ?_)
      · cases hc
      simp only [Bool.not_true, Bool.or_self, Bool.false_eq_true, if_false]
      (repeat refine qb ?_); refine qs (by kernel_rfl) ?_
      repeat (refine qr qe rfl (by exact True.intro) rfl ?_)
      refine qQ ?_
      (repeat refine qb ?_); refine qf rfl (fun hk => ?_) (fun hk => ?_)
      · rw [if_pos (by revert hk; by_cases h : a.kind = b.kind <;> simp [h])]
        (repeat refine qb ?_); refine qa ?_
        repeat (first | refine zR ?_ | refine zK ?_ | refine zM ?_ | refine zB ?_ | refine zA ?_ | refine zS ?_ | refine zL ?_)
        refine qc ?_
        (repeat refine qb ?_); refine qk ?_
        exact ⟨Or.inr rfl, _, _, [], Wk.refl _, rfl, rfl, rfl, rfl⟩
      · rw [if_neg (by revert hk; by_cases h : a.kind = b.kind <;> simp [h])]
        (repeat refine qb ?_); refine qa ?_
        repeat (first | refine zR ?_ | refine zK ?_ | refine zM ?_ | refine zB ?_ | refine zA ?_ | refine zS ?_ | refine zL ?_)
        refine qn rfl (qg rfl rfl rfl rfl (texts_h a.kind) rfl rfl ?_)
        repeat (first | refine zR ?_ | refine zK ?_ | refine zM ?_ | refine zB ?_ | refine zA ?_ | refine zS ?_ | refine zL ?_)
        refine qc ?_
        (repeat refine qb ?_); refine qf rfl (fun ht => ?_) (fun ht => ?_)
        · rw [if_pos ht]
          (repeat refine qb ?_); refine qa ?_
          repeat (first | refine zR ?_ | refine zK ?_ | refine zM ?_ | refine zB ?_ | refine zA ?_ | refine zS ?_ | refine zL ?_)
          refine qc ?_
          (repeat refine qb ?_); refine qk ?_
          exact ⟨Or.inr rfl, _, _, [], Wk.refl _, rfl, rfl, rfl, rfl⟩
        · rw [if_neg (by rw [ht]; simp)]
          refine qm ?_
          (repeat refine qb ?_); refine qa ?_
          repeat (first | refine zR ?_ | refine zK ?_ | refine zM ?_ | refine zB ?_ | refine zA ?_ | refine zS ?_ | refine zL ?_)
          refine qc ?_
          (repeat refine qb ?_); refine qk ?_
          exact ⟨Or.inr rfl, _, _, [], Wk.refl _, rfl, rfl, rfl, rfl⟩
end Go.Proofs.YtppfcacnofjmdaaGreatDoor
namespace Go.Proofs.YtppfcacnofjmdaaGreatDoor
set_option linter.unusedVariables false
set_option linter.unusedSimpArgs false
def hasV (l : List Val) (v : Val) : Bool := l.any fun x => jh v x
end Go.Proofs.YtppfcacnofjmdaaGreatDoor
namespace Go.Proofs.YtppfcacnofjmdaaGreatDoor
set_option linter.unusedVariables false
set_option linter.unusedSimpArgs false
open Go.RowKit
theorem wd {a : List Nod} (h : zo a = 0) (hn : a ≠ []) : qW [] a = some [false] ∧ a.length ≤ 32 := by
  unfold zo at h
  split at h
  · cases h
  · cases hs : qW [] a with
    | none => rw [hs] at h; cases h
    | some m =>
      rw [hs] at h
      simp only at h
      split at h
      · rename_i hc
        rcases hc with hc | hc
        · exact absurd hc hn
        · subst hc; exact ⟨rfl, by omega⟩
      · cases h
structure Itm where
  bag : List Val
  v : Val
  e : Int
def Itm.pv (x : Itm) : List PV := [valsP x.bag, pI x.v.kind, pI x.v.n, pS x.v.s, pI x.e]
def noItm : Itm := ⟨[], noVal, 0⟩
def itmT (b : Bool) : Itm := ⟨[], jo b, 0⟩
def isT (v : Val) (n : Int) : Bool := jh v ⟨1, n, ⟨#[]⟩⟩
def Itm.is (x : Itm) (n : Int) : Bool := decide (x.e = 0) && isT x.v n
def qL (op : Int) : Nat := if op = 1 ∨ op = 2 then 0 else if op = 3 ∨ op = 4 ∨ op = 11 then 1 else 2
def decS (op : Int) (l : List Itm) : Bool := (decide (op = 12) || decide (op = 13)) && ((l.getD 0 noItm).is (op - 12) || (l.getD 1 noItm).is (op - 12))
def errS : List Itm → Int
  | [] => 0
  | x :: r => if x.e = 0 then errS r else x.e
def lastS (op : Int) (l : List Itm) : Itm :=
  if op = 3 then (if (l.getD 0 noItm).bag.length = 1 then ⟨[], (l.getD 0 noItm).bag.getD 0 noVal, 0⟩ else ⟨[], noVal, 4⟩)
  else if op = 4 then ⟨[], ⟨2, (l.getD 0 noItm).bag.length, ⟨#[]⟩⟩, 0⟩
  else if op = 5 then itmT (hasV (l.getD 0 noItm).bag (l.getD 1 noItm).v)
  else ⟨[], (qN op (l.map Itm.v)).1, (qN op (l.map Itm.v)).2⟩
def zc (n : Nod) (l : List Itm) (g : List Giv) : Itm :=
  if n.op = 1 then ⟨[], n.val, 0⟩
  else if n.op = 2 then ⟨(getS n.attr g).1, noVal, (getS n.attr g).2⟩
  else if decS n.op l then itmT (decide (n.op = 13))
  else if errS l ≠ 0 then ⟨[], noVal, errS l⟩
  else lastS n.op l
def zJ (g : List Giv) (s : List Itm) (n : Nod) : List Itm := s.take (s.length - qL n.op) ++ [zc n (s.drop (s.length - qL n.op)) g]
def jV (g : List Giv) (l : List Nod) : List Itm := l.foldl (zJ g) []
def zk (l : List Nod) (g : List Giv) : Val × Int :=
  if l = [] ∨ zo l ≠ 0 then (noVal, 1) else (((jV g l).getD 0 noItm).v, ((jV g l).getD 0 noItm).e)
def ww (x : Val × Int) : Int := if (Itm.mk [] x.1 x.2).is 1 then 2 else if (Itm.mk [] x.1 x.2).is 0 then 0 else 1
def qam (l : List Nod) (g : List Giv) : Int := if l = [] then 2 else ww (zk l g)
theorem operandsS_wants {op : Int} {w : List Bool} (h : zu op = some w) : w.length = qL op := by
  unfold zu at h
  unfold qL
  repeat' split at h
  all_goals (cases h; try (simp; try omega))
  all_goals (try (split <;> simp_all <;> omega))
theorem stepI_len {g : List Giv} {s : List Itm} {n : Nod} {l l' : List Bool} (hl : s.length = l.length) (h : zy l n = some l') : (zJ g s n).length = l'.length ∧ qL n.op ≤ s.length := by
  unfold zy at h
  split at h
  · cases h
  · rename_i w hw
    split at h
    · rename_i hc
      cases h
      have := operandsS_wants hw
      simp only [zJ, List.length_append, List.length_take, List.length_singleton]
      omega
    · cases h
theorem evalI_len {g : List Giv} : ∀ {r : List Nod} {s : List Itm} {l l' : List Bool}, s.length = l.length → qW l r = some l' → (r.foldl (zJ g) s).length = l'.length
  | [], s, l, l', hl, h => by cases h; exact hl
  | n :: r, s, l, l', hl, h => by
    rw [qW] at h
    cases hs : zy l n with
    | none => rw [hs] at h; cases h
    | some m =>
      rw [hs] at h
      rw [List.foldl_cons]
      exact evalI_len (s := zJ g s n) (l := m) (stepI_len (g := g) hl hs).1 h
theorem evalI_one {g : List Giv} {l : List Nod} (h : zo l = 0) (hn : l ≠ []) : ∃ x, jV g l = [x] := by
  have h1 := evalI_len (g := g) (s := []) (l := []) rfl (wd h hn).1
  exact List.length_eq_one_iff.1 h1
theorem zp {g : List Giv} {l : List Nod} {x : Itm} (h : zo l = 0) (hn : l ≠ []) (hx : jV g l = [x]) : zk l g = (x.v, x.e) := by
  unfold zk
  rw [if_neg (by simp [h, hn]), hx]; rfl
end Go.Proofs.YtppfcacnofjmdaaGreatDoor
namespace Go.Proofs.YtppfcacnofjmdaaGreatDoor
set_option linter.unusedVariables false
set_option linter.unusedSimpArgs false
open Go.RowKit
theorem condS_range (l : List Nod) (g : List Giv) : 0 ≤ qam l g ∧ qam l g ≤ 2 := by
  unfold qam ww
  repeat' split
  all_goals omega
section
variable {s : ByteArray} (hs : wO s = true)
include hs
end
end Go.Proofs.YtppfcacnofjmdaaGreatDoor
namespace Go.Proofs.YtppfcacnofjmdaaGreatDoor
set_option linter.unusedVariables false
set_option linter.unusedSimpArgs false
open Go.RowKit
def againstT (m : Mat) (v : Val) : Bool × Int :=
  if m.op = 1 then (if v.kind ≠ m.val.kind then (false, 2) else (jh v m.val, 0)) else if m.op = 2 then wN v m.val else wN m.val v
def okT (m : Mat) (v : Val) : Bool := (againstT m v).1
def badT (m : Mat) (v : Val) : Bool := decide ((againstT m v).2 ≠ 0)
def qax (m : Mat) (l : List Giv) : Int :=
  if (getS m.attr l).2 ≠ 0 then 1 else if (getS m.attr l).1.any (okT m) then 2 else if (getS m.attr l).1.any (badT m) then 1 else 0
def allTT (l : List Mat) (g : List Giv) : Int := l.foldl (fun o m => min o (qax m g)) 2
def anyTT (l : List (List Mat)) (g : List Giv) : Int := l.foldl (fun o x => max o (allTT x g)) 0
def metT (t : Tar) (g : List Giv) : Int := t.foldl (fun o x => min o (anyTT x g)) 2
theorem matchT_range (m : Mat) (l : List Giv) : 0 ≤ qax m l ∧ qax m l ≤ 2 := by
  unfold qax
  split
  · omega
  · split
    · omega
    · split <;> omega
abbrev Mk := Nat × Nat
def mks : List Mk := [(0, 0), (2, 0), (0, 2), (1, 0), (0, 1), (1, 1)]
structure Rs where
  m : Mk
  obls : List Obli
def Rs.ok (x : Rs) : Prop := x.m ∈ mks ∧ (x.m ≠ (2, 0) → x.m ≠ (0, 2) → x.obls = [])
end Go.Proofs.YtppfcacnofjmdaaGreatDoor
namespace Go.Proofs.YtppfcacnofjmdaaGreatDoor
open Go.RowKit
set_option linter.unusedSimpArgs false
set_option linter.unusedVariables false
attribute [local go_sem] ext_cell wi
attribute [local go_sem low] we jp
theorem add_any (a b : Int) (w : World) (ha : R64 a) (hb : R64 b) :
    Calls Tryz.prog 119 #[.int .i64 a, .int .i64 b] w fun e w' => e = .returned (.tuple #[.int .i64 (addS a b).1, .int .i64 (addS a b).2]) ∧ w = w' := by
  obtain ⟨ha, ha'⟩ := ha
  obtain ⟨hb, hb'⟩ := hb
  go_enter Tryz.func119, Tryz.ntmps119
  go_wp2
  all_goals
    go_ret2
    refine ⟨ret_ii ?_, rfl⟩
    go_light
    unfold addS inI
    first | rw [if_pos (by simp; omega)] | rw [if_neg (by simp; omega)]
theorem sub_any (a b : Int) (w : World) (ha : R64 a) (hb : R64 b) :
    Calls Tryz.prog 120 #[.int .i64 a, .int .i64 b] w fun e w' => e = .returned (.tuple #[.int .i64 (subS a b).1, .int .i64 (subS a b).2]) ∧ w = w' := by
  obtain ⟨ha, ha'⟩ := ha
  obtain ⟨hb, hb'⟩ := hb
  go_enter Tryz.func120, Tryz.ntmps120
  go_wp2
  all_goals
    go_ret2
    refine ⟨ret_ii ?_, rfl⟩
    go_light
    unfold subS inI
    first | rw [if_pos (by simp; omega)] | rw [if_neg (by simp; omega)]
theorem mul_any (a b : Int) (w : World) (ha : R64 a) (hb : R64 b) :
    Calls Tryz.prog 121 #[.int .i64 a, .int .i64 b] w fun e w' => e = .returned (.tuple #[.int .i64 (mulS a b).1, .int .i64 (mulS a b).2]) ∧ w = w' := by
  obtain ⟨ha, ha'⟩ := ha
  obtain ⟨hb, hb'⟩ := hb
  by_cases h0 : a = 0
  · subst h0
    go_enter Tryz.func121, Tryz.ntmps121
    go_wp2
    all_goals
      go_ret2
      refine ⟨ret_ii ?_, rfl⟩
      simp [mulS, inI]
  · have H := hide (mul_over ha ha' hb hb' h0)
    go_enter Tryz.func121, Tryz.ntmps121
    go_upto_region 2 with (fail)
    refine wp_spec (by kernel_rfl) ?_
    repeat (refine qH ?_; intro K hK; go_big_quiet_op; go_big_quiet_on)
    refine zx ?_
    intro us
    simp only [junk, Act.put, List.setIfInBounds_toArray, List.set_cons_zero, List.set_cons_succ]
    go_wp2
    · go_ret2
      refine ⟨ret_ii ?_, rfl⟩
      go_light
      unfold mulS
      rw [H.out.1 (by simp_all)]
      rfl
    · go_ret2
      refine ⟨ret_ii ?_, rfl⟩
      go_light
      have hin : inI (a * b) = true := by
        cases hc : inI (a * b) with
        | true => rfl
        | false =>
          exfalso
          have := H.out.2 hc
          simp_all
          first | omega | (rcases this with h | h <;> simp_all)
      unfold mulS
      rw [hin]
      simp only [inI, Bool.and_eq_true, decide_eq_true_eq] at hin
      have : wrap64 (a * b) = a * b := by unfold wrap64; omega
      rw [this]; rfl
theorem truth_any (b : Bool) (w : World) :
    Calls Tryz.prog 117 #[.bool b] w fun e w' => e = .returned (.agg #[.int .i64 1, .int .i64 (bitI b), .string ⟨#[]⟩]) ∧ Below w.heap.size w w' := by
  cases b
  · go_enter Tryz.func117, Tryz.ntmps117
    go_wp2
    refine bodyPost_ret (v := .agg #[.int .i64 1, .int .i64 0, .string ⟨#[]⟩]) (by simp [results, Tryz.results117, go_sem, ↓IntWalk.iteOmega]) rfl ?_
    exact ⟨rfl, (by repeat (first | exact Below.refl _ _ | assumption | refine Below.alloc1 ?_ _ | refine Below.drew ?_ | refine qt ?_ | refine Below.setCell ?_ (by first | exact Nat.le_refl _ | (simp; done) | omega | (simp; omega)) _ | refine Below.lift ?_ (by assumption)))⟩
  · go_enter Tryz.func117, Tryz.ntmps117
    go_wp2
    refine bodyPost_ret (v := .agg #[.int .i64 1, .int .i64 1, .string ⟨#[]⟩]) (by simp [results, Tryz.results117, go_sem, ↓IntWalk.iteOmega]) rfl ?_
    exact ⟨rfl, (by repeat (first | exact Below.refl _ _ | assumption | refine Below.alloc1 ?_ _ | refine Below.drew ?_ | refine qt ?_ | refine Below.setCell ?_ (by first | exact Nat.le_refl _ | (simp; done) | omega | (simp; omega)) _ | refine Below.lift ?_ (by assumption)))⟩
theorem all_any (kind : Int) (l : List Val) (A : Option Addr) (c : Nat) (w : World) (hn : l.length ≤ reachBytes) (h : SlAt rVal 3 w A l) :
    Calls Tryz.prog 122 #[.int .i64 kind, .slice A l.length c] w fun e w' => e = .returned (.bool (allS kind l)) ∧ Below w.heap.size w w' := by
  unfold reachBytes at hn
  go_enter Tryz.func122, Tryz.ntmps122
  go_wp2
  go_loopw [6, 9] (fun _ i wr => ∃ k : Nat, k ≤ l.length ∧ i = .int .i64 k ∧ Below w.heap.size w wr ∧ Hid (allS kind (l.take k) = true)) (fun _ i _ => l.length - (intOf i).toNat)
  case atStart => exact ⟨0, Nat.zero_le _, rfl, Below.refl _ _, rfl⟩
  case round =>
    obtain ⟨k, hk, rfl, hB, hall⟩ := hrel
    by_cases hlt : k < l.length
    · obtain ⟨b, o, rfl, hb, c0, c1, c2, hf⟩ := (h.keep qS hB).val hlt
      have H := hide h
      clear h
      go_wp2
      · go_ret
        refine ⟨wc (all_no hlt ?_).symm, (by repeat (first | exact Below.refl _ _ | assumption | refine Below.alloc1 ?_ _ | refine Below.drew ?_ | refine qt ?_ | refine Below.setCell ?_ (by first | exact Nat.le_refl _ | (simp; done) | omega | (simp; omega)) _ | refine Below.lift ?_ (by assumption)))⟩
        go_light
        simp_all
      · go_roundw
        case rel =>
          refine ⟨k + 1, by omega, by go_num, (by repeat (first | exact Below.refl _ _ | assumption | refine Below.alloc1 ?_ _ | refine Below.drew ?_ | refine qt ?_ | refine Below.setCell ?_ (by first | exact Nat.le_refl _ | (simp; done) | omega | (simp; omega)) _ | refine Below.lift ?_ (by assumption))), all_step hlt hall.out ?_⟩
          go_light
          simp_all
        case measure => simp [intOf]; omega
    · obtain rfl : k = l.length := by omega
      have e := hall.out
      rw [take_all] at e
      have E := hide e
      clear e hall
      go_wp2
      go_ret
      exact ⟨wc E.out.symm, (by repeat (first | exact Below.refl _ _ | assumption | refine Below.alloc1 ?_ _ | refine Below.drew ?_ | refine qt ?_ | refine Below.setCell ?_ (by first | exact Nat.le_refl _ | (simp; done) | omega | (simp; omega)) _ | refine Below.lift ?_ (by assumption)))⟩
theorem wY (op : Int) (l : List Val) (A : Option Addr) (c : Nat) (w : World) (hn : l.length ≤ reachBytes) (h : SlAt rVal 3 w A l) :
    Calls Tryz.prog 116 #[.int .i64 op, .slice A l.length c] w fun e w' => e = .returned (.bool (mayS op l)) ∧ Below w.heap.size w w' := by
  unfold reachBytes at hn
  have H := hide h
  clear h
  rcases Bool.eq_false_or_eq_true (op == 11) with h11 | h11
  all_goals
    have g : mayS op l = (decide (6 ≤ op) && decide (op ≤ 13) && decide ((l.length : Int) = if op == 11 then 1 else 2) && l.all Val.right) := by unfold mayS; simp
    rw [h11] at g
    replace g := hide g
    go_enter Tryz.func116, Tryz.ntmps116
    go_upto_region 4 with (fail)
    refine wp_spec (by kernel_rfl) ?_
    repeat (refine qH ?_; intro K hK; go_big_quiet_op; go_big_quiet_on)
    refine zx ?_
    intro us
    simp only [junk, Act.put, List.setIfInBounds_toArray, List.set_cons_zero, List.set_cons_succ]
    go_upto_region 6 with (fail)
    · go_ret
      refine ⟨wc ?_, (by repeat (first | exact Below.refl _ _ | assumption | refine Below.alloc1 ?_ _ | refine Below.drew ?_ | refine qt ?_ | refine Below.setCell ?_ (by first | exact Nat.le_refl _ | (simp; done) | omega | (simp; omega)) _ | refine Below.lift ?_ (by assumption)))⟩
      rw [g.out]
      go_light
      simp_all
      try omega
    · have hl := g.out
      have hl2 : mayS op l = l.all Val.right := by
        rw [hl]
        clear hl
        go_light
        simp_all
      have G := hide hl2
      rename _ ∧ _ => ht
      replace ht := hide ht
      clear hl hl2 g
      go_wp2
      go_loopw [7, 24] (fun _ i wr => ∃ k : Nat, k ≤ l.length ∧ i = .int .i64 k ∧ Below w.heap.size w wr ∧ Hid ((l.take k).all Val.right = true)) (fun _ i _ => l.length - (intOf i).toNat)
      case atStart => exact ⟨0, Nat.zero_le _, rfl, (by repeat (first | exact Below.refl _ _ | assumption | refine Below.alloc1 ?_ _ | refine Below.drew ?_ | refine qt ?_ | refine Below.setCell ?_ (by first | exact Nat.le_refl _ | (simp; done) | omega | (simp; omega)) _ | refine Below.lift ?_ (by assumption))), rfl⟩
      case round =>
        obtain ⟨k, hk, rfl, hB, hall⟩ := hrel
        by_cases hlt : k < l.length
        · obtain ⟨b, o, rfl, hb, c0, c1, c2, hf⟩ := (H.out.keep qS hB).val hlt
          go_wp2_with (go_at_call 103; refine (right_any _ _ _ _ hf.s).mono ?_; rintro e w2 ⟨rfl, hB2⟩)
          · go_ret
            refine ⟨wc ?_, (by repeat (first | exact Below.refl _ _ | assumption | refine Below.alloc1 ?_ _ | refine Below.drew ?_ | refine qt ?_ | refine Below.setCell ?_ (by first | exact Nat.le_refl _ | (simp; done) | omega | (simp; omega)) _ | refine Below.lift ?_ (by assumption)))⟩
            rw [G.out]
            refine (all_no hlt ?_).symm
            go_light
            simp_all
          · go_roundw
            case rel =>
              refine ⟨k + 1, by omega, by go_num, (by repeat (first | exact Below.refl _ _ | assumption | refine Below.alloc1 ?_ _ | refine Below.drew ?_ | refine qt ?_ | refine Below.setCell ?_ (by first | exact Nat.le_refl _ | (simp; done) | omega | (simp; omega)) _ | refine Below.lift ?_ (by assumption))), all_step hlt hall.out ?_⟩
              go_light
              simp_all
            case measure => simp [intOf]; omega
        · obtain rfl : k = l.length := by omega
          have e := hall.out
          rw [take_all] at e
          have E := hide e
          clear e hall
          go_wp2
          go_ret
          exact ⟨wc (by rw [G.out, E.out]), (by repeat (first | exact Below.refl _ _ | assumption | refine Below.alloc1 ?_ _ | refine Below.drew ?_ | refine qt ?_ | refine Below.setCell ?_ (by first | exact Nat.le_refl _ | (simp; done) | omega | (simp; omega)) _ | refine Below.lift ?_ (by assumption)))⟩
theorem number_any (f : FuncId) (hcf : ∀ args w, (callFunc f args).run Tryz.prog w = .ok (.enter f args) w) (F : Int → Int → Int × Int) (hF : ∀ a b w, R64 a → R64 b → Calls Tryz.prog f #[.int .i64 a, .int .i64 b] w fun e w' => e = .returned (.tuple #[.int .i64 (F a b).1, .int .i64 (F a b).2]) ∧ w = w')
    (x y : Val) (A : Option Addr) (c : Nat) (w : World) (h : SlAt rVal 3 w A [x, y]) :
    Calls Tryz.prog 118 #[.func (.func f) #[] #[], .slice A 2 c] w fun e w' => e = .returned (.tuple #[.agg #[.int .i64 ((qM F x y).1).kind, .int .i64 ((qM F x y).1).n, .string ((qM F x y).1).s], .int .i64 (qM F x y).2]) ∧ Below w.heap.size w w' := by
  have H := hide h
  have HF := hide hF
  obtain ⟨b, o, rfl, hb, ⟨c0, c1, c2⟩, ⟨d0, d1, d2⟩, hx, hy⟩ := h.pair
  clear hF h
  go_enter Tryz.func118, Tryz.ntmps118
  go_wp2_with (go_at_call 122; refine (all_any 2 [x, y] _ _ _ (by simp [reachBytes]) (H.out.keep qS ?_)).mono ?_; rotate_left; rintro e w2 ⟨rfl, hB2⟩; obtain ⟨hc2, hf2⟩ := jF hB2; have hz2 := hB2.size; try simp only [World.size_alloc, World.size_drew] at hc2 hf2 hz2)
  · have e : qM F x y = (noVal, 2) := by
      go_light
      simp_all [qM, allS]
    refine bodyPost_ret (v := .tuple #[.agg #[.int .i64 0, .int .i64 0, .string ⟨#[]⟩], .int .i64 2]) (by simp [results, Tryz.results118, go_sem, ↓IntWalk.iteOmega, hc2]) rfl ?_
    exact ⟨by rw [e]; rfl, (by repeat (first | exact Below.refl _ _ | assumption | refine Below.alloc1 ?_ _ | refine Below.drew ?_ | refine qt ?_ | refine Below.setCell ?_ (by first | exact Nat.le_refl _ | (simp; done) | omega | (simp; omega)) _ | refine Below.lift ?_ (by assumption)))⟩
  · rename _ = false => ht
    replace ht := hide ht
    refine wI (by kernel_rfl) (by kernel_rfl) (by kernel_rfl) ?_
    repeat (refine qH ?_; intro K hK; go_big_quiet_op; go_big_quiet_on)
    refine qH ?_; intro K hK; go_big_quiet_op
    refine ⟨_, fun _ => quiet_eq (HF.out _ _ _ hx.n hy.n), ?_⟩
    go_big_quiet_on
    repeat (refine qH ?_; intro K hK; go_big_quiet_op; go_big_quiet_on)
    refine zx ?_
    intro us w3 hB3
    simp only [junk, Act.put, List.setIfInBounds_toArray, List.set_cons_zero, List.set_cons_succ]
    obtain ⟨hc3, hf3⟩ := jF hB3; have hz3 := hB3.size; try simp only [World.size_alloc, World.size_drew] at hc3 hf3 hz3
    have hk := ht.out
    have hkk : x.kind = 2 ∧ y.kind = 2 := by
      clear ht
      go_light
      simp_all [allS]
    have HK := hide hkk
    clear hk hkk
    go_wp2
    · refine bodyPost_ret (v := .tuple #[.agg #[.int .i64 0, .int .i64 0, .string ⟨#[]⟩], .int .i64 (F x.n y.n).2]) (by simp [results, Tryz.results118, go_sem, ↓IntWalk.iteOmega, hc2, hc3]) rfl ?_
      refine ⟨?_, (by repeat (first | exact Below.refl _ _ | assumption | refine Below.alloc1 ?_ _ | refine Below.drew ?_ | refine qt ?_ | refine Below.setCell ?_ (by first | exact Nat.le_refl _ | (simp; done) | omega | (simp; omega)) _ | refine Below.lift ?_ (by assumption)))⟩
      have : qM F x y = (noVal, (F x.n y.n).2) := by
        have := HK.out
        go_light
        simp_all [qM]
      rw [this]; rfl
    · refine bodyPost_ret (v := .tuple #[.agg #[.int .i64 2, .int .i64 (F x.n y.n).1, .string ⟨#[]⟩], .int .i64 0]) (by simp [results, Tryz.results118, go_sem, ↓IntWalk.iteOmega, hc2, hc3]) rfl ?_
      refine ⟨?_, (by repeat (first | exact Below.refl _ _ | assumption | refine Below.alloc1 ?_ _ | refine Below.drew ?_ | refine qt ?_ | refine Below.setCell ?_ (by first | exact Nat.le_refl _ | (simp; done) | omega | (simp; omega)) _ | refine Below.lift ?_ (by assumption)))⟩
      have : qM F x y = (⟨2, (F x.n y.n).1, ⟨#[]⟩⟩, 0) := by
        have := HK.out
        go_light
        simp_all [qM]
      rw [this]
  · exact (by repeat (first | exact Below.refl _ _ | assumption | refine Below.alloc1 ?_ _ | refine Below.drew ?_ | refine qt ?_ | refine Below.setCell ?_ (by first | exact Nat.le_refl _ | (simp; done) | omega | (simp; omega)) _ | refine Below.lift ?_ (by assumption)))
end Go.Proofs.YtppfcacnofjmdaaGreatDoor
namespace Go.Proofs.YtppfcacnofjmdaaGreatDoor
open Go.RowKit
set_option linter.unusedSimpArgs false
set_option linter.unusedVariables false
attribute [local go_sem] ext_cell wi
attribute [local go_sem low] we jp
attribute [local go_sem ↓] eql_val
abbrev jK (op : Int) (l : List Val) (w : World) : Ending → World → Prop := fun e w' => e = .returned (.tuple #[.agg #[.int .i64 ((qN op l).1).kind, .int .i64 ((qN op l).1).n, .string ((qN op l).1).s], .int .i64 (qN op l).2]) ∧ Below w.heap.size w w'
theorem call_no (op : Int) (l : List Val) (A : Option Addr) (c : Nat) (w : World) (hn : l.length ≤ reachBytes) (h : SlAt rVal 3 w A l) (hm : mayS op l = false) :
    Calls Tryz.prog 92 #[.int .i64 op, .slice A l.length c] w (jK op l w) := by
  have H := hide h
  clear h
  have hr : qN op l = (noVal, 1) := by simp [qN, hm]
  go_enter Tryz.func92, Tryz.ntmps92
  go_wp2_with (go_at_call 116; refine (wY _ _ _ _ _ hn (H.out.keep qS (by repeat (first | exact Below.refl _ _ | assumption | refine Below.alloc1 ?_ _ | refine Below.drew ?_ | refine qt ?_ | refine Below.setCell ?_ (by first | exact Nat.le_refl _ | (simp; done) | omega | (simp; omega)) _ | refine Below.lift ?_ (by assumption))))).mono ?_; rintro e w2 ⟨rfl, hB2⟩; obtain ⟨hc2, hf2⟩ := jF hB2; have hz2 := hB2.size; try simp only [World.size_alloc, World.size_drew] at hc2 hf2 hz2)
  refine bodyPost_ret (v := .tuple #[.agg #[.int .i64 0, .int .i64 0, .string ⟨#[]⟩], .int .i64 1]) (by simp [results, Tryz.results92, go_sem, ↓IntWalk.iteOmega, hc2]) rfl ?_
  exact ⟨by rw [hr]; rfl, (by repeat (first | exact Below.refl _ _ | assumption | refine Below.alloc1 ?_ _ | refine Below.drew ?_ | refine qt ?_ | refine Below.setCell ?_ (by first | exact Nat.le_refl _ | (simp; done) | omega | (simp; omega)) _ | refine Below.lift ?_ (by assumption)))⟩
theorem call_eq (x y : Val) (A : Option Addr) (c : Nat) (w : World) (h : SlAt rVal 3 w A [x, y]) (hm : mayS 6 [x, y] = true) :
    Calls Tryz.prog 92 #[.int .i64 6, .slice A 2 c] w (jK 6 [x, y] w) := by
  have H := hide h
  have hr : Hid (qN 6 [x, y] = if x.kind ≠ y.kind then (noVal, 2) else (jo (jh x y), 0)) := by show _ = _; simp [qN, hm]
  obtain ⟨b, o, rfl, hb, ⟨c0, c1, c2⟩, ⟨d0, d1, d2⟩, hx, hy⟩ := h.pair
  clear h
  go_enter Tryz.func92, Tryz.ntmps92
  go_wp2_with (go_at_call 116; refine (wY 6 [x, y] _ _ _ (by simp [reachBytes]) (H.out.keep qS (by repeat (first | exact Below.refl _ _ | assumption | refine Below.alloc1 ?_ _ | refine Below.drew ?_ | refine qt ?_ | refine Below.setCell ?_ (by first | exact Nat.le_refl _ | (simp; done) | omega | (simp; omega)) _ | refine Below.lift ?_ (by assumption))))).mono ?_; rintro e w2 ⟨rfl, hB2⟩; obtain ⟨hc2, hf2⟩ := jF hB2; have hz2 := hB2.size; try simp only [World.size_alloc, World.size_drew] at hc2 hf2 hz2)
  refine wI (by kernel_rfl) (by kernel_rfl) (by kernel_rfl) ?_
  repeat (refine qH ?_; intro K hK; go_big_quiet_op; go_big_quiet_on)
  refine zx ?_
  intro us w5 hB5
  simp only [junk, Act.put, List.setIfInBounds_toArray, List.set_cons_zero, List.set_cons_succ]
  obtain ⟨hc5, hf5⟩ := jF hB5; have hz5 := hB5.size; try simp only [World.size_alloc, World.size_drew] at hc5 hf5 hz5
  go_upto_region 7 with (fail)
  · refine bodyPost_ret (v := .tuple #[.agg #[.int .i64 0, .int .i64 0, .string ⟨#[]⟩], .int .i64 2]) (by simp [results, Tryz.results92, go_sem, ↓IntWalk.iteOmega, hc2, hc5]) rfl ?_
    refine ⟨?_, (by repeat (first | exact Below.refl _ _ | assumption | refine Below.alloc1 ?_ _ | refine Below.drew ?_ | refine qt ?_ | refine Below.setCell ?_ (by first | exact Nat.le_refl _ | (simp; done) | omega | (simp; omega)) _ | refine Below.lift ?_ (by assumption)))⟩
    rw [hr.out, if_pos (by go_light; simp_all)]; rfl
  · rename _ = false => ht
    replace ht := hide ht
    refine wp_spec_draw_tail 8 (by kernel_rfl) (by kernel_rfl) (by kernel_rfl) ?_
    simp only [List.take_succ_cons, List.take_zero, List.drop_succ_cons, List.drop_zero]
    repeat (refine qH ?_; intro K hK; go_big_quiet_op; go_big_quiet_on)
    refine qH ?_; intro K hK; go_big_quiet_op
    refine ⟨_, fun _ => wQ (truth_any _ _), ?_⟩
    go_big_quiet_on
    repeat (refine qH ?_; intro K hK; go_big_quiet_op; go_big_quiet_on)
    refine zx ?_
    intro us w7 hB7
    simp only [junk, Act.put, List.setIfInBounds_toArray, List.set_cons_zero, List.set_cons_succ]
    obtain ⟨hc7, hf7⟩ := jF hB7; have hz7 := hB7.size; try simp only [World.size_alloc, World.size_drew] at hc7 hf7 hz7
    go_wp2
    refine bodyPost_ret (v := .tuple #[.agg #[.int .i64 1, .int .i64 (bitI (jh x y)), .string ⟨#[]⟩], .int .i64 0]) (by simp [results, Tryz.results92, go_sem, ↓IntWalk.iteOmega, hc2, hc5, hc7]) rfl ?_
    refine ⟨?_, (by repeat (first | exact Below.refl _ _ | assumption | refine Below.alloc1 ?_ _ | refine Below.drew ?_ | refine qt ?_ | refine Below.setCell ?_ (by first | exact Nat.le_refl _ | (simp; done) | omega | (simp; omega)) _ | refine Below.lift ?_ (by assumption)))⟩
    rw [hr.out, if_neg (by have := ht.out; clear ht; go_light; simp_all)]; rfl
theorem call_less (x y : Val) (A : Option Addr) (c : Nat) (w : World) (h : SlAt rVal 3 w A [x, y]) (hm : mayS 7 [x, y] = true) :
    Calls Tryz.prog 92 #[.int .i64 7, .slice A 2 c] w (jK 7 [x, y] w) := by
  have H := hide h
  have hr : Hid (qN 7 [x, y] = if (wN x y).2 ≠ 0 then (noVal, (wN x y).2) else (jo (wN x y).1, 0)) := by show _ = _; simp [qN, hm]
  obtain ⟨b, o, rfl, hb, ⟨c0, c1, c2⟩, ⟨d0, d1, d2⟩, hx, hy⟩ := h.pair
  clear h
  go_enter Tryz.func92, Tryz.ntmps92
  go_wp2_with (go_at_call 116; refine (wY 7 [x, y] _ _ _ (by simp [reachBytes]) (H.out.keep qS (by repeat (first | exact Below.refl _ _ | assumption | refine Below.alloc1 ?_ _ | refine Below.drew ?_ | refine qt ?_ | refine Below.setCell ?_ (by first | exact Nat.le_refl _ | (simp; done) | omega | (simp; omega)) _ | refine Below.lift ?_ (by assumption))))).mono ?_; rintro e w2 ⟨rfl, hB2⟩; obtain ⟨hc2, hf2⟩ := jF hB2; have hz2 := hB2.size; try simp only [World.size_alloc, World.size_drew] at hc2 hf2 hz2)
  refine wI (by kernel_rfl) (by kernel_rfl) (by kernel_rfl) ?_
  repeat (refine qH ?_; intro K hK; go_big_quiet_op; go_big_quiet_on)
  refine qH ?_; intro K hK; go_big_quiet_op
  refine ⟨_, fun _ => wQ (less_any _ _ _ _ _ _ _ hx.s hy.s), ?_⟩
  go_big_quiet_on
  repeat (refine qH ?_; intro K hK; go_big_quiet_op; go_big_quiet_on)
  refine zx ?_
  intro us w9 hB9
  simp only [junk, Act.put, List.setIfInBounds_toArray, List.set_cons_zero, List.set_cons_succ]
  obtain ⟨hc9, hf9⟩ := jF hB9; have hz9 := hB9.size; try simp only [World.size_alloc, World.size_drew] at hc9 hf9 hz9
  go_wp2_with (go_at_call 117; refine (truth_any _ _).mono ?_; rintro e w3 ⟨rfl, hB3⟩; obtain ⟨hc3, hf3⟩ := jF hB3; have hz3 := hB3.size; try simp only [World.size_alloc, World.size_drew] at hc3 hf3 hz3)
  · refine bodyPost_ret (v := .tuple #[.agg #[.int .i64 0, .int .i64 0, .string ⟨#[]⟩], .int .i64 (wN x y).2]) (by simp [results, Tryz.results92, go_sem, ↓IntWalk.iteOmega, hc2, hc9]) rfl ?_
    refine ⟨?_, (by repeat (first | exact Below.refl _ _ | assumption | refine Below.alloc1 ?_ _ | refine Below.drew ?_ | refine qt ?_ | refine Below.setCell ?_ (by first | exact Nat.le_refl _ | (simp; done) | omega | (simp; omega)) _ | refine Below.lift ?_ (by assumption)))⟩
    rw [hr.out, if_pos (by go_light; simp_all)]; rfl
  · refine bodyPost_ret (v := .tuple #[.agg #[.int .i64 1, .int .i64 (bitI (wN x y).1), .string ⟨#[]⟩], .int .i64 0]) (by simp [results, Tryz.results92, go_sem, ↓IntWalk.iteOmega, hc2, hc9, hc3]) rfl ?_
    refine ⟨?_, (by repeat (first | exact Below.refl _ _ | assumption | refine Below.alloc1 ?_ _ | refine Below.drew ?_ | refine qt ?_ | refine Below.setCell ?_ (by first | exact Nat.le_refl _ | (simp; done) | omega | (simp; omega)) _ | refine Below.lift ?_ (by assumption)))⟩
    rw [hr.out, if_neg (by go_light; simp_all)]; rfl
theorem call_add (x y : Val) (A : Option Addr) (c : Nat) (w : World) (h : SlAt rVal 3 w A [x, y]) (hm : mayS 8 [x, y] = true) :
    Calls Tryz.prog 92 #[.int .i64 8, .slice A 2 c] w (jK 8 [x, y] w) := by
  have H := hide h
  have hr : Hid (qN 8 [x, y] = qM addS x y) := by show _ = _; simp [qN, hm]
  clear h
  go_enter Tryz.func92, Tryz.ntmps92
  go_wp2_with (first | (go_at_call 116; refine (wY 8 [x, y] _ _ _ (by simp [reachBytes]) (H.out.keep qS (by repeat (first | exact Below.refl _ _ | assumption | refine Below.alloc1 ?_ _ | refine Below.drew ?_ | refine qt ?_ | refine Below.setCell ?_ (by first | exact Nat.le_refl _ | (simp; done) | omega | (simp; omega)) _ | refine Below.lift ?_ (by assumption))))).mono ?_; rintro e w2 ⟨rfl, hB2⟩; obtain ⟨hc2, hf2⟩ := jF hB2; have hz2 := hB2.size; try simp only [World.size_alloc, World.size_drew] at hc2 hf2 hz2) | (go_at_call 118; refine (number_any 119 (wz Tryz.func119 (by kernel_rfl) (by kernel_rfl)) addS add_any x y _ _ _ (H.out.keep qS (by repeat (first | exact Below.refl _ _ | assumption | refine Below.alloc1 ?_ _ | refine Below.drew ?_ | refine qt ?_ | refine Below.setCell ?_ (by first | exact Nat.le_refl _ | (simp; done) | omega | (simp; omega)) _ | refine Below.lift ?_ (by assumption))))).mono ?_; rintro e w3 ⟨rfl, hB3⟩; obtain ⟨hc3, hf3⟩ := jF hB3; have hz3 := hB3.size; try simp only [World.size_alloc, World.size_drew] at hc3 hf3 hz3))
  refine bodyPost_ret (v := .tuple #[.agg #[.int .i64 ((qM addS x y).1).kind, .int .i64 ((qM addS x y).1).n, .string ((qM addS x y).1).s], .int .i64 (qM addS x y).2]) (by simp [results, Tryz.results92, go_sem, ↓IntWalk.iteOmega, hc2, hc3]) rfl ?_
  exact ⟨by rw [hr.out], (by repeat (first | exact Below.refl _ _ | assumption | refine Below.alloc1 ?_ _ | refine Below.drew ?_ | refine qt ?_ | refine Below.setCell ?_ (by first | exact Nat.le_refl _ | (simp; done) | omega | (simp; omega)) _ | refine Below.lift ?_ (by assumption)))⟩
theorem call_sub (x y : Val) (A : Option Addr) (c : Nat) (w : World) (h : SlAt rVal 3 w A [x, y]) (hm : mayS 9 [x, y] = true) :
    Calls Tryz.prog 92 #[.int .i64 9, .slice A 2 c] w (jK 9 [x, y] w) := by
  have H := hide h
  have hr : Hid (qN 9 [x, y] = qM subS x y) := by show _ = _; simp [qN, hm]
  clear h
  go_enter Tryz.func92, Tryz.ntmps92
  go_wp2_with (first | (go_at_call 116; refine (wY 9 [x, y] _ _ _ (by simp [reachBytes]) (H.out.keep qS (by repeat (first | exact Below.refl _ _ | assumption | refine Below.alloc1 ?_ _ | refine Below.drew ?_ | refine qt ?_ | refine Below.setCell ?_ (by first | exact Nat.le_refl _ | (simp; done) | omega | (simp; omega)) _ | refine Below.lift ?_ (by assumption))))).mono ?_; rintro e w2 ⟨rfl, hB2⟩; obtain ⟨hc2, hf2⟩ := jF hB2; have hz2 := hB2.size; try simp only [World.size_alloc, World.size_drew] at hc2 hf2 hz2) | (go_at_call 118; refine (number_any 120 (wz Tryz.func120 (by kernel_rfl) (by kernel_rfl)) subS sub_any x y _ _ _ (H.out.keep qS (by repeat (first | exact Below.refl _ _ | assumption | refine Below.alloc1 ?_ _ | refine Below.drew ?_ | refine qt ?_ | refine Below.setCell ?_ (by first | exact Nat.le_refl _ | (simp; done) | omega | (simp; omega)) _ | refine Below.lift ?_ (by assumption))))).mono ?_; rintro e w3 ⟨rfl, hB3⟩; obtain ⟨hc3, hf3⟩ := jF hB3; have hz3 := hB3.size; try simp only [World.size_alloc, World.size_drew] at hc3 hf3 hz3))
  refine bodyPost_ret (v := .tuple #[.agg #[.int .i64 ((qM subS x y).1).kind, .int .i64 ((qM subS x y).1).n, .string ((qM subS x y).1).s], .int .i64 (qM subS x y).2]) (by simp [results, Tryz.results92, go_sem, ↓IntWalk.iteOmega, hc2, hc3]) rfl ?_
  exact ⟨by rw [hr.out], (by repeat (first | exact Below.refl _ _ | assumption | refine Below.alloc1 ?_ _ | refine Below.drew ?_ | refine qt ?_ | refine Below.setCell ?_ (by first | exact Nat.le_refl _ | (simp; done) | omega | (simp; omega)) _ | refine Below.lift ?_ (by assumption)))⟩
theorem call_mul (x y : Val) (A : Option Addr) (c : Nat) (w : World) (h : SlAt rVal 3 w A [x, y]) (hm : mayS 10 [x, y] = true) :
    Calls Tryz.prog 92 #[.int .i64 10, .slice A 2 c] w (jK 10 [x, y] w) := by
  have H := hide h
  have hr : Hid (qN 10 [x, y] = qM mulS x y) := by show _ = _; simp [qN, hm]
  clear h
  go_enter Tryz.func92, Tryz.ntmps92
  go_wp2_with (first | (go_at_call 116; refine (wY 10 [x, y] _ _ _ (by simp [reachBytes]) (H.out.keep qS (by repeat (first | exact Below.refl _ _ | assumption | refine Below.alloc1 ?_ _ | refine Below.drew ?_ | refine qt ?_ | refine Below.setCell ?_ (by first | exact Nat.le_refl _ | (simp; done) | omega | (simp; omega)) _ | refine Below.lift ?_ (by assumption))))).mono ?_; rintro e w2 ⟨rfl, hB2⟩; obtain ⟨hc2, hf2⟩ := jF hB2; have hz2 := hB2.size; try simp only [World.size_alloc, World.size_drew] at hc2 hf2 hz2) | (go_at_call 118; refine (number_any 121 (wz Tryz.func121 (by kernel_rfl) (by kernel_rfl)) mulS mul_any x y _ _ _ (H.out.keep qS (by repeat (first | exact Below.refl _ _ | assumption | refine Below.alloc1 ?_ _ | refine Below.drew ?_ | refine qt ?_ | refine Below.setCell ?_ (by first | exact Nat.le_refl _ | (simp; done) | omega | (simp; omega)) _ | refine Below.lift ?_ (by assumption))))).mono ?_; rintro e w3 ⟨rfl, hB3⟩; obtain ⟨hc3, hf3⟩ := jF hB3; have hz3 := hB3.size; try simp only [World.size_alloc, World.size_drew] at hc3 hf3 hz3))
  refine bodyPost_ret (v := .tuple #[.agg #[.int .i64 ((qM mulS x y).1).kind, .int .i64 ((qM mulS x y).1).n, .string ((qM mulS x y).1).s], .int .i64 (qM mulS x y).2]) (by simp [results, Tryz.results92, go_sem, ↓IntWalk.iteOmega, hc2, hc3]) rfl ?_
  exact ⟨by rw [hr.out], (by repeat (first | exact Below.refl _ _ | assumption | refine Below.alloc1 ?_ _ | refine Below.drew ?_ | refine qt ?_ | refine Below.setCell ?_ (by first | exact Nat.le_refl _ | (simp; done) | omega | (simp; omega)) _ | refine Below.lift ?_ (by assumption)))⟩
end Go.Proofs.YtppfcacnofjmdaaGreatDoor
namespace Go.Proofs.YtppfcacnofjmdaaGreatDoor
open Go.RowKit
set_option linter.unusedSimpArgs false
set_option linter.unusedVariables false
attribute [local go_sem] ext_cell wi
attribute [local go_sem low] we jp
attribute [local go_sem ↓] eql_val
theorem call_not (x : Val) (A : Option Addr) (c : Nat) (w : World) (h : SlAt rVal 3 w A [x]) (hm : mayS 11 [x] = true) :
    Calls Tryz.prog 92 #[.int .i64 11, .slice A 1 c] w (jK 11 [x] w) := by
  have H := hide h
  have hr : Hid (qN 11 [x] = if allS 1 [x] then (jo (x.n == 0), 0) else (noVal, 2)) := by show _ = _; simp [qN, hm]; cases allS 1 _ <;> rfl
  obtain ⟨b, o, rfl, hb, ⟨c0, c1, c2⟩, hx⟩ := h.lone
  clear h
  go_enter Tryz.func92, Tryz.ntmps92
  go_wp2_with (first | (go_at_call 116; refine (wY 11 [x] _ _ _ (by simp [reachBytes]) (H.out.keep qS (by repeat (first | exact Below.refl _ _ | assumption | refine Below.alloc1 ?_ _ | refine Below.drew ?_ | refine qt ?_ | refine Below.setCell ?_ (by first | exact Nat.le_refl _ | (simp; done) | omega | (simp; omega)) _ | refine Below.lift ?_ (by assumption))))).mono ?_; rintro e w2 ⟨rfl, hB2⟩; obtain ⟨hc2, hf2⟩ := jF hB2; have hz2 := hB2.size; try simp only [World.size_alloc, World.size_drew] at hc2 hf2 hz2) | (go_at_call 122; refine (all_any 1 [x] _ _ _ (by simp [reachBytes]) (H.out.keep qS (by repeat (first | exact Below.refl _ _ | assumption | refine Below.alloc1 ?_ _ | refine Below.drew ?_ | refine qt ?_ | refine Below.setCell ?_ (by first | exact Nat.le_refl _ | (simp; done) | omega | (simp; omega)) _ | refine Below.lift ?_ (by assumption))))).mono ?_; rintro e w4 ⟨rfl, hB4⟩; obtain ⟨hc4, hf4⟩ := jF hB4; have hz4 := hB4.size; try simp only [World.size_alloc, World.size_drew] at hc4 hf4 hz4) | (go_at_call 117; refine (truth_any _ _).mono ?_; rintro e w3 ⟨rfl, hB3⟩; obtain ⟨hc3, hf3⟩ := jF hB3; have hz3 := hB3.size; try simp only [World.size_alloc, World.size_drew] at hc3 hf3 hz3))
  · refine bodyPost_ret (v := .tuple #[.agg #[.int .i64 0, .int .i64 0, .string ⟨#[]⟩], .int .i64 2]) (by simp [results, Tryz.results92, go_sem, ↓IntWalk.iteOmega, hc2, hc4]) rfl ?_
    refine ⟨?_, (by repeat (first | exact Below.refl _ _ | assumption | refine Below.alloc1 ?_ _ | refine Below.drew ?_ | refine qt ?_ | refine Below.setCell ?_ (by first | exact Nat.le_refl _ | (simp; done) | omega | (simp; omega)) _ | refine Below.lift ?_ (by assumption)))⟩
    rw [hr.out, if_neg (by go_light; simp_all)]; rfl
  · refine bodyPost_ret (v := .tuple #[.agg #[.int .i64 1, .int .i64 (bitI (x.n == 0)), .string ⟨#[]⟩], .int .i64 0]) (by simp [results, Tryz.results92, go_sem, ↓IntWalk.iteOmega, hc2, hc4, hc3]) rfl ?_
    refine ⟨?_, (by repeat (first | exact Below.refl _ _ | assumption | refine Below.alloc1 ?_ _ | refine Below.drew ?_ | refine qt ?_ | refine Below.setCell ?_ (by first | exact Nat.le_refl _ | (simp; done) | omega | (simp; omega)) _ | refine Below.lift ?_ (by assumption)))⟩
    rw [hr.out, if_pos (by go_light; simp_all)]; rfl
theorem call_and (x y : Val) (A : Option Addr) (c : Nat) (w : World) (h : SlAt rVal 3 w A [x, y]) (hm : mayS 12 [x, y] = true) :
    Calls Tryz.prog 92 #[.int .i64 12, .slice A 2 c] w (jK 12 [x, y] w) := by
  have H := hide h
  have hr : Hid (qN 12 [x, y] = if allS 1 [x, y] then (jo (x.n == 1 && y.n == 1), 0) else (noVal, 2)) := by show _ = _; simp [qN, hm]; cases allS 1 _ <;> rfl
  obtain ⟨b, o, rfl, hb, ⟨c0, c1, c2⟩, ⟨d0, d1, d2⟩, hx, hy⟩ := h.pair
  clear h
  go_enter Tryz.func92, Tryz.ntmps92
  go_upto_region 25 with (first | (go_at_call 116; refine (wY 12 [x, y] _ _ _ (by simp [reachBytes]) (H.out.keep qS (by repeat (first | exact Below.refl _ _ | assumption | refine Below.alloc1 ?_ _ | refine Below.drew ?_ | refine qt ?_ | refine Below.setCell ?_ (by first | exact Nat.le_refl _ | (simp; done) | omega | (simp; omega)) _ | refine Below.lift ?_ (by assumption))))).mono ?_; rintro e w2 ⟨rfl, hB2⟩; obtain ⟨hc2, hf2⟩ := jF hB2; have hz2 := hB2.size; try simp only [World.size_alloc, World.size_drew] at hc2 hf2 hz2) | (go_at_call 122; refine (all_any 1 [x, y] _ _ _ (by simp [reachBytes]) (H.out.keep qS (by repeat (first | exact Below.refl _ _ | assumption | refine Below.alloc1 ?_ _ | refine Below.drew ?_ | refine qt ?_ | refine Below.setCell ?_ (by first | exact Nat.le_refl _ | (simp; done) | omega | (simp; omega)) _ | refine Below.lift ?_ (by assumption))))).mono ?_; rintro e w4 ⟨rfl, hB4⟩; obtain ⟨hc4, hf4⟩ := jF hB4; have hz4 := hB4.size; try simp only [World.size_alloc, World.size_drew] at hc4 hf4 hz4))
  · refine bodyPost_ret (v := .tuple #[.agg #[.int .i64 0, .int .i64 0, .string ⟨#[]⟩], .int .i64 2]) (by simp [results, Tryz.results92, go_sem, ↓IntWalk.iteOmega, hc2, hc4]) rfl ?_
    refine ⟨?_, (by repeat (first | exact Below.refl _ _ | assumption | refine Below.alloc1 ?_ _ | refine Below.drew ?_ | refine qt ?_ | refine Below.setCell ?_ (by first | exact Nat.le_refl _ | (simp; done) | omega | (simp; omega)) _ | refine Below.lift ?_ (by assumption)))⟩
    rw [hr.out, if_neg (by go_light; simp_all)]; rfl
  · skip
    refine wp_spec_tail 13 (by kernel_rfl) ?_
    simp only [List.take_succ_cons, List.take_zero, List.drop_succ_cons, List.drop_zero]
    repeat (refine qH ?_; intro K hK; go_big_quiet_op; go_big_quiet_on)
    refine qH ?_; intro K hK; go_big_quiet_op
    refine ⟨_, fun _ => wQ (truth_any _ _), ?_⟩
    go_big_quiet_on
    repeat (refine qH ?_; intro K hK; go_big_quiet_op; go_big_quiet_on)
    refine zx ?_
    intro us w25 hB25
    simp only [junk, Act.put, List.setIfInBounds_toArray, List.set_cons_zero, List.set_cons_succ]
    obtain ⟨hc25, hf25⟩ := jF hB25; have hz25 := hB25.size; try simp only [World.size_alloc, World.size_drew] at hc25 hf25 hz25
    go_wp2
    refine bodyPost_ret (v := .tuple #[.agg #[.int .i64 1, .int .i64 (bitI (x.n == 1 && y.n == 1)), .string ⟨#[]⟩], .int .i64 0]) (by simp [results, Tryz.results92, go_sem, ↓IntWalk.iteOmega, hc2, hc4, hc25]) rfl ?_
    refine ⟨?_, (by repeat (first | exact Below.refl _ _ | assumption | refine Below.alloc1 ?_ _ | refine Below.drew ?_ | refine qt ?_ | refine Below.setCell ?_ (by first | exact Nat.le_refl _ | (simp; done) | omega | (simp; omega)) _ | refine Below.lift ?_ (by assumption)))⟩
    rw [hr.out, if_pos (by go_light; simp_all)]; rfl
theorem call_or (x y : Val) (A : Option Addr) (c : Nat) (w : World) (h : SlAt rVal 3 w A [x, y]) (hm : mayS 13 [x, y] = true) :
    Calls Tryz.prog 92 #[.int .i64 13, .slice A 2 c] w (jK 13 [x, y] w) := by
  have H := hide h
  have hr : Hid (qN 13 [x, y] = if allS 1 [x, y] then (jo (x.n == 1 || y.n == 1), 0) else (noVal, 2)) := by show _ = _; simp [qN, hm]; cases allS 1 _ <;> rfl
  obtain ⟨b, o, rfl, hb, ⟨c0, c1, c2⟩, ⟨d0, d1, d2⟩, hx, hy⟩ := h.pair
  clear h
  go_enter Tryz.func92, Tryz.ntmps92
  go_upto_region 26 with (first | (go_at_call 116; refine (wY 13 [x, y] _ _ _ (by simp [reachBytes]) (H.out.keep qS (by repeat (first | exact Below.refl _ _ | assumption | refine Below.alloc1 ?_ _ | refine Below.drew ?_ | refine qt ?_ | refine Below.setCell ?_ (by first | exact Nat.le_refl _ | (simp; done) | omega | (simp; omega)) _ | refine Below.lift ?_ (by assumption))))).mono ?_; rintro e w2 ⟨rfl, hB2⟩; obtain ⟨hc2, hf2⟩ := jF hB2; have hz2 := hB2.size; try simp only [World.size_alloc, World.size_drew] at hc2 hf2 hz2) | (go_at_call 122; refine (all_any 1 [x, y] _ _ _ (by simp [reachBytes]) (H.out.keep qS (by repeat (first | exact Below.refl _ _ | assumption | refine Below.alloc1 ?_ _ | refine Below.drew ?_ | refine qt ?_ | refine Below.setCell ?_ (by first | exact Nat.le_refl _ | (simp; done) | omega | (simp; omega)) _ | refine Below.lift ?_ (by assumption))))).mono ?_; rintro e w4 ⟨rfl, hB4⟩; obtain ⟨hc4, hf4⟩ := jF hB4; have hz4 := hB4.size; try simp only [World.size_alloc, World.size_drew] at hc4 hf4 hz4))
  · refine bodyPost_ret (v := .tuple #[.agg #[.int .i64 0, .int .i64 0, .string ⟨#[]⟩], .int .i64 2]) (by simp [results, Tryz.results92, go_sem, ↓IntWalk.iteOmega, hc2, hc4]) rfl ?_
    refine ⟨?_, (by repeat (first | exact Below.refl _ _ | assumption | refine Below.alloc1 ?_ _ | refine Below.drew ?_ | refine qt ?_ | refine Below.setCell ?_ (by first | exact Nat.le_refl _ | (simp; done) | omega | (simp; omega)) _ | refine Below.lift ?_ (by assumption)))⟩
    rw [hr.out, if_neg (by go_light; simp_all)]; rfl
  · skip
    refine wp_spec_tail 13 (by kernel_rfl) ?_
    simp only [List.take_succ_cons, List.take_zero, List.drop_succ_cons, List.drop_zero]
    repeat (refine qH ?_; intro K hK; go_big_quiet_op; go_big_quiet_on)
    refine qH ?_; intro K hK; go_big_quiet_op
    refine ⟨_, fun _ => wQ (truth_any _ _), ?_⟩
    go_big_quiet_on
    repeat (refine qH ?_; intro K hK; go_big_quiet_op; go_big_quiet_on)
    refine zx ?_
    intro us w26 hB26
    simp only [junk, Act.put, List.setIfInBounds_toArray, List.set_cons_zero, List.set_cons_succ]
    obtain ⟨hc26, hf26⟩ := jF hB26; have hz26 := hB26.size; try simp only [World.size_alloc, World.size_drew] at hc26 hf26 hz26
    go_wp2
    refine bodyPost_ret (v := .tuple #[.agg #[.int .i64 1, .int .i64 (bitI (x.n == 1 || y.n == 1)), .string ⟨#[]⟩], .int .i64 0]) (by simp [results, Tryz.results92, go_sem, ↓IntWalk.iteOmega, hc2, hc4, hc26]) rfl ?_
    refine ⟨?_, (by repeat (first | exact Below.refl _ _ | assumption | refine Below.alloc1 ?_ _ | refine Below.drew ?_ | refine qt ?_ | refine Below.setCell ?_ (by first | exact Nat.le_refl _ | (simp; done) | omega | (simp; omega)) _ | refine Below.lift ?_ (by assumption)))⟩
    rw [hr.out, if_pos (by go_light; simp_all)]; rfl
theorem call_any (op : Int) (l : List Val) (A : Option Addr) (c : Nat) (w : World) (hn : l.length ≤ reachBytes) (h : SlAt rVal 3 w A l) :
    Calls Tryz.prog 92 #[.int .i64 op, .slice A l.length c] w (jK op l w) := by
  cases hm : mayS op l with
  | false => exact call_no op l A c w hn h hm
  | true =>
    have hm' := hm
    simp only [mayS, Bool.and_eq_true, decide_eq_true_eq] at hm'
    obtain ⟨⟨⟨h1, h2⟩, h3⟩, _⟩ := hm'
    rcases (show op = 6 ∨ op = 7 ∨ op = 8 ∨ op = 9 ∨ op = 10 ∨ op = 11 ∨ op = 12 ∨ op = 13 by omega) with rfl | rfl | rfl | rfl | rfl | rfl | rfl | rfl
    all_goals
      simp only [Int.reduceEq, if_true, if_false] at h3
      match l, h3 with
      | [x], h3 => first | exact call_not x A c w h hm | (simp at h3)
      | [x, y], h3 => first | exact call_eq x y A c w h hm | exact call_less x y A c w h hm | exact call_add x y A c w h hm | exact call_sub x y A c w h hm | exact call_mul x y A c w h hm | exact call_and x y A c w h hm | exact call_or x y A c w h hm | (simp at h3)
      | [], h3 => simp at h3
      | _ :: _ :: _ :: _, h3 => simp at h3; omega
end Go.Proofs.YtppfcacnofjmdaaGreatDoor
namespace Go.Proofs.YtppfcacnofjmdaaGreatDoor
set_option linter.unusedVariables false
set_option linter.unusedSimpArgs false
open Go.RowKit
structure Itm.Fit (x : Itm) : Prop where
  bag : ∀ v ∈ x.bag, v.Fit
  v : x.v.Fit
  len : x.bag.length ≤ 1000000
theorem jR : noVal.Fit := ⟨⟨by decide, by decide⟩, ⟨by decide, by decide⟩, by decide⟩
theorem truthS_fit (b : Bool) : (jo b).Fit := by cases b <;> exact ⟨⟨by decide, by decide⟩, ⟨by decide, by decide⟩, by decide⟩
theorem num_fit {n : Int} (h : R64 n) : (⟨2, n, ⟨#[]⟩⟩ : Val).Fit := ⟨⟨by show _ ≤ (2 : Int); omega, by show (2 : Int) ≤ _; omega⟩, h, by show (⟨#[]⟩ : ByteArray).size ≤ reachBytes; decide⟩
theorem inI_r64 {n : Int} (h : inI n = true) : R64 n := by
  simp only [inI, Bool.and_eq_true, decide_eq_true_eq] at h
  exact ⟨by omega, by omega⟩
theorem number_fit {f : Int → Int → Int × Int} (hf : ∀ a b, (f a b).2 = 0 → R64 (f a b).1) (x y : Val) : (qM f x y).1.Fit := by
  unfold qM
  split
  · exact jR
  · split
    · exact jR
    · rename_i h
      exact num_fit (hf _ _ (Classical.byContradiction h))
theorem add_fit (a b : Int) : (addS a b).2 = 0 → R64 (addS a b).1 := by
  unfold addS
  split
  · rename_i h; exact fun _ => inI_r64 h
  · intro h; cases h
theorem sub_fit (a b : Int) : (subS a b).2 = 0 → R64 (subS a b).1 := by
  unfold subS
  split
  · rename_i h; exact fun _ => inI_r64 h
  · intro h; cases h
theorem mul_fit (a b : Int) : (mulS a b).2 = 0 → R64 (mulS a b).1 := by
  unfold mulS
  split
  · rename_i h; exact fun _ => inI_r64 h
  · intro h; cases h
theorem callS_fit (op : Int) (l : List Val) : (qN op l).1.Fit := by
  unfold qN
  split
  · exact jR
  · simp only
    repeat' split
    all_goals first | exact jR | exact truthS_fit _ | exact number_fit add_fit _ _ | exact number_fit sub_fit _ _ | exact number_fit mul_fit _ _
theorem bagS_mem {cat : Int} {name : ByteArray} {g : List Giv} {Q : List Val → Prop} (h0 : Q []) (h : ∀ x ∈ g, Q x.bag) : Q (bagS cat name g) := by
  rcases place_cases cat name g with ⟨_, hb, _⟩ | ⟨k, hk, _, hb, _⟩
  · rw [hb]; exact h0
  · rw [hb]; exact h _ (List.getElem_mem hk)
theorem getS_mem {a : Atr} {g : List Giv} {Q : List Val → Prop} (h0 : Q []) (h : ∀ x ∈ g, Q x.bag) : Q (getS a g).1 := by
  unfold getS
  split
  · exact h0
  · exact bagS_mem h0 h
theorem nodeS_fit {n : Nod} (hn : n.Fit) {l : List Itm} (hl : ∀ x ∈ l, x.Fit) {g : List Giv} (hg : ∀ x ∈ g, x.Fit) (hb : ∀ x ∈ g, x.bag.length ≤ 1000000) : (zc n l g).Fit := by
  have e0 : ∀ v ∈ ([] : List Val), v.Fit := fun v hv => by simp at hv
  have d0 : (l.getD 0 noItm).Fit := by
    cases l with
    | nil => exact ⟨e0, jR, Nat.zero_le _⟩
    | cons x r => exact hl x (by simp)
  have sz : ∀ {v : Val}, v.Fit → (Itm.mk [] v 0).Fit := fun h => ⟨e0, h, Nat.zero_le _⟩
  have sz' : ∀ {v : Val} (e : Int), v.Fit → (Itm.mk [] v e).Fit := fun _ h => ⟨e0, h, Nat.zero_le _⟩
  unfold zc
  split
  · exact sz hn.val
  · split
    · exact ⟨getS_mem (Q := fun b => ∀ v ∈ b, v.Fit) e0 fun x hx => (hg x hx).bag, jR, getS_mem (Q := fun b => b.length ≤ 1000000) (Nat.zero_le _) hb⟩
    · split
      · exact sz (truthS_fit _)
      · split
        · exact sz' _ jR
        · unfold lastS
          repeat' split
          · refine sz ?_
            rename_i h1
            match hb : (l.getD 0 noItm).bag, h1 with
            | [v], _ => exact d0.bag v (by rw [hb]; simp)
          · exact sz' _ jR
          · have := d0.len
            exact sz (num_fit ⟨by omega, by omega⟩)
          · exact sz (truthS_fit _)
          · exact sz' _ (callS_fit _ _)
theorem rel_val {ok : Nat → Prop} {w : World} (x : Val) : RelP ok w (.agg x.pv) x.v := by
  refine .agg rfl fun i s u hs hu => ?_
  match i, hs, hu with
  | 0, hs, hu => cases hs; cases hu; exact .v rfl
  | 1, hs, hu => cases hs; cases hu; exact .v rfl
  | 2, hs, hu => cases hs; cases hu; exact .v rfl
theorem rel_two {ok : Nat → Prop} {H : Nat → Option Value} {w : World} {p q : PV} {u v : Value} (h : RelP ok w p u) (k : RelP ok w q v) : RelS ok H w (.tup [.p p, .p q]) (.tuple #[u, v]) := by
  refine .tup rfl fun i s x hs hx => ?_
  match i, hs, hx with
  | 0, hs, hx => cases hs; cases hx; exact .p h
  | 1, hs, hx => cases hs; cases hx; exact .p k
theorem call_h (op : Int) (l : List Val) (hf : ∀ x ∈ l, x.Fit) : Holds Tryz.prog 92 [pI op, valsP l] (.tup [.p (.agg (qN op l).1.pv), .p (pI (qN op l).2)]) [] :=
  .of_calls Tryz.func92 (by kernel_rfl) rfl (fun w vs hl hr => by
    obtain ⟨u, v, rfl⟩ : ∃ u v, vs = [u, v] := by
      match vs, hl with
      | [u, v], _ => exact ⟨u, v, rfl⟩
    have h := zX (hr 0 _ u rfl rfl) rfl
    subst h
    obtain ⟨A, c, rfl, h1, h2, h3⟩ := vals_typed (hr 1 _ v rfl rfl) hf
    exact call_any op l A c w h2.1 h3) rfl fun w => rel_two (rel_val _) (.v rfl)
end Go.Proofs.YtppfcacnofjmdaaGreatDoor
namespace Go.Proofs.YtppfcacnofjmdaaGreatDoor
set_option linter.unusedVariables false
set_option linter.unusedSimpArgs false
open Go.RowKit
set_option maxHeartbeats 4000000
theorem against_h (m : Mat) (v : Val) (hm : m.val.s.size ≤ reachBytes) (hv : v.s.size ≤ reachBytes) : Holds Tryz.prog 63 [.agg m.pv, .agg v.pv] (.tup [.p (pB (againstT m v).1), .p (pI (againstT m v).2)]) [] := by
  obtain ⟨a, op, val⟩ := m
  unfold againstT
  simp only at hm ⊢
  by_cases h1 : op = 1
  · subst h1
    rw [if_pos rfl]
    refine qA (ts := [4,5]) Tryz.func63 (by kernel_rfl) rfl rfl rfl ?_
    (repeat refine qb ?_); refine qa ?_
    repeat (first | refine zR ?_ | refine zK ?_ | refine zM ?_ | refine zB ?_ | refine zA ?_ | refine zS ?_ | refine zL ?_)
    refine qc ?_
    (repeat refine qb ?_); refine ql ?_
    (repeat refine qb ?_); refine qs (by kernel_rfl) ?_
    repeat (refine qr qe rfl (by exact True.intro) rfl ?_)
    refine qQ ?_
    (repeat refine qb ?_); refine qf rfl (fun hk => ?_) (fun hk => ?_)
    · have hk' : v.kind ≠ val.kind := by simpa using hk
      rw [if_pos hk']
      (repeat refine qb ?_); refine qa ?_
      repeat (first | refine zR ?_ | refine zK ?_ | refine zM ?_ | refine zB ?_ | refine zA ?_ | refine zS ?_ | refine zL ?_)
      refine qc ?_
      (repeat refine qb ?_); refine qk ?_
      exact ⟨Or.inr rfl, _, _, [], Wk.refl _, rfl, rfl, rfl, rfl⟩
    · have hk' : ¬ v.kind ≠ val.kind := by simpa using hk
      rw [if_neg hk']
      (repeat refine qb ?_); refine qa ?_
      repeat (first | refine zR ?_ | refine zK ?_ | refine zM ?_ | refine zB ?_ | refine zA ?_ | refine zS ?_ | refine zL ?_)
      refine qc ?_
      (repeat refine qb ?_); refine qf rfl (fun h3 => ?_) (fun h3 => ?_)
      · (repeat refine qb ?_); refine qa ?_
        repeat (first | refine zR ?_ | refine zK ?_ | refine zM ?_ | refine zB ?_ | refine zA ?_ | refine zS ?_ | refine zL ?_)
        refine qw qe rfl (opR_eqV v val rfl rfl rfl rfl) rfl rfl ?_
        repeat (first | refine zR ?_ | refine zK ?_ | refine zM ?_ | refine zB ?_ | refine zA ?_ | refine zS ?_ | refine zL ?_)
        refine qc ?_
        (repeat refine qb ?_); refine qk ?_
        exact ⟨Or.inr rfl, _, _, [], Wk.refl _, rfl, rfl, rfl, rfl⟩
      · cases h3
  · have hn1 : (op == 1) = false := by simpa using h1
    rw [if_neg h1]
    refine qA (ts := [4,5]) Tryz.func63 (by kernel_rfl) rfl rfl rfl ?_
    (repeat refine qb ?_); refine qa ?_
    repeat (first | refine zR ?_ | refine zK ?_ | refine zM ?_ | refine zB ?_ | refine zA ?_ | refine zS ?_ | refine zL ?_)
    refine qc ?_
    (repeat refine qb ?_); refine ql ?_
    (repeat refine qb ?_); refine qs (by kernel_rfl) ?_
    repeat (refine qr qe rfl (by exact True.intro) rfl ?_)
    rw [hn1]
    repeat (refine qr qe rfl (by exact True.intro) rfl ?_)
    refine qQ ?_
    (repeat refine qb ?_); refine qf rfl (fun hk => ?_) (fun hk => ?_)
    · cases hk
    (repeat refine qb ?_); refine qa ?_
    repeat (first | refine zR ?_ | refine zK ?_ | refine zM ?_ | refine zB ?_ | refine zA ?_ | refine zS ?_ | refine zL ?_)
    refine qc ?_
    rw [hn1]
    (repeat refine qb ?_); refine qf rfl (fun h3 => ?_) (fun h3 => ?_)
    · cases h3
    by_cases h2 : op = 2
    · rw [if_pos h2]
      (repeat refine qb ?_); refine qa ?_
      repeat (first | refine zR ?_ | refine zK ?_ | refine zM ?_ | refine zB ?_ | refine zA ?_ | refine zS ?_ | refine zL ?_)
      refine qc ?_
      (repeat refine qb ?_); refine qf rfl (fun h4 => ?_) (fun h4 => ?_)
      · (repeat refine qb ?_); refine qa ?_
        repeat (first | refine zR ?_ | refine zK ?_ | refine zM ?_ | refine zB ?_ | refine zA ?_ | refine zS ?_ | refine zL ?_)
        refine qn rfl (qg rfl rfl rfl rfl (less_h v val hv hm) rfl rfl ?_)
        repeat (first | refine zR ?_ | refine zK ?_ | refine zM ?_ | refine zB ?_ | refine zA ?_ | refine zS ?_ | refine zL ?_)
        refine qc ?_
        (repeat refine qb ?_); refine qk ?_
        exact ⟨Or.inr rfl, _, _, [], Wk.refl _, rfl, rfl, rfl, rfl⟩
      · simp [h2] at h4
    · rw [if_neg h2]
      (repeat refine qb ?_); refine qa ?_
      repeat (first | refine zR ?_ | refine zK ?_ | refine zM ?_ | refine zB ?_ | refine zA ?_ | refine zS ?_ | refine zL ?_)
      refine qc ?_
      (repeat refine qb ?_); refine qf rfl (fun h4 => ?_) (fun h4 => ?_)
      · simp [h2] at h4
      refine qm ?_
      (repeat refine qb ?_); refine qa ?_
      repeat (first | refine zR ?_ | refine zK ?_ | refine zM ?_ | refine zB ?_ | refine zA ?_ | refine zS ?_ | refine zL ?_)
      refine qn rfl (qg rfl rfl rfl rfl (less_h val v hm hv) rfl rfl ?_)
      repeat (first | refine zR ?_ | refine zK ?_ | refine zM ?_ | refine zB ?_ | refine zA ?_ | refine zS ?_ | refine zL ?_)
      refine qc ?_
      (repeat refine qb ?_); refine qk ?_
      exact ⟨Or.inr rfl, _, _, [], Wk.refl _, rfl, rfl, rfl, rfl⟩
theorem any_take {α : Type} {p : α → Bool} {l : List α} {k : Nat} (h : k < l.length) : (l.take (k + 1)).any p = ((l.take k).any p || p l[k]) := by
  rw [List.take_succ_eq_append_getElem h, List.any_append]
  simp
theorem match2_h (m : Mat) (l : List Giv) (hm : m.Fit) (hf : ∀ x ∈ l, x.Fit) (hn : l.length ≤ 1000000) (hb : ∀ x ∈ l, x.bag.length ≤ 1000000) : Holds Tryz.prog 37 [.agg m.pv, zP l] (.p (pI (qax m l))) [] := by
  have H := get_h m.attr l hn hb
  have hbag := getS_mem (a := m.attr) (g := l) (Q := fun b => b.length ≤ 1000000) (Nat.zero_le _) hb
  have hfit := getS_mem (a := m.attr) (g := l) (Q := fun b => ∀ v ∈ b, v.Fit) (fun v hv => by cases hv) fun x hx => (hf x hx).bag
  unfold qax
  generalize getS m.attr l = r at *
  obtain ⟨bag, e⟩ := r
  simp only at H hbag hfit ⊢
  have lb : (bag.map Val.pv).length = bag.length := by simp
  refine qA (ts := [4]) Tryz.func37 (by kernel_rfl) rfl rfl rfl ?_
  (repeat refine qb ?_); refine qa ?_
  repeat (first | refine zR ?_ | refine zK ?_ | refine zM ?_ | refine zB ?_ | refine zA ?_ | refine zS ?_ | refine zL ?_)
  refine qc ?_
  (repeat refine qb ?_); refine qa ?_
  repeat (first | refine zR ?_ | refine zK ?_ | refine zM ?_ | refine zB ?_ | refine zA ?_ | refine zS ?_ | refine zL ?_)
  refine qn rfl (qD rfl rfl rfl rfl (H) rfl rfl rfl ?_)
  repeat (first | refine zR ?_ | refine zK ?_ | refine zM ?_ | refine zB ?_ | refine zA ?_ | refine zS ?_ | refine zL ?_)
  refine qc ?_
  (repeat refine qb ?_); refine qa ?_
  repeat (first | refine zR ?_ | refine zK ?_ | refine zM ?_ | refine zB ?_ | refine zA ?_ | refine zS ?_ | refine zL ?_)
  refine qc ?_
  (repeat refine qb ?_); refine qf rfl (fun he => ?_) (fun he => ?_)
  · have he' : e ≠ 0 := by simpa using he
    rw [if_pos he']
    (repeat refine qb ?_); refine qa ?_
    repeat (first | refine zR ?_ | refine zK ?_ | refine zM ?_ | refine zB ?_ | refine zA ?_ | refine zS ?_ | refine zL ?_)
    refine qc ?_
    (repeat refine qb ?_); refine qk ?_
    exact zg rfl rfl
  have he' : ¬ e ≠ 0 := by simpa using he
  rw [if_neg he']
  refine qm ?_
  (repeat refine qb ?_); refine qa ?_
  repeat (first | refine zR ?_ | refine zK ?_ | refine zM ?_ | refine zB ?_ | refine zA ?_ | refine zS ?_ | refine zL ?_)
  refine qc ?_
  (repeat refine qb ?_); refine qa ?_
  repeat (first | refine zR ?_ | refine zK ?_ | refine zM ?_ | refine zB ?_ | refine zA ?_ | refine zS ?_ | refine zL ?_)
  refine qc ?_
  (repeat refine qb ?_); refine ql ?_
  refine SW.wk (qq [2, 7, 21, 22, 23] [(2, 2)] rfl rfl) ?_
  refine qO (fun n s => ∃ (k : Nat) (kk o : Int), k ≤ bag.length ∧ n = bag.length - k ∧ kk = k ∧ o = (if (bag.take k).any (badT m) then 1 else 0) ∧ (bag.take k).any (okT m) = false ∧ s = ⟨38, [(2, .ptr 2 0), (7, .p (pI o)), (21, .p (valsP bag)), (22, .p (pI (bag.map Val.pv).length)), (23, .p (pI kk))], [(2, .cells (m.pv.map .p))]⟩) bag.length ⟨0, 0, 0, Nat.zero_le _, rfl, rfl, rfl, rfl, rfl⟩ ?_
  rintro n s ⟨k, _, o, hk, rfl, rfl, ho, ha, rfl⟩
  (repeat refine qb ?_); refine qa ?_
  repeat (first | refine zR ?_ | refine zK ?_ | refine zM ?_ | refine zB ?_ | refine zA ?_ | refine zS ?_ | refine zL ?_)
  refine qc ?_
  (repeat refine qb ?_); refine qf rfl (fun hlt => ?_) (fun hlt => ?_)
  · refine qm ?_
    rw [lb] at hlt
    simp only [decide_eq_true_eq] at hlt
    have hlt' : k < bag.length := by omega
    have a1 := any_take (p := okT m) hlt'
    have a2 := any_take (p := badT m) hlt'
    have a3 : okT m bag[k] = true → bag.any (okT m) = true := fun h => List.any_eq_true.2 ⟨_, List.getElem_mem hlt', h⟩
    have H2 := against_h m bag[k] hm.val.s (hfit _ (List.getElem_mem hlt')).s
    (repeat refine qb ?_); refine ql ?_
    (repeat refine qb ?_); refine qa ?_
    repeat (first | refine zR ?_ | refine zK ?_ | refine zM ?_ | refine zB ?_ | refine zA ?_ | refine zS ?_ | refine zL ?_)
    refine qw qe rfl rfl (by rw [lb]; omega) rfl ?_
    rw [qJ hlt']
    repeat (first | refine zR ?_ | refine zK ?_ | refine zM ?_ | refine zB ?_ | refine zA ?_ | refine zS ?_ | refine zL ?_)
    refine qc ?_
    (repeat refine qb ?_); refine qa ?_
    repeat (first | refine zR ?_ | refine zK ?_ | refine zM ?_ | refine zB ?_ | refine zA ?_ | refine zS ?_ | refine zL ?_)
    refine qn rfl (qg rfl rfl rfl rfl (H2) rfl rfl ?_)
    repeat (first | refine zR ?_ | refine zK ?_ | refine zM ?_ | refine zB ?_ | refine zA ?_ | refine zS ?_ | refine zL ?_)
    refine qc ?_
    (repeat refine qb ?_); refine qa ?_
    repeat (first | refine zR ?_ | refine zK ?_ | refine zM ?_ | refine zB ?_ | refine zA ?_ | refine zS ?_ | refine zL ?_)
    refine qc ?_
    (repeat refine qb ?_); refine qf rfl (fun hp => ?_) (fun hp => ?_)
    · rw [if_pos (a3 hp)]
      (repeat refine qb ?_); refine qa ?_
      repeat (first | refine zR ?_ | refine zK ?_ | refine zM ?_ | refine zB ?_ | refine zA ?_ | refine zS ?_ | refine zL ?_)
      refine qc ?_
      (repeat refine qb ?_); refine qk ?_
      exact zg rfl rfl
    have hp' : okT m bag[k] = false := hp
    refine qm ?_
    (repeat refine qb ?_); refine qa ?_
    repeat (first | refine zR ?_ | refine zK ?_ | refine zM ?_ | refine zB ?_ | refine zA ?_ | refine zS ?_ | refine zL ?_)
    refine qc ?_
    (repeat refine qb ?_); refine qf rfl (fun hq => ?_) (fun hq => ?_)
    · have hq' : badT m bag[k] = true := by unfold badT; simpa using hq
      (repeat refine qb ?_); refine qa ?_
      repeat (first | refine zR ?_ | refine zK ?_ | refine zM ?_ | refine zB ?_ | refine zA ?_ | refine zS ?_ | refine zL ?_)
      refine qc ?_
      (repeat refine qb ?_); refine qa ?_
      repeat (first | refine zR ?_ | refine zK ?_ | refine zM ?_ | refine zB ?_ | refine zA ?_ | refine zS ?_ | refine zL ?_)
      refine qc ?_
      refine ⟨_, _, ?_, qq [2, 7, 21, 22, 23] [(2, 2)] rfl rfl, k + 1, _, 1, hlt', rfl, qz hlt' (by omega), ?_, ?_, rfl⟩
      · omega
      · rw [a2, hq', Bool.or_true, if_pos rfl]
      · rw [a1, ha, hp']; rfl
    · have hq' : badT m bag[k] = false := by unfold badT; simpa using hq
      refine qm ?_
      (repeat refine qb ?_); refine qa ?_
      repeat (first | refine zR ?_ | refine zK ?_ | refine zM ?_ | refine zB ?_ | refine zA ?_ | refine zS ?_ | refine zL ?_)
      refine qc ?_
      refine ⟨_, _, ?_, qq [2, 7, 21, 22, 23] [(2, 2)] rfl rfl, k + 1, _, o, hlt', rfl, qz hlt' (by omega), ?_, ?_, rfl⟩
      · omega
      · rw [a2, hq', Bool.or_false]; exact ho
      · rw [a1, ha, hp']; rfl
  · refine qK ?_
    rw [lb] at hlt
    simp only [decide_eq_false_iff_not] at hlt
    have hkk : k = bag.length := by omega
    subst hkk
    rw [List.take_length] at ho ha
    rw [ha, if_neg (by simp), ← ho]
    (repeat refine qb ?_); refine qa ?_
    repeat (first | refine zR ?_ | refine zK ?_ | refine zM ?_ | refine zB ?_ | refine zA ?_ | refine zS ?_ | refine zL ?_)
    refine qc ?_
    (repeat refine qb ?_); refine qk ?_
    exact zg rfl rfl
theorem allTT_take {l : List Mat} {g : List Giv} {k : Nat} (h : k < l.length) : min (allTT (l.take k) g) (qax l[k] g) = allTT (l.take (k + 1)) g := by
  unfold allTT
  rw [List.take_succ_eq_append_getElem h, List.foldl_append]; rfl
theorem anyTT_take {l : List (List Mat)} {g : List Giv} {k : Nat} (h : k < l.length) : max (anyTT (l.take k) g) (allTT l[k] g) = anyTT (l.take (k + 1)) g := by
  unfold anyTT
  rw [List.take_succ_eq_append_getElem h, List.foldl_append]; rfl
theorem metT_take {l : Tar} {g : List Giv} {k : Nat} (h : k < l.length) : min (metT (l.take k) g) (anyTT l[k] g) = metT (l.take (k + 1)) g := by
  unfold metT
  rw [List.take_succ_eq_append_getElem h, List.foldl_append]; rfl
theorem allT_h (l : List Mat) (g : List Giv) (hm : ∀ m ∈ l, m.Fit) (hl : l.length ≤ 1000000) (hf : ∀ x ∈ g, x.Fit) (hn : g.length ≤ 1000000) (hb : ∀ x ∈ g, x.bag.length ≤ 1000000) : Holds Tryz.prog 52 [matsP l, zP g] (.p (pI (allTT l g))) [] := by
  have lm : (l.map Mat.pv).length = l.length := by simp
  refine qA (ts := [4]) Tryz.func52 (by kernel_rfl) rfl rfl rfl ?_
  (repeat refine qb ?_); refine qa ?_
  repeat (first | refine zR ?_ | refine zK ?_ | refine zM ?_ | refine zB ?_ | refine zA ?_ | refine zS ?_ | refine zL ?_)
  refine qc ?_
  (repeat refine qb ?_); refine qa ?_
  repeat (first | refine zR ?_ | refine zK ?_ | refine zM ?_ | refine zB ?_ | refine zA ?_ | refine zS ?_ | refine zL ?_)
  refine qc ?_
  (repeat refine qb ?_); refine qa ?_
  repeat (first | refine zR ?_ | refine zK ?_ | refine zM ?_ | refine zB ?_ | refine zA ?_ | refine zS ?_ | refine zL ?_)
  refine qc ?_
  (repeat refine qb ?_); refine ql ?_
  refine SW.wk (qq [1, 5, 8, 9, 10] [] rfl rfl) ?_
  refine qO (fun n s => ∃ (k : Nat) (kk o : Int), k ≤ l.length ∧ n = l.length - k ∧ kk = k ∧ o = allTT (l.take k) g ∧ s = ⟨21, [(1, .p (zP g)), (5, .p (pI o)), (8, .p (matsP l)), (9, .p (pI (l.map Mat.pv).length)), (10, .p (pI kk))], []⟩) l.length ⟨0, 0, 2, Nat.zero_le _, rfl, rfl, rfl, rfl⟩ ?_
  rintro n s ⟨k, _, o, hk, rfl, rfl, ho, rfl⟩
  (repeat refine qb ?_); refine qa ?_
  repeat (first | refine zR ?_ | refine zK ?_ | refine zM ?_ | refine zB ?_ | refine zA ?_ | refine zS ?_ | refine zL ?_)
  refine qc ?_
  (repeat refine qb ?_); refine qf rfl (fun hlt => ?_) (fun hlt => ?_)
  · refine qm ?_
    rw [lm] at hlt
    simp only [decide_eq_true_eq] at hlt
    have hlt' : k < l.length := by omega
    have H := match2_h l[k] g (hm _ (List.getElem_mem hlt')) hf hn hb
    have hs := allTT_take (g := g) hlt'
    (repeat refine qb ?_); refine ql ?_
    (repeat refine qb ?_); refine qa ?_
    repeat (first | refine zR ?_ | refine zK ?_ | refine zM ?_ | refine zB ?_ | refine zA ?_ | refine zS ?_ | refine zL ?_)
    refine qw qe rfl rfl (by rw [lm]; omega) rfl ?_
    rw [qJ hlt']
    repeat (first | refine zR ?_ | refine zK ?_ | refine zM ?_ | refine zB ?_ | refine zA ?_ | refine zS ?_ | refine zL ?_)
    refine qc ?_
    (repeat refine qb ?_); refine qa ?_
    repeat (first | refine zR ?_ | refine zK ?_ | refine zM ?_ | refine zB ?_ | refine zA ?_ | refine zS ?_ | refine zL ?_)
    refine qn rfl (qg rfl rfl rfl rfl (H) rfl rfl ?_)
    repeat (first | refine zR ?_ | refine zK ?_ | refine zM ?_ | refine zB ?_ | refine zA ?_ | refine zS ?_ | refine zL ?_)
    refine qc ?_
    (repeat refine qb ?_); refine qa ?_
    repeat (first | refine zR ?_ | refine zK ?_ | refine zM ?_ | refine zB ?_ | refine zA ?_ | refine zS ?_ | refine zL ?_)
    refine qc ?_
    refine ⟨_, _, ?_, qq [1, 5, 8, 9, 10] [] rfl rfl, k + 1, _, _, hlt', rfl, qz hlt' (by omega), ?_, rfl⟩
    · omega
    · rw [← hs, ← ho]
      dsimp only; split <;> omega
  · refine qK ?_
    rw [lm] at hlt
    simp only [decide_eq_false_iff_not] at hlt
    have hkk : k = l.length := by omega
    subst hkk
    rw [List.take_length] at ho
    rw [← ho]
    (repeat refine qb ?_); refine qa ?_
    repeat (first | refine zR ?_ | refine zK ?_ | refine zM ?_ | refine zB ?_ | refine zA ?_ | refine zS ?_ | refine zL ?_)
    refine qc ?_
    (repeat refine qb ?_); refine qk ?_
    exact zg rfl rfl
def TarSm (t : Tar) : Prop := t.length ≤ 1000000 ∧ ∀ x ∈ t, x.length ≤ 1000000 ∧ ∀ y ∈ x, y.length ≤ 1000000
theorem metT_h (t : Tar) (g : List Giv) (hm : ∀ x ∈ t, ∀ y ∈ x, ∀ m ∈ y, m.Fit) (hl : TarSm t) (hf : ∀ x ∈ g, x.Fit) (hn : g.length ≤ 1000000) (hb : ∀ x ∈ g, x.bag.length ≤ 1000000) : Holds Tryz.prog 28 [tgtP t, zP g] (.p (pI (metT t g))) [] := by
  have lt : (t.map fun x => [anyP x]).length = t.length := by simp
  have ht0 := hl.1
  refine qA (ts := [4]) Tryz.func28 (by kernel_rfl) rfl rfl rfl ?_
  (repeat refine qb ?_); refine qa ?_
  repeat (first | refine zR ?_ | refine zK ?_ | refine zM ?_ | refine zB ?_ | refine zA ?_ | refine zS ?_ | refine zL ?_)
  refine qc ?_
  (repeat refine qb ?_); refine qa ?_
  repeat (first | refine zR ?_ | refine zK ?_ | refine zM ?_ | refine zB ?_ | refine zA ?_ | refine zS ?_ | refine zL ?_)
  refine qc ?_
  (repeat refine qb ?_); refine qa ?_
  repeat (first | refine zR ?_ | refine zK ?_ | refine zM ?_ | refine zB ?_ | refine zA ?_ | refine zS ?_ | refine zL ?_)
  refine qc ?_
  (repeat refine qb ?_); refine ql ?_
  refine SW.wk (qq [1, 5, 11, 12, 13] [] rfl rfl) ?_
  refine qO (fun n s => ∃ (k : Nat) (kk o : Int), k ≤ t.length ∧ n = t.length - k ∧ kk = k ∧ o = metT (t.take k) g ∧ s = ⟨34, [(1, .p (zP g)), (5, .p (pI o)), (11, .p (tgtP t)), (12, .p (pI (t.map fun x => [anyP x]).length)), (13, .p (pI kk))], []⟩) t.length ⟨0, 0, 2, Nat.zero_le _, rfl, rfl, rfl, rfl⟩ ?_
  rintro n s ⟨k, _, o, hk, rfl, rfl, ho, rfl⟩
  (repeat refine qb ?_); refine qa ?_
  repeat (first | refine zR ?_ | refine zK ?_ | refine zM ?_ | refine zB ?_ | refine zA ?_ | refine zS ?_ | refine zL ?_)
  refine qc ?_
  (repeat refine qb ?_); refine qf rfl (fun hlt => ?_) (fun hlt => ?_)
  · refine qm ?_
    rw [lt] at hlt
    simp only [decide_eq_true_eq] at hlt
    have hlt' : k < t.length := by omega
    have hs := metT_take (g := g) hlt'
    have hxl := hl.2 _ (List.getElem_mem hlt')
    have hxm := hm _ (List.getElem_mem hlt')
    (repeat refine qb ?_); refine ql ?_
    (repeat refine qb ?_); refine qa ?_
    repeat (first | refine zR ?_ | refine zK ?_ | refine zM ?_ | refine zB ?_ | refine zA ?_ | refine zS ?_ | refine zL ?_)
    refine qw qe rfl rfl (by rw [lt]; omega) rfl ?_
    rw [qJ hlt']
    repeat (first | refine zR ?_ | refine zK ?_ | refine zM ?_ | refine zB ?_ | refine zA ?_ | refine zS ?_ | refine zL ?_)
    refine qc ?_
    generalize t[k] = x at *
    have lx : (x.map fun y => [matsP y]).length = x.length := by simp
    have hx0 := hxl.1
    (repeat refine qb ?_); refine qa ?_
    repeat (first | refine zR ?_ | refine zK ?_ | refine zM ?_ | refine zB ?_ | refine zA ?_ | refine zS ?_ | refine zL ?_)
    refine qc ?_
    (repeat refine qb ?_); refine qa ?_
    repeat (first | refine zR ?_ | refine zK ?_ | refine zM ?_ | refine zB ?_ | refine zA ?_ | refine zS ?_ | refine zL ?_)
    refine qc ?_
    (repeat refine qb ?_); refine ql ?_
    refine SW.wk (qq [1, 5, 8, 11, 12, 13, 17, 18, 19] [] rfl rfl) ?_
    refine qO (fun n s => ∃ (j : Nat) (jj b : Int), j ≤ x.length ∧ n = x.length - j ∧ jj = j ∧ b = anyTT (x.take j) g ∧ s = ⟨34, [(1, .p (zP g)), (5, .p (pI o)), (8, .p (pI b)), (11, .p (tgtP t)), (12, .p (pI (t.map fun x => [anyP x]).length)), (13, .p (pI k)), (17, .p (anyP x)), (18, .p (pI (x.map fun y => [matsP y]).length)), (19, .p (pI jj))], []⟩) x.length ⟨0, 0, 0, Nat.zero_le _, rfl, rfl, rfl, rfl⟩ ?_
    rintro n s ⟨j, _, b, hj, rfl, rfl, hbb, rfl⟩
    (repeat refine qb ?_); refine qa ?_
    repeat (first | refine zR ?_ | refine zK ?_ | refine zM ?_ | refine zB ?_ | refine zA ?_ | refine zS ?_ | refine zL ?_)
    refine qc ?_
    (repeat refine qb ?_); refine qf rfl (fun hlj => ?_) (fun hlj => ?_)
    · refine qm ?_
      rw [lx] at hlj
      simp only [decide_eq_true_eq] at hlj
      have hlj' : j < x.length := by omega
      have hs2 := anyTT_take (g := g) hlj'
      have H := allT_h x[j] g (hxm _ (List.getElem_mem hlj')) (hxl.2 _ (List.getElem_mem hlj')) hf hn hb
      (repeat refine qb ?_); refine ql ?_
      (repeat refine qb ?_); refine qa ?_
      repeat (first | refine zR ?_ | refine zK ?_ | refine zM ?_ | refine zB ?_ | refine zA ?_ | refine zS ?_ | refine zL ?_)
      refine qw qe rfl rfl (by rw [lx]; omega) rfl ?_
      rw [qJ hlj']
      repeat (first | refine zR ?_ | refine zK ?_ | refine zM ?_ | refine zB ?_ | refine zA ?_ | refine zS ?_ | refine zL ?_)
      refine qc ?_
      (repeat refine qb ?_); refine qa ?_
      repeat (first | refine zR ?_ | refine zK ?_ | refine zM ?_ | refine zB ?_ | refine zA ?_ | refine zS ?_ | refine zL ?_)
      refine qn rfl (qg rfl rfl rfl rfl (H) rfl rfl ?_)
      repeat (first | refine zR ?_ | refine zK ?_ | refine zM ?_ | refine zB ?_ | refine zA ?_ | refine zS ?_ | refine zL ?_)
      refine qc ?_
      (repeat refine qb ?_); refine qa ?_
      repeat (first | refine zR ?_ | refine zK ?_ | refine zM ?_ | refine zB ?_ | refine zA ?_ | refine zS ?_ | refine zL ?_)
      refine qc ?_
      refine ⟨_, _, ?_, qq [1, 5, 8, 11, 12, 13, 17, 18, 19] [] rfl rfl, j + 1, _, _, hlj', rfl, qz hlj' (by omega), ?_, rfl⟩
      · omega
      · rw [← hs2, ← hbb]
        dsimp only; split <;> omega
    · refine qK ?_
      rw [lx] at hlj
      simp only [decide_eq_false_iff_not] at hlj
      have hjj : j = x.length := by omega
      subst hjj
      rw [List.take_length] at hbb
      (repeat refine qb ?_); refine qa ?_
      repeat (first | refine zR ?_ | refine zK ?_ | refine zM ?_ | refine zB ?_ | refine zA ?_ | refine zS ?_ | refine zL ?_)
      refine qc ?_
      (repeat refine qb ?_); refine qa ?_
      repeat (first | refine zR ?_ | refine zK ?_ | refine zM ?_ | refine zB ?_ | refine zA ?_ | refine zS ?_ | refine zL ?_)
      refine qc ?_
      refine ⟨_, _, ?_, qq [1, 5, 11, 12, 13] [] rfl rfl, k + 1, _, _, hlt', rfl, qz hlt' (by omega), ?_, rfl⟩
      · omega
      · rw [← hs, ← ho, ← hbb]
        dsimp only; split <;> omega
  · refine qK ?_
    rw [lt] at hlt
    simp only [decide_eq_false_iff_not] at hlt
    have hkk : k = t.length := by omega
    subst hkk
    rw [List.take_length] at ho
    rw [← ho]
    (repeat refine qb ?_); refine qa ?_
    repeat (first | refine zR ?_ | refine zK ?_ | refine zM ?_ | refine zB ?_ | refine zA ?_ | refine zS ?_ | refine zL ?_)
    refine qc ?_
    (repeat refine qb ?_); refine qk ?_
    exact zg rfl rfl
structure GivOk (g : List Giv) : Prop where
  fit : ∀ x ∈ g, x.Fit
  len : g.length ≤ 1000000
  bags : ∀ x ∈ g, x.bag.length ≤ 1000000
end Go.Proofs.YtppfcacnofjmdaaGreatDoor
namespace Go.Proofs.YtppfcacnofjmdaaGreatDoor
set_option linter.unusedVariables false
set_option linter.unusedSimpArgs false
open Go.RowKit
def Upto (k m : Nat) (r : SV) : Prop := ∃ b : Bool, r = .p (pB b) ∧ (b = true → k ≤ m)
theorem upto_ok {k m : Nat} {w : World} {e : Ending} {w' : World} (h : upTo k m w e w') : ∃ r, Upto k m r ∧ flatS r = true ∧ e = .returned (valS r) ∧ Below w.heap.size w w' ∧ RelS (fun _ => True) (fun _ => none) w' r (valS r) := by
  rcases h with ⟨rfl, hb⟩ | ⟨rfl, hk, hb⟩
  · exact ⟨.p (pB false), ⟨false, rfl, fun h => by cases h⟩, rfl, rfl, hb, .p (.v rfl)⟩
  · exact ⟨.p (pB true), ⟨true, rfl, fun _ => hk.out⟩, rfl, rfl, hb, .p (.v rfl)⟩
theorem few_h (l : List Giv) (hf : ∀ x ∈ l, x.Fit) : HoldsE Tryz.prog 16 [zP l] (Upto (fsz l) 1200) :=
  .of_calls Tryz.func16 (by kernel_rfl) rfl fun w vs hl hr => by
    obtain ⟨u, rfl⟩ := one_arg hl
    obtain ⟨A, c, rfl, h1, h2, h3⟩ := givs_typed (hr 0 _ u rfl rfl) hf
    exact (few_any l A c w h2.1 h3).mono fun e w' h => upto_ok h
theorem few_len {l : List Giv} (h : fsz l ≤ 1200) : l.length ≤ 600 ∧ ∀ g ∈ l, g.bag.length ≤ 1200 := by
  refine ⟨by unfold fsz at h; omega, fun g hg => ?_⟩
  have h2 : gsz g ≤ fsz l := by have := wb (f := gsz) hg; unfold fsz; omega
  have h3 : g.bag.length ≤ gsz g := by unfold gsz; omega
  omega
end Go.Proofs.YtppfcacnofjmdaaGreatDoor
namespace Go.Proofs.YtppfcacnofjmdaaGreatDoor
set_option linter.unusedVariables false
set_option linter.unusedSimpArgs false
open Go.RowKit
theorem givOk_of {g : List Giv} (hg : ∀ x ∈ g, x.Fit) (h : fsz g ≤ 1200) : GivOk g := by
  obtain ⟨g1, g2⟩ := few_len h
  exact ⟨hg, by omega, fun x hx => by have := g2 x hx; omega⟩
end Go.Proofs.YtppfcacnofjmdaaGreatDoor
namespace Go.Proofs.YtppfcacnofjmdaaGreatDoor
set_option linter.unusedVariables false
set_option linter.unusedSimpArgs false
open Go.RowKit
def waitsO (o : Oper) (p : Nat) : Bool := o.after.toList.any fun e => Region.binds .any e && Nat.beq e.on p
section
variable {P : Program} {ops : Array Oper} {Q : Exit → Act → World → Prop}
abbrev Pend := List (Nat × (World → Prop))
def alive (ops : Array Oper) (i : Nat) (pd : Pend) : Pend := match ops[i]? with
  | some o => pd.filter fun p => !waitsO o p.1
  | none => pd
def wpAnyP (P : Program) (ops : Array Oper) (Q : Exit → Act → World → Prop) : Nat → Pend → Array Bool → Act → World → Prop
  | 0, _, listed, a, w => Region.ready .any ops listed = [] ∧ Q .normal a w
  | fuel + 1, pd, listed, a, w => (Region.ready .any ops listed = [] → Q .normal a w) ∧
      ∀ i ∈ Region.ready .any ops listed, wpOp P ops Q i (fun a' w' => (∀ p ∈ alive ops i pd, p.2 w') ∧ wpAnyP P ops Q fuel (alive ops i pd) (listed.setIfInBounds i true) a' w') a w
theorem wZ : ∀ (fuel : Nat) (pd : Pend) (listed : Array Bool) (a : Act) (w : World), wpAnyP P ops Q fuel pd listed a w → wpAny P .any ops Q fuel listed a w
  | 0, _, _, _, _, h => h
  | fuel + 1, _, _, _, _, h => ⟨h.1, fun i hi => wpOp_mono (fun a' w' h' => wZ fuel _ _ a' w' h'.2) (h.2 i hi)⟩
def Covers (pd pd' : Pend) : Prop := ∀ p ∈ pd, (∀ x, p.2 x) ∨ ∃ p' ∈ pd', p'.1 = p.1 ∧ ∀ x, p'.2 x → p.2 x
theorem Covers.refl (pd : Pend) : Covers pd pd := fun p hp => .inr ⟨p, hp, rfl, fun _ h => h⟩
theorem mem_alive {i : Nat} {pd : Pend} {p : Nat × (World → Prop)} : p ∈ alive ops i pd ↔ p ∈ pd ∧ (∀ o, ops[i]? = some o → waitsO o p.1 = false) := by
  unfold alive
  cases h : ops[i]? with
  | none => simp
  | some o => simp [List.mem_filter]
theorem Covers.alive {pd pd' : Pend} (h : Covers pd pd') (i : Nat) : Covers (alive ops i pd) (Go.Proofs.YtppfcacnofjmdaaGreatDoor.alive ops i pd') := fun p hp => by
  obtain ⟨h1, h2⟩ := mem_alive.1 hp
  rcases h p h1 with h | ⟨p', h3, h4, h5⟩
  · exact .inl h
  · exact .inr ⟨p', mem_alive.2 ⟨h3, fun o ho => by rw [h4]; exact h2 o ho⟩, h4, h5⟩
theorem Covers.at {pd pd' : Pend} (h : Covers pd pd') {w : World} (hw : ∀ p ∈ pd', p.2 w) : ∀ p ∈ pd, p.2 w := fun p hp => by
  rcases h p hp with h | ⟨p', h3, h4, h5⟩
  · exact h w
  · exact h5 w (hw p' h3)
theorem jC : ∀ (f : Nat) {pd pd' : Pend} (_ : Covers pd pd') (ls : Array Bool) (a : Act) (w : World), wpAnyP P ops Q f pd' ls a w → wpAnyP P ops Q f pd ls a w
  | 0, _, _, _, _, _, _, h => h
  | f + 1, _, _, hc, ls, a, w, h => ⟨h.1, fun i hi => wpOp_mono (fun a' w' h' => ⟨(hc.alive i).at h'.1, jC f (hc.alive i) _ a' w' h'.2⟩) (h.2 i hi)⟩
theorem wpAnyP_first {i : Nat} {oi : Oper} {v : Value} (hi : ops[i]? = some oi) (hsel : ∀ (j : Nat) (o : Oper) cs b, ops[j]? = some o → o.op ≠ .select cs b)
    (hQ : ∀ c a w, Q (.panic c) (a.put oi.dst v) w → Q (.panic c) a w) {S : World → Prop} :
    ∀ (fuel : Nat) (pd : Pend) (listed : Array Bool) (a : Act) (w : World),
      (∀ j oj, ops[j]? = some oj → j ≠ i → listed.getD j true = false → (∀ e ∈ oj.after, Region.binds .any e = true → e.on ≠ i) → oi.apart ops oj = true) →
      i ∈ Region.ready .any ops listed → YieldsIf P ops S oi v a → S w → (∀ p ∈ pd, p.2 w) →
      wpAnyP P ops Q fuel ((i, S) :: pd) (listed.setIfInBounds i true) (a.put oi.dst v) w → wpAnyP P ops Q (fuel + 1) pd listed a w := by
  have drop : ∀ (pd : Pend), Covers (Go.Proofs.YtppfcacnofjmdaaGreatDoor.alive ops i pd) ((i, S) :: pd) := fun pd p hp => .inr ⟨p, List.mem_cons_of_mem _ (mem_alive.1 hp).1, rfl, fun _ h => h⟩
  intro fuel
  induction fuel with
  | zero =>
    intro pd listed a w _ hr hy hS hpd H
    refine ⟨fun h => (by rw [h] at hr; cases hr), fun j hj => ?_⟩
    by_cases hji : j = i
    · subst hji; exact hy.wpOp hi hS ⟨fun p hp => hpd p (mem_alive.1 hp).1, H⟩
    · have := ready_mono hj hji
      rw [H.1] at this
      cases this
  | succ fuel ih =>
    intro pd listed a w hfree hr hy hS hpd H
    refine ⟨fun h => (by rw [h] at hr; cases hr), fun j hj => ?_⟩
    by_cases hji : j = i
    · subst hji; exact hy.wpOp hi hS ⟨fun p hp => hpd p (mem_alive.1 hp).1, jC _ (drop pd) _ _ _ H⟩
    · have h1 := H.2 j (ready_mono hj hji)
      obtain ⟨hjun, oj, hoj, hall⟩ := mem_ready.1 hj
      have hnot : ∀ e ∈ oj.after, Region.binds .any e = true → e.on ≠ i := fun e he hb heq => by
        have h1 := hall e he hb
        have h0 := (mem_ready.1 hr).1
        rw [heq] at h1
        rcases Nat.lt_or_ge i listed.size with h' | h'
        · simp [h'] at h0 h1; rw [h0] at h1; cases h1
        · simp [Array.getElem?_eq_none h'] at h1
      have hwait : waitsO oj i = false := by
        unfold waitsO
        rw [List.any_eq_false]
        intro e he h
        rw [Bool.and_eq_true] at h
        exact hnot e (by simpa using he) h.1 (Nat.eq_of_beq_eq_true h.2)
      have hal : Go.Proofs.YtppfcacnofjmdaaGreatDoor.alive ops j ((i, S) :: pd) = (i, S) :: Go.Proofs.YtppfcacnofjmdaaGreatDoor.alive ops j pd := by
        unfold Go.Proofs.YtppfcacnofjmdaaGreatDoor.alive
        rw [hoj]
        simp [List.filter_cons, hwait]
      have h2 := wpOp_putIf hoj (hfree j oj hoj hji hjun hnot) (fun cs b => hsel i oi cs b hi) (fun cs b => hsel j oj cs b hoj) hQ hy h1
      have hfree' : ∀ k ok, ops[k]? = some ok → k ≠ i → (listed.setIfInBounds j true).getD k true = false →
          (∀ e ∈ ok.after, Region.binds .any e = true → e.on ≠ i) → oi.apart ops ok = true := fun k ok hk hki hun hno => by
        refine hfree k ok hk hki ?_ hno
        by_cases hjk : j = k
        · subst hjk; exact hjun
        · rw [getD_set_ne true hjk] at hun; exact hun
      refine wpOp_mono (fun a' w' h3 => ?_) h2
      obtain ⟨h31, h32, h33⟩ := h3
      rw [hal] at h32 h33
      have hpd' : ∀ p ∈ Go.Proofs.YtppfcacnofjmdaaGreatDoor.alive ops j pd, p.2 w' := fun p hp => h32 p (List.mem_cons_of_mem _ hp)
      refine ⟨hpd', ih _ (listed.setIfInBounds j true) a' w' hfree' (ready_mono hr (Ne.symm hji)) h31 (h32 _ (List.mem_cons_self ..)) hpd' ?_⟩
      rw [Array.setIfInBounds_comm _ _ hji]
      exact h33
end
section
variable {P : Program} {ops : Array Oper} {Q : Exit → Act → World → Prop}
def wpMoveP (P : Program) (ops : Array Oper) (Q : Exit → Act → World → Prop) : Pend → List (Nat × Bool) → Act → World → Prop
  | _, [], a, w => Q .normal a w
  | pd, (i, true) :: r, a, w => (∀ p ∈ pd, p.2 w) ∧ ∃ S o v pd', S w ∧ ops[i]? = some o ∧ YieldsIf P ops S o v a ∧ Covers ((i, S) :: pd) pd' ∧ wpMoveP P ops Q pd' r (a.put o.dst v) w
  | pd, (i, false) :: r, a, w => wpOp P ops Q i (fun a' w' => ∃ pd', Covers (alive ops i pd) pd' ∧ (∀ p ∈ pd', p.2 w') ∧ wpMoveP P ops Q pd' r a' w') a w
theorem anyP_of_move (hs : Region.noSelect ops = true) (hQ : ∀ c a d v w, Q (.panic c) (a.put d v) w → Q (.panic c) a w) : ∀ (r : List (Nat × Bool)) (pd : Pend) (ls : Array Bool) (a : Act) (w : World),
    zW .any ops r ls = true → wpMoveP P ops Q pd r a w → wpAnyP P ops Q r.length pd ls a w
  | [], pd, ls, a, w, hB, h => ⟨by simpa [zW] using hB, h⟩
  | (i, true) :: r, pd, ls, a, w, hB, h => by
    obtain ⟨hpd, S, o, v, pd', hS, ho, hy, hc, hr⟩ := h
    simp only [zW, if_true, Bool.and_eq_true] at hB
    exact wpAnyP_first ho (Region.noSelect_spec hs) (fun c a w h => hQ c a _ _ w h) r.length pd ls a w (Region.free_spec ho hB.1.1) (by simpa using hB.1.2) hy hS hpd (jC _ hc _ _ _ (anyP_of_move hs hQ r pd' _ _ w hB.2 hr))
  | (i, false) :: r, pd, ls, a, w, hB, h => by
    simp only [zW, Bool.false_eq_true, if_false, Bool.and_eq_true, beq_iff_eq] at hB
    refine ⟨fun h0 => (by rw [hB.1] at h0; cases h0), fun j hj => ?_⟩
    rw [hB.1] at hj
    obtain rfl : j = i := by simpa using hj
    exact wpOp_mono (fun a' w' h' => by
      obtain ⟨pd', h1, h2, h3⟩ := h'
      exact ⟨h1.at h2, jC _ h1 _ _ _ (anyP_of_move hs hQ r pd' _ _ _ hB.2 h3)⟩) h
end
abbrev Kap := List (Nat × List Nat)
def pendOf (γ : Nat → Value) (own : List (Nat × Box)) (w : World) (κ : Kap) : Pend := κ.map fun p => (p.1, fun x => SameOn (vis p.2 γ own) w x)
theorem wC {γ : Nat → Value} {own : List (Nat × Box)} {w : World} {κ : Kap} : ∀ p ∈ pendOf γ own w κ, p.2 w := fun p hp => by
  obtain ⟨q, _, rfl⟩ := List.mem_map.1 hp
  exact SameOn.refl _ _
def kapB (o : Oper) (κ : Kap) : Kap := κ.filter fun p => !waitsO o p.1
def SWP (P : Program) (ops : List Oper) (κ : Kap) (order : List (Nat × Bool)) (Q : St → Prop) (st : St) : Prop := ∀ (w0 : Base) (Sx : Nat → Prop) (γ : Nat → Value) (a : Act) (w : World) (QQ : Exit → Act → World → Prop), Sim w0 Sx γ st a w →
  (∀ st' γ' a' w', Sim w0 Sx γ' st' a' w' → Q st' → QQ .normal a' w') → wpMoveP P ops.toArray (NoPanic QQ) (pendOf γ st.own w κ) order a w
section
variable {P : Program} {ops : List Oper} {κ : Kap} {st : St} {Q : St → Prop} {i : Nat} {r : List (Nat × Bool)} {o : Oper}
theorem swp_nil (h : Q st) : SWP P ops κ [] Q st := fun _ _ γ a w _ hI hQ => hQ st γ a w hI h
theorem swp_skip {b : Bool} (hi : nthO ops i = some o) (hw : zw ops st o = some false) (hd : zn st o.dst = true) (h : SWP P ops κ r Q (st.put o.dst (.tup []))) : SWP P ops κ ((i, b) :: r) Q st := fun w0 Sx γ a w QQ hI hQ => by
  have hrest := h w0 Sx γ _ w QQ (hI.skip hd) hQ
  simp only [wP] at hrest
  cases b with
  | true => exact ⟨wC, fun _ => True, o, undef, _, trivial, (qZ ops i).trans hi, Or.inr ⟨zD hI hw, rfl⟩, fun p hp => by
      rcases List.mem_cons.1 hp with rfl | hp
      · exact .inl fun _ => trivial
      · exact .inr ⟨p, hp, rfl, fun _ h => h⟩, hrest⟩
  | false =>
    unfold wpMoveP wpOp
    rw [(qZ ops i).trans hi]
    simp only [zD hI hw, Bool.false_eq_true, if_false]
    exact ⟨_, fun p hp => .inr ⟨p, (mem_alive.1 hp).1, rfl, fun _ h => h⟩, wC, hrest⟩
theorem swp_act {Ws : List Nat} (hi : nthO ops i = some o) (hw : zw ops st o = some true) (hK : (kapB o κ).all (fun p => Ws.all fun j => p.2.contains j) = true) (h : ActOk P Ws o st (SWP P ops (kapB o κ) r Q)) : SWP P ops κ ((i, false) :: r) Q st := fun w0 Sx γ a w QQ hI hQ => by
  have hsub : ∀ p ∈ kapB o κ, ∀ j ∈ Ws, j ∈ p.2 := fun p hp j hj => by simpa using List.all_eq_true.1 (List.all_eq_true.1 hK p hp) j hj
  have hio := (qZ ops i).trans hi
  unfold wpMoveP wpOp
  rw [hio]
  simp only [zD hI hw, if_true]
  refine Or.inl ?_
  have := h w0 Sx γ a w (NoPanic QQ) hI
  have mono : ∀ {a' w'}, (∃ γ' st', SWP P ops (kapB o κ) r Q st' ∧ Sim w0 Sx γ' st' a' w' ∧ SameOn (vis Ws γ st.own) w w' ∧ ∀ K : List Nat, (∀ i ∈ Ws, i ∈ K) → ∀ b, b < w.heap.size → vis K γ st.own b → vis K γ' st'.own b) →
      ∃ pd' : Pend, Covers (alive ops.toArray i (pendOf γ st.own w κ)) pd' ∧ (∀ p ∈ pd', p.2 w') ∧ wpMoveP P ops.toArray (NoPanic QQ) pd' r a' w' := fun {a' w'} ⟨γ', st', h1, h2, h3, h4⟩ => by
    refine ⟨pendOf γ' st'.own w' (kapB o κ), fun p hp => ?_, wC, h1 w0 Sx γ' a' w' QQ h2 hQ⟩
    obtain ⟨hp1, hp2⟩ := mem_alive.1 hp
    obtain ⟨q, hq, rfl⟩ := List.mem_map.1 hp1
    have hq' : q ∈ kapB o κ := List.mem_filter.2 ⟨hq, by rw [hp2 o hio]; rfl⟩
    have hs := hsub q hq'
    refine .inr ⟨_, List.mem_map.2 ⟨q, hq', rfl⟩, rfl, fun x hx => ⟨Nat.le_trans h3.size hx.size, fun b hb hv => ?_⟩⟩
    have e1 := h3.block b hb (fun j bx hj hjW hjb => hv j bx hj (by simpa using hs j (by simpa using hjW)) hjb)
    have e2 := hx.block b (Nat.lt_of_lt_of_le hb h3.size) (h4 q.2 hs b hb hv)
    exact e2.trans e1
  unfold Oper.wp at this ⊢
  generalize (execOp a.eval o).run P w = res at *
  cases res with
  | ok n w' =>
    cases n <;> simp only [Oper.upon] at this ⊢ <;> first
      | exact mono this
      | exact this
      | exact Calls.mono this (fun e w'' he => by cases e <;> first | exact mono he | exact he)
      | exact Rows.mono this (fun _ _ he => mono he)
  | halt x w' => cases x <;> simp only [Oper.upon] at this ⊢ <;> exact this
theorem sw_region_pend {id : Nat} {l : List Oper} {QS : SEx → St → Prop} (order : List (Nat × Bool)) (hm : P.follows .mixedOrders = true) (hs : Region.noSelect l.toArray = true)
    (hB : (zW .any l.toArray order (Array.replicate l.toArray.size false) && order.length == l.toArray.size) = true) (h : SWP P l [] order (QS .normal) st) : SW P (.region id l.toArray true) QS st := fun w0 Sx γ a w QQ hI hQ => by
  simp only [Bool.and_eq_true, beq_iff_eq] at hB
  refine wp_region_noPanic (wp_region_any hm (wZ _ [] _ _ _ ?_))
  have h1 := h w0 Sx γ a w.drew QQ hI.drew fun s' γ' a' w' hI' hq => hQ .normal s' γ' a' w' hI' hq
  have := anyP_of_move hs (fun _ _ _ _ _ h => h) order _ (Array.replicate l.toArray.size false) a w.drew hB.1 h1
  rw [hB.2] at this
  exact this
end
end Go.Proofs.YtppfcacnofjmdaaGreatDoor
namespace Go.Proofs.YtppfcacnofjmdaaGreatDoor
set_option linter.unusedVariables false
set_option linter.unusedSimpArgs false
open Go.RowKit
section
variable {α : Type}
def fNat (n : Nat) (k : Nat → α) : α := match n with
  | 0 => k 0
  | .succ m => k (.succ m)
theorem qaj (n : Nat) (k : Nat → α) : fNat n k = k n := by cases n <;> rfl
def fInt (n : Int) (k : Int → α) : α := match n with
  | .ofNat a => fNat a fun a => k (.ofNat a)
  | .negSucc a => fNat a fun a => k (.negSucc a)
theorem fInt_eq (n : Int) (k : Int → α) : fInt n k = k n := by cases n <;> simp [fInt, qaj]
def fBool (b : Bool) (k : Bool → α) : α := match b with
  | true => k true
  | false => k false
theorem fBool_eq (b : Bool) (k : Bool → α) : fBool b k = k b := by cases b <;> rfl
def fList {β : Type} : List β → (List β → α) → α
  | [], k => k []
  | x :: r, k => fList r fun r => k (x :: r)
theorem wa {β : Type} : ∀ (l : List β) (k : List β → α), fList l k = k l
  | [], k => rfl
  | x :: r, k => by rw [fList, wa r]
def fStr (s : ByteArray) (k : ByteArray → α) : α := match s with
  | ⟨⟨l⟩⟩ => fList l fun l => k ⟨⟨l⟩⟩
theorem fStr_eq (s : ByteArray) (k : ByteArray → α) : fStr s k = k s := by
  obtain ⟨⟨l⟩⟩ := s; simp [fStr, wa]
def fVal (v : Value) (k : Value → α) : α := match v with
  | .int q n => fInt n fun n => k (.int q n)
  | .bool b => fBool b fun b => k (.bool b)
  | .string s => fStr s fun s => k (.string s)
  | v => k v
theorem fVal_eq (v : Value) (k : Value → α) : fVal v k = k v := by
  cases v <;> simp [fVal, fInt_eq, fBool_eq, fStr_eq]
def fLeaf (p : PV) (k : PV → α) : α := match p with
  | .v x => fVal x fun x => k (.v x)
  | p => k p
theorem fLeaf_eq (p : PV) (k : PV → α) : fLeaf p k = k p := by cases p <;> simp [fLeaf, fVal_eq]
def fLeafs : List PV → (List PV → α) → α
  | [], k => k []
  | p :: r, k => fLeaf p fun p => fLeafs r fun r => k (p :: r)
theorem fLeafs_eq : ∀ (l : List PV) (k : List PV → α), fLeafs l k = k l
  | [], k => rfl
  | p :: r, k => by rw [fLeafs, fLeaf_eq, fLeafs_eq r]
def fPV (p : PV) (k : PV → α) : α := match p with
  | .v x => fVal x fun x => k (.v x)
  | .agg cs => fLeafs cs fun cs => k (.agg cs)
  | .rp cs => fLeafs cs fun cs => k (.rp cs)
  | .sl z l => fList l fun l => k (.sl z l)
  | p => k p
theorem fPV_eq (p : PV) (k : PV → α) : fPV p k = k p := by cases p <;> simp [fPV, fVal_eq, fLeafs_eq, wa]
def fOne (s : SV) (k : SV → α) : α := match s with
  | .p x => fPV x fun x => k (.p x)
  | .ptr i o => fNat i fun i => fNat o fun o => k (.ptr i o)
  | .eptr i z x o => fNat x fun x => fNat o fun o => k (.eptr i z x o)
  | .view i z lo hi => fNat lo fun lo => fNat hi fun hi => k (.view i z lo hi)
  | s => k s
theorem fOne_eq (s : SV) (k : SV → α) : fOne s k = k s := by cases s <;> simp [fOne, fPV_eq, qaj]
def fOnes : List SV → (List SV → α) → α
  | [], k => k []
  | s :: r, k => fOne s fun s => fOnes r fun r => k (s :: r)
theorem fOnes_eq : ∀ (l : List SV) (k : List SV → α), fOnes l k = k l
  | [], k => rfl
  | s :: r, k => by rw [fOnes, fOne_eq, fOnes_eq r]
def fMid (s : SV) (k : SV → α) : α := match s with
  | .agg cs => fOnes cs fun cs => k (.agg cs)
  | .fn f cs => fOnes cs fun cs => k (.fn f cs)
  | s => fOne s k
theorem fMid_eq (s : SV) (k : SV → α) : fMid s k = k s := by cases s <;> simp [fMid, fOne_eq, fOnes_eq]
def fMids : List SV → (List SV → α) → α
  | [], k => k []
  | s :: r, k => fMid s fun s => fMids r fun r => k (s :: r)
theorem fMids_eq : ∀ (l : List SV) (k : List SV → α), fMids l k = k l
  | [], k => rfl
  | s :: r, k => by rw [fMids, fMid_eq, fMids_eq r]
def fSV (s : SV) (k : SV → α) : α := match s with
  | .tup cs => fMids cs fun cs => k (.tup cs)
  | s => fMid s k
theorem fSV_eq (s : SV) (k : SV → α) : fSV s k = k s := by cases s <;> simp [fSV, fMid_eq, fMids_eq]
def fFr : List (Nat × SV) → (List (Nat × SV) → α) → α
  | [], k => k []
  | (t, s) :: r, k => fMid s fun s => fFr r fun r => k ((t, s) :: r)
theorem fFr_eq : ∀ (l : List (Nat × SV)) (k : List (Nat × SV) → α), fFr l k = k l
  | [], k => rfl
  | (t, s) :: r, k => by rw [fFr, fMid_eq, fFr_eq r]
def fEls : List (List PV) → (List (List PV) → α) → α
  | [], k => k []
  | e :: r, k => fLeafs e fun e => fEls r fun r => k (e :: r)
theorem fEls_eq : ∀ (l : List (List PV)) (k : List (List PV) → α), fEls l k = k l
  | [], k => rfl
  | e :: r, k => by rw [fEls, fLeafs_eq, fEls_eq r]
def fMap : List (Value × PV) → (List (Value × PV) → α) → α
  | [], k => k []
  | (v, p) :: r, k => fVal v fun v => fPV p fun p => fMap r fun r => k ((v, p) :: r)
theorem fMap_eq : ∀ (l : List (Value × PV)) (k : List (Value × PV) → α), fMap l k = k l
  | [], k => rfl
  | (v, p) :: r, k => by rw [fMap, fVal_eq, fPV_eq, fMap_eq r]
def fBox (b : Box) (k : Box → α) : α := match b with
  | .row e z l => fList l fun l => k (.row e z l)
  | .cells cs => fOnes cs fun cs => k (.cells cs)
  | .mp es => fList es fun es => k (.mp es)
theorem fBox_eq (b : Box) (k : Box → α) : fBox b k = k b := by cases b <;> simp [fBox, wa, fOnes_eq]
def fOwn : List (Nat × Box) → (List (Nat × Box) → α) → α
  | [], k => k []
  | (i, b) :: r, k => fNat i fun i => fBox b fun b => fOwn r fun r => k ((i, b) :: r)
theorem fOwn_eq : ∀ (l : List (Nat × Box)) (k : List (Nat × Box) → α), fOwn l k = k l
  | [], k => rfl
  | (i, b) :: r, k => by rw [fOwn, qaj, fBox_eq, fOwn_eq r]
end
def ible (a b : Int) : Bool := match a, b with
  | .ofNat a, .ofNat b => Nat.ble a b
  | .negSucc _, .ofNat _ => true
  | .ofNat _, .negSucc _ => false
  | .negSucc a, .negSucc b => Nat.ble b a
theorem jT {a b : Int} (h : ible a b = true) : a ≤ b := by
  cases a <;> cases b <;> simp only [ible, Nat.ble_eq] at h <;> first | (cases h; done) | (simp only [Int.ofNat_eq_natCast, Int.negSucc_eq]; omega)
def wu (n : Int) (m : Nat) : Bool := match n with
  | .ofNat a => Nat.blt a m
  | .negSucc _ => false
theorem jq {n : Int} {m : Nat} (h : wu n m = true) : 0 ≤ n ∧ n < m := by
  cases n <;> simp [wu, Nat.blt] at h
  simp only [Int.ofNat_eq_natCast]; omega
def sEq : List UInt8 → List UInt8 → Bool
  | [], [] => true
  | a :: r, b :: s => bif Nat.beq a.toNat b.toNat then sEq r s else false
  | _, _ => false
noncomputable def lkF {α : Type} (t : Nat) (l : List (Nat × α)) : Option α := @List.rec (Nat × α) (fun _ => Option α) none (fun p _ ih => @Prod.rec Nat α (fun _ => Option α) (fun u s => @Bool.rec (fun _ => Option α) ih (some s) (Nat.beq t u)) p) l
theorem qY {α : Type} (t : Nat) : ∀ l : List (Nat × α), lkF t l = lk t l
  | [] => rfl
  | (u, s) :: r => by
    have ih := qY t r
    unfold lkF at ih ⊢
    rw [lk]
    show @Bool.rec (fun _ => Option α) _ _ _ = _
    cases h : Nat.beq t u <;> simp [ih]
noncomputable def evF (st : St) (x : Operand) : Option SV := match x with
  | .tmp t => lkF t st.fr
  | x => evS st x
theorem evF_eq (st : St) (x : Operand) : evF st x = evS st x := by cases x <;> simp [evF, evS, qY]
noncomputable section
def binC (op : BinOp) (a b : Value) : Bool := match op with
  | .shl => (match b with | .int _ b => ible 0 b | _ => false)
  | .shr => (match b with | .int _ b => ible 0 b | _ => false)
  | .quo => (match b with | .int _ b => !(decide (b = 0)) | _ => false)
  | .rem => (match b with | .int _ b => !(decide (b = 0)) | _ => false)
  | .add => (match a, b with | .string a, .string b => Nat.ble (a.size + b.size) 9223372036854775807 | _, _ => true)
  | _ => true
def rBinC (T : TT) (op : BinOp) (t : TypeId) (a b : Option SV) : Bool := match a, b with
  | some (.p (.v a)), some (.p (.v b)) => binC op a b
  | some (.p (.agg xs)), some (.p (.agg _)) => (match lkF t T with
    | some ⟨_, _, _, z, _⟩ => zm xs z
    | none => false)
  | _, _ => false
def jn (T : TT) (st : St) (t : TypeId) (a i : Option SV) : Bool := match i with
  | some (.p (.v (.int _ n))) => (match a with
    | some (.p (.sl _ l)) => wu n l.length
    | some (.row j) => (match lkF j st.own with
      | some (.row _ _ l) => wu n l.length
      | _ => false)
    | some (.view _ _ lo hi) => wu n (hi - lo)
    | _ => (match lkF t T with
      | some ⟨_, _, .arr len _, _, _⟩ => wu n len
      | _ => false))
  | _ => false
def rIndexC (T : TT) (t : TypeId) (a i : Option SV) : Bool := match i with
  | some (.p (.v (.int _ n))) => (match a with
    | some (.p (.v (.string s))) => wu n s.size
    | _ => (match lkF t T with
      | some ⟨_, _, .arr len _, _, _⟩ => wu n len
      | _ => false))
  | _ => false
def endsC (st : St) (n : Nat) (lo hi : Option Operand) : Bool := match ends st n lo hi with
  | some (l, h) => (ible 0 l && ible l h) && ible h (.ofNat n)
  | none => false
def rSliceC (st : St) (a : Option SV) (lo hi : Option Operand) : Bool := match a with
  | some (.p (.v (.string s))) => endsC st s.size lo hi
  | some (.p (.sl _ xs)) => endsC st xs.length lo hi
  | some (.row j) => (match lkF j st.own with
    | some (.row _ _ xs) => endsC st xs.length lo hi
    | _ => false)
  | some (.view _ _ lo0 hi0) => endsC st (hi0 - lo0) lo hi
  | _ => false
def rLoadC (st : St) (a : Option SV) : Bool := match a with
  | some (.eptr j _ k _) => (match lkF j st.own with
    | some (.row _ _ l) => Nat.blt k l.length
    | _ => false)
  | _ => true
def rLookupC (T : TT) (st : St) (t : TypeId) (m : Option SV) : Bool := match m, lkF t T with
  | some (.row j), some ⟨_, _, .mp kt _, _, _⟩ => (match lkF kt T, lkF j st.own with
    | some ki, some (.mp es) => es.all fun x => kdOk ki.d x.1
    | _, _ => false)
  | _, _ => false
section
variable {β : Type}
def goF (r : Option (Prop × SV)) (c : Bool) (k : SV → Option β) : Option β := match r with
  | some (_, s) => bif c then fSV s k else none
  | none => none
def goP (r : Option (Prop × SV)) (k : SV → Option β) : Option β := match r with
  | some (_, s) => k s
  | none => none
def goS (r : Option SV) (k : SV → Option β) : Option β := match r with
  | some s => k s
  | none => none
def eStr (op : BinOp) (a b : ByteArray) (k : SV → Option β) : Option β := match op with
  | .eql => fBool (sEq a.data.toList b.data.toList) fun r => k (.p (.v (.bool r)))
  | .neq => fBool (!(sEq a.data.toList b.data.toList)) fun r => k (.p (.v (.bool r)))
  | .add => bif Nat.ble (a.size + b.size) 9223372036854775807 then fList (a.data.toList ++ b.data.toList) fun l => k (.p (.v (.string ⟨⟨l⟩⟩))) else none
  | .lss => fBool (Op.bytesLess a.data.toList b.data.toList) fun r => k (.p (.v (.bool r)))
  | .geq => fBool (!(Op.bytesLess a.data.toList b.data.toList)) fun r => k (.p (.v (.bool r)))
  | .leq => fBool (Op.bytesLess a.data.toList b.data.toList || sEq a.data.toList b.data.toList) fun r => k (.p (.v (.bool r)))
  | .gtr => fBool (!(Op.bytesLess a.data.toList b.data.toList || sEq a.data.toList b.data.toList)) fun r => k (.p (.v (.bool r)))
  | _ => none
def isNil (T : TT) (st : St) (t : TypeId) (ptr : Bool) (a : SV) : Option Bool := match lkF t T, ptr with
  | some ⟨_, _, .sl _, _, _⟩, false => (match a with
    | .p (.v (.slice none 0 0)) => some true
    | .p (.sl _ (_ :: _)) => some false
    | .row j => (match lkF j st.own with
      | some (.row _ _ (_ :: _)) => some false
      | _ => none)
    | _ => none)
  | some ⟨_, _, .ptr, _, _⟩, true => (match a with
    | .p (.v (.pointer none)) => some true
    | .p (.rp _) => some false
    | .ptr _ _ => some false
    | .eptr _ _ _ _ => some false
    | _ => none)
  | _, _ => none
def eIfc (T : TT) (op : BinOp) (t t' : TypeId) (a : Option SV) (k : SV → Option β) : Option β := match a, lkF t T, Nat.beq t t' with
  | some (.p (.v .nilIface)), some ⟨_, _, .ifc, _, _⟩, true => (match op with
    | .eql => k (.p (.v (.bool true)))
    | .neq => k (.p (.v (.bool false)))
    | _ => none)
  | _, _, _ => none
def eNil (T : TT) (st : St) (op : BinOp) (t t' : TypeId) (ptr : Bool) (a : Option SV) (k : SV → Option β) : Option β := match a, Nat.beq t t' with
  | some a, true => (match isNil T st t ptr a, op with
    | some b, .eql => k (.p (.v (.bool b)))
    | some true, .neq => k (.p (.v (.bool false)))
    | some false, .neq => k (.p (.v (.bool true)))
    | _, _ => none)
  | _, _ => none
def isConst : Operand → Bool
  | .const _ => true
  | _ => false
def eBin (T : TT) (st : St) (op : BinOp) (t t' : TypeId) (cst : Bool) (a b : Option SV) (k : SV → Option β) : Option β := match a, b with
  | some (.p (.v (.string a))), some (.p (.v (.string b))) => eStr op a b k
  | a, some (.p (.v (.slice none 0 0))) => eNil T st op t t' false a k
  | a, some (.p (.v (.pointer none))) => eNil T st op t t' true a k
  | a, some (.p (.v .nilIface)) => bif cst then eIfc T op t t' a k else none
  | a, b => goF (rBin T op t a b) (rBinC T op t a b) k
def eIndex (T : TT) (t : TypeId) (a i : Option SV) (k : SV → Option β) : Option β := match a, i with
  | some (.p (.v (.string s))), some (.p (.v (.int _ n))) => (match lkF t T with
    | some ⟨_, _, .str, _, _⟩ => (match s.data.toList[n.toNat]? with
      | some b => bif wu n s.size then fNat b.toNat fun b => k (.p (.v (.int .u8 (.ofNat b)))) else none
      | none => none)
    | _ => none)
  | a, i => goF (rIndex T t a i) (rIndexC T t a i) k
def eSliceX (T : TT) (st : St) (t : TypeId) (a : Option SV) (lo hi : Option Operand) (k : SV → Option β) : Option β := match lkF t T with
  | some ⟨_, _, .sl e, _, _⟩ => (match a, ends st 0 lo hi with
    | some (.p (.v (.slice none 0 0))), some (l, h) => bif (lkF e T).isSome && (ible 0 l && ible l h && ible h 0) then k (.p (.v (.slice none 0 0))) else none
    | _, _ => none)
  | _ => none
def eSlice (T : TT) (st : St) (t : TypeId) (a : Option SV) (lo hi mx : Option Operand) (k : SV → Option β) : Option β := match a with
  | some (.p (.v (.string s))) => (match mx, lkF t T, ends st s.size lo hi with
    | none, some ⟨_, _, .str, _, _⟩, some (l, h) => bif (ible 0 l && ible l h) && ible h (.ofNat s.size) then fList ((s.data.toList.drop l.toNat).take (h.toNat - l.toNat)) fun l => k (.p (.v (.string ⟨⟨l⟩⟩))) else none
    | _, _, _ => none)
  | some (.p (.v (.slice none 0 0))) => (match mx with
    | none => eSliceX T st t a lo hi k
    | some _ => none)
  | a => goF (rSlice T st t a lo hi mx) (rSliceC st a lo hi) k
def eCall (T : TT) (st : St) (c : Call) (k : SV → Option β) : Option β := match c.callee with
  | .builtin .len => (match c.args.toList, c.argTypes.toList with
    | [x], [t] => goF (rLen T st t (evF st x)) true k
    | _, _ => none)
  | .builtin .min => (match c.args.toList with
    | [x, y] => goF (rMinMax true (evF st x) (evF st y)) true k
    | _ => none)
  | .builtin .max => (match c.args.toList with
    | [x, y] => goF (rMinMax false (evF st x) (evF st y)) true k
    | _ => none)
  | .builtin .real => (match c.args.toList with
    | [x] => goP (rReal (evF st x)) k
    | _ => none)
  | .builtin .imag => (match c.args.toList with
    | [x] => goP (rImag (evF st x)) k
    | _ => none)
  | .builtin .complex => (match c.args.toList with
    | [x, y] => goP (rCplx (evF st x) (evF st y)) k
    | _ => none)
  | _ => none
def eUn (op : UnOp) (x : Option SV) (k : SV → Option β) : Option β := match x with
  | some (.p (.v v)) => (match unS op v with
    | some v => fVal v fun v => k (.p (.v v))
    | none => none)
  | _ => none
def eFn (T : TT) (K : List Nat) (st : St) (o : Op) (k : SV → Option β) : Option β := goF (opR T K st o) true k
def eExtract (x : Option SV) (n : Nat) (k : SV → Option β) : Option β := match x with
  | some (.tup cs) => goS cs[n]? k
  | _ => none
def byteOf : List PV → Option UInt8
  | [.v (.int .u8 n)] => some (UInt8.ofNat n.toNat)
  | _ => none
def bytesOf : List (List PV) → Option (List UInt8)
  | [] => some []
  | c :: r => match byteOf c with
    | some b => match bytesOf r with
      | some l => some (b :: l)
      | none => none
    | none => none
def eText (T : TT) (s d : TypeId) (l : List (List PV)) (k : SV → Option β) : Option β := match lkF s T, lkF d T with
  | some ⟨_, _, .sl e, _, _⟩, some ⟨_, _, .str, _, _⟩ => (match lkF e T, bytesOf l with
    | some ⟨_, _, .int .u8, _, _⟩, some bs => fList bs fun bs => k (.p (.v (.string ⟨⟨bs⟩⟩)))
    | _, _ => none)
  | _, _ => none
def eConv (T : TT) (K : List Nat) (st : St) (s d : TypeId) (a : Option SV) (k : SV → Option β) : Option β := match a with
  | some (.p (.sl _ l)) => eText T s d l k
  | some (.p (.v (.slice none 0 0))) => eText T s d [] k
  | some (.row j) => bif K.contains j then none else (match lkF j st.own with
    | some (.row _ _ l) => eText T s d l k
    | _ => none)
  | a => goF (rConv T s d a) true k
def isRd (o : Op) : Bool := match o with
  | .move _ => true | .assign _ => true | .pick _ _ _ => true | .binOp _ _ _ _ _ => true | .unOp _ _ _ => true | .convert _ _ _ => true | .field _ _ _ => true | .fieldAddr _ _ _ => true
  | .indexAddr _ _ _ => true | .index _ _ _ => true | .slice _ _ _ _ _ => true | .load _ _ => true | .extract _ _ => true | .makeFunc _ _ _ => true | .lookup _ _ _ _ => true | .build _ _ => true | .nilCheck _ => true
  | .call c => (match c.callee with | .builtin .append => false | .builtin _ => true | _ => false)
  | _ => false
def opE (T : TT) (K : List Nat) (st : St) (o : Op) (k : SV → Option β) : Option β := match o with
  | .move x => goS (evF st x) k
  | .assign x => goS (evF st x) k
  | .pick c a b => goP (rPick (evF st c) (evF st a) (evF st b)) k
  | .binOp op t x y t' => eBin T st op t t' (isConst y) (evF st x) (evF st y) k
  | .unOp op _ x => eUn op (evF st x) k
  | .convert s d x => eConv T K st s d (evF st x) k
  | .field t x f => goF (rField T t (evF st x) f) true k
  | .fieldAddr t x f => goF (wR T t (evF st x) f) true k
  | .indexAddr t x i => goF (wh T st t (evF st x) (evF st i)) (jn T st t (evF st x) (evF st i)) k
  | .index t x i => eIndex T t (evF st x) (evF st i) k
  | .slice t x lo hi mx => eSlice T st t (evF st x) lo hi mx k
  | .load t a => goF (rLoad T K st t (evF st a)) (rLoadC st (evF st a)) k
  | .extract x n => eExtract (evF st x) n k
  | .makeFunc f first caps => eFn T K st (.makeFunc f first caps) k
  | .call c => eCall T st c k
  | .lookup t m key true => goF (rLookup T K st t (evF st m) (evF st key)) (rLookupC T st t (evF st m)) k
  | .build t parts => eFn T K st (.build t parts) k
  | .nilCheck x => eFn T K st (.nilCheck x) k
  | _ => none
end
def mem (i : Nat) : List Nat → Bool
  | [] => false
  | j :: r => bif Nat.beq i j then true else mem i r
mutual
def refs : SV → List Nat
  | .p _ => []
  | .junk => []
  | .row i => [i]
  | .ptr i _ => [i]
  | .eptr i _ _ _ => [i]
  | .view i _ _ _ => [i]
  | .agg cs => refss cs
  | .tup cs => refss cs
  | .fn _ cs => refss cs
def refss : List SV → List Nat
  | [] => []
  | s :: r => refs s ++ refss r
end
def reach (own : List (Nat × Box)) : Nat → List Nat → List Nat → List Nat
  | 0, _, seen => seen
  | _ + 1, [], seen => seen
  | f + 1, i :: todo, seen => bif mem i seen then reach own f todo seen else match lkF i own with
    | some (.cells cs) => reach own f (refss cs ++ todo) (i :: seen)
    | some _ => reach own f todo (i :: seen)
    | none => reach own f todo seen
def ju (big : Bool) : Nat → List Nat → List (Nat × Nat)
  | _, [] => []
  | k, i :: r => bif !big && Nat.ble 1000000 i then (i, i) :: ju big k r else (i, k) :: ju big (k + 1) r
def rowsIn (st : St) : List Nat → List Nat
  | [] => []
  | i :: r => match lkF i st.own with
    | some (.row _ _ _) => i :: rowsIn st r
    | _ => rowsIn st r
def keys : List (Nat × SV) → List Nat → List Nat
  | [], acc => acc
  | (t, .junk) :: r, acc => keys r acc
  | (t, _) :: r, acc => bif mem t acc then keys r acc else keys r (t :: acc)
section
variable {α : Type}
def fNats : List Nat → (List Nat → α) → α
  | [], k => k []
  | i :: r, k => fNat i fun i => fNats r fun r => k (i :: r)
theorem fNats_eq : ∀ (l : List Nat) (k : List Nat → α), fNats l k = k l
  | [], k => rfl
  | i :: r, k => by rw [fNats, qaj, fNats_eq r]
def fRen : List (Nat × Nat) → (List (Nat × Nat) → α) → α
  | [], k => k []
  | (i, j) :: r, k => fNat i fun i => fNat j fun j => fRen r fun r => k ((i, j) :: r)
theorem fRen_eq : ∀ (l : List (Nat × Nat)) (k : List (Nat × Nat) → α), fRen l k = k l
  | [], k => rfl
  | (i, j) :: r, k => by rw [fRen, qaj, qaj, fRen_eq r]
def fSt (st : St) (k : St → α) : α := match st with
  | ⟨n, fr, own⟩ => fNat n fun n => fFr fr fun fr => fOwn own fun own => k ⟨n, fr, own⟩
theorem fSt_eq (st : St) (k : St → α) : fSt st k = k st := by cases st; simp [fSt, qaj, fFr_eq, fOwn_eq]
def fN (st : St) (k : St → α) : α := match st with
  | ⟨n, fr, own⟩ => fNat n fun n => k ⟨n, fr, own⟩
theorem fN_eq (st : St) (k : St → α) : fN st k = k st := by cases st; simp [fN, qaj]
def putE (st : St) (dst : Option Tmp) (s : SV) (k : St → α) : α := match dst, st with
  | some d, ⟨n, fr, own⟩ => k ⟨n, (d, s) :: fr, own⟩
  | none, st => k st
theorem putE_eq (st : St) (dst : Option Tmp) (s : SV) (k : St → α) : putE st dst s k = k (st.put dst s) := by cases dst <;> rfl
end
section
variable {β : Type}
def frzAll : List Nat → St → (St → Option β) → Option β
  | [], st, k => k st
  | i :: r, st, k => match lkF i st.own with
    | some (.row _ z l) => fSt (st.frz i z l) fun st => frzAll r st k
    | _ => frzAll r st k
structure FnI where
  n : Nat
  c : Code
  ts : List ResultVar
  ords : List (Nat × List (Nat × Bool))
structure Cx where
  T : TT
  F : List (FuncId × FnI)
  C : FuncId → List PV → Option SV
abbrev Ret := Option (SV × List (Nat × Box))
def newBox (st : St) (d : Nat) (s : SV) (bx : Box) (k : List Nat → St → Option β) : Option β :=
  bif (lkF d st.own).isNone && Nat.blt d st.n then fBox bx fun bx => fN ⟨st.n, (d, s) :: st.fr, (d, bx) :: st.own⟩ fun st => k [] st else none
def rhoOk (ρ : List (Nat × Nat)) : Bool := (dist (ρ.map (·.1)) && dist (ρ.map (·.2))) && ρ.all (fun p => Nat.ble 1000000 p.2)
def backE (st : St) (o : Oper) (ρ : List (Nat × Nat)) (rt : Ret) (k : List Nat → St → Option β) : Option β := match rt with
  | some (r, own') => bif zn st o.dst && backOk st ρ o.dst own' then (match st.back ρ o.dst r own' with
    | some st' => fSt st' fun st' => k (ρ.map (·.1)) st'
    | none => none) else none
  | none => none
def enterE (ev : FuncId → FnI → List SV → List (Nat × Box) → Ret) (st : St) (o : Oper) (f : FuncId) (fi : FnI) (caps : List SV) (xs : List Operand) (ρ : List (Nat × Nat)) (k : List Nat → St → Option β) : Option β := match ownR ρ st.own ρ, argWs st ρ xs, mapRs ρ caps with
  | some own, some a, some c => bif rhoOk ρ then (fOnes (a ++ c) fun args => fOwn own fun own => backE st o ρ (ev f fi args own) k) else none
  | _, _, _ => none
def callE (cx : Cx) (ev : FuncId → FnI → List SV → List (Nat × Box) → Ret) (st : St) (o : Oper) (pf : Bool) (f : FuncId) (caps : List SV) (xs : List Operand) (k : List Nat → St → Option β) : Option β :=
  match lkF f cx.F with
  | some fi => (match evs st xs with
    | some ss => fRen (ju true 1000000 (reach st.own 1000 (refss ss ++ refss caps) [])) fun ρ => enterE ev st o f fi caps xs ρ k
    | none => none)
  | none => (match pf, pures caps, argPs st xs with
    | true, some cps, some (ps, _) => (match cx.C f (ps ++ cps) with
      | some r => bif flatS r && zn st o.dst then (putE st o.dst r fun st => k [] st) else none
      | none => none)
    | _, _, _ => none)
def isPS : SV → Bool
  | .p _ => true
  | _ => false
def appRow (st : St) (d : Nat) (e : TypeId) (ei : TyI) (j : Nat) (s2 : Option SV) (k : St → Option β) : Option β := match lkF j st.own, s2 with
  | some (.row e' z l), some s2 => (match srcL st ei.size (some j) s2 with
    | some l2 => bif Nat.beq e' e && Nat.beq z ei.size && Nat.ble (l.length + l2.length) reachBytes && Nat.ble ((l.length + l2.length) * ei.bytes) 140737488355328 && (lk d (killO j st.own)).isNone then
      (fList (l ++ l2) fun l3 => fSt ⟨st.n, (d, .row d) :: killF j st.fr, (d, .row e ei.size l3) :: killO j st.own⟩ k) else none
    | none => none)
  | _, _ => none
def shrunk (st : St) (t j z m : Nat) (e : TypeId) (l : List (List PV)) : St := ⟨st.n, (t, .row 904999) :: killF j st.fr, (904999, .row e z (l.take m)) :: killO j st.own⟩
def appView (st : St) (d : Nat) (e : TypeId) (ei : TyI) (sx xx : Operand) (j zv m : Nat) (k : St → Option β) : Option β := match sx, lkF j st.own with
  | .tmp t, some (.row e' z l0) => bif (lk 904999 st.own).isNone && Nat.beq zv z then fSt (shrunk st t j z m e' l0) fun st1 => appRow st1 d e ei 904999 (evF st1 xx) k else none
  | _, _ => none
def appNil (st : St) (d : Nat) (e : TypeId) (ei : TyI) (s2 : Option SV) (k : List Nat → St → Option β) : Option β := match s2 with
  | some s2 => (match srcL st ei.size none s2 with
    | some l2 => bif Nat.ble (l2.length * ei.bytes) 140737488355328 then newBox st d (.row d) (.row e ei.size l2) k else none
    | none => none)
  | none => none
def appE (T : TT) (st : St) (o : Oper) (sx xx : Operand) (t : TypeId) (k : List Nat → St → Option β) : Option β := match o.dst, lkF t T with
  | some d, some ⟨_, _, .sl e, _, _⟩ => (match lkF e T with
    | some ei => bif Nat.blt 0 ei.size && Nat.beq ei.zero.length ei.size && Nat.blt d st.n then (match evF st sx with
      | some (.p (.v (.slice none 0 0))) => appNil st d e ei (evF st xx) k
      | some (.row j) => appRow st d e ei j (evF st xx) fun st => k [j] st
      | some (.view j z 0 m) => appView st d e ei sx xx j z m fun st => k [j] st
      | _ => none) else none
    | none => none)
  | _, _ => none
def boxE (st : St) (dst : Option Tmp) (s : Option SV) (k : List Nat → St → Option β) : Option β := match dst, s with
  | some d, some s => (match cellsOf s with
    | some cs => bif cs.all oneS then newBox st d (.ptr d 0) (.cells cs) k else none
    | none => none)
  | _, _ => none
def allocE (T : TT) (st : St) (dst : Option Tmp) (e : TypeId) (k : List Nat → St → Option β) : Option β := match dst, lkF e T with
  | some d, some i => bif i.zero.all plain then newBox st d (.ptr d 0) (.cells (i.zero.map fun z => .p (.v z))) k else none
  | _, _ => none
def buildE (T : TT) (st : St) (dst : Option Tmp) (t : TypeId) (len : Nat) (xs : List Operand) (k : List Nat → St → Option β) : Option β := match dst, lkF t T, evs st xs with
  | some d, some ⟨_, _, .sl e, _, _⟩, some ss => (match lkF e T with
    | some ei => bif Nat.blt 0 ei.size && Nat.ble (len * ei.size) 16777216 && Nat.beq xs.length len then
        (fNats (rowsIn st (refss ss)) fun ids => frzAll ids st fun st => match bElems st ei.size xs with
          | some l => fEls l fun l => newBox st d (.row d) (.row e ei.size l) k
          | none => none)
        else none
    | none => none)
  | _, _, _ => none
def storeE (T : TT) (st : St) (t : TypeId) (ad x : Option SV) (k : List Nat → St → Option β) : Option β := match lkF t T, ad, x with
  | some ti, some (.ptr j off), some s => (match lkF j st.own, cellsOf s with
    | some (.cells cs), some xs => bif xs.all oneS && Nat.beq xs.length ti.size && Nat.ble (off + xs.length) cs.length then
        (fOnes (cs.take off ++ xs ++ cs.drop (off + xs.length)) fun cs => fOwn (setB j (.cells cs) st.own) fun own => fN ⟨st.n, st.fr, own⟩ fun st => k [j] st) else none
    | _, _ => none)
  | some ti, some (.eptr j z i off), some s => (match lkF j st.own, cellsP s with
    | some (.row e z' l), some xs => bif Nat.beq z z' && xs.all oneP && Nat.beq xs.length ti.size && Nat.ble (off + xs.length) z && Nat.blt i l.length then
        (fLeafs ((l.getD i []).take off ++ xs ++ (l.getD i []).drop (off + xs.length)) fun c => fList (l.set i c) fun l => fOwn (setB j (.row e z l) st.own) fun own => fN ⟨st.n, st.fr, own⟩ fun st => k [j] st) else none
    | _, _ => none)
  | _, _, _ => none
def mapE (T : TT) (st : St) (t : TypeId) (m key x : Option SV) (k : List Nat → St → Option β) : Option β := match lkF t T, m, key, x with
  | some ⟨_, _, .mp kt _, _, _⟩, some (.row j), some (.p (.v kv)), some (.p p) => (match lkF kt T, lkF j st.own with
    | some ki, some (.mp es) => bif kdOk ki.d kv && es.all (fun x => kdOk ki.d x.1) && (mfind kv es).isNone then
        (fMap (es ++ [(kv, p)]) fun es => fOwn (setB j (.mp es) st.own) fun own => fN ⟨st.n, st.fr, own⟩ fun st => k [j] st) else none
    | _, _ => none)
  | _, _, _, _ => none
def acallE (cx : Cx) (ev : FuncId → FnI → List SV → List (Nat × Box) → Ret) (st : St) (o : Oper) (c : Call) (k : List Nat → St → Option β) : Option β := match c.callee with
  | .builtin .append => (match c.args.toList, c.argTypes.toList with
    | [sx, xx], [t, t'] => bif Nat.beq t t' then appE cx.T st o sx xx t k else none
    | _, _ => none)
  | .value fo => (match evF st fo with
    | some s => (match fnOf s with
      | some (f, caps) => callE cx ev st o (isPS s) f caps c.args.toList k
      | none => none)
    | none => none)
  | _ => none
def actE (cx : Cx) (ev : FuncId → FnI → List SV → List (Nat × Box) → Ret) (st : St) (o : Oper) (k : List Nat → St → Option β) : Option β := match o.op with
  | .alloc e => allocE cx.T st o.dst e k
  | .box _ x => boxE st o.dst (evF st x) k
  | .buildSlice t len parts => (match jJ 0 parts.toList with
    | some xs => buildE cx.T st o.dst t len xs k
    | none => none)
  | .store t ad x => (match o.dst with
    | none => storeE cx.T st t (evF st ad) (evF st x) k
    | some _ => none)
  | .makeMap _ none => (match o.dst with
    | some d => newBox st d (.row d) (.mp []) k
    | none => none)
  | .mapUpdate t m key x => (match o.dst with
    | none => mapE cx.T st t (evF st m) (evF st key) (evF st x) k
    | some _ => none)
  | .call c => acallE cx ev st o c k
  | _ => none
def stepE (cx : Cx) (ev : FuncId → FnI → List SV → List (Nat × Box) → Ret) (K : List Nat) (st : St) (o : Oper) (k : List Nat → St → Option β) : Option β :=
  bif isRd o.op then (bif zn st o.dst then opE cx.T K st o.op fun s => putE st o.dst s fun st => k [] st else none) else actE cx ev st o k
end
def evT (cx : Cx) (ev : FuncId → FnI → List SV → List (Nat × Box) → Ret) (ops : List Oper) : List Oper → St → Option St
  | [], st => some st
  | o :: r, st => match zw ops st o with
    | some true => stepE cx ev [] st o fun _ st' => evT cx ev ops r st'
    | some false => bif zn st o.dst then putE st o.dst (.tup []) fun st => evT cx ev ops r st else none
    | none => none
def kapOf (K : List Nat) (st : St) (o : Op) : List Nat := match o with
  | .load _ a => (match evF st a with
    | some s => K.filter fun j => !mem j (refs s)
    | none => K)
  | .lookup _ m _ _ => (match evF st m with
    | some s => K.filter fun j => !mem j (refs s)
    | none => K)
  | .convert _ _ x => (match evF st x with
    | some (.row j) => K.filter fun i => !(Nat.beq i j)
    | _ => K)
  | _ => K
def okW (w : List Nat) (κ : Kap) : Bool := κ.all fun p => w.all fun i => mem i p.2
def evM (cx : Cx) (ev : FuncId → FnI → List SV → List (Nat × Box) → Ret) (ops : List Oper) (K : List Nat) (chk : Bool) : List (Nat × Bool) → Kap → List Nat → St → Option (List Nat × St)
  | [], _, ws, st => some (ws, st)
  | (i, b) :: r, κ, ws, st => match nthO ops i with
    | some o => match zw ops st o with
      | some true => bif b then (bif zn st o.dst then fNats (kapOf K st o.op) fun Ki => opE cx.T Ki st o.op fun s => putE st o.dst s fun st => evM cx ev ops K chk r ((i, Ki) :: κ) ws st else none)
        else stepE cx ev [] st o fun w st' => bif !chk || okW w (kapB o κ) then evM cx ev ops K chk r (kapB o κ) (w ++ ws) st' else none
      | some false => bif zn st o.dst then putE st o.dst (.tup []) fun st => evM cx ev ops K chk r κ ws st else none
      | none => none
    | none => none
def dstsOf : List Oper → List Nat
  | [] => []
  | o :: r => match o.dst with
    | some d => d :: (1000 * (d + 1)) :: dstsOf r
    | none => dstsOf r
def idsOf : List (Nat × Box) → List Nat
  | [] => []
  | (i, _) :: r => i :: idsOf r
def evReg (cx : Cx) (ev : FuncId → FnI → List SV → List (Nat × Box) → Ret) (ords : List (Nat × List (Nat × Bool))) (id : Nat) (ops : List Oper) (st : St) : Bool → Option St
  | false => evT cx ev ops ops st
  | true => match lkF id ords with
    | some od => fNats (idsOf st.own ++ dstsOf ops) fun K0 => match evM cx ev ops K0 true od [] [] st with
      | some (_, st') => some st'
      | none => match evM cx ev ops [] false od [] [] st with
        | some ([], st') => some st'
        | some (ws, _) => fNats ws fun ws => match evM cx ev ops ws true od [] [] st with
          | some (_, st') => some st'
          | none => none
        | none => none
    | none => none
def lent : List (Nat × Box) → List Nat
  | [] => []
  | (i, _) :: r => bif Nat.ble 1000000 i then i :: lent r else lent r
def turnE {β : Type} (ts : List Nat) (st : St) (k : St → Option β) : Option β :=
  fRen (ju false 905000 (reach st.own 1000 (match frR (st.own.map fun p => (p.1, p.1)) st.fr ts with | some fr => refss (fr.map (·.2)) ++ lent st.own | none => lent st.own) [])) fun ρ => bif renOk ρ then (match st.only ts ρ with
    | some st' => fSt st' k
    | none => none) else none
def evC (cx : Cx) (ev : FuncId → FnI → List SV → List (Nat × Box) → Ret) (ords : List (Nat × List (Nat × Bool))) (again : Code → St → Option (SEx × St)) (jump : Code → Nat → St → Option (SEx × St)) : Code → St → Option (SEx × St)
  | .skip, st => some (.normal, st)
  | .region id ops d, st => match evReg cx ev ords id ops.toList st d with
    | some st' => some (.normal, st')
    | none => none
  | .seq a b, st => match evC cx ev ords again jump a st with
    | some (.normal, st') => evC cx ev ords again jump b st'
    | r => r
  | .cond c a b, st => match evF st c with
    | some (.p (.v (.bool true))) => evC cx ev ords again jump a st
    | some (.p (.v (.bool false))) => evC cx ev ords again jump b st
    | _ => none
  | .block id b, st => match evC cx ev ords again jump b st with
    | some (.exit i, st') => bif Nat.beq i id then some (.normal, st') else some (.exit i, st')
    | r => r
  | .loop b, st => fNats (keys st.fr []) fun ts => match evC cx ev ords again jump b st with
    | some (.normal, st') => turnE ts st' fun st'' => again (.loop b) st''
    | r => r
  | .exit id, st => some (.exit id, st)
  | .ret, st => some (.ret, st)
  | .label _, st => some (.normal, st)
  | .goto l, st => some (.goto l, st)
  | .scope b, st => match evC cx ev ords again jump b st with
    | some (.goto l, st') => turnE (keys st'.fr []) st' fun st'' => jump b l st''
    | r => r
  | _, _ => none
def resO (T : TT) (st : St) : ResultVar → Option SV
  | .tmp t => lk t st.fr
  | .cell a t => match rLoad T [] st t (lk a st.fr), lk a st.fr with
    | some (_, s), some (.ptr _ _) => some s
    | _, _ => none
def resOs (T : TT) (st : St) : List ResultVar → Option (List SV)
  | [] => some []
  | t :: r => match resO T st t with
    | some s => match resOs T st r with
      | some l => some (s :: l)
      | none => none
    | none => none
def resC (T : TT) (st : St) : List ResultVar → Option SV
  | [t] => resO T st t
  | ts => match resOs T st ts with
    | some l => some (.tup l)
    | none => none
def finE (T : TT) (ts : List ResultVar) (st : St) : Ret := match resC T st ts with
  | some s => fRen (ju false 0 (reach st.own 1000 (refs s ++ lent st.own) [])) fun ρ => match s.mapR ρ, ownR ρ st.own ρ with
    | some r, some own => bif renOk ρ then fSV r fun r => fOwn own fun own => some (r, own) else none
    | _, _ => none
  | none => none
def finR (T : TT) (ts : List ResultVar) (r : Option (SEx × St)) : Ret := match r with
  | some (.normal, st') => finE T ts st'
  | some (.ret, st') => finE T ts st'
  | _ => none
def jumpE (run : Code → St → Option (SEx × St)) (go : St → Option (SEx × St)) (b : Code) (l : Nat) (st : St) : Option (SEx × St) := match findLabel b l with
  | some rest => (match run rest st with
    | some (.goto l', st') => bif Nat.beq l' l then turnE (keys st'.fr []) st' go else none
    | r => r)
  | none => none
abbrev Ords := List (Nat × List (Nat × Bool))
def evNJ (cx : Cx) : Nat → (Ords → Code → St → Option (SEx × St)) × (Ords → Code → Nat → St → Option (SEx × St))
  | 0 => (fun _ _ _ => none, fun _ _ _ _ => none)
  | n + 1 =>
    (fun ords c st => evC cx (fun _ fi args own => bif Nat.ble args.length fi.n then finR cx.T fi.ts ((evNJ cx n).1 fi.ords fi.c ⟨fi.n, jN 0 args, own⟩) else none) ords ((evNJ cx n).1 ords) ((evNJ cx n).2 ords) c st,
     fun ords b l st => jumpE (evC cx (fun _ fi args own => bif Nat.ble args.length fi.n then finR cx.T fi.ts ((evNJ cx n).1 fi.ords fi.c ⟨fi.n, jN 0 args, own⟩) else none) ords ((evNJ cx n).1 ords) ((evNJ cx n).2 ords)) ((evNJ cx n).2 ords b l) b l st)
def evN (cx : Cx) (n : Nat) (ords : Ords) (c : Code) (st : St) : Option (SEx × St) := (evNJ cx n).1 ords c st
def evJ (cx : Cx) (n : Nat) (ords : Ords) (b : Code) (l : Nat) (st : St) : Option (SEx × St) := (evNJ cx n).2 ords b l st
def chkR (ords : List (Nat × List (Nat × Bool))) (id : Nat) (ops : Array Oper) : Bool := match lk id ords with
  | some od => Region.noSelect ops && (zW .any ops od (Array.replicate ops.size false) && od.length == ops.size)
  | none => true
def chkC (ords : List (Nat × List (Nat × Bool))) : Code → Bool
  | .region id ops true => chkR ords id ops
  | .seq a b => chkC ords a && chkC ords b
  | .cond _ a b => chkC ords a && chkC ords b
  | .block _ b => chkC ords b
  | .loop b => chkC ords b
  | .scope b => chkC ords b
  | _ => true
end
end Go.Proofs.YtppfcacnofjmdaaGreatDoor
