/-
  What the statement leans on, part 3: Small, ConvV, Conv, Value, PolS, ValH, PolH, AskS, HasS, ExS, ExT, EvS, PolM, PolP, EvP, PolE, PolW, Data, Data2, Data3, Data4, PolF, SzS, VarP, AskG, LessH, Fun, Fun2, Fun3, ExF, TgtH, FewH, GivO, Pend, Eval.
-/
import Derived.WalkLawsBesides
import Derived.WalkSpells
import Derived.Deep.Cut
import Derived.Deep.Light
import Derived.Test.YtppfcacnofjmdaaGreatDoorRows
import Derived.Test.YtppfcacnofjmdaaGreatDoorPk1
import Derived.Test.YtppfcacnofjmdaaGreatDoorPk2
namespace Go.Proofs.YtppfcacnofjmdaaGreatDoor
open Go.RowKit
set_option linter.unusedSimpArgs false
set_option linter.unusedVariables false
attribute [local go_sem] ext_cell wi
attribute [local go_sem low] we jp
set_option maxRecDepth 100000 in
set_option maxHeartbeats 2000000 in
theorem cnt_obls (b c : Nat) (l : List Obli) (L : Option Addr) (d : Nat) (w0 w : World) (hL : SlAt rObl 3 w0 L l) (hl : l.length ≤ reachBytes) (hB0 : Below w0.heap.size w0 w) (hb : w0.heap.size ≤ b)
    (hc : w.heap[b]? = some (cntObj c)) (hcc : c ≤ 3000) :
    Calls Tryz.prog 66 #[.pointer (some ⟨b, 0, none⟩), .slice L l.length d] w (cntPost b c (osz l) w) := by
  unfold reachBytes at hl
  have HL := hide hL
  clear hL
  replace hc := hide hc
  go_enter Tryz.func66, Tryz.ntmps66
  go_upto_region 3 with (go_at_call 42; refine (wG b c l.length _ _ (by simp) hc.out (by omega) hcc).mono ?_; rintro e w1 (⟨c1, rfl, h1, h3⟩ | ⟨c1, rfl, h1, h2, h3⟩))
  · go_ret
    exact Or.inl ⟨c1, rfl, h1, h3⟩
  · clear hc
    go_wp2
    go_loopw [6, 14] (fun _ i wr => ∃ k c2 : Nat, k ≤ l.length ∧ i = .int .i64 k ∧ c2 ≤ c ∧ CntR b c2 w wr ∧ Hid (l.length + qT (fun o : Obli => txt o.arg) (l.take k) + c2 = c)) (fun _ i _ => l.length - (intOf i).toNat)
    case atStart => exact ⟨0, c1, Nat.zero_le _, rfl, h1, h3, h2.out⟩
    case round =>
      clear h1 h2 h3
      obtain ⟨k, c2, hk, rfl, h1, h3, h2⟩ := hrel
      have hB1 := Below.cnt hB0 h3 hb (Nat.le_refl _)
      by_cases hlt : k < l.length
      · obtain ⟨b4, o4, rfl, hbb, e0, e1, e2, hf⟩ := (HL.out.keep keeps_obl hB1).obl hlt
        have hs := hide (zG (f := fun o : Obli => txt o.arg) hlt)
        have n1 := hf.arg
        have hc := hide h3.cnt
        have hsz := lt_of_block h3.cnt
        go_wp2_with (go_at_call 43; (with_reducible refine (jY b c2 _ _ (heap_alloc hc.out _) n1 (by omega)).mono ?_); rintro e w2 (⟨c7, rfl, h10, h12⟩ | ⟨c7, rfl, h10, h11, h12⟩); all_goals (first | replace hA := CntR.trans hA h12 | have hA := CntR.trans hR h12 | have hA := CntR.trans (CntR.alloc hR _) h12 | skip); all_goals (first | replace hL := CntR.trans hL h12 | have hL := h12); (try clear q1 q2 q3 q4); all_goals (clear h12; obtain ⟨q1, q2, q3, q4⟩ := CntR.facts hL; try simp only [World.size_alloc] at q1 q2 q3 q4))
        · go_ret
          exact Or.inl ⟨c7, rfl, by omega, (h3.alloc _).trans hL⟩
        · go_roundw
          case rel => exact ⟨k + 1, c7, by omega, by go_num, by omega, (h3.alloc _).trans hL, hide (by have := h2.out; have := hs.out; have := h11.out; omega)⟩
          case measure => simp [intOf]; omega
      · obtain rfl : k = l.length := by omega
        rw [List.take_length] at h2
        go_wp2
        go_ret
        exact Or.inr ⟨c2, rfl, h1, h2, h3⟩
def CntPolicy (n : Nat) : Prop := ∀ (b c : Nat) (p : Pol) (w0 w : World) (c3 c4 c5 c6 : Value), rPolN n w0 [.string p.id, .bool p.set, .int .i64 p.alg, c3, c4, c5, c6] p → Below w0.heap.size w0 w → w0.heap.size ≤ b →
    w.heap[b]? = some (cntObj c) → c ≤ 3000 →
    Calls Tryz.prog 41 #[.pointer (some ⟨b, 0, none⟩), .agg #[.string p.id, .bool p.set, .int .i64 p.alg, c3, c4, c5, c6]] w (cntPost b c p.sz w)
set_option maxRecDepth 100000 in
set_option maxHeartbeats 4000000 in
theorem cnt_policy_step (n : Nat) (ih : CntPolicy n) : CntPolicy (n + 1) := by
    intro b c p w0 w c3 c4 c5 c6 hp hB0 hb hc hcc
    obtain ⟨_, _, _, _, he, hid, halg, h3, h4, h5, h6⟩ := hp
    simp only [List.cons.injEq, true_and, and_true] at he
    obtain ⟨rfl, rfl, rfl, rfl⟩ := he
    obtain ⟨A3, d3, rfl, l3, m3, h3⟩ := h3
    obtain ⟨A4, d4, rfl, l4, m4, h4⟩ := h4
    obtain ⟨A5, d5, rfl, l5, m5, h5⟩ := h5
    obtain ⟨A6, d6, rfl, l6, m6, h6⟩ := h6
    replace h3 := hide h3
    replace h4 := hide h4
    replace h5 := hide h5
    replace h6 := hide h6
    have hsz := lt_of_block hc
    replace ih := hide ih
    simp only [reachBytes] at m3 m4 m5 m6
    have e := hide p.sz_eq
    replace hc := hide hc
    go_enter Tryz.func41, Tryz.ntmps41
    have hR : CntR b c (w.alloc (.cells #[.string p.id, .bool p.set, .int .i64 p.alg, .slice A3 (List.length p.target) d3, .slice A4 p.rules.length d4, .slice A5 p.kids.length d5, .slice A6 p.obls.length d6] 28)) (w.alloc (.cells #[.string p.id, .bool p.set, .int .i64 p.alg, .slice A3 (List.length p.target) d3, .slice A4 p.rules.length d4, .slice A5 p.kids.length d5, .slice A6 p.obls.length d6] 28)) := CntR.refl (heap_alloc hc.out _)
    go_upto_region 3 with (first | (go_at_call 42; (with_reducible refine (wG b c (1 + p.rules.length) _ _ (by simp) (heap_alloc hc.out _) (by omega) hcc).mono ?_); rintro e w2 (⟨c7, rfl, h10, h12⟩ | ⟨c7, rfl, h10, h11, h12⟩); all_goals (first | replace hA := CntR.trans hA h12 | have hA := CntR.trans hR h12 | have hA := CntR.trans (CntR.alloc hR _) h12 | skip); all_goals (first | replace hL := CntR.trans hL h12 | have hL := h12); (try clear q1 q2 q3 q4); all_goals (clear h12; obtain ⟨q1, q2, q3, q4⟩ := CntR.facts hL; try simp only [World.size_alloc] at q1 q2 q3 q4)) | (go_at_call 43; (with_reducible refine (jY b _ _ _ hA.cnt hid (by omega)).mono ?_); rintro e w2 (⟨c7, rfl, h10, h12⟩ | ⟨c7, rfl, h10, h11, h12⟩); all_goals (first | replace hA := CntR.trans hA h12 | have hA := CntR.trans hR h12 | have hA := CntR.trans (CntR.alloc hR _) h12 | skip); all_goals (first | replace hL := CntR.trans hL h12 | have hL := h12); (try clear q1 q2 q3 q4); all_goals (clear h12; obtain ⟨q1, q2, q3, q4⟩ := CntR.facts hL; try simp only [World.size_alloc] at q1 q2 q3 q4)) | (go_at_call 65; (with_reducible refine (cnt_target b _ p.target _ _ w0 _ h3.out (by simp only [reachBytes]; omega) (Below.cnt (Below.alloc1 hB0 _) hA hb (Nat.le_refl _)) hb hA.cnt (by omega)).mono ?_); rintro e w2 (⟨c7, rfl, h10, h12⟩ | ⟨c7, rfl, h10, h11, h12⟩); all_goals (first | replace hA := CntR.trans hA h12 | have hA := CntR.trans hR h12 | have hA := CntR.trans (CntR.alloc hR _) h12 | skip); all_goals (first | replace hL := CntR.trans hL h12 | have hL := h12); (try clear q1 q2 q3 q4); all_goals (clear h12; obtain ⟨q1, q2, q3, q4⟩ := CntR.facts hL; try simp only [World.size_alloc] at q1 q2 q3 q4)) | (go_at_call 66; (with_reducible refine (cnt_obls b _ p.obls _ _ w0 _ h6.out (by simp only [reachBytes]; omega) (Below.cnt (Below.alloc1 hB0 _) hA hb (Nat.le_refl _)) hb hA.cnt (by omega)).mono ?_); rintro e w2 (⟨c7, rfl, h10, h12⟩ | ⟨c7, rfl, h10, h11, h12⟩); all_goals (first | replace hA := CntR.trans hA h12 | have hA := CntR.trans hR h12 | have hA := CntR.trans (CntR.alloc hR _) h12 | skip); all_goals (first | replace hL := CntR.trans hL h12 | have hL := h12); (try clear q1 q2 q3 q4); all_goals (clear h12; obtain ⟨q1, q2, q3, q4⟩ := CntR.facts hL; try simp only [World.size_alloc] at q1 q2 q3 q4)))
    all_goals first | (go_ret; exact Or.inl ⟨_, rfl, by omega, (CntR.alloc (CntR.refl hc.out) _).trans hA⟩) | skip
    rename Hid (1 + p.rules.length + _ = c) => g1
    rename Hid (txt p.id + _ = _) => g2
    rename Hid (tsz p.target + _ = _) => g3
    replace hR := hA
    clear hA
    obtain ⟨k0, hk0⟩ : ∃ k0, k0 = 1 + p.rules.length + txt p.id + tsz p.target + osz p.obls := ⟨_, rfl⟩
    have g := hide (show k0 + c7 = c by have := g1.out; have := g2.out; have := g3.out; have := h11.out; omega)
    have hcc7 : c7 ≤ c := by omega
    replace hk0 := hide hk0
    clear g1 g2 g3 h11 q1 q2 q3 q4 h10 hL
    obtain ⟨q1, q2, q3, q4⟩ := CntR.facts hR
    simp only [World.size_alloc] at q3
    go_wp2
    clear q1 q2 q3 q4
    go_loopw [6, 8, 42] (fun _ _ i wr => ∃ k c2 : Nat, k ≤ p.rules.length ∧ i = .int .i64 k ∧ c2 ≤ c ∧ CntR b c2 (w.alloc (.cells #[.string p.id, .bool p.set, .int .i64 p.alg, .slice A3 (List.length p.target) d3, .slice A4 p.rules.length d4, .slice A5 p.kids.length d5, .slice A6 p.obls.length d6] 28)) wr ∧ Hid (k0 + qT rusz (p.rules.take k) + c2 = c)) (fun _ _ i _ => p.rules.length - (intOf i).toNat)
    case atStart => exact ⟨0, c7, Nat.zero_le _, rfl, hcc7, hR, g.out⟩
    case round =>
      clear hR g hcc7
      obtain ⟨k, c2, hk, rfl, hc2, hR, g⟩ := hrel
      have hB1 : Below w0.heap.size w0 wr := Below.cnt (Below.alloc1 hB0 _) hR hb (Nat.le_refl _)
      by_cases hlt : k < p.rules.length
      · obtain ⟨b2, o2, v2, v3, v4, rfl, hbb, e0, e1, e2, e3, e4, n1, s2, s3, s4⟩ := h4.out.rul0 hB1 hlt
        obtain ⟨B2, j2, rfl, u2, t2, s2⟩ := s2
        obtain ⟨B3, j3, rfl, u3, t3, s3⟩ := s3
        obtain ⟨B4, j4, rfl, u4, t4, s4⟩ := s4
        replace s2 := hide s2
        replace s3 := hide s3
        replace s4 := hide s4
        have hs := hide (zG (f := rusz) hlt)
        have hbw := hB1.size
        have hbr := lt_of_block hR.cnt
        simp only [reachBytes] at t2 t3 t4
        go_upto_region 8 with (first | (go_at_call 42; (with_reducible refine (wG b _ p.rules[k].cond.length _ _ (by simp) hA.cnt (by omega) (by omega)).mono ?_); rintro e w2 (⟨c7, rfl, h10, h12⟩ | ⟨c7, rfl, h10, h11, h12⟩); all_goals (first | replace hA := CntR.trans hA h12 | have hA := CntR.trans hR h12 | have hA := CntR.trans (CntR.alloc hR _) h12 | skip); all_goals (first | replace hL := CntR.trans hL h12 | have hL := h12); (try clear q1 q2 q3 q4); all_goals (clear h12; obtain ⟨q1, q2, q3, q4⟩ := CntR.facts hL; try simp only [World.size_alloc] at q1 q2 q3 q4)) | (go_at_call 43; (with_reducible refine (jY b _ _ _ (heap_alloc hR.cnt _) n1 (by omega)).mono ?_); rintro e w2 (⟨c7, rfl, h10, h12⟩ | ⟨c7, rfl, h10, h11, h12⟩); all_goals (first | replace hA := CntR.trans hA h12 | have hA := CntR.trans hR h12 | have hA := CntR.trans (CntR.alloc hR _) h12 | skip); all_goals (first | replace hL := CntR.trans hL h12 | have hL := h12); (try clear q1 q2 q3 q4); all_goals (clear h12; obtain ⟨q1, q2, q3, q4⟩ := CntR.facts hL; try simp only [World.size_alloc] at q1 q2 q3 q4)) | (go_at_call 65; (with_reducible refine (cnt_target b _ p.rules[k].target _ _ w0 _ s2.out (by simp only [reachBytes]; omega) (Below.cnt (Below.alloc1 hB0 _) hA hb (Nat.le_refl _)) hb hA.cnt (by omega)).mono ?_); rintro e w2 (⟨c7, rfl, h10, h12⟩ | ⟨c7, rfl, h10, h11, h12⟩); all_goals (first | replace hA := CntR.trans hA h12 | have hA := CntR.trans hR h12 | have hA := CntR.trans (CntR.alloc hR _) h12 | skip); all_goals (first | replace hL := CntR.trans hL h12 | have hL := h12); (try clear q1 q2 q3 q4); all_goals (clear h12; obtain ⟨q1, q2, q3, q4⟩ := CntR.facts hL; try simp only [World.size_alloc] at q1 q2 q3 q4)) | (go_at_call 66; (with_reducible refine (cnt_obls b _ p.rules[k].obls _ _ w0 _ s4.out (by simp only [reachBytes]; omega) (Below.cnt (Below.alloc1 hB0 _) hA hb (Nat.le_refl _)) hb hA.cnt (by omega)).mono ?_); rintro e w2 (⟨c7, rfl, h10, h12⟩ | ⟨c7, rfl, h10, h11, h12⟩); all_goals (first | replace hA := CntR.trans hA h12 | have hA := CntR.trans hR h12 | have hA := CntR.trans (CntR.alloc hR _) h12 | skip); all_goals (first | replace hL := CntR.trans hL h12 | have hL := h12); (try clear q1 q2 q3 q4); all_goals (clear h12; obtain ⟨q1, q2, q3, q4⟩ := CntR.facts hL; try simp only [World.size_alloc] at q1 q2 q3 q4)))
        all_goals first | (go_ret; exact Or.inl ⟨_, rfl, by omega, (CntR.alloc (CntR.refl hc.out) _).trans hA⟩) | skip
        rename Hid (txt p.rules[k].id + _ = _) => g1
        rename Hid (tsz p.rules[k].target + _ = _) => g2
        rename Hid (p.rules[k].cond.length + _ = _) => g3
        obtain ⟨k1, hk1⟩ : ∃ k1, k1 = txt p.rules[k].id + tsz p.rules[k].target + p.rules[k].cond.length + osz p.rules[k].obls := ⟨_, rfl⟩
        have g' := hide (show k1 + c7 = c2 by have := g1.out; have := g2.out; have := g3.out; have := h11.out; omega)
        have hcc7 : c7 ≤ c := by omega
        have e1 := hide (show rusz p.rules[k] = k1 + qT nsz p.rules[k].cond by subst hk1; rfl)
        clear g1 g2 g3 h11 h10 hk1
        go_wp2
        clear q1 q2 q3 q4
        replace hR := hA
        clear hA
        go_loopw [8, 76] (fun _ i wr' => ∃ k' c4 : Nat, k' ≤ p.rules[k].cond.length ∧ i = .int .i64 k' ∧ c4 ≤ c ∧ CntR b c4 (w.alloc (.cells #[.string p.id, .bool p.set, .int .i64 p.alg, .slice A3 (List.length p.target) d3, .slice (some ⟨b2, o2, none⟩) p.rules.length d4, .slice A5 p.kids.length d5, .slice A6 p.obls.length d6] 28)) wr' ∧ Hid (k1 + qT nsz (p.rules[k].cond.take k') + c4 = c2)) (fun _ i _ => p.rules[k].cond.length - (intOf i).toNat)
        case atStart => exact ⟨0, c7, Nat.zero_le _, rfl, hcc7, hR, g'.out⟩
        case round =>
          clear hR g' hcc7 hL hbb hB1
          obtain ⟨k', c4, hk', rfl, hc4, hR, g'⟩ := hrel
          have hB1 : Below w0.heap.size w0 wr := Below.cnt (Below.alloc1 hB0 _) hR hb (Nat.le_refl _)
          by_cases hlt' : k' < p.rules[k].cond.length
          · obtain ⟨b4, o4, rfl, hbb, e0, ⟨e3, e4, e5⟩, ⟨e6, e7, e8⟩, hf⟩ := (s3.out.keep keeps_nod hB1).nod hlt'
            have hs' := hide (zG (f := nsz) hlt')
            have n1 := hf.attr.name
            have n2 := hf.val.s
            have hbw := hB1.size
            have hbr := lt_of_block hR.cnt
            go_wp2_with (go_at_call 43; (first | (with_reducible refine (jY b c4 _ _ (heap_alloc hR.cnt _) n1 (by omega)).mono ?_) | (with_reducible refine (jY b _ _ _ hA.cnt n2 (by omega)).mono ?_)); rintro e w2 (⟨c7, rfl, h10, h12⟩ | ⟨c7, rfl, h10, h11, h12⟩); all_goals (first | replace hA := CntR.trans hA h12 | have hA := CntR.trans hR h12 | have hA := CntR.trans (CntR.alloc hR _) h12 | skip); all_goals (first | replace hL := CntR.trans hL h12 | have hL := h12); (try clear q1 q2 q3 q4); all_goals (clear h12; obtain ⟨q1, q2, q3, q4⟩ := CntR.facts hL; try simp only [World.size_alloc] at q1 q2 q3 q4))
            · go_ret
              exact Or.inl ⟨_, rfl, by omega, (CntR.alloc (CntR.refl hc.out) _).trans hA⟩
            · go_ret
              exact Or.inl ⟨_, rfl, by omega, (CntR.alloc (CntR.refl hc.out) _).trans hA⟩
            · rename Hid (txt p.rules[k].cond[k'].attr.name + _ = c4) => g1
              go_roundw
              case rel => exact ⟨k' + 1, c7, by omega, by go_num, by omega, hA, hide (by have := g'.out; have := hs'.out; have := h11.out; have := g1.out; have e : nsz p.rules[k].cond[k'] = txt p.rules[k].cond[k'].attr.name + txt p.rules[k].cond[k'].val.s := rfl; omega)⟩
              case measure => simp [intOf]; omega
          · obtain rfl : k' = p.rules[k].cond.length := by omega
            rw [List.take_length] at g'
            go_wp2
            go_roundw
            case rel => exact ⟨k + 1, c4, by omega, by go_num, hc4, hR, hide (by have := g.out; have := g'.out; have := hs.out; have := e1.out; omega)⟩
            case measure => simp [intOf]; omega
      · obtain rfl : k = p.rules.length := by omega
        rw [List.take_length] at g
        obtain ⟨q1, q2, q3, q4⟩ := CntR.facts hR
        simp only [World.size_alloc] at q3
        go_wp2
        clear q1 q2 q3 q4
        go_loopw [10, 99] (fun _ i wr' => ∃ k' c4 : Nat, k' ≤ p.kids.length ∧ i = .int .i64 k' ∧ c4 ≤ c ∧ CntR b c4 (w.alloc (.cells #[.string p.id, .bool p.set, .int .i64 p.alg, .slice A3 (List.length p.target) d3, .slice A4 p.rules.length d4, .slice A5 p.kids.length d5, .slice A6 p.obls.length d6] 28)) wr' ∧ Hid (k0 + qT rusz p.rules + qT Pol.sz (p.kids.take k') + c4 = c)) (fun _ i _ => p.kids.length - (intOf i).toNat)
        case atStart => exact ⟨0, c2, Nat.zero_le _, rfl, hc2, hR, g.out⟩
        case round =>
          clear hR g hB1 hc2
          obtain ⟨k', c4, hk', rfl, hc4, hR, g⟩ := hrel
          have hB1 : Below w0.heap.size w0 wr := Below.cnt (Below.alloc1 hB0 _) hR hb (Nat.le_refl _)
          by_cases hlt' : k' < p.kids.length
          · obtain ⟨b2, o2, v3, v4, v5, v6, rfl, hbb, e0, e1, e2, e3, e4, e5, e6, hr⟩ := h5.out.pol0 hB1 hlt'
            have hs' := hide (zG (f := Pol.sz) hlt')
            obtain ⟨B3, j3, B4, j4, B5, j5, B6, j6, rfl, rfl, rfl, rfl⟩ := rPolN_form hr
            replace hr := hide hr
            have hbw := hB1.size
            have hbr := lt_of_block hR.cnt
            go_wp2_with (go_at_call 41; refine (ih.out b c4 p.kids[k'] w0 _ _ _ _ _ hr.out (Below.alloc1 hB1 _) hb (heap_alloc hR.cnt _) (by omega)).mono ?_; rintro e w2 (⟨c7, rfl, h10, h12⟩ | ⟨c7, rfl, h10, h11, h12⟩); all_goals (first | replace hA := CntR.trans hA h12 | have hA := CntR.trans hR h12 | have hA := CntR.trans (CntR.alloc hR _) h12 | skip); all_goals (first | replace hL := CntR.trans hL h12 | have hL := h12); (try clear q1 q2 q3 q4); all_goals (clear h12; obtain ⟨q1, q2, q3, q4⟩ := CntR.facts hL; try simp only [World.size_alloc] at q1 q2 q3 q4))
            · go_ret
              exact Or.inl ⟨_, rfl, by omega, (CntR.alloc (CntR.refl hc.out) _).trans hA⟩
            · go_roundw
              case rel => exact ⟨k' + 1, c7, by omega, by go_num, by omega, hA, hide (by have := g.out; have := hs'.out; have := h11.out; omega)⟩
              case measure => simp [intOf]; omega
          · obtain rfl : k' = p.kids.length := by omega
            rw [List.take_length] at g
            go_wp2
            go_ret
            exact Or.inr ⟨c4, rfl, hc4, hide (by have := g.out; have := e.out; have := hk0.out; omega), (CntR.alloc (CntR.refl hc.out) _).trans hR⟩
theorem cnt_policy (n : Nat) : CntPolicy n := by
  induction n with
  | zero => intro b c p w0 w c3 c4 c5 c6 h; exact h.elim
  | succ n ih => exact cnt_policy_step n ih
def upTo (k m : Nat) (w : World) (e : Ending) (w' : World) : Prop := (e = .returned (.bool false) ∧ Below w.heap.size w w') ∨ (e = .returned (.bool true) ∧ Hid (k ≤ m) ∧ Below w.heap.size w w')
theorem heap_new (w : World) (o : Obj) : (w.alloc o).heap[w.heap.size]? = some o := by
  show (w.heap.push o)[w.heap.size]? = _
  simp
theorem heap_at (w : World) (o : Obj) (b : Nat) (hb : b = w.heap.size) : (w.alloc o).heap[b]? = some o := by subst hb; exact heap_new w o
theorem small_any (n : Nat) (p : Pol) (w : World) (c3 c4 c5 c6 : Value) (hp : rPolN n w [.string p.id, .bool p.set, .int .i64 p.alg, c3, c4, c5, c6] p) :
    Calls Tryz.prog 15 #[.agg #[.string p.id, .bool p.set, .int .i64 p.alg, c3, c4, c5, c6]] w (upTo p.sz 3000 w) := by
  obtain ⟨A3, d3, A4, d4, A5, d5, A6, d6, rfl, rfl, rfl, rfl⟩ := rPolN_form hp
  replace hp := hide hp
  go_enter Tryz.func15, Tryz.ntmps15
  go_wp2_with (go_at_call 41; refine (cnt_policy n (w.heap.size + 1) 3000 p w _ _ _ _ _ hp.out (by repeat (first | exact Below.refl _ _ | assumption | refine Below.alloc1 ?_ _ | refine Below.drew ?_ | refine qt ?_ | refine Below.setCell ?_ (by first | exact Nat.le_refl _ | (simp; done) | omega | (simp; omega)) _ | refine Below.lift ?_ (by assumption))) (by omega) ?_ (Nat.le_refl _)).mono ?_; exact heap_at _ _ _ (by simp); rintro e w2 (⟨c7, rfl, h10, h12⟩ | ⟨c7, rfl, h10, h11, h12⟩))
  · go_ret
    exact Or.inl ⟨rfl, ((Below.refl _ _).alloc (Nat.le_refl _) _).alloc (by simp) _ |>.trans (h12.below (by omega) (by simp; omega))⟩
  · go_ret
    exact Or.inr ⟨rfl, hide (by have := h11.out; omega), ((Below.refl _ _).alloc (Nat.le_refl _) _).alloc (by simp) _ |>.trans (h12.below (by omega) (by simp; omega))⟩
end Go.Proofs.YtppfcacnofjmdaaGreatDoor
namespace Go.Proofs.YtppfcacnofjmdaaGreatDoor
set_option linter.unusedVariables false
set_option linter.unusedSimpArgs false
open Go.RowKit
theorem SlAt.fit {α : Type} {R : Rp α} {size : Nat} {w : World} {A : Option Addr} {l : List α} {F : α → Prop} (h : SlAt R size w A l) (hR : ∀ cs x, R w cs x → F x) : ∀ x ∈ l, F x := fun x hx => by
  obtain ⟨i, hi, rfl⟩ := List.mem_iff_getElem.1 hx
  obtain ⟨b, o, _, _, hc⟩ := h (by omega)
  obtain ⟨cs, _, _, h3⟩ := hc i hi
  exact hR cs _ h3
end Go.Proofs.YtppfcacnofjmdaaGreatDoor
namespace Go.Proofs.YtppfcacnofjmdaaGreatDoor
set_option linter.unusedVariables false
set_option linter.unusedSimpArgs false
open Go.RowKit
theorem mat_back {ok : Nat → Prop} {w : World} {cs : List Value} {x : Mat} (h : rPV ok w cs x.pv) : cs = x.cells := rPV_plain (xs := x.cells) h
theorem mat_pv {w : World} {cs : List Value} {x : Mat} (h : rMat w cs x) : rPV (fun _ => True) w cs x.pv := by
  obtain ⟨rfl, _⟩ := h
  exact plain_rPV (xs := x.cells) (fun v hv => by simp [Mat.cells, Atr.cells, Val.cells] at hv; rcases hv with rfl | rfl | rfl | rfl | rfl | rfl | rfl <;> rfl)
theorem mats_typed {ok : Nat → Prop} {w : World} {u : Value} {l : List Mat} (h : RelP ok w (qaB l) u) (hf : ∀ x ∈ l, x.Fit) : ∃ A c, u = .slice A l.length c ∧ l.length ≤ c ∧ (l.length ≤ reachBytes ∧ c ≤ maxLen) ∧ SlAt rMat 7 w A l :=
  sl_typed h fun x hx cs hcs => ⟨mat_back hcs, hf x hx⟩
structure Giv.Fit (x : Giv) : Prop where
  cat : R64 x.cat
  name : x.name.size ≤ reachBytes
  bag : ∀ v ∈ x.bag, v.Fit
theorem any_back {ok : Nat → Prop} {w : World} {cs : List Value} {x : List Mat} (h : rPV ok w cs [qaB x]) (hf : ∀ m ∈ x, m.Fit) : rSl rMat 7 w cs x := by
  have h0 := h.1
  match cs, h0 with
  | [a], _ =>
    obtain ⟨A, d, rfl, g1, g2, g3⟩ := mats_typed (h.2 0 _ a rfl rfl) hf
    exact ⟨A, d, rfl, g1, g2, g3⟩
theorem mats_pv {w : World} {cs : List Value} {x : List Mat} (h : rSl rMat 7 w cs x) : rPV (fun _ => True) w cs [qaB x] := by
  obtain ⟨A, c, rfl, h1, h2, h3⟩ := h
  refine ⟨rfl, fun j s u hs hu => ?_⟩
  match j with
  | 0 => cases hs; cases hu; exact rel_sl h3 h1 h2 (fun _ => ⟨rfl, rfl⟩) fun x _ cs hcs => mat_pv hcs
  | j + 1 => simp at hs
theorem anys_back {ok : Nat → Prop} {w : World} {cs : List Value} {x : List (List Mat)} (h : rPV ok w cs [anyP x]) (hf : ∀ l ∈ x, ∀ m ∈ l, m.Fit) : rTar' w cs x := by
  have h0 := h.1
  match cs, h0 with
  | [a], _ =>
    obtain ⟨A, d, rfl, g1, g2, g3⟩ := sl_typed (R := rSl rMat 7) (h.2 0 _ a rfl rfl) fun y hy cs hcs => any_back hcs (hf y hy)
    exact ⟨A, d, rfl, g1, g2, g3⟩
theorem anys_pv {w : World} {cs : List Value} {x : List (List Mat)} (h : rTar' w cs x) : rPV (fun _ => True) w cs [anyP x] := by
  obtain ⟨A, c, rfl, h1, h2, h3⟩ := h
  refine ⟨rfl, fun j s u hs hu => ?_⟩
  match j with
  | 0 => cases hs; cases hu; exact rel_sl h3 h1 h2 (fun _ => ⟨rfl, rfl⟩) fun x _ cs hcs => mats_pv hcs
  | j + 1 => simp at hs
theorem tgt_typed {ok : Nat → Prop} {w : World} {u : Value} {t : Tar} (h : RelP ok w (tgtP t) u) (hf : ∀ x ∈ t, ∀ l ∈ x, ∀ m ∈ l, m.Fit) : ∃ A c, u = .slice A t.length c ∧ t.length ≤ c ∧ (t.length ≤ reachBytes ∧ c ≤ maxLen) ∧ SlAt rTar' 1 w A t :=
  sl_typed h fun x hx cs hcs => anys_back hcs (hf x hx)
theorem tgt_rel {w : World} {A : Option Addr} {c : Nat} {t : Tar} (h : SlAt rTar' 1 w A t) (hl : t.length ≤ c) (hc : t.length ≤ reachBytes ∧ c ≤ maxLen) : RelP (fun _ => True) w (tgtP t) (.slice A t.length c) :=
  rel_sl h hl hc (fun _ => ⟨rfl, rfl⟩) fun x _ cs hcs => anys_pv hcs
theorem tgt_fit {w : World} {A : Option Addr} {t : Tar} (h : SlAt rTar' 1 w A t) : ∀ x ∈ t, ∀ l ∈ x, ∀ m ∈ l, m.Fit :=
  h.fit fun cs x ⟨_, _, _, _, _, h1⟩ => h1.fit fun cs y ⟨_, _, _, _, _, h2⟩ => h2.fit fun _ _ h => h.2
end Go.Proofs.YtppfcacnofjmdaaGreatDoor
namespace Go.Proofs.YtppfcacnofjmdaaGreatDoor
open Go.RowKit
set_option linter.unusedSimpArgs false
set_option linter.unusedVariables false
attribute [local go_sem] ext_cell wi
attribute [local go_sem low] we jp
theorem eql_val (a b : Int) (s : ByteArray) (a' b' : Int) (s' : ByteArray) (w : World) :
    (binOp .eql 52 (.agg #[.int .i64 a, .int .i64 b, .string s]) (.agg #[.int .i64 a', .int .i64 b', .string s'])).run Tryz.prog w = .ok (.bool (jh ⟨a, b, s⟩ ⟨a', b', s'⟩)) w := by
  unfold jh
  by_cases h1 : a = a'
  · by_cases h2 : b = b'
    · by_cases h3 : s = s'
      · subst h1; subst h2; subst h3
        go_simp
      · have : s.toList ≠ s'.toList := fun h => h3 (toList_inj h)
        subst h1; subst h2
        go_simp
    · subst h1
      go_simp
  · go_simp
set_option maxHeartbeats 2000000 in
theorem name_any (s : ByteArray) (w : World) (hs : s.size ≤ reachBytes) :
    Calls Tryz.prog 105 #[.string s] w fun e w' => e = .returned (.bool (wO s)) ∧ w = w' := by
  unfold reachBytes at hs
  go_enter Tryz.func105, Tryz.ntmps105
  go_wp2
  go_loop [3, 4, 5, 6, 9] (fun _ _ _ _ i => ∃ k : Nat, k ≤ s.size ∧ i = .int .i64 k ∧ Hid (∀ i (h : i < s.size), i < k → okC (i == 0) s[i].toNat = true)) (fun _ _ _ _ i => s.size - (intOf i).toNat)
  case atStart => exact ⟨0, Nat.zero_le _, rfl, fun i _ h => absurd h (by omega)⟩
  case round =>
    obtain ⟨k, hk, rfl, hok⟩ := hrel
    by_cases hlt : k < s.size
    · skip
      go_upto_region 5 with (fail)
      refine wp_spec (by kernel_rfl) ?_
      repeat (refine qH ?_; intro K hK; go_big_quiet_op; go_big_quiet_on)
      refine zx ?_
      intro us
      simp only [junk, Act.put, List.setIfInBounds_toArray, List.set_cons_zero, List.set_cons_succ]
      go_upto_region 6 with (fail)
      refine wp_spec (by kernel_rfl) ?_
      repeat (refine qH ?_; intro K hK; go_big_quiet_op; go_big_quiet_on)
      refine zx ?_
      intro us
      simp only [junk, Act.put, List.setIfInBounds_toArray, List.set_cons_zero, List.set_cons_succ]
      go_upto_region 7 with (fail)
      refine wp_spec (by kernel_rfl) ?_
      repeat (refine qH ?_; intro K hK; go_big_quiet_op; go_big_quiet_on)
      refine zx ?_
      intro us
      simp only [junk, Act.put, List.setIfInBounds_toArray, List.set_cons_zero, List.set_cons_succ]
      go_wp2
      · go_ret
        refine ⟨wc (nameS_no hlt ?_).symm, rfl⟩
        go_light
        simp [okC] at *
        omega
      · go_round
        case rel =>
          refine ⟨k + 1, by omega, by go_num, name_step hlt hok.out ?_⟩
          go_light
          simp [okC] at *
          omega
        case measure => simp [intOf]; omega
    · obtain rfl : k = s.size := by omega
      have e1 := hide (nameS_end hok.out)
      go_upto_region 10 with (fail)
      refine wp_spec (by kernel_rfl) ?_
      repeat (refine qH ?_; intro K hK; go_big_quiet_op; go_big_quiet_on)
      refine zx ?_
      intro us
      simp only [junk, Act.put, List.setIfInBounds_toArray, List.set_cons_zero, List.set_cons_succ]
      go_wp2
      go_ret
      refine ⟨wc ?_, rfl⟩
      rw [e1.out, jg, Bool.eq_iff_iff]
      simp only [Bool.and_eq_true, decide_eq_true_eq, Bool.not_eq_true', decide_eq_false_iff_not]
      omega
theorem right_any (k n : Int) (s : ByteArray) (w : World) (hs : s.size ≤ reachBytes) :
    Calls Tryz.prog 103 #[.agg #[.int .i64 k, .int .i64 n, .string s]] w fun e w' => e = .returned (.bool (Val.right ⟨k, n, s⟩)) ∧ Below w.heap.size w w' := by
  unfold reachBytes at hs
  have hs' : s.size ≤ reachBytes := hs
  go_enter Tryz.func103, Tryz.ntmps103
  go_wp2_with (go_at_call 105; refine (name_any _ _ hs').mono ?_; rintro e w1 ⟨rfl, rfl⟩)
  all_goals
    go_ret
    refine ⟨wc ?_, (Below.refl _ _).alloc (Nat.le_refl _) _⟩
    go_light
    simp only [beq_iff_eq, beq_eq_false_iff_ne, ne_eq] at *
    simp [Val.right, jg, *]
    try omega
end Go.Proofs.YtppfcacnofjmdaaGreatDoor
namespace Go.Proofs.YtppfcacnofjmdaaGreatDoor
set_option linter.unusedVariables false
set_option linter.unusedSimpArgs false
def attrS (a : Atr) : Bool := decide (1 ≤ a.cat) && decide (a.cat ≤ 4) && wO a.name
def manyS (n : Nat) : Int := if n = 0 then 1 else if 8 < n then 6 else 0
def matchS (m : Mat) : Bool := attrS m.attr && decide (1 ≤ m.op) && decide (m.op ≤ 3) && m.val.right
def firstE {α : Type} (f : α → Int) : List α → Int
  | [] => 0
  | x :: r => if f x = 0 then firstE f r else f x
def okE (b : Bool) : Int := if b then 0 else 1
def allOfS (l : List Mat) : Int := if manyS l.length = 0 then firstE (fun m => okE (matchS m)) l else manyS l.length
def anyOfS (l : List (List Mat)) : Int := if manyS l.length = 0 then firstE allOfS l else manyS l.length
def zI (t : Tar) : Int := if 8 < t.length then 6 else firstE anyOfS t
def oblS (o : Obli) : Bool := decide (1 ≤ o.on) && decide (o.on ≤ 2) && decide (1 ≤ o.kind) && decide (o.kind ≤ 4) && wO o.arg
def oblsS (l : List Obli) : Int := if 8 < l.length then 6 else firstE (fun o => okE (oblS o)) l
def zu (op : Int) : Option (List Bool) :=
  if op = 1 ∨ op = 2 then some []
  else if op = 3 ∨ op = 4 then some [true]
  else if op = 5 then some [true, false]
  else if op = 11 then some [false]
  else if 6 ≤ op ∧ op ≤ 13 then some [false, false]
  else none
def isNoVal (v : Val) : Bool := decide (v.kind = 0) && decide (v.n = 0) && decide (v.s.size = 0)
def isNoAtr (a : Atr) : Bool := decide (a.cat = 0) && decide (a.name.size = 0) && !a.must
def ji (n : Nod) : Bool :=
  if n.op = 1 then n.val.right && isNoAtr n.attr
  else if n.op = 2 then attrS n.attr && isNoVal n.val
  else isNoVal n.val && isNoAtr n.attr
def zy (l : List Bool) (n : Nod) : Option (List Bool) := match zu n.op with
  | none => none
  | some w => if ji n = true ∧ w.length ≤ l.length ∧ l.drop (l.length - w.length) = w then some (l.take (l.length - w.length) ++ [decide (n.op = 2)]) else none
def qW : List Bool → List Nod → Option (List Bool)
  | l, [] => some l
  | l, n :: r => match zy l n with
    | some l' => qW l' r
    | none => none
def zo (l : List Nod) : Int :=
  if 32 < l.length then 6 else match qW [] l with
    | none => 1
    | some made => if l = [] ∨ made = [false] then 0 else 1
structure Wlk where
  met : List ByteArray
  rules : Int
def hasS (m : List ByteArray) (s : ByteArray) : Bool := m.any fun t => decide (s = t)
def zO (m : List ByteArray) (s : ByteArray) : Bool := !hasS m s && wO s
def nameM (m : List ByteArray) (s : ByteArray) : List ByteArray := if zO m s then m ++ [s] else m
def ruleE (r : Rul) : Int := if zI r.target = 0 then (if zo r.cond = 0 then oblsS r.obls else zo r.cond) else zI r.target
def zq (w : Wlk) (r : Rul) : Int × Wlk :=
  if zO w.met r.id then (if 64 < w.rules + 1 then 6 else ruleE r, ⟨w.met ++ [r.id], w.rules + 1⟩) else (1, w)
def headE (p : Pol) : Int :=
  if (p.set && decide (0 < p.rules.length)) || (!p.set && (decide (0 < p.kids.length) || decide (p.alg = 4))) then 1
  else if zI p.target = 0 then (if oblsS p.obls = 0 then (if 16 < p.rules.length ∨ 16 < p.kids.length then 6 else 0) else oblsS p.obls) else zI p.target
def zF (w : Wlk) (p : Pol) : Int × Wlk :=
  (if zO w.met p.id && decide (1 ≤ p.alg) && decide (p.alg ≤ 6) then headE p else 1, ⟨nameM w.met p.id, w.rules⟩)
def seqS {α : Type} (f : Wlk → α → Int × Wlk) : Wlk → List α → Int × Wlk
  | w, [] => (0, w)
  | w, x :: r => if (f w x).1 = 0 then seqS f (f w x).2 r else f w x
def polS : Nat → Wlk → Pol → Int × Wlk
  | 0, w, _ => (6, w)
  | n + 1, w, p =>
    if (zF w p).1 = 0 then
      if (seqS zq (zF w p).2 p.rules).1 = 0 then seqS (polS n) (seqS zq (zF w p).2 p.rules).2 p.kids
      else seqS zq (zF w p).2 p.rules
    else zF w p
def zb (p : Pol) : Int := (polS 4 ⟨[], 0⟩ p).1
theorem seqS_some {α : Type} {f : Wlk → α → Int × Wlk} : ∀ {l : List α} {w : Wlk} {k : Nat} (hk : k < l.length), (seqS f w (l.take k)).1 = 0 → seqS f w (l.take (k + 1)) = f (seqS f w (l.take k)).2 l[k]
  | x :: r, w, 0, _, _ => by
    simp only [Nat.zero_add, List.take_succ_cons, List.take_zero, seqS, List.getElem_cons_zero]
    split
    · rename_i h; rw [← h]
    · rfl
  | x :: r, w, k + 1, hk, h => by
    rw [List.take_succ_cons, seqS] at h
    rw [List.take_succ_cons, List.take_succ_cons, seqS, seqS]
    by_cases h0 : (f w x).1 = 0
    · rw [if_pos h0] at h
      rw [if_pos h0, if_pos h0]
      exact seqS_some (by simpa using hk) h
    · rw [if_neg h0] at h; exact absurd h h0
theorem seqS_stop {α : Type} {f : Wlk → α → Int × Wlk} : ∀ {l : List α} {w : Wlk} (k : Nat), (seqS f w (l.take k)).1 ≠ 0 → seqS f w l = seqS f w (l.take k)
  | [], w, k, _ => by simp
  | x :: r, w, 0, h => by simp [seqS] at h
  | x :: r, w, k + 1, h => by
    rw [List.take_succ_cons, seqS] at h ⊢
    rw [seqS]
    by_cases h0 : (f w x).1 = 0
    · rw [if_pos h0] at h ⊢
      rw [if_pos h0]
      exact seqS_stop k h
    · rw [if_neg h0, if_neg h0]
theorem wV {α : Type} {f : α → Int} : ∀ {l : List α} {k : Nat} (hk : k < l.length), (∀ x ∈ l.take k, f x = 0) → f l[k] ≠ 0 → firstE f l = f l[k]
  | x :: r, 0, _, _, h => by simp only [List.getElem_cons_zero] at h ⊢; rw [firstE, if_neg h]
  | x :: r, k + 1, hk, ha, h => by
    have h0 : f x = 0 := ha x (by simp)
    rw [firstE, if_pos h0]
    simp only [List.getElem_cons_succ] at h ⊢
    exact wV (by simpa using hk) (fun y hy => ha y (by rw [List.take_succ_cons]; exact List.mem_cons_of_mem _ hy)) h
theorem wT {α : Type} {f : α → Int} : ∀ {l : List α}, (∀ x ∈ l, f x = 0) → firstE f l = 0
  | [], _ => rfl
  | x :: r, h => by rw [firstE, if_pos (h x List.mem_cons_self)]; exact wT fun y hy => h y (List.mem_cons_of_mem _ hy)
theorem take_ok {α : Type} {p : α → Prop} {l : List α} {k : Nat} (h : k < l.length) (ha : ∀ x ∈ l.take k, p x) (hk : p l[k]) : ∀ x ∈ l.take (k + 1), p x := by
  intro x hx
  rw [List.take_succ_eq_append_getElem h, List.mem_append, List.mem_singleton] at hx
  rcases hx with hx | rfl
  · exact ha x hx
  · exact hk
end Go.Proofs.YtppfcacnofjmdaaGreatDoor
namespace Go.Proofs.YtppfcacnofjmdaaGreatDoor
set_option linter.unusedVariables false
set_option linter.unusedSimpArgs false
open Go.RowKit
set_option maxHeartbeats 1000000
theorem one_arg {vs : List Value} (h : vs.length = 1) : ∃ u, vs = [u] := by
  match vs, h with
  | [u], _ => exact ⟨u, rfl⟩
theorem name_h (s : ByteArray) (hs : s.size ≤ reachBytes) : Holds Tryz.prog 105 [pS s] (.p (pB (wO s))) [] :=
  .of_calls Tryz.func105 (by kernel_rfl) rfl (fun w vs hl hr => by
    obtain ⟨u, rfl⟩ := one_arg hl
    have h := zX (hr 0 _ u rfl rfl) rfl
    subst h
    exact (name_any s w hs).mono fun e w' ⟨h1, h2⟩ => ⟨h1, h2 ▸ Below.refl _ _⟩) rfl fun w => .p (.v rfl)
theorem qad (v : Val) (hs : v.s.size ≤ reachBytes) : Holds Tryz.prog 103 [.agg v.pv] (.p (pB v.right)) [] :=
  .of_calls Tryz.func103 (by kernel_rfl) rfl (fun w vs hl hr => by
    obtain ⟨u, rfl⟩ := one_arg hl
    have h := zX (hr 0 _ u rfl rfl) rfl
    subst h
    exact right_any v.kind v.n v.s w hs) rfl fun w => .p (.v rfl)
end Go.Proofs.YtppfcacnofjmdaaGreatDoor
namespace Go.Proofs.YtppfcacnofjmdaaGreatDoor
set_option linter.unusedVariables false
set_option linter.unusedSimpArgs false
open Go.RowKit
set_option maxHeartbeats 1000000
def Nod.pv (x : Nod) : List PV := [pI x.op, pI x.val.kind, pI x.val.n, pS x.val.s, pI x.attr.cat, pS x.attr.name, pB x.attr.must]
def Obli.pv (x : Obli) : List PV := [pI x.on, pI x.kind, pS x.arg]
def qar (l : List Nod) : PV := .sl 7 (l.map Nod.pv)
def zQ (l : List Obli) : PV := .sl 3 (l.map Obli.pv)
def jA (l : List Bool) : List (List PV) := l.map fun b => [pB b]
def zt (r : Rul) : List PV := [pS r.id, pB r.deny, tgtP r.target, qar r.cond, zQ r.obls]
theorem attr_h (a : Atr) (ha : a.name.size ≤ reachBytes) : Holds Tryz.prog 143 [.agg a.pv] (.p (pB (attrS a))) [] := by
  refine qA (ts := [2]) Tryz.func143 (by kernel_rfl) rfl rfl rfl ?_
  (repeat refine qb ?_); refine qa ?_
  repeat (first | refine zR ?_ | refine zK ?_ | refine zM ?_ | refine zB ?_ | refine zA ?_ | refine zS ?_ | refine zL ?_)
  refine qc ?_
  (repeat refine qb ?_); refine qs (by kernel_rfl) ?_
  repeat (refine qr qe rfl (by exact True.intro) rfl ?_)
  refine zj rfl rfl rfl rfl (name_h a.name ha) rfl rfl ?_
  repeat (refine qr qe rfl (by exact True.intro) rfl ?_)
  refine qQ ?_
  (repeat refine qb ?_); refine qk ?_
  refine wS rfl ?_
  unfold attrS
  cases h1 : decide (1 ≤ a.cat) <;> cases h2 : decide (a.cat ≤ 4) <;> simp_all
theorem many_h (n : Nat) : Holds Tryz.prog 134 [pI n] (.p (pI (manyS n))) [] := by
  refine qA (ts := [2]) Tryz.func134 (by kernel_rfl) rfl rfl rfl ?_
  (repeat refine qb ?_); refine qa ?_
  repeat (first | refine zR ?_ | refine zK ?_ | refine zM ?_ | refine zB ?_ | refine zA ?_ | refine zS ?_ | refine zL ?_)
  refine qc ?_
  (repeat refine qb ?_); refine ql ?_
  (repeat refine qb ?_); refine qa ?_
  repeat (first | refine zR ?_ | refine zK ?_ | refine zM ?_ | refine zB ?_ | refine zA ?_ | refine zS ?_ | refine zL ?_)
  refine qc ?_
  (repeat refine qb ?_); refine qf rfl (fun h => ?_) (fun h => ?_)
  · have h0 : n = 0 := by simpa using h
    subst h0
    (repeat refine qb ?_); refine qa ?_
    repeat (first | refine zR ?_ | refine zK ?_ | refine zM ?_ | refine zB ?_ | refine zA ?_ | refine zS ?_ | refine zL ?_)
    refine qc ?_
    (repeat refine qb ?_); refine qk ?_
    exact zg rfl rfl
  · have h0 : n ≠ 0 := by simpa using h
    (repeat refine qb ?_); refine qa ?_
    repeat (first | refine zR ?_ | refine zK ?_ | refine zM ?_ | refine zB ?_ | refine zA ?_ | refine zS ?_ | refine zL ?_)
    refine qc ?_
    (repeat refine qb ?_); refine qf rfl (fun h2 => ?_) (fun h2 => ?_)
    · (repeat refine qb ?_); refine qa ?_
      repeat (first | refine zR ?_ | refine zK ?_ | refine zM ?_ | refine zB ?_ | refine zA ?_ | refine zS ?_ | refine zL ?_)
      refine qc ?_
      (repeat refine qb ?_); refine qk ?_
      refine zg rfl ?_
      simp at h2
      simp [manyS, h0]; omega
    · refine qm ?_
      (repeat refine qb ?_); refine qa ?_
      repeat (first | refine zR ?_ | refine zK ?_ | refine zM ?_ | refine zB ?_ | refine zA ?_ | refine zS ?_ | refine zL ?_)
      refine qc ?_
      (repeat refine qb ?_); refine qk ?_
      refine zg rfl ?_
      simp at h2
      simp [manyS, h0]; omega
theorem match_h (m : Mat) (hm : m.Fit) : Holds Tryz.prog 153 [.agg m.pv] (.p (pB (matchS m))) [] := by
  refine qA (ts := [2]) Tryz.func153 (by kernel_rfl) rfl rfl rfl ?_
  (repeat refine qb ?_); refine qa ?_
  repeat (first | refine zR ?_ | refine zK ?_ | refine zM ?_ | refine zB ?_ | refine zA ?_ | refine zS ?_ | refine zL ?_)
  refine qc ?_
  (repeat refine qb ?_); refine qs (by kernel_rfl) ?_
  repeat (refine qr qe rfl (by exact True.intro) rfl ?_)
  refine zj rfl rfl rfl rfl (attr_h m.attr hm.attr.name) rfl rfl ?_
  repeat (refine qr qe rfl (by exact True.intro) rfl ?_)
  refine zj rfl rfl rfl rfl (qad m.val hm.val.s) rfl rfl ?_
  repeat (refine qr qe rfl (by exact True.intro) rfl ?_)
  refine qQ ?_
  (repeat refine qb ?_); refine qk ?_
  refine wS rfl ?_
  unfold matchS
  cases attrS m.attr <;> cases h1 : decide (1 ≤ m.op) <;> cases h2 : decide (m.op ≤ 3) <;> simp_all
theorem allOf_h (l : List Mat) (hf : ∀ x ∈ l, x.Fit) : Holds Tryz.prog 135 [qaB l] (.p (pI (allOfS l))) [] := by
  refine qA (ts := [2]) Tryz.func135 (by kernel_rfl) rfl rfl rfl ?_
  refine sw_len (t := 0) (z := 7) (l := l.map Mat.pv) rfl fun hlen => ?_
  rw [List.length_map] at hlen
  unfold reachBytes at hlen
  (repeat refine qb ?_); refine qa ?_
  repeat (first | refine zR ?_ | refine zK ?_ | refine zM ?_ | refine zB ?_ | refine zA ?_ | refine zS ?_ | refine zL ?_)
  refine qc ?_
  (repeat refine qb ?_); refine qa ?_
  repeat (first | refine zR ?_ | refine zK ?_ | refine zM ?_ | refine zB ?_ | refine zA ?_ | refine zS ?_ | refine zL ?_)
  refine qn rfl (qg rfl rfl rfl rfl (many_h (l.map Mat.pv).length) rfl rfl ?_)
  repeat (first | refine zR ?_ | refine zK ?_ | refine zM ?_ | refine zB ?_ | refine zA ?_ | refine zS ?_ | refine zL ?_)
  refine qc ?_
  (repeat refine qb ?_); refine qa ?_
  repeat (first | refine zR ?_ | refine zK ?_ | refine zM ?_ | refine zB ?_ | refine zA ?_ | refine zS ?_ | refine zL ?_)
  refine qc ?_
  rw [List.length_map]
  (repeat refine qb ?_); refine qf rfl (fun hm => ?_) (fun hm => ?_)
  · (repeat refine qb ?_); refine qa ?_
    repeat (first | refine zR ?_ | refine zK ?_ | refine zM ?_ | refine zB ?_ | refine zA ?_ | refine zS ?_ | refine zL ?_)
    refine qc ?_
    (repeat refine qb ?_); refine qk ?_
    refine zg rfl ?_
    have h0 : manyS l.length ≠ 0 := by simpa using hm
    simp [allOfS, h0]
  · refine qm ?_
    have h0 : manyS l.length = 0 := by simpa using hm
    (repeat refine qb ?_); refine qa ?_
    repeat (first | refine zR ?_ | refine zK ?_ | refine zM ?_ | refine zB ?_ | refine zA ?_ | refine zS ?_ | refine zL ?_)
    refine qc ?_
    (repeat refine qb ?_); refine ql ?_
    refine SW.wk (qq [12, 13, 14] [] rfl rfl) ?_
    refine qO (fun n s => ∃ (k : Nat) (kk : Int), k ≤ l.length ∧ n = l.length - k ∧ kk = k ∧ (∀ x ∈ l.take k, (fun m => okE (matchS m)) x = 0) ∧ s = ⟨22, [(12, .p (qaB l)), (13, .p (pI (l.map Mat.pv).length)), (14, .p (pI kk))], []⟩) l.length ⟨0, 0, Nat.zero_le _, rfl, rfl, by simp, rfl⟩ ?_
    rintro n s ⟨k, _, hk, rfl, rfl, ha, rfl⟩
    (repeat refine qb ?_); refine qa ?_
    repeat (first | refine zR ?_ | refine zK ?_ | refine zM ?_ | refine zB ?_ | refine zA ?_ | refine zS ?_ | refine zL ?_)
    refine qc ?_
    (repeat refine qb ?_); refine qf rfl (fun hlt => ?_) (fun hlt => ?_)
    · refine qm ?_
      simp only [List.length_map, decide_eq_true_eq] at hlt
      have hlt' : k < l.length := by omega
      (repeat refine qb ?_); refine ql ?_
      (repeat refine qb ?_); refine qa ?_
      repeat (first | refine zR ?_ | refine zK ?_ | refine zM ?_ | refine zB ?_ | refine zA ?_ | refine zS ?_ | refine zL ?_)
      refine qw qe rfl rfl (by simp only [List.length_map]; omega) rfl ?_
      rw [qJ hlt']
      repeat (first | refine zR ?_ | refine zK ?_ | refine zM ?_ | refine zB ?_ | refine zA ?_ | refine zS ?_ | refine zL ?_)
      refine qc ?_
      (repeat refine qb ?_); refine qa ?_
      repeat (first | refine zR ?_ | refine zK ?_ | refine zM ?_ | refine zB ?_ | refine zA ?_ | refine zS ?_ | refine zL ?_)
      refine qn rfl (qg rfl rfl rfl rfl (match_h l[k] (hf _ (List.getElem_mem hlt'))) rfl rfl ?_)
      repeat (first | refine zR ?_ | refine zK ?_ | refine zM ?_ | refine zB ?_ | refine zA ?_ | refine zS ?_ | refine zL ?_)
      refine qc ?_
      (repeat refine qb ?_); refine qf rfl (fun hp => ?_) (fun hp => ?_)
      · (repeat refine qb ?_); refine qa ?_
        repeat (first | refine zR ?_ | refine zK ?_ | refine zM ?_ | refine zB ?_ | refine zA ?_ | refine zS ?_ | refine zL ?_)
        refine qc ?_
        (repeat refine qb ?_); refine qk ?_
        refine zg rfl ?_
        have hq : okE (matchS l[k]) = 1 := by simpa [okE] using hp
        rw [allOfS, if_pos h0, wV (f := fun m => okE (matchS m)) hlt' ha (by rw [hq]; decide), hq]
      · refine qm ?_
        (repeat refine qb ?_); refine qa ?_
        repeat (first | refine zR ?_ | refine zK ?_ | refine zM ?_ | refine zB ?_ | refine zA ?_ | refine zS ?_ | refine zL ?_)
        refine qc ?_
        refine ⟨_, _, ?_, qq [12, 13, 14] [] rfl rfl, k + 1, _, hlt', rfl, qz hlt' (by omega), take_ok hlt' ha (by simpa [okE] using hp), rfl⟩
        omega
    · refine qK ?_
      simp only [List.length_map, decide_eq_false_iff_not] at hlt
      have hkk : k = l.length := by omega
      subst hkk
      rw [List.take_length] at ha
      (repeat refine qb ?_); refine qa ?_
      repeat (first | refine zR ?_ | refine zK ?_ | refine zM ?_ | refine zB ?_ | refine zA ?_ | refine zS ?_ | refine zL ?_)
      refine qc ?_
      (repeat refine qb ?_); refine qk ?_
      refine zg rfl ?_
      simp [allOfS, h0, wT ha]
theorem anyOf_h (l : List (List Mat)) (hf : ∀ x ∈ l, ∀ m ∈ x, m.Fit) : Holds Tryz.prog 106 [anyP l] (.p (pI (anyOfS l))) [] := by
  refine qA (ts := [2]) Tryz.func106 (by kernel_rfl) rfl rfl rfl ?_
  refine sw_len (t := 0) (z := 1) (l := l.map (fun x => [qaB x])) rfl fun hlen => ?_
  rw [List.length_map] at hlen
  unfold reachBytes at hlen
  (repeat refine qb ?_); refine qa ?_
  repeat (first | refine zR ?_ | refine zK ?_ | refine zM ?_ | refine zB ?_ | refine zA ?_ | refine zS ?_ | refine zL ?_)
  refine qc ?_
  (repeat refine qb ?_); refine qa ?_
  repeat (first | refine zR ?_ | refine zK ?_ | refine zM ?_ | refine zB ?_ | refine zA ?_ | refine zS ?_ | refine zL ?_)
  refine qn rfl (qg rfl rfl rfl rfl (many_h (l.map (fun x => [qaB x])).length) rfl rfl ?_)
  repeat (first | refine zR ?_ | refine zK ?_ | refine zM ?_ | refine zB ?_ | refine zA ?_ | refine zS ?_ | refine zL ?_)
  refine qc ?_
  (repeat refine qb ?_); refine qa ?_
  repeat (first | refine zR ?_ | refine zK ?_ | refine zM ?_ | refine zB ?_ | refine zA ?_ | refine zS ?_ | refine zL ?_)
  refine qc ?_
  rw [List.length_map]
  (repeat refine qb ?_); refine qf rfl (fun hm => ?_) (fun hm => ?_)
  · (repeat refine qb ?_); refine qa ?_
    repeat (first | refine zR ?_ | refine zK ?_ | refine zM ?_ | refine zB ?_ | refine zA ?_ | refine zS ?_ | refine zL ?_)
    refine qc ?_
    (repeat refine qb ?_); refine qk ?_
    refine zg rfl ?_
    have h0 : manyS l.length ≠ 0 := by simpa using hm
    simp [anyOfS, h0]
  · refine qm ?_
    have h0 : manyS l.length = 0 := by simpa using hm
    (repeat refine qb ?_); refine qa ?_
    repeat (first | refine zR ?_ | refine zK ?_ | refine zM ?_ | refine zB ?_ | refine zA ?_ | refine zS ?_ | refine zL ?_)
    refine qc ?_
    (repeat refine qb ?_); refine ql ?_
    refine SW.wk (qq [13, 14, 15] [] rfl rfl) ?_
    refine qO (fun n s => ∃ (k : Nat) (kk : Int), k ≤ l.length ∧ n = l.length - k ∧ kk = k ∧ (∀ x ∈ l.take k, allOfS x = 0) ∧ s = ⟨25, [(13, .p (anyP l)), (14, .p (pI (l.map (fun x => [qaB x])).length)), (15, .p (pI kk))], []⟩) l.length ⟨0, 0, Nat.zero_le _, rfl, rfl, by simp, rfl⟩ ?_
    rintro n s ⟨k, _, hk, rfl, rfl, ha, rfl⟩
    (repeat refine qb ?_); refine qa ?_
    repeat (first | refine zR ?_ | refine zK ?_ | refine zM ?_ | refine zB ?_ | refine zA ?_ | refine zS ?_ | refine zL ?_)
    refine qc ?_
    (repeat refine qb ?_); refine qf rfl (fun hlt => ?_) (fun hlt => ?_)
    · refine qm ?_
      simp only [List.length_map, decide_eq_true_eq] at hlt
      have hlt' : k < l.length := by omega
      (repeat refine qb ?_); refine ql ?_
      (repeat refine qb ?_); refine qa ?_
      repeat (first | refine zR ?_ | refine zK ?_ | refine zM ?_ | refine zB ?_ | refine zA ?_ | refine zS ?_ | refine zL ?_)
      refine qw qe rfl rfl (by simp only [List.length_map]; omega) rfl ?_
      rw [qJ hlt']
      repeat (first | refine zR ?_ | refine zK ?_ | refine zM ?_ | refine zB ?_ | refine zA ?_ | refine zS ?_ | refine zL ?_)
      refine qc ?_
      (repeat refine qb ?_); refine qa ?_
      repeat (first | refine zR ?_ | refine zK ?_ | refine zM ?_ | refine zB ?_ | refine zA ?_ | refine zS ?_ | refine zL ?_)
      refine qn rfl (qg rfl rfl rfl rfl (allOf_h l[k] (hf _ (List.getElem_mem hlt'))) rfl rfl ?_)
      repeat (first | refine zR ?_ | refine zK ?_ | refine zM ?_ | refine zB ?_ | refine zA ?_ | refine zS ?_ | refine zL ?_)
      refine qc ?_
      (repeat refine qb ?_); refine qa ?_
      repeat (first | refine zR ?_ | refine zK ?_ | refine zM ?_ | refine zB ?_ | refine zA ?_ | refine zS ?_ | refine zL ?_)
      refine qc ?_
      (repeat refine qb ?_); refine qf rfl (fun hp => ?_) (fun hp => ?_)
      · (repeat refine qb ?_); refine qa ?_
        repeat (first | refine zR ?_ | refine zK ?_ | refine zM ?_ | refine zB ?_ | refine zA ?_ | refine zS ?_ | refine zL ?_)
        refine qc ?_
        (repeat refine qb ?_); refine qk ?_
        refine zg rfl ?_
        have hq : allOfS l[k] ≠ 0 := by simpa using hp
        rw [anyOfS, if_pos h0, wV hlt' ha hq]
      · refine qm ?_
        (repeat refine qb ?_); refine qa ?_
        repeat (first | refine zR ?_ | refine zK ?_ | refine zM ?_ | refine zB ?_ | refine zA ?_ | refine zS ?_ | refine zL ?_)
        refine qc ?_
        refine ⟨_, _, ?_, qq [13, 14, 15] [] rfl rfl, k + 1, _, hlt', rfl, qz hlt' (by omega), take_ok hlt' ha (by simpa using hp), rfl⟩
        omega
    · refine qK ?_
      simp only [List.length_map, decide_eq_false_iff_not] at hlt
      have hkk : k = l.length := by omega
      subst hkk
      rw [List.take_length] at ha
      (repeat refine qb ?_); refine qa ?_
      repeat (first | refine zR ?_ | refine zK ?_ | refine zM ?_ | refine zB ?_ | refine zA ?_ | refine zS ?_ | refine zL ?_)
      refine qc ?_
      (repeat refine qb ?_); refine qk ?_
      refine zg rfl ?_
      simp [anyOfS, h0, wT ha]
theorem target_h (l : List (List (List Mat))) (hf : ∀ x ∈ l, ∀ y ∈ x, ∀ m ∈ y, m.Fit) : Holds Tryz.prog 85 [tgtP l] (.p (pI (zI l))) [] := by
  refine qA (ts := [2]) Tryz.func85 (by kernel_rfl) rfl rfl rfl ?_
  refine sw_len (t := 0) (z := 1) (l := l.map (fun x => [anyP x])) rfl fun hlen => ?_
  rw [List.length_map] at hlen
  unfold reachBytes at hlen
  (repeat refine qb ?_); refine qa ?_
  repeat (first | refine zR ?_ | refine zK ?_ | refine zM ?_ | refine zB ?_ | refine zA ?_ | refine zS ?_ | refine zL ?_)
  refine qc ?_
  (repeat refine qb ?_); refine qa ?_
  repeat (first | refine zR ?_ | refine zK ?_ | refine zM ?_ | refine zB ?_ | refine zA ?_ | refine zS ?_ | refine zL ?_)
  refine qc ?_
  rw [List.length_map]
  (repeat refine qb ?_); refine qf rfl (fun hm => ?_) (fun hm => ?_)
  · (repeat refine qb ?_); refine qa ?_
    repeat (first | refine zR ?_ | refine zK ?_ | refine zM ?_ | refine zB ?_ | refine zA ?_ | refine zS ?_ | refine zL ?_)
    refine qc ?_
    (repeat refine qb ?_); refine qk ?_
    refine zg rfl ?_
    have h0 : 8 < l.length := by simp at hm; omega
    simp [zI, h0]
  · refine qm ?_
    have h0 : ¬ 8 < l.length := by simp at hm; omega
    (repeat refine qb ?_); refine qa ?_
    repeat (first | refine zR ?_ | refine zK ?_ | refine zM ?_ | refine zB ?_ | refine zA ?_ | refine zS ?_ | refine zL ?_)
    refine qc ?_
    (repeat refine qb ?_); refine ql ?_
    refine SW.wk (qq [9, 10, 11] [] rfl rfl) ?_
    refine qO (fun n s => ∃ (k : Nat) (kk : Int), k ≤ l.length ∧ n = l.length - k ∧ kk = k ∧ (∀ x ∈ l.take k, anyOfS x = 0) ∧ s = ⟨21, [(9, .p (tgtP l)), (10, .p (pI (l.map (fun x => [anyP x])).length)), (11, .p (pI kk))], []⟩) l.length ⟨0, 0, Nat.zero_le _, rfl, rfl, by simp, rfl⟩ ?_
    rintro n s ⟨k, _, hk, rfl, rfl, ha, rfl⟩
    (repeat refine qb ?_); refine qa ?_
    repeat (first | refine zR ?_ | refine zK ?_ | refine zM ?_ | refine zB ?_ | refine zA ?_ | refine zS ?_ | refine zL ?_)
    refine qc ?_
    (repeat refine qb ?_); refine qf rfl (fun hlt => ?_) (fun hlt => ?_)
    · refine qm ?_
      simp only [List.length_map, decide_eq_true_eq] at hlt
      have hlt' : k < l.length := by omega
      (repeat refine qb ?_); refine ql ?_
      (repeat refine qb ?_); refine qa ?_
      repeat (first | refine zR ?_ | refine zK ?_ | refine zM ?_ | refine zB ?_ | refine zA ?_ | refine zS ?_ | refine zL ?_)
      refine qw qe rfl rfl (by simp only [List.length_map]; omega) rfl ?_
      rw [qJ hlt']
      repeat (first | refine zR ?_ | refine zK ?_ | refine zM ?_ | refine zB ?_ | refine zA ?_ | refine zS ?_ | refine zL ?_)
      refine qc ?_
      (repeat refine qb ?_); refine qa ?_
      repeat (first | refine zR ?_ | refine zK ?_ | refine zM ?_ | refine zB ?_ | refine zA ?_ | refine zS ?_ | refine zL ?_)
      refine qn rfl (qg rfl rfl rfl rfl (anyOf_h l[k] (hf _ (List.getElem_mem hlt'))) rfl rfl ?_)
      repeat (first | refine zR ?_ | refine zK ?_ | refine zM ?_ | refine zB ?_ | refine zA ?_ | refine zS ?_ | refine zL ?_)
      refine qc ?_
      (repeat refine qb ?_); refine qa ?_
      repeat (first | refine zR ?_ | refine zK ?_ | refine zM ?_ | refine zB ?_ | refine zA ?_ | refine zS ?_ | refine zL ?_)
      refine qc ?_
      (repeat refine qb ?_); refine qf rfl (fun hp => ?_) (fun hp => ?_)
      · (repeat refine qb ?_); refine qa ?_
        repeat (first | refine zR ?_ | refine zK ?_ | refine zM ?_ | refine zB ?_ | refine zA ?_ | refine zS ?_ | refine zL ?_)
        refine qc ?_
        (repeat refine qb ?_); refine qk ?_
        refine zg rfl ?_
        have hq : anyOfS l[k] ≠ 0 := by simpa using hp
        rw [zI, if_neg h0, wV hlt' ha hq]
      · refine qm ?_
        (repeat refine qb ?_); refine qa ?_
        repeat (first | refine zR ?_ | refine zK ?_ | refine zM ?_ | refine zB ?_ | refine zA ?_ | refine zS ?_ | refine zL ?_)
        refine qc ?_
        refine ⟨_, _, ?_, qq [9, 10, 11] [] rfl rfl, k + 1, _, hlt', rfl, qz hlt' (by omega), take_ok hlt' ha (by simpa using hp), rfl⟩
        omega
    · refine qK ?_
      simp only [List.length_map, decide_eq_false_iff_not] at hlt
      have hkk : k = l.length := by omega
      subst hkk
      rw [List.take_length] at ha
      (repeat refine qb ?_); refine qa ?_
      repeat (first | refine zR ?_ | refine zK ?_ | refine zM ?_ | refine zB ?_ | refine zA ?_ | refine zS ?_ | refine zL ?_)
      refine qc ?_
      (repeat refine qb ?_); refine qk ?_
      refine zg rfl ?_
      simp [zI, h0, wT ha]
theorem oblS_eq (o : Obli) : (!oblS o) = (decide (o.on < 1) || decide (2 < o.on) || decide (o.kind < 1) || decide (4 < o.kind) || !wO o.arg) := by
  rw [Bool.eq_iff_iff]
  simp [oblS]
theorem obls_h (l : List Obli) (hf : ∀ x ∈ l, x.Fit) : Holds Tryz.prog 86 [zQ l] (.p (pI (oblsS l))) [] := by
  refine qA (ts := [2]) Tryz.func86 (by kernel_rfl) rfl rfl rfl ?_
  refine sw_len (t := 0) (z := 3) (l := l.map Obli.pv) rfl fun hlen => ?_
  rw [List.length_map] at hlen
  unfold reachBytes at hlen
  (repeat refine qb ?_); refine qa ?_
  repeat (first | refine zR ?_ | refine zK ?_ | refine zM ?_ | refine zB ?_ | refine zA ?_ | refine zS ?_ | refine zL ?_)
  refine qc ?_
  (repeat refine qb ?_); refine qa ?_
  repeat (first | refine zR ?_ | refine zK ?_ | refine zM ?_ | refine zB ?_ | refine zA ?_ | refine zS ?_ | refine zL ?_)
  refine qc ?_
  rw [List.length_map]
  (repeat refine qb ?_); refine qf rfl (fun hm => ?_) (fun hm => ?_)
  · (repeat refine qb ?_); refine qa ?_
    repeat (first | refine zR ?_ | refine zK ?_ | refine zM ?_ | refine zB ?_ | refine zA ?_ | refine zS ?_ | refine zL ?_)
    refine qc ?_
    (repeat refine qb ?_); refine qk ?_
    refine zg rfl ?_
    have h0 : 8 < l.length := by simp at hm; omega
    simp [oblsS, h0]
  · refine qm ?_
    have h0 : ¬ 8 < l.length := by simp at hm; omega
    (repeat refine qb ?_); refine qa ?_
    repeat (first | refine zR ?_ | refine zK ?_ | refine zM ?_ | refine zB ?_ | refine zA ?_ | refine zS ?_ | refine zL ?_)
    refine qc ?_
    (repeat refine qb ?_); refine ql ?_
    refine SW.wk (qq [8, 9, 10] [] rfl rfl) ?_
    refine qO (fun n s => ∃ (k : Nat) (kk : Int), k ≤ l.length ∧ n = l.length - k ∧ kk = k ∧ (∀ x ∈ l.take k, (fun m => okE (oblS m)) x = 0) ∧ s = ⟨39, [(8, .p (zQ l)), (9, .p (pI (l.map Obli.pv).length)), (10, .p (pI kk))], []⟩) l.length ⟨0, 0, Nat.zero_le _, rfl, rfl, by simp, rfl⟩ ?_
    rintro n s ⟨k, _, hk, rfl, rfl, ha, rfl⟩
    (repeat refine qb ?_); refine qa ?_
    repeat (first | refine zR ?_ | refine zK ?_ | refine zM ?_ | refine zB ?_ | refine zA ?_ | refine zS ?_ | refine zL ?_)
    refine qc ?_
    (repeat refine qb ?_); refine qf rfl (fun hlt => ?_) (fun hlt => ?_)
    · refine qm ?_
      simp only [List.length_map, decide_eq_true_eq] at hlt
      have hlt' : k < l.length := by omega
      (repeat refine qb ?_); refine ql ?_
      (repeat refine qb ?_); refine qa ?_
      repeat (first | refine zR ?_ | refine zK ?_ | refine zM ?_ | refine zB ?_ | refine zA ?_ | refine zS ?_ | refine zL ?_)
      refine qw qe rfl rfl (by simp only [List.length_map]; omega) rfl ?_
      rw [qJ hlt']
      repeat (first | refine zR ?_ | refine zK ?_ | refine zM ?_ | refine zB ?_ | refine zA ?_ | refine zS ?_ | refine zL ?_)
      refine qc ?_
      (repeat refine qb ?_); refine qs (by kernel_rfl) ?_
      repeat (refine qr qe rfl (by exact True.intro) rfl ?_)
      refine zj rfl rfl rfl rfl (name_h l[k].arg (hf _ (List.getElem_mem hlt')).arg) rfl rfl ?_
      repeat (refine qr qe rfl (by exact True.intro) rfl ?_)
      refine qQ ?_
      (repeat refine qb ?_); refine qf rfl (fun hp => ?_) (fun hp => ?_)
      · (repeat refine qb ?_); refine qa ?_
        repeat (first | refine zR ?_ | refine zK ?_ | refine zM ?_ | refine zB ?_ | refine zA ?_ | refine zS ?_ | refine zL ?_)
        refine qc ?_
        (repeat refine qb ?_); refine qk ?_
        refine zg rfl ?_
        have hq : okE (oblS l[k]) = 1 := by
          have := oblS_eq l[k]
          cases h1 : oblS l[k] with
          | false => rfl
          | true =>
            exfalso
            rw [h1] at this
            simp at this hp
            rcases hp with ((((h | h) | h) | h) | h) <;> first | omega | simp_all
        rw [oblsS, if_neg h0, wV (f := fun m => okE (oblS m)) hlt' ha (by rw [hq]; decide), hq]
      · refine qm ?_
        (repeat refine qb ?_); refine qa ?_
        repeat (first | refine zR ?_ | refine zK ?_ | refine zM ?_ | refine zB ?_ | refine zA ?_ | refine zS ?_ | refine zL ?_)
        refine qc ?_
        refine ⟨_, _, ?_, qq [8, 9, 10] [] rfl rfl, k + 1, _, hlt', rfl, qz hlt' (by omega), take_ok hlt' ha ?_, rfl⟩
        · omega
        · have := oblS_eq l[k]
          cases h1 : oblS l[k] with
          | true => simp [okE, h1]
          | false =>
            exfalso
            rw [h1] at this
            simp at this hp
            rcases this with ((((h | h) | h) | h) | h) <;> first | omega | simp_all
    · refine qK ?_
      simp only [List.length_map, decide_eq_false_iff_not] at hlt
      have hkk : k = l.length := by omega
      subst hkk
      rw [List.take_length] at ha
      (repeat refine qb ?_); refine qa ?_
      repeat (first | refine zR ?_ | refine zK ?_ | refine zM ?_ | refine zB ?_ | refine zA ?_ | refine zS ?_ | refine zL ?_)
      refine qc ?_
      (repeat refine qb ?_); refine qk ?_
      refine zg rfl ?_
      simp [oblsS, h0, wT ha]
theorem wk_nilp {st : St} (t d : Nat) (e : TypeId) (z : Nat) (ht : lk t st.fr = some (.p (.v (.slice none 0 0)))) (hd : lk d st.own = none) (hdl : Nat.blt d 1000000 = true := by rfl) : Wk st (St.frz ⟨st.n, (t, .row d) :: st.fr, (d, .row e z []) :: st.own⟩ d z []) :=
  (jP t d e z ht hd hdl).trans (zN (e := e) (by show lk d ((d, Box.row e z []) :: st.own) = _; rw [qE, if_pos rfl]))
theorem wants_h (op : Int) : Holds Tryz.prog 113 [pI op] (.tup [.p (.sl 1 (jA ((zu op).getD []))), .p (pB (zu op).isSome)]) [] := by
  refine qA (ts := [2,3]) Tryz.func113 (by kernel_rfl) rfl rfl rfl ?_
  (repeat refine qb ?_); refine qa ?_
  repeat (first | refine zR ?_ | refine zK ?_ | refine zM ?_ | refine zB ?_ | refine zA ?_ | refine zS ?_ | refine zL ?_)
  refine qc ?_
  (repeat refine qb ?_); refine ql ?_
  (repeat refine qb ?_); refine qs (by kernel_rfl) ?_
  repeat (refine qr qe rfl (by exact True.intro) rfl ?_)
  refine qQ ?_
  (repeat refine qb ?_); refine qf rfl (fun h => ?_) (fun h => ?_)
  · have e : zu op = some [] := by
      unfold zu; rw [if_pos (by simpa using h)]
    rw [e]
    (repeat refine qb ?_); refine qa ?_
    repeat (first | refine zR ?_ | refine zK ?_ | refine zM ?_ | refine zB ?_ | refine zA ?_ | refine zS ?_ | refine zL ?_)
    refine qc ?_
    (repeat refine qb ?_); refine qk ?_
    exact ⟨Or.inr rfl, _, _, [], wk_nilp 2 0 4 1 rfl rfl, rfl, rfl, rfl, rfl⟩
  · have n1 : ¬ (op = 1 ∨ op = 2) := by simpa using h
    (repeat refine qb ?_); refine qs (by kernel_rfl) ?_
    repeat (refine qr qe rfl (by exact True.intro) rfl ?_)
    refine qQ ?_
    (repeat refine qb ?_); refine qf rfl (fun h => ?_) (fun h => ?_)
    · have e : zu op = some [true] := by
        unfold zu; rw [if_neg n1, if_pos (by simpa using h)]
      rw [e]
      (repeat refine qb ?_); refine qa ?_
      repeat (first | refine zR ?_ | refine zK ?_ | refine zM ?_ | refine zB ?_ | refine zA ?_ | refine zS ?_ | refine zL ?_)
      refine qc ?_
      (repeat refine qb ?_); refine qk ?_
      exact ⟨Or.inr rfl, _, _, [], zN (k := 18) rfl, rfl, rfl, rfl, rfl⟩
    · have n2 : ¬ (op = 3 ∨ op = 4) := by simpa using h
      (repeat refine qb ?_); refine qa ?_
      repeat (first | refine zR ?_ | refine zK ?_ | refine zM ?_ | refine zB ?_ | refine zA ?_ | refine zS ?_ | refine zL ?_)
      refine qc ?_
      (repeat refine qb ?_); refine qf rfl (fun h => ?_) (fun h => ?_)
      · have e : zu op = some [true, false] := by
          unfold zu; rw [if_neg n1, if_neg n2, if_pos (by simpa using h)]
        rw [e]
        (repeat refine qb ?_); refine qa ?_
        repeat (first | refine zR ?_ | refine zK ?_ | refine zM ?_ | refine zB ?_ | refine zA ?_ | refine zS ?_ | refine zL ?_)
        refine qc ?_
        (repeat refine qb ?_); refine qk ?_
        exact ⟨Or.inr rfl, _, _, [], zN (k := 22) rfl, rfl, rfl, rfl, rfl⟩
      · have n3 : ¬ op = 5 := by simpa using h
        (repeat refine qb ?_); refine qa ?_
        repeat (first | refine zR ?_ | refine zK ?_ | refine zM ?_ | refine zB ?_ | refine zA ?_ | refine zS ?_ | refine zL ?_)
        refine qc ?_
        (repeat refine qb ?_); refine qf rfl (fun h => ?_) (fun h => ?_)
        · have e : zu op = some [false] := by
            unfold zu; rw [if_neg n1, if_neg n2, if_neg n3, if_pos (by simpa using h)]
          rw [e]
          (repeat refine qb ?_); refine qa ?_
          repeat (first | refine zR ?_ | refine zK ?_ | refine zM ?_ | refine zB ?_ | refine zA ?_ | refine zS ?_ | refine zL ?_)
          refine qc ?_
          (repeat refine qb ?_); refine qk ?_
          exact ⟨Or.inr rfl, _, _, [], zN (k := 26) rfl, rfl, rfl, rfl, rfl⟩
        · have n4 : ¬ op = 11 := by simpa using h
          (repeat refine qb ?_); refine qs (by kernel_rfl) ?_
          repeat (refine qr qe rfl (by exact True.intro) rfl ?_)
          refine qQ ?_
          (repeat refine qb ?_); refine qf rfl (fun h => ?_) (fun h => ?_)
          · have e : zu op = some [false, false] := by
              unfold zu; rw [if_neg n1, if_neg n2, if_neg n3, if_neg n4, if_pos (by simp at h; omega)]
            rw [e]
            (repeat refine qb ?_); refine qa ?_
            repeat (first | refine zR ?_ | refine zK ?_ | refine zM ?_ | refine zB ?_ | refine zA ?_ | refine zS ?_ | refine zL ?_)
            refine qc ?_
            (repeat refine qb ?_); refine qk ?_
            exact ⟨Or.inr rfl, _, _, [], zN (k := 34) rfl, rfl, rfl, rfl, rfl⟩
          · have e : zu op = none := by
              unfold zu; rw [if_neg n1, if_neg n2, if_neg n3, if_neg n4, if_neg (by simp at h; omega)]
            rw [e]
            refine qm ?_
            (repeat refine qb ?_); refine qa ?_
            repeat (first | refine zR ?_ | refine zK ?_ | refine zM ?_ | refine zB ?_ | refine zA ?_ | refine zS ?_ | refine zL ?_)
            refine qc ?_
            (repeat refine qb ?_); refine qk ?_
            exact ⟨Or.inr rfl, _, _, [], wk_nilp 2 0 4 1 rfl rfl, rfl, rfl, rfl, rfl⟩
theorem noVal_eq (v : Val) : (v.kind == 0 && (v.n == 0 && v.s.toList.isEmpty)) = isNoVal v := by
  rw [jg, Bool.eq_iff_iff]
  simp [isNoVal, and_assoc]
theorem noAtr_eq (a : Atr) : (a.cat == 0 && (a.name.toList.isEmpty && !a.must)) = isNoAtr a := by
  rw [jg, Bool.eq_iff_iff]
  simp [isNoAtr, and_assoc]
theorem fields_h (n : Nod) (hn : n.Fit) : Holds Tryz.prog 114 [.agg n.pv] (.p (pB (ji n))) [] := by
  refine qA (ts := [2]) Tryz.func114 (by kernel_rfl) rfl rfl rfl ?_
  (repeat refine qb ?_); refine qa ?_
  repeat (first | refine zR ?_ | refine zK ?_ | refine zM ?_ | refine zB ?_ | refine zA ?_ | refine zS ?_ | refine zL ?_)
  refine qc ?_
  (repeat refine qb ?_); refine qa ?_
  repeat (first | refine zR ?_ | refine zK ?_ | refine zM ?_ | refine zB ?_ | refine zA ?_ | refine zS ?_ | refine zL ?_)
  refine qc ?_
  (repeat refine qb ?_); refine ql ?_
  (repeat refine qb ?_); refine qa ?_
  repeat (first | refine zR ?_ | refine zK ?_ | refine zM ?_ | refine zB ?_ | refine zA ?_ | refine zS ?_ | refine zL ?_)
  refine qc ?_
  (repeat refine qb ?_); refine qf rfl (fun h => ?_) (fun h => ?_)
  · have h1 : n.op = 1 := by simpa using h
    (repeat refine qb ?_); refine qs (by kernel_rfl) ?_
    repeat (refine qr qe rfl (by exact True.intro) rfl ?_)
    refine zj rfl rfl rfl rfl (qad n.val hn.val.s) rfl rfl ?_
    repeat (refine qr qe rfl (by exact True.intro) rfl ?_)
    refine qr qe rfl (rfl) rfl ?_
    repeat (refine qr qe rfl (by exact True.intro) rfl ?_)
    refine qQ ?_
    (repeat refine qb ?_); refine qk ?_
    refine wS rfl ?_
    unfold ji
    rw [if_pos h1]
    cases n.val.right <;> simp [← noAtr_eq]
  · have n1 : ¬ n.op = 1 := by simpa using h
    (repeat refine qb ?_); refine qa ?_
    repeat (first | refine zR ?_ | refine zK ?_ | refine zM ?_ | refine zB ?_ | refine zA ?_ | refine zS ?_ | refine zL ?_)
    refine qc ?_
    (repeat refine qb ?_); refine qf rfl (fun h => ?_) (fun h => ?_)
    · have h2 : n.op = 2 := by simpa using h
      (repeat refine qb ?_); refine qs (by kernel_rfl) ?_
      repeat (refine qr qe rfl (by exact True.intro) rfl ?_)
      refine zj rfl rfl rfl rfl (attr_h n.attr hn.attr.name) rfl rfl ?_
      repeat (refine qr qe rfl (by exact True.intro) rfl ?_)
      refine qr qe rfl (rfl) rfl ?_
      repeat (refine qr qe rfl (by exact True.intro) rfl ?_)
      refine qQ ?_
      (repeat refine qb ?_); refine qk ?_
      refine wS rfl ?_
      unfold ji
      rw [if_neg n1, if_pos h2]
      cases attrS n.attr <;> simp [← noVal_eq]
    · have n2 : ¬ n.op = 2 := by simpa using h
      refine qm ?_
      (repeat refine qb ?_); refine qs (by kernel_rfl) ?_
      repeat (refine qr qe rfl (by exact True.intro) rfl ?_)
      refine qr qe rfl (rfl) rfl ?_
      repeat (refine qr qe rfl (by exact True.intro) rfl ?_)
      refine qr qe rfl (rfl) rfl ?_
      repeat (refine qr qe rfl (by exact True.intro) rfl ?_)
      refine qQ ?_
      (repeat refine qb ?_); refine qk ?_
      refine wS rfl ?_
      unfold ji
      rw [if_neg n1, if_neg n2]
      simp [← noVal_eq, ← noAtr_eq]
end Go.Proofs.YtppfcacnofjmdaaGreatDoor
namespace Go.Proofs.YtppfcacnofjmdaaGreatDoor
set_option linter.unusedVariables false
set_option linter.unusedSimpArgs false
open Go.RowKit
end Go.Proofs.YtppfcacnofjmdaaGreatDoor
namespace Go.Proofs.YtppfcacnofjmdaaGreatDoor
set_option linter.unusedVariables false
set_option linter.unusedSimpArgs false
end Go.Proofs.YtppfcacnofjmdaaGreatDoor
namespace Go.Proofs.YtppfcacnofjmdaaGreatDoor
set_option linter.unusedVariables false
set_option linter.unusedSimpArgs false
open Go.RowKit
structure Itm where
  bag : List Val
  v : Val
  e : Int
def Itm.pv (x : Itm) : List PV := [valsP x.bag, pI x.v.kind, pI x.v.n, pS x.v.s, pI x.e]
def isT (v : Val) (n : Int) : Bool := jh v ⟨1, n, ⟨#[]⟩⟩
def Itm.is (x : Itm) (n : Int) : Bool := decide (x.e = 0) && isT x.v n
end Go.Proofs.YtppfcacnofjmdaaGreatDoor
namespace Go.Proofs.YtppfcacnofjmdaaGreatDoor
set_option linter.unusedVariables false
set_option linter.unusedSimpArgs false
open Go.RowKit
section
variable {s : ByteArray} (hs : wO s = true)
include hs
end
end Go.Proofs.YtppfcacnofjmdaaGreatDoor
namespace Go.Proofs.YtppfcacnofjmdaaGreatDoor
set_option linter.unusedVariables false
set_option linter.unusedSimpArgs false
open Go.RowKit
abbrev Mk := Nat × Nat
def mks : List Mk := [(0, 0), (2, 0), (0, 2), (1, 0), (0, 1), (1, 1)]
structure Rs where
  m : Mk
  obls : List Obli
def Rs.ok (x : Rs) : Prop := x.m ∈ mks ∧ (x.m ≠ (2, 0) → x.m ≠ (0, 2) → x.obls = [])
end Go.Proofs.YtppfcacnofjmdaaGreatDoor
namespace Go.Proofs.YtppfcacnofjmdaaGreatDoor
set_option linter.unusedVariables false
set_option linter.unusedSimpArgs false
def Wlk.le (w v : Wlk) : Prop := (∀ s, hasS w.met s = true → hasS v.met s = true) ∧ w.rules ≤ v.rules
theorem Wlk.le_refl (w : Wlk) : w.le w := ⟨fun _ h => h, Int.le_refl _⟩
theorem hasS_snoc (m : List ByteArray) (s t : ByteArray) : hasS (m ++ [s]) t = (hasS m t || decide (t = s)) := by simp [hasS]
theorem Wlk.le_snoc {w v : Wlk} (h : w.le v) (s : ByteArray) {a b : Int} (hab : a ≤ b) : Wlk.le ⟨w.met ++ [s], a⟩ ⟨v.met ++ [s], b⟩ := by
  refine ⟨fun t ht => ?_, hab⟩
  simp only [hasS_snoc, Bool.or_eq_true] at ht ⊢
  exact ht.imp (h.1 t) id
theorem nameOk_le {w v : Wlk} (h : w.le v) {s : ByteArray} (hs : zO v.met s = true) : zO w.met s = true := by
  unfold zO at hs ⊢
  simp only [Bool.and_eq_true, Bool.not_eq_true'] at hs ⊢
  refine ⟨?_, hs.2⟩
  cases hw : hasS w.met s with
  | false => rfl
  | true => rw [h.1 s hw] at hs; cases hs.1
theorem ruleS_le {w v : Wlk} (h : w.le v) {r : Rul} (h0 : (zq v r).1 = 0) : (zq w r).1 = 0 ∧ (zq w r).2.le (zq v r).2 := by
  unfold zq at h0 ⊢
  by_cases hv : zO v.met r.id = true
  · have hw := nameOk_le h hv
    rw [if_pos hv] at h0 ⊢
    rw [if_pos hw]
    have h2 := h.2
    simp only at h0 ⊢
    by_cases h64 : 64 < v.rules + 1
    · rw [if_pos h64] at h0; cases h0
    · rw [if_neg h64] at h0
      rw [if_neg (by omega)]
      exact ⟨h0, Wlk.le_snoc h r.id (by omega)⟩
  · rw [if_neg hv] at h0; cases h0
theorem headS_le {w v : Wlk} (h : w.le v) {p : Pol} (h0 : (zF v p).1 = 0) : (zF w p).1 = 0 ∧ (zF w p).2.le (zF v p).2 := by
  unfold zF at h0 ⊢
  by_cases hv : zO v.met p.id = true
  · have hw := nameOk_le h hv
    simp only [hv, hw, Bool.true_and, nameM, if_true] at h0 ⊢
    exact ⟨h0, Wlk.le_snoc h p.id h.2⟩
  · simp [hv] at h0
theorem seqS_le {α : Type} {f f' : Wlk → α → Int × Wlk} (hf : ∀ w v x, w.le v → (f v x).1 = 0 → (f' w x).1 = 0 ∧ (f' w x).2.le (f v x).2) : ∀ {l : List α} {w v : Wlk}, w.le v → (seqS f v l).1 = 0 → (seqS f' w l).1 = 0 ∧ (seqS f' w l).2.le (seqS f v l).2
  | [], w, v, h, _ => ⟨rfl, h⟩
  | x :: r, w, v, h, h0 => by
    rw [seqS] at h0 ⊢
    rw [seqS]
    by_cases hx : (f v x).1 = 0
    · rw [if_pos hx] at h0 ⊢
      obtain ⟨h1, h2⟩ := hf w v x h hx
      rw [if_pos h1]
      exact seqS_le hf h2 h0
    · rw [if_neg hx] at h0; exact absurd h0 hx
theorem polS_le : ∀ {n m : Nat} (_ : n ≤ m) {w v : Wlk} {p : Pol}, w.le v → (polS n v p).1 = 0 → (polS m w p).1 = 0 ∧ (polS m w p).2.le (polS n v p).2
  | 0, m, _, w, v, p, h, h0 => by rw [polS] at h0; cases h0
  | n + 1, 0, hnm, _, _, _, _, _ => by omega
  | n + 1, m + 1, hnm, w, v, p, h, h0 => by
    rw [polS] at h0 ⊢
    rw [polS]
    by_cases h1 : (zF v p).1 = 0
    · rw [if_pos h1] at h0 ⊢
      obtain ⟨g1, g2⟩ := headS_le h h1
      rw [if_pos g1]
      by_cases h2 : (seqS zq (zF v p).2 p.rules).1 = 0
      · rw [if_pos h2] at h0 ⊢
        obtain ⟨k1, k2⟩ := seqS_le (f := zq) (f' := zq) (fun w v x h h0 => ruleS_le h h0) g2 h2
        rw [if_pos k1]
        exact seqS_le (f := polS n) (f' := polS m) (fun w v x h h0 => polS_le (by omega) h h0) k2 h0
      · rw [if_neg h2] at h0; exact absurd h0 h2
    · rw [if_neg h1] at h0; exact absurd h0 h1
theorem seqS_each {α : Type} {f : Wlk → α → Int × Wlk} {Q : α → Prop} (hf : ∀ w x, (f w x).1 = 0 → Q x) : ∀ {l : List α} {w : Wlk}, (seqS f w l).1 = 0 → ∀ x ∈ l, Q x
  | [], w, _, x, hx => by simp at hx
  | y :: r, w, h0, x, hx => by
    rw [seqS] at h0
    by_cases hy : (f w y).1 = 0
    · rw [if_pos hy] at h0
      rcases List.mem_cons.1 hx with rfl | hx
      · exact hf w _ hy
      · exact seqS_each hf h0 x hx
    · rw [if_neg hy] at h0; exact absurd h0 hy
theorem le_start (w : Wlk) (h : 0 ≤ w.rules) : Wlk.le ⟨[], 0⟩ w := ⟨fun s hs => by simp [hasS] at hs, h⟩
theorem ruleS_lim {w : Wlk} {r : Rul} (hw : 0 ≤ w.rules ∧ w.rules ≤ 64) (h : (zq w r).1 = 0) : 0 ≤ (zq w r).2.rules ∧ (zq w r).2.rules ≤ 64 := by
  unfold zq at h ⊢
  split at h
  · rename_i hn
    rw [if_pos hn]
    simp only at h ⊢
    split at h
    · cases h
    · omega
  · cases h
theorem jI {α : Type} {f : Wlk → α → Int × Wlk} {P : Wlk → Prop} (hf : ∀ w x, P w → (f w x).1 = 0 → P (f w x).2) : ∀ {l : List α} {w : Wlk}, P w → (seqS f w l).1 = 0 → P (seqS f w l).2
  | [], w, hw, _ => hw
  | x :: r, w, hw, h => by
    rw [seqS] at h ⊢
    by_cases h0 : (f w x).1 = 0
    · rw [if_pos h0] at h ⊢
      exact jI hf (hf w x hw h0) h
    · rw [if_neg h0] at h; exact absurd h h0
abbrev lim (w : Wlk) : Prop := 0 ≤ w.rules ∧ w.rules ≤ 64
theorem polS_lim : ∀ (n : Nat) (w : Wlk) (p : Pol), lim w → (polS n w p).1 = 0 → lim (polS n w p).2
  | 0, w, p, _, h => by cases h
  | n + 1, w, p, hw, h => by
    have h1 : lim (zF w p).2 := hw
    rw [polS] at h ⊢
    split at h
    · rename_i h2
      rw [if_pos h2]
      split at h
      · rename_i h3
        rw [if_pos h3]
        exact jI (P := lim) (fun w x hw h => polS_lim n w x hw h) (jI (P := lim) (fun w x hw h => ruleS_lim hw h) h1 h3) h
      · rename_i h3; exact absurd h h3
    · rename_i h2; exact absurd h h2
end Go.Proofs.YtppfcacnofjmdaaGreatDoor
namespace Go.Proofs.YtppfcacnofjmdaaGreatDoor
set_option linter.unusedVariables false
set_option linter.unusedSimpArgs false
open Go.RowKit
mutual
def Pol.nr : Pol → Nat
  | .mk _ _ _ _ rs ks _ => rs.length + Pol.nrs ks
def Pol.nrs : List Pol → Nat
  | [] => 0
  | k :: ks => k.nr + Pol.nrs ks
end
def Dp : Nat → Pol → Prop
  | 0, _ => False
  | n + 1, p => ∀ k ∈ p.kids, Dp n k
theorem wj {n : Nat} {w : Wlk} {p : Pol} (h : (polS (n + 1) w p).1 = 0) : (zF w p).1 = 0 ∧ (seqS zq (zF w p).2 p.rules).1 = 0 ∧ (seqS (polS n) (seqS zq (zF w p).2 p.rules).2 p.kids).1 = 0 := by
  rw [polS] at h
  split at h
  · rename_i h2
    split at h
    · rename_i h3; exact ⟨h2, h3, h⟩
    · rename_i h3; exact absurd h h3
  · rename_i h2; exact absurd h h2
theorem polS_dp : ∀ (n : Nat) {w : Wlk} {p : Pol}, (polS n w p).1 = 0 → Dp n p
  | 0, w, p, h => by cases h
  | n + 1, w, p, h => seqS_each (fun w x h => polS_dp n h) (wj h).2.2
theorem seqS_eachP {α : Type} {f : Wlk → α → Int × Wlk} {P : Wlk → Prop} {Q : α → Prop} (hf : ∀ w x, P w → (f w x).1 = 0 → P (f w x).2 ∧ Q x) : ∀ {l : List α} {w : Wlk}, P w → (seqS f w l).1 = 0 → ∀ x ∈ l, Q x
  | [], w, _, _, x, hx => by simp at hx
  | y :: r, w, hw, h0, x, hx => by
    rw [seqS] at h0
    by_cases hy : (f w y).1 = 0
    · rw [if_pos hy] at h0
      rcases List.mem_cons.1 hx with rfl | hx
      · exact (hf w _ hw hy).2
      · exact seqS_eachP hf (hf w y hw hy).1 h0 x hx
    · rw [if_neg hy] at h0; exact absurd h0 hy
theorem right_kids {p : Pol} (h : zb p = 0) : ∀ k ∈ p.kids, zb k = 0 := by
  obtain ⟨h1, h2, h3⟩ := wj h
  have l1 : lim (zF ⟨[], 0⟩ p).2 := ⟨by show (0 : Int) ≤ 0; omega, by show (0 : Int) ≤ 64; omega⟩
  have l2 := jI (P := lim) (fun w x hw h => ruleS_lim hw h) l1 h2
  exact seqS_eachP (P := lim) (Q := fun k => zb k = 0) (fun w x hw h => ⟨polS_lim 3 w x hw h, (polS_le (n := 3) (m := 4) (by omega) (le_start w hw.1) h).1⟩) l2 h3
end Go.Proofs.YtppfcacnofjmdaaGreatDoor
namespace Go.Proofs.YtppfcacnofjmdaaGreatDoor
set_option linter.unusedVariables false
set_option linter.unusedSimpArgs false
open Go.RowKit
theorem right_dp {p : Pol} (h : zb p = 0) : Dp 4 p := polS_dp 4 h
theorem right_kid_dp {p : Pol} (h : zb p = 0) : ∀ k ∈ p.kids, Dp 3 k := polS_dp 4 h
end Go.Proofs.YtppfcacnofjmdaaGreatDoor
namespace Go.Proofs.YtppfcacnofjmdaaGreatDoor
set_option linter.unusedVariables false
set_option linter.unusedSimpArgs false
open Go.RowKit
set_option maxHeartbeats 1000000
def stepR : Option (List Bool) → SV
  | some _ => .tup [.row 0, .p (pB true)]
  | none => .tup [.p (.v (.slice none 0 0)), .p (pB false)]
def stepO : Option (List Bool) → List (Nat × Box)
  | some l => [(0, .row 4 1 (jA l))]
  | none => []
theorem step_h (l : List Bool) (hl : l.length ≤ 1000000) (n : Nod) (hn : n.Fit) : zZ Tryz.prog 89 [.row 1000000, .p (.agg n.pv)] [(1000000, .row 4 1 (jA l))] (stepR (zy l n)) (stepO (zy l n)) := by
  have H1 := wants_h n.op
  cases hw : zu n.op with
  | none =>
    rw [hw] at H1
    simp only [Option.getD_none, Option.isSome_none] at H1
    have e : zy l n = none := by simp [zy, hw]
    rw [e]
    refine ja (ts := [4,5]) Tryz.func89 (by kernel_rfl) rfl rfl rfl ?_
    (repeat refine qb ?_); refine qa ?_
    repeat (first | refine zR ?_ | refine zK ?_ | refine zM ?_ | refine zB ?_ | refine zA ?_ | refine zS ?_ | refine zL ?_)
    refine qc ?_
    (repeat refine qb ?_); refine qa ?_
    repeat (first | refine zR ?_ | refine zK ?_ | refine zM ?_ | refine zB ?_ | refine zA ?_ | refine zS ?_ | refine zL ?_)
    refine qn rfl (qD rfl rfl rfl rfl (H1) rfl rfl rfl ?_)
    repeat (first | refine zR ?_ | refine zK ?_ | refine zM ?_ | refine zB ?_ | refine zA ?_ | refine zS ?_ | refine zL ?_)
    refine qc ?_
    (repeat refine qb ?_); refine qs (by kernel_rfl) ?_
    repeat (refine qr qe rfl (by exact True.intro) rfl ?_)
    refine zj rfl rfl rfl rfl (fields_h n hn) rfl rfl ?_
    repeat (refine qr qe rfl (by exact True.intro) rfl ?_)
    refine qQ ?_
    (repeat refine qb ?_); refine qf rfl (fun h => ?_) (fun h => ?_)
    · (repeat refine qb ?_); refine qa ?_
      repeat (first | refine zR ?_ | refine zK ?_ | refine zM ?_ | refine zB ?_ | refine zA ?_ | refine zS ?_ | refine zL ?_)
      refine qc ?_
      (repeat refine qb ?_); refine qk ?_
      exact ⟨Or.inr rfl, _, _, [], Wk.refl _, rfl, rfl, rfl, rfl⟩
    · simp at h
  | some w =>
    rw [hw] at H1
    simp only [Option.getD_some, Option.isSome_some] at H1
    have hwl : w.length ≤ 2 := by
      unfold zu at hw
      repeat' split at hw
      all_goals (cases hw; try simp)
    refine ja (ts := [4,5]) Tryz.func89 (by kernel_rfl) rfl rfl rfl ?_
    (repeat refine qb ?_); refine qa ?_
    repeat (first | refine zR ?_ | refine zK ?_ | refine zM ?_ | refine zB ?_ | refine zA ?_ | refine zS ?_ | refine zL ?_)
    refine qc ?_
    (repeat refine qb ?_); refine qa ?_
    repeat (first | refine zR ?_ | refine zK ?_ | refine zM ?_ | refine zB ?_ | refine zA ?_ | refine zS ?_ | refine zL ?_)
    refine qn rfl (qD rfl rfl rfl rfl (H1) rfl rfl rfl ?_)
    repeat (first | refine zR ?_ | refine zK ?_ | refine zM ?_ | refine zB ?_ | refine zA ?_ | refine zS ?_ | refine zL ?_)
    refine qc ?_
    (repeat refine qb ?_); refine qs (by kernel_rfl) ?_
    repeat (refine qr qe rfl (by exact True.intro) rfl ?_)
    refine zj rfl rfl rfl rfl (fields_h n hn) rfl rfl ?_
    repeat (refine qr qe rfl (by exact True.intro) rfl ?_)
    refine qQ ?_
    have ll : (jA l).length = l.length := by simp [jA]
    have lw : (jA w).length = w.length := by simp [jA]
    (repeat refine qb ?_); refine qf rfl (fun h => ?_) (fun h => ?_)
    · have e : zy l n = none := by
        simp only [zy, hw]
        rw [if_neg]
        intro ⟨h1, h2, _⟩
        simp [h1, ll, lw] at h
        omega
      rw [e]
      (repeat refine qb ?_); refine qa ?_
      repeat (first | refine zR ?_ | refine zK ?_ | refine zM ?_ | refine zB ?_ | refine zA ?_ | refine zS ?_ | refine zL ?_)
      refine qc ?_
      (repeat refine qb ?_); refine qk ?_
      exact ⟨Or.inr rfl, _, _, [], Wk.refl _, rfl, rfl, rfl, rfl⟩
    · have hf : ji n = true := by
        cases hq : ji n with
        | true => rfl
        | false => simp [hq] at h
      have hle : w.length ≤ l.length := by
        simp [hf, ll, lw] at h
        omega
      obtain ⟨left, hleft⟩ : ∃ left : Nat, left = l.length - w.length := ⟨_, rfl⟩
      refine qm ?_
      (repeat refine qb ?_); refine qa ?_
      repeat (first | refine zR ?_ | refine zK ?_ | refine zM ?_ | refine zB ?_ | refine zA ?_ | refine zS ?_ | refine zL ?_)
      refine qc ?_
      (repeat refine qb ?_); refine qa ?_
      repeat (first | refine zR ?_ | refine zK ?_ | refine zM ?_ | refine zB ?_ | refine zA ?_ | refine zS ?_ | refine zL ?_)
      refine qc ?_
      (repeat refine qb ?_); refine ql ?_
      refine SW.wk (qq [0, 3, 8, 36, 37, 38] [(1000000, 1000000), (3, 3)] rfl rfl) ?_
      refine qO (fun m s => ∃ (k : Nat) (kk L : Int), k ≤ w.length ∧ m = w.length - k ∧ kk = k ∧ L = left ∧ (l.drop left).take k = w.take k ∧ s = ⟨60, [(0, .row 1000000), (3, .ptr 3 0), (8, .p (pI L)), (36, .p (.sl 1 (jA w))), (37, .p (pI (jA w).length)), (38, .p (pI kk))], [(1000000, .row 4 1 (jA l)), (3, .cells (n.pv.map .p))]⟩) w.length ⟨0, 0, _, Nat.zero_le _, rfl, rfl, ?_, by simp, rfl⟩ ?_
      · show IntKind.i64.wrap (((jA l).length : Int) - (jA w).length) = _
        rw [ll, lw, IntWalk.i64_in _ (by omega)]; omega
      rintro m s ⟨k, _, _, hk, rfl, rfl, rfl, ha, rfl⟩
      (repeat refine qb ?_); refine qa ?_
      repeat (first | refine zR ?_ | refine zK ?_ | refine zM ?_ | refine zB ?_ | refine zA ?_ | refine zS ?_ | refine zL ?_)
      refine qc ?_
      (repeat refine qb ?_); refine qf rfl (fun hlt => ?_) (fun hlt => ?_)
      · refine qm ?_
        rw [lw] at hlt
        simp only [decide_eq_true_eq] at hlt
        have hlt' : k < w.length := by omega
        have hk2 : left + k < l.length := by omega
        (repeat refine qb ?_); refine ql ?_
        (repeat refine qb ?_); refine qa ?_
        repeat (first | refine zR ?_ | refine zK ?_ | refine zM ?_ | refine zB ?_ | refine zA ?_ | refine zS ?_ | refine zL ?_)
        refine qw qe rfl rfl (by rw [lw]; omega) rfl ?_
        rw [show (jA w).getD (Int.toNat (k : Int)) [] = [pB w[k]] from qJ hlt']
        repeat (first | refine zR ?_ | refine zK ?_ | refine zM ?_ | refine zB ?_ | refine zA ?_ | refine zS ?_ | refine zL ?_)
        refine qc ?_
        (repeat refine qb ?_); refine qa ?_
        repeat (first | refine zR ?_ | refine zK ?_ | refine zM ?_ | refine zB ?_ | refine zA ?_ | refine zS ?_ | refine zL ?_)
        have ew : IntKind.i64.wrap ((left : Int) + k) = ((left + k : Nat) : Int) := by rw [IntWalk.i64_in _ (by omega)]; omega
        rw [ew]
        refine qw qe rfl rfl (by rw [ll]; omega) rfl ?_
        repeat (first | refine zR ?_ | refine zK ?_ | refine zM ?_ | refine zB ?_ | refine zA ?_ | refine zS ?_ | refine zL ?_)
        refine qw qe rfl (za rfl rfl rfl rfl rfl (show (jA l).getD (Int.toNat ((left + k : Nat) : Int)) [] = [pB l[left + k]] from qJ hk2) rfl) (by rw [ll]; simp; omega) rfl ?_
        repeat (first | refine zR ?_ | refine zK ?_ | refine zM ?_ | refine zB ?_ | refine zA ?_ | refine zS ?_ | refine zL ?_)
        refine qc ?_
        (repeat refine qb ?_); refine qf rfl (fun hp => ?_) (fun hp => ?_)
        · have e : zy l n = none := by
            simp only [zy, hw]
            rw [if_neg]
            intro ⟨_, _, h3⟩
            rw [← hleft] at h3
            have h4 : w[k] = l[left + k] := by
              have := congrArg (fun x => x[k]?) h3
              simp only [List.getElem?_drop] at this
              rw [List.getElem?_eq_getElem hk2, List.getElem?_eq_getElem hlt'] at this
              exact (Option.some.inj this).symm
            rw [h4] at hp
            simp at hp
          rw [e]
          (repeat refine qb ?_); refine qa ?_
          repeat (first | refine zR ?_ | refine zK ?_ | refine zM ?_ | refine zB ?_ | refine zA ?_ | refine zS ?_ | refine zL ?_)
          refine qc ?_
          (repeat refine qb ?_); refine qk ?_
          exact ⟨Or.inr rfl, _, _, [], Wk.refl _, rfl, rfl, rfl, rfl⟩
        · refine qm ?_
          (repeat refine qb ?_); refine qa ?_
          repeat (first | refine zR ?_ | refine zK ?_ | refine zM ?_ | refine zB ?_ | refine zA ?_ | refine zS ?_ | refine zL ?_)
          refine qc ?_
          refine ⟨_, _, ?_, qq [0, 3, 8, 36, 37, 38] [(1000000, 1000000), (3, 3)] rfl rfl, k + 1, _, _, hlt', rfl, qz hlt' (by omega), rfl, ?_, rfl⟩
          · omega
          · have h4 : l[left + k] = w[k] := by simpa using hp
            rw [List.take_succ_eq_append_getElem hlt', List.take_succ_eq_append_getElem (by simp; omega), ha, List.getElem_drop, h4]
      · refine qK ?_
        rw [lw] at hlt
        simp only [decide_eq_false_iff_not] at hlt
        have hkk : k = w.length := by omega
        subst hkk
        have hd : l.drop left = w := by
          rw [List.take_length] at ha
          rw [← ha, List.take_of_length_le (by simp; omega)]
        have e : zy l n = some (l.take left ++ [decide (n.op = 2)]) := by
          simp only [zy, hw]
          rw [if_pos ⟨hf, hle, by rw [← hleft]; exact hd⟩, hleft]
        rw [e]
        (repeat refine qb ?_); refine zl [1000000] [(0, true), (1, true), (2, true), (3, true), (4, true), (5, true), (6, false), (7, false), (8, true), (9, true)] (by kernel_rfl) (by kernel_rfl) (by kernel_rfl) ?_
        repeat (first | refine yR ?_ | refine yK ?_ | refine yM ?_ | refine yB ?_ | refine yA ?_ | refine yS ?_ | refine yL ?_)
        refine zi qe rfl rfl rfl (by rw [ll]; omega) rfl ?_
        repeat (first | refine yR ?_ | refine yK ?_ | refine yM ?_ | refine yB ?_ | refine yA ?_ | refine yS ?_ | refine yL ?_)
        refine qak rfl rfl rfl (ActOk.shrink 54 999 rfl rfl rfl rfl (qp qe rfl rfl rfl rfl rfl rfl rfl rfl rfl rfl rfl rfl rfl rfl rfl rfl (by simp [reachBytes, jA]; omega) (by simp [jA]; omega) ?_))
        repeat (first | refine yR ?_ | refine yK ?_ | refine yM ?_ | refine yB ?_ | refine yA ?_ | refine yS ?_ | refine yL ?_)
        refine swm_nil ?_
        (repeat refine qb ?_); refine qk ?_
        have e2 : List.take (Int.toNat (left : Int)) (jA l) ++ [[pB (n.op == 2)]] = jA (l.take left ++ [decide (n.op = 2)]) := by
          have : (n.op == 2) = decide (n.op = 2) := by rw [Bool.eq_iff_iff]; simp
          rw [this]
          simp [jA, List.map_take]
        refine ⟨Or.inr rfl, _, _, [(59, 0)], Wk.refl _, rfl, rfl, ?_, rfl⟩
        show some [(0, Box.row 4 1 (List.take (Int.toNat (left : Int)) (jA l) ++ [[pB (n.op == 2)]]))] = _
        rw [e2]; rfl
theorem stepsS_some : ∀ {l : List Nod} {a m : List Bool} {k : Nat} (hk : k < l.length), qW a (l.take k) = some m → qW a (l.take (k + 1)) = zy m l[k]
  | n :: r, a, m, 0, _, h => by
    simp [qW] at h
    subst h
    simp only [Nat.zero_add, List.take_succ_cons, List.take_zero, qW, List.getElem_cons_zero]
    cases zy a n <;> rfl
  | n :: r, a, m, k + 1, hk, h => by
    rw [List.take_succ_cons, qW] at h ⊢
    cases hs : zy a n with
    | none => rw [hs] at h; cases h
    | some b =>
      rw [hs] at h
      simp only at h ⊢
      rw [stepsS_some (by simpa using hk) h]; rfl
theorem stepsS_none : ∀ {l : List Nod} {a : List Bool} (k : Nat), qW a (l.take k) = none → qW a l = none
  | [], a, k, h => by simp [qW] at h
  | n :: r, a, 0, h => by simp [qW] at h
  | n :: r, a, k + 1, h => by
    rw [List.take_succ_cons, qW] at h
    rw [qW]
    cases hs : zy a n with
    | none => rfl
    | some b => rw [hs] at h; simp only at h ⊢; exact stepsS_none k h
theorem stepS_len {l l' : List Bool} {n : Nod} (h : zy l n = some l') : l'.length ≤ l.length + 1 := by
  unfold zy at h
  split at h
  · cases h
  · split at h
    · cases h; simp
    · cases h
theorem expr_h (l : List Nod) (hf : ∀ x ∈ l, x.Fit) : Holds Tryz.prog 73 [qar l] (.p (pI (zo l))) [] := by
  refine qA (ts := [2]) Tryz.func73 (by kernel_rfl) rfl rfl rfl ?_
  refine sw_len (t := 0) (z := 7) (l := l.map Nod.pv) rfl fun hlen => ?_
  rw [List.length_map] at hlen
  unfold reachBytes at hlen
  have lm : (l.map Nod.pv).length = l.length := by simp
  (repeat refine qb ?_); refine qa ?_
  repeat (first | refine zR ?_ | refine zK ?_ | refine zM ?_ | refine zB ?_ | refine zA ?_ | refine zS ?_ | refine zL ?_)
  refine qc ?_
  (repeat refine qb ?_); refine qa ?_
  repeat (first | refine zR ?_ | refine zK ?_ | refine zM ?_ | refine zB ?_ | refine zA ?_ | refine zS ?_ | refine zL ?_)
  refine qc ?_
  rw [lm]
  (repeat refine qb ?_); refine qf rfl (fun h => ?_) (fun h => ?_)
  · (repeat refine qb ?_); refine qa ?_
    repeat (first | refine zR ?_ | refine zK ?_ | refine zM ?_ | refine zB ?_ | refine zA ?_ | refine zS ?_ | refine zL ?_)
    refine qc ?_
    (repeat refine qb ?_); refine qk ?_
    refine zg rfl ?_
    have h0 : 32 < l.length := by simp at h; omega
    simp [zo, h0]
  · have h0 : ¬ 32 < l.length := by simp at h; omega
    refine qm ?_
    (repeat refine qb ?_); refine qa ?_
    repeat (first | refine zR ?_ | refine zK ?_ | refine zM ?_ | refine zB ?_ | refine zA ?_ | refine zS ?_ | refine zL ?_)
    refine qc ?_
    (repeat refine qb ?_); refine qa ?_
    repeat (first | refine zR ?_ | refine zK ?_ | refine zM ?_ | refine zB ?_ | refine zA ?_ | refine zS ?_ | refine zL ?_)
    refine qc ?_
    (repeat refine qb ?_); refine qa ?_
    repeat (first | refine zR ?_ | refine zK ?_ | refine zM ?_ | refine zB ?_ | refine zA ?_ | refine zS ?_ | refine zL ?_)
    refine qc ?_
    (repeat refine qb ?_); refine ql ?_
    refine SW.wk (jP 3 900 4 1 rfl rfl) ?_
    refine SW.wk (qq [0, 3, 10, 11, 12] [(900, 0)] rfl rfl) ?_
    refine qO (fun m s => ∃ (k : Nat) (kk : Int) (made : List Bool), k ≤ l.length ∧ m = l.length - k ∧ kk = k ∧ qW [] (l.take k) = some made ∧ made.length ≤ k ∧ s = ⟨38, [(0, .p (qar l)), (3, .row 0), (10, .p (qar l)), (11, .p (pI l.length)), (12, .p (pI kk))], [(0, .row 4 1 (jA made))]⟩) l.length ⟨0, 0, [], Nat.zero_le _, rfl, rfl, by simp [qW], Nat.le_refl _, by rw [← lm]; rfl⟩ ?_
    rintro m s ⟨k, _, made, hk, rfl, rfl, ha, hml, rfl⟩
    (repeat refine qb ?_); refine qa ?_
    repeat (first | refine zR ?_ | refine zK ?_ | refine zM ?_ | refine zB ?_ | refine zA ?_ | refine zS ?_ | refine zL ?_)
    refine qc ?_
    (repeat refine qb ?_); refine qf rfl (fun hlt => ?_) (fun hlt => ?_)
    · refine qm ?_
      simp only [decide_eq_true_eq] at hlt
      have hlt' : k < l.length := by omega
      have hst := stepsS_some hlt' ha
      (repeat refine qb ?_); refine ql ?_
      (repeat refine qb ?_); refine qa ?_
      repeat (first | refine zR ?_ | refine zK ?_ | refine zM ?_ | refine zB ?_ | refine zA ?_ | refine zS ?_ | refine zL ?_)
      refine qw qe rfl rfl (by rw [lm]; omega) rfl ?_
      rw [qJ hlt']
      repeat (first | refine zR ?_ | refine zK ?_ | refine zM ?_ | refine zB ?_ | refine zA ?_ | refine zS ?_ | refine zL ?_)
      refine qc ?_
      have H := step_h made (by omega) l[k] (hf _ (List.getElem_mem hlt'))
      cases hs : zy made l[k] with
      | none =>
        rw [hs] at H
        (repeat refine qb ?_); refine qa ?_
        repeat (first | refine zR ?_ | refine zK ?_ | refine zM ?_ | refine zB ?_ | refine zA ?_ | refine zS ?_ | refine zL ?_)
        refine qn rfl (zr [(0, 1000000)] rfl rfl rfl rfl rfl rfl (H) rfl rfl rfl ?_)
        repeat (first | refine zR ?_ | refine zK ?_ | refine zM ?_ | refine zB ?_ | refine zA ?_ | refine zS ?_ | refine zL ?_)
        refine qc ?_
        (repeat refine qb ?_); refine qa ?_
        repeat (first | refine zR ?_ | refine zK ?_ | refine zM ?_ | refine zB ?_ | refine zA ?_ | refine zS ?_ | refine zL ?_)
        refine qc ?_
        (repeat refine qb ?_); refine qf rfl (fun h => ?_) (fun h => ?_)
        · (repeat refine qb ?_); refine qa ?_
          repeat (first | refine zR ?_ | refine zK ?_ | refine zM ?_ | refine zB ?_ | refine zA ?_ | refine zS ?_ | refine zL ?_)
          refine qc ?_
          (repeat refine qb ?_); refine qk ?_
          refine zg rfl ?_
          rw [zo, if_neg h0, stepsS_none (k + 1) (by rw [hst, hs])]
        · cases h
      | some l' =>
        rw [hs] at H
        (repeat refine qb ?_); refine qa ?_
        repeat (first | refine zR ?_ | refine zK ?_ | refine zM ?_ | refine zB ?_ | refine zA ?_ | refine zS ?_ | refine zL ?_)
        refine qn rfl (zr [(0, 1000000)] rfl rfl rfl rfl rfl rfl (H) rfl rfl rfl ?_)
        repeat (first | refine zR ?_ | refine zK ?_ | refine zM ?_ | refine zB ?_ | refine zA ?_ | refine zS ?_ | refine zL ?_)
        refine qc ?_
        (repeat refine qb ?_); refine qa ?_
        repeat (first | refine zR ?_ | refine zK ?_ | refine zM ?_ | refine zB ?_ | refine zA ?_ | refine zS ?_ | refine zL ?_)
        refine qc ?_
        (repeat refine qb ?_); refine qf rfl (fun h => ?_) (fun h => ?_)
        · cases h
        · refine qm ?_
          (repeat refine qb ?_); refine qa ?_
          repeat (first | refine zR ?_ | refine zK ?_ | refine zM ?_ | refine zB ?_ | refine zA ?_ | refine zS ?_ | refine zL ?_)
          refine qc ?_
          refine ⟨_, _, ?_, qq [0, 3, 10, 11, 12] [(20000, 0)] rfl rfl, k + 1, _, l', hlt', rfl, qz hlt' (by omega), by rw [hst, hs], ?_, rfl⟩
          · omega
          · have := stepS_len hs; omega
    · refine qK ?_
      simp only [decide_eq_false_iff_not] at hlt
      have hkk : k = l.length := by omega
      subst hkk
      rw [List.take_length] at ha
      have ex : zo l = if l = [] ∨ made = [false] then 0 else 1 := by rw [zo, if_neg h0, ha]
      cases l with
      | nil =>
        (repeat refine qb ?_); refine qa ?_
        repeat (first | refine zR ?_ | refine zK ?_ | refine zM ?_ | refine zB ?_ | refine zA ?_ | refine zS ?_ | refine zL ?_)
        refine qc ?_
        (repeat refine qb ?_); refine qf rfl (fun h => ?_) (fun h => ?_)
        · cases h
        · refine qm ?_
          (repeat refine qb ?_); refine qa ?_
          repeat (first | refine zR ?_ | refine zK ?_ | refine zM ?_ | refine zB ?_ | refine zA ?_ | refine zS ?_ | refine zL ?_)
          refine qc ?_
          (repeat refine qb ?_); refine qk ?_
          exact zg rfl (by rw [ex]; rfl)
      | cons n r =>
        (repeat refine qb ?_); refine qa ?_
        repeat (first | refine zR ?_ | refine zK ?_ | refine zM ?_ | refine zB ?_ | refine zA ?_ | refine zS ?_ | refine zL ?_)
        rw [show decide ((((n :: r).map Nod.pv).length : Int) > 0) = true by simp]
        repeat (first | refine zR ?_ | refine zK ?_ | refine zM ?_ | refine zB ?_ | refine zA ?_ | refine zS ?_ | refine zL ?_)
        by_cases h1 : made.length = 1
        · obtain ⟨b, rfl⟩ : ∃ b, made = [b] := List.length_eq_one_iff.1 h1
          repeat (first | refine zR ?_ | refine zK ?_ | refine zM ?_ | refine zB ?_ | refine zA ?_ | refine zS ?_ | refine zL ?_)
          refine qw qe rfl rfl (by simp [jA]) rfl ?_
          repeat (first | refine zR ?_ | refine zK ?_ | refine zM ?_ | refine zB ?_ | refine zA ?_ | refine zS ?_ | refine zL ?_)
          refine qw qe rfl rfl (by simp [jA]) rfl ?_
          repeat (first | refine zR ?_ | refine zK ?_ | refine zM ?_ | refine zB ?_ | refine zA ?_ | refine zS ?_ | refine zL ?_)
          refine qc ?_
          (repeat refine qb ?_); refine qf rfl (fun h => ?_) (fun h => ?_)
          · have hb : b = true := by simpa [jA] using h
            (repeat refine qb ?_); refine qa ?_
            repeat (first | refine zR ?_ | refine zK ?_ | refine zM ?_ | refine zB ?_ | refine zA ?_ | refine zS ?_ | refine zL ?_)
            refine qc ?_
            (repeat refine qb ?_); refine qk ?_
            exact zg rfl (by rw [ex, hb]; rfl)
          · have hb : b = false := by simpa [jA] using h
            refine qm ?_
            (repeat refine qb ?_); refine qa ?_
            repeat (first | refine zR ?_ | refine zK ?_ | refine zM ?_ | refine zB ?_ | refine zA ?_ | refine zS ?_ | refine zL ?_)
            refine qc ?_
            (repeat refine qb ?_); refine qk ?_
            exact zg rfl (by rw [ex, hb]; rfl)
        · rw [show (((jA made).length : Int) != 1) = true by simp [jA]; omega]
          repeat (first | refine zR ?_ | refine zK ?_ | refine zM ?_ | refine zB ?_ | refine zA ?_ | refine zS ?_ | refine zL ?_)
          refine qc ?_
          (repeat refine qb ?_); refine qf rfl (fun h => ?_) (fun h => ?_)
          · (repeat refine qb ?_); refine qa ?_
            repeat (first | refine zR ?_ | refine zK ?_ | refine zM ?_ | refine zB ?_ | refine zA ?_ | refine zS ?_ | refine zL ?_)
            refine qc ?_
            (repeat refine qb ?_); refine qk ?_
            exact zg rfl (by rw [ex, if_neg (by rintro (h | rfl); cases h; exact h1 rfl)])
          · cases h
end Go.Proofs.YtppfcacnofjmdaaGreatDoor
namespace Go.Proofs.YtppfcacnofjmdaaGreatDoor
set_option linter.unusedVariables false
set_option linter.unusedSimpArgs false
open Go.RowKit
set_option maxHeartbeats 2000000
def ents (m : List ByteArray) : List (Value × PV) := m.map fun s => (.string s, .agg [])
def wlkO (w : Wlk) : List (Nat × Box) := [(1000000, .cells [.row 1000001, .p (pI w.rules)]), (1000001, .mp (ents w.met))]
abbrev wlkR : List (Nat × Nat) := [(1000000, 1000000), (1000001, 1000001)]
theorem ents_ok : ∀ m : List ByteArray, (ents m).all (fun x => kdOk .str x.1) = true
  | [] => rfl
  | s :: m => by
    have := ents_ok m
    simp only [ents, List.map_cons, List.all_cons, Bool.and_eq_true] at this ⊢
    exact ⟨rfl, this⟩
theorem mfind_ents (s : ByteArray) : ∀ m : List ByteArray, mfind (.string s) (ents m) = if hasS m s then some (.agg []) else none
  | [] => rfl
  | t :: m => by
    have ih := mfind_ents s m
    show (bif keyEq (.string s) (.string t) then some (PV.agg []) else mfind (.string s) (ents m)) = _
    rw [ih]
    by_cases e : s = t
    · subst e; simp [keyEq, hasS]
    · have e' : ∀ i : Decidable (s = t), @decide (s = t) i = false := fun i => by
        cases i with
        | isTrue h => exact absurd h e
        | isFalse h => rfl
      rw [show keyEq (.string s) (.string t) = false from e' _]
      unfold hasS
      rw [List.any_cons, e', cond_false, Bool.false_or]
theorem ents_snoc (m : List ByteArray) (s : ByteArray) : ents m ++ [(.string s, .agg [])] = ents (m ++ [s]) := by simp [ents]
theorem wname_h (m : List ByteArray) (n : Int) (s : ByteArray) (hs : s.size ≤ reachBytes) : zZ Tryz.prog 84 [.ptr 1000000 0, .p (pS s)] (wlkO ⟨m, n⟩) (.p (pB (zO m s))) (wlkO ⟨nameM m s, n⟩) := by
  by_cases hm : hasS m s = true
  · have e1 : zO m s = false := by simp [zO, hm]
    have e2 : nameM m s = m := by simp [nameM, e1]
    rw [e1, e2]
    refine ja (ts := [4]) Tryz.func84 (by kernel_rfl) rfl rfl rfl ?_
    (repeat refine qb ?_); refine qa ?_
    repeat (first | refine zR ?_ | refine zK ?_ | refine zM ?_ | refine zB ?_ | refine zA ?_ | refine zS ?_ | refine zL ?_)
    refine qc ?_
    (repeat refine qb ?_); refine qa ?_
    repeat (first | refine zR ?_ | refine zK ?_ | refine zM ?_ | refine zB ?_ | refine zA ?_ | refine zS ?_ | refine zL ?_)
    refine qw qe rfl rfl (ents_ok m) rfl ?_
    rw [mfind_ents, if_pos hm]
    repeat (first | refine zR ?_ | refine zK ?_ | refine zM ?_ | refine zB ?_ | refine zA ?_ | refine zS ?_ | refine zL ?_)
    refine qc ?_
    (repeat refine qb ?_); refine qs (by kernel_rfl) ?_
    repeat (refine qr qe rfl (by exact True.intro) rfl ?_)
    refine zj rfl rfl rfl rfl (name_h s hs) rfl rfl ?_
    repeat (refine qr qe rfl (by exact True.intro) rfl ?_)
    refine qQ ?_
    (repeat refine qb ?_); refine qf rfl (fun h => ?_) (fun h => ?_)
    · (repeat refine qb ?_); refine qa ?_
      repeat (first | refine zR ?_ | refine zK ?_ | refine zM ?_ | refine zB ?_ | refine zA ?_ | refine zS ?_ | refine zL ?_)
      refine qc ?_
      (repeat refine qb ?_); refine qk ?_
      exact ⟨Or.inr rfl, _, _, wlkR, Wk.refl _, rfl, rfl, rfl, rfl⟩
    · cases h
  · refine ja (ts := [4]) Tryz.func84 (by kernel_rfl) rfl rfl rfl ?_
    (repeat refine qb ?_); refine qa ?_
    repeat (first | refine zR ?_ | refine zK ?_ | refine zM ?_ | refine zB ?_ | refine zA ?_ | refine zS ?_ | refine zL ?_)
    refine qc ?_
    (repeat refine qb ?_); refine qa ?_
    repeat (first | refine zR ?_ | refine zK ?_ | refine zM ?_ | refine zB ?_ | refine zA ?_ | refine zS ?_ | refine zL ?_)
    refine qw qe rfl rfl (ents_ok m) rfl ?_
    rw [mfind_ents, if_neg hm]
    repeat (first | refine zR ?_ | refine zK ?_ | refine zM ?_ | refine zB ?_ | refine zA ?_ | refine zS ?_ | refine zL ?_)
    refine qc ?_
    (repeat refine qb ?_); refine qs (by kernel_rfl) ?_
    repeat (refine qr qe rfl (by exact True.intro) rfl ?_)
    refine zj rfl rfl rfl rfl (name_h s hs) rfl rfl ?_
    repeat (refine qr qe rfl (by exact True.intro) rfl ?_)
    refine qQ ?_
    (repeat refine qb ?_); refine qf rfl (fun h => ?_) (fun h => ?_)
    · have e0 : wO s = false := by simpa using h
      have e1 : zO m s = false := by simp [zO, e0]
      have e2 : nameM m s = m := by simp [nameM, e1]
      rw [e1, e2]
      (repeat refine qb ?_); refine qa ?_
      repeat (first | refine zR ?_ | refine zK ?_ | refine zM ?_ | refine zB ?_ | refine zA ?_ | refine zS ?_ | refine zL ?_)
      refine qc ?_
      (repeat refine qb ?_); refine qk ?_
      exact ⟨Or.inr rfl, _, _, wlkR, Wk.refl _, rfl, rfl, rfl, rfl⟩
    · have e0 : wO s = true := by simpa using h
      have e1 : zO m s = true := by simp [zO, e0, hm]
      have e2 : nameM m s = m ++ [s] := by simp [nameM, e1]
      rw [e1, e2]
      refine qm ?_
      (repeat refine qb ?_); refine qa ?_
      repeat (first | refine zR ?_ | refine zK ?_ | refine zM ?_ | refine zB ?_ | refine zA ?_ | refine zS ?_ | refine zL ?_)
      refine qn rfl (act_mapUpdate qe rfl rfl rfl rfl rfl rfl rfl rfl rfl (ents_ok m) (by rw [mfind_ents, if_neg hm]) rfl ?_)
      rw [ents_snoc]
      repeat (first | refine zR ?_ | refine zK ?_ | refine zM ?_ | refine zB ?_ | refine zA ?_ | refine zS ?_ | refine zL ?_)
      refine qc ?_
      (repeat refine qb ?_); refine qa ?_
      repeat (first | refine zR ?_ | refine zK ?_ | refine zM ?_ | refine zB ?_ | refine zA ?_ | refine zS ?_ | refine zL ?_)
      refine qc ?_
      (repeat refine qb ?_); refine qk ?_
      exact ⟨Or.inr rfl, _, _, wlkR, Wk.refl _, rfl, rfl, rfl, rfl⟩
def TarFit (t : Tar) : Prop := ∀ x ∈ t, ∀ y ∈ x, ∀ m ∈ y, m.Fit
structure RulFit (r : Rul) : Prop where
  id : r.id.size ≤ reachBytes
  tgt : TarFit r.target
  cond : ∀ n ∈ r.cond, n.Fit
  obls : ∀ o ∈ r.obls, o.Fit
theorem wrule_h (w : Wlk) (hw : 0 ≤ w.rules ∧ w.rules ≤ 64) (r : Rul) (hr : RulFit r) : zZ Tryz.prog 68 [.ptr 1000000 0, .p (.agg (zt r))] (wlkO w) (.p (pI (zq w r).1)) (wlkO (zq w r).2) := by
  have H := wname_h w.met w.rules r.id hr.id
  cases hn : zO w.met r.id with
  | false =>
    have e : zq w r = (1, w) := by simp [zq, hn]
    have e2 : nameM w.met r.id = w.met := by simp [nameM, hn]
    rw [hn, e2] at H
    rw [e]
    refine ja (ts := [4]) Tryz.func68 (by kernel_rfl) rfl rfl rfl ?_
    (repeat refine qb ?_); refine qa ?_
    repeat (first | refine zR ?_ | refine zK ?_ | refine zM ?_ | refine zB ?_ | refine zA ?_ | refine zS ?_ | refine zL ?_)
    refine qc ?_
    (repeat refine qb ?_); refine qa ?_
    repeat (first | refine zR ?_ | refine zK ?_ | refine zM ?_ | refine zB ?_ | refine zA ?_ | refine zS ?_ | refine zL ?_)
    refine qn rfl (zr wlkR rfl rfl rfl rfl rfl rfl (H) rfl rfl rfl ?_)
    repeat (first | refine zR ?_ | refine zK ?_ | refine zM ?_ | refine zB ?_ | refine zA ?_ | refine zS ?_ | refine zL ?_)
    refine qc ?_
    (repeat refine qb ?_); refine qf rfl (fun h => ?_) (fun h => ?_)
    · (repeat refine qb ?_); refine qa ?_
      repeat (first | refine zR ?_ | refine zK ?_ | refine zM ?_ | refine zB ?_ | refine zA ?_ | refine zS ?_ | refine zL ?_)
      refine qc ?_
      (repeat refine qb ?_); refine qk ?_
      exact ⟨Or.inr rfl, _, _, wlkR, Wk.refl _, rfl, rfl, rfl, rfl⟩
    · cases h
  | true =>
    have e2 : nameM w.met r.id = w.met ++ [r.id] := by simp [nameM, hn]
    rw [hn, e2] at H
    have e : zq w r = (if 64 < w.rules + 1 then 6 else ruleE r, ⟨w.met ++ [r.id], w.rules + 1⟩) := by simp [zq, hn]
    rw [e]
    refine ja (ts := [4]) Tryz.func68 (by kernel_rfl) rfl rfl rfl ?_
    (repeat refine qb ?_); refine qa ?_
    repeat (first | refine zR ?_ | refine zK ?_ | refine zM ?_ | refine zB ?_ | refine zA ?_ | refine zS ?_ | refine zL ?_)
    refine qc ?_
    (repeat refine qb ?_); refine qa ?_
    repeat (first | refine zR ?_ | refine zK ?_ | refine zM ?_ | refine zB ?_ | refine zA ?_ | refine zS ?_ | refine zL ?_)
    refine qn rfl (zr wlkR rfl rfl rfl rfl rfl rfl (H) rfl rfl rfl ?_)
    repeat (first | refine zR ?_ | refine zK ?_ | refine zM ?_ | refine zB ?_ | refine zA ?_ | refine zS ?_ | refine zL ?_)
    refine qc ?_
    (repeat refine qb ?_); refine qf rfl (fun h => ?_) (fun h => ?_)
    · cases h
    · refine qm ?_
      (repeat refine qb ?_); refine qa ?_
      repeat (first | refine zR ?_ | refine zK ?_ | refine zM ?_ | refine zB ?_ | refine zA ?_ | refine zS ?_ | refine zL ?_)
      refine qc ?_
      rw [show IntKind.i64.wrap (w.rules + 1) = w.rules + 1 from IntWalk.i64_in _ (by omega)]
      (repeat refine qb ?_); refine qa ?_
      repeat (first | refine zR ?_ | refine zK ?_ | refine zM ?_ | refine zB ?_ | refine zA ?_ | refine zS ?_ | refine zL ?_)
      refine qc ?_
      (repeat refine qb ?_); refine qf rfl (fun h => ?_) (fun h => ?_)
      · have h1 : 64 < w.rules + 1 := by simp at h; omega
        rw [if_pos h1]
        (repeat refine qb ?_); refine qa ?_
        repeat (first | refine zR ?_ | refine zK ?_ | refine zM ?_ | refine zB ?_ | refine zA ?_ | refine zS ?_ | refine zL ?_)
        refine qc ?_
        (repeat refine qb ?_); refine qk ?_
        exact ⟨Or.inr rfl, _, _, wlkR, Wk.refl _, rfl, rfl, rfl, rfl⟩
      · have h1 : ¬ 64 < w.rules + 1 := by simp at h; omega
        rw [if_neg h1]
        unfold ruleE
        refine qm ?_
        (repeat refine qb ?_); refine qa ?_
        repeat (first | refine zR ?_ | refine zK ?_ | refine zM ?_ | refine zB ?_ | refine zA ?_ | refine zS ?_ | refine zL ?_)
        refine qn rfl (qg rfl rfl rfl rfl (target_h r.target hr.tgt) rfl rfl ?_)
        repeat (first | refine zR ?_ | refine zK ?_ | refine zM ?_ | refine zB ?_ | refine zA ?_ | refine zS ?_ | refine zL ?_)
        refine qc ?_
        (repeat refine qb ?_); refine qa ?_
        repeat (first | refine zR ?_ | refine zK ?_ | refine zM ?_ | refine zB ?_ | refine zA ?_ | refine zS ?_ | refine zL ?_)
        refine qc ?_
        (repeat refine qb ?_); refine qf rfl (fun h => ?_) (fun h => ?_)
        · have h2 : ¬ zI r.target = 0 := by simpa using h
          rw [if_neg h2]
          (repeat refine qb ?_); refine qa ?_
          repeat (first | refine zR ?_ | refine zK ?_ | refine zM ?_ | refine zB ?_ | refine zA ?_ | refine zS ?_ | refine zL ?_)
          refine qc ?_
          (repeat refine qb ?_); refine qk ?_
          exact ⟨Or.inr rfl, _, _, wlkR, Wk.refl _, rfl, rfl, rfl, rfl⟩
        · have h2 : zI r.target = 0 := by simpa using h
          rw [if_pos h2]
          refine qm ?_
          (repeat refine qb ?_); refine qa ?_
          repeat (first | refine zR ?_ | refine zK ?_ | refine zM ?_ | refine zB ?_ | refine zA ?_ | refine zS ?_ | refine zL ?_)
          refine qn rfl (qg rfl rfl rfl rfl (expr_h r.cond hr.cond) rfl rfl ?_)
          repeat (first | refine zR ?_ | refine zK ?_ | refine zM ?_ | refine zB ?_ | refine zA ?_ | refine zS ?_ | refine zL ?_)
          refine qc ?_
          (repeat refine qb ?_); refine qa ?_
          repeat (first | refine zR ?_ | refine zK ?_ | refine zM ?_ | refine zB ?_ | refine zA ?_ | refine zS ?_ | refine zL ?_)
          refine qc ?_
          (repeat refine qb ?_); refine qf rfl (fun h => ?_) (fun h => ?_)
          · have h3 : ¬ zo r.cond = 0 := by simpa using h
            rw [if_neg h3]
            (repeat refine qb ?_); refine qa ?_
            repeat (first | refine zR ?_ | refine zK ?_ | refine zM ?_ | refine zB ?_ | refine zA ?_ | refine zS ?_ | refine zL ?_)
            refine qc ?_
            (repeat refine qb ?_); refine qk ?_
            exact ⟨Or.inr rfl, _, _, wlkR, Wk.refl _, rfl, rfl, rfl, rfl⟩
          · have h3 : zo r.cond = 0 := by simpa using h
            rw [if_pos h3]
            refine qm ?_
            (repeat refine qb ?_); refine qa ?_
            repeat (first | refine zR ?_ | refine zK ?_ | refine zM ?_ | refine zB ?_ | refine zA ?_ | refine zS ?_ | refine zL ?_)
            refine qn rfl (qg rfl rfl rfl rfl (obls_h r.obls hr.obls) rfl rfl ?_)
            repeat (first | refine zR ?_ | refine zK ?_ | refine zM ?_ | refine zB ?_ | refine zA ?_ | refine zS ?_ | refine zL ?_)
            refine qc ?_
            (repeat refine qb ?_); refine qk ?_
            exact ⟨Or.inr rfl, _, _, wlkR, Wk.refl _, rfl, rfl, rfl, rfl⟩
mutual
def polP : Pol → List PV
  | .mk id set alg target rules kids obls => [pS id, pB set, pI alg, tgtP target, .sl 5 (rules.map zt), .sl 7 (polPs kids), zQ obls]
def polPs : List Pol → List (List PV)
  | [] => []
  | k :: r => polP k :: polPs r
end
theorem polPs_eq : ∀ l : List Pol, polPs l = l.map polP
  | [] => rfl
  | k :: r => by rw [polPs, polPs_eq r]; rfl
theorem zf (p : Pol) : polP p = [pS p.id, pB p.set, pI p.alg, tgtP p.target, .sl 5 (p.rules.map zt), .sl 7 (p.kids.map polP), zQ p.obls] := by
  cases p
  rw [polP, polPs_eq]; rfl
structure HeadFit (p : Pol) : Prop where
  id : p.id.size ≤ reachBytes
  tgt : TarFit p.target
  rules : ∀ r ∈ p.rules, RulFit r
  obls : ∀ o ∈ p.obls, o.Fit
  nr : p.rules.length ≤ reachBytes
  nk : p.kids.length ≤ reachBytes
theorem whead_h (w : Wlk) (p : Pol) (hp : HeadFit p) : zZ Tryz.prog 67 [.ptr 1000000 0, .p (.agg (polP p))] (wlkO w) (.p (pI (zF w p).1)) (wlkO (zF w p).2) := by
  have H := wname_h w.met w.rules p.id hp.id
  have l1 : ((p.rules.map zt).length) = p.rules.length := by simp
  have l2 : ((p.kids.map polP).length) = p.kids.length := by simp
  rw [zf]
  unfold zF
  cases hn : zO w.met p.id with
  | false =>
    rw [hn] at H
    simp only [Bool.false_and, Bool.false_eq_true, if_false]
    refine ja (ts := [4]) Tryz.func67 (by kernel_rfl) rfl rfl rfl ?_
    (repeat refine qb ?_); refine qa ?_
    repeat (first | refine zR ?_ | refine zK ?_ | refine zM ?_ | refine zB ?_ | refine zA ?_ | refine zS ?_ | refine zL ?_)
    refine qc ?_
    (repeat refine qb ?_); refine qa ?_
    repeat (first | refine zR ?_ | refine zK ?_ | refine zM ?_ | refine zB ?_ | refine zA ?_ | refine zS ?_ | refine zL ?_)
    refine qn rfl (zr wlkR rfl rfl rfl rfl rfl rfl (H) rfl rfl rfl ?_)
    repeat (first | refine zR ?_ | refine zK ?_ | refine zM ?_ | refine zB ?_ | refine zA ?_ | refine zS ?_ | refine zL ?_)
    refine qc ?_
    (repeat refine qb ?_); refine qf rfl (fun h => ?_) (fun h => ?_)
    · (repeat refine qb ?_); refine qa ?_
      repeat (first | refine zR ?_ | refine zK ?_ | refine zM ?_ | refine zB ?_ | refine zA ?_ | refine zS ?_ | refine zL ?_)
      refine qc ?_
      (repeat refine qb ?_); refine qk ?_
      exact ⟨Or.inr rfl, _, _, wlkR, Wk.refl _, rfl, rfl, rfl, rfl⟩
    · cases h
  | true =>
    rw [hn] at H
    refine ja (ts := [4]) Tryz.func67 (by kernel_rfl) rfl rfl rfl ?_
    (repeat refine qb ?_); refine qa ?_
    repeat (first | refine zR ?_ | refine zK ?_ | refine zM ?_ | refine zB ?_ | refine zA ?_ | refine zS ?_ | refine zL ?_)
    refine qc ?_
    (repeat refine qb ?_); refine qa ?_
    repeat (first | refine zR ?_ | refine zK ?_ | refine zM ?_ | refine zB ?_ | refine zA ?_ | refine zS ?_ | refine zL ?_)
    refine qn rfl (zr wlkR rfl rfl rfl rfl rfl rfl (H) rfl rfl rfl ?_)
    repeat (first | refine zR ?_ | refine zK ?_ | refine zM ?_ | refine zB ?_ | refine zA ?_ | refine zS ?_ | refine zL ?_)
    by_cases h1 : p.alg < 1
    · rw [show decide (p.alg < 1) = true from decide_eq_true h1]
      repeat (first | refine zR ?_ | refine zK ?_ | refine zM ?_ | refine zB ?_ | refine zA ?_ | refine zS ?_ | refine zL ?_)
      refine qc ?_
      (repeat refine qb ?_); refine qf rfl (fun h => ?_) (fun h => ?_)
      · rw [if_neg (by simp; omega)]
        (repeat refine qb ?_); refine qa ?_
        repeat (first | refine zR ?_ | refine zK ?_ | refine zM ?_ | refine zB ?_ | refine zA ?_ | refine zS ?_ | refine zL ?_)
        refine qc ?_
        (repeat refine qb ?_); refine qk ?_
        exact ⟨Or.inr rfl, _, _, wlkR, Wk.refl _, rfl, rfl, rfl, rfl⟩
      · cases h
    · rw [show decide (p.alg < 1) = false from decide_eq_false h1]
      repeat (first | refine zR ?_ | refine zK ?_ | refine zM ?_ | refine zB ?_ | refine zA ?_ | refine zS ?_ | refine zL ?_)
      refine qc ?_
      (repeat refine qb ?_); refine qf rfl (fun h => ?_) (fun h => ?_)
      · have h2 : 6 < p.alg := by simpa using h
        rw [if_neg (by simp; omega)]
        (repeat refine qb ?_); refine qa ?_
        repeat (first | refine zR ?_ | refine zK ?_ | refine zM ?_ | refine zB ?_ | refine zA ?_ | refine zS ?_ | refine zL ?_)
        refine qc ?_
        (repeat refine qb ?_); refine qk ?_
        exact ⟨Or.inr rfl, _, _, wlkR, Wk.refl _, rfl, rfl, rfl, rfl⟩
      · have h2 : ¬ 6 < p.alg := by simpa using h
        rw [if_pos (by simp; omega)]
        unfold headE
        refine qm ?_
        (repeat refine qb ?_); refine qs (by kernel_rfl) ?_
        repeat (refine qr qe rfl (by exact True.intro) rfl ?_)
        refine qQ ?_
        rw [l1, l2]
        (repeat refine qb ?_); refine qf rfl (fun h => ?_) (fun h => ?_)
        · rw [if_pos (by revert h; cases p.set <;> simp)]
          (repeat refine qb ?_); refine qa ?_
          repeat (first | refine zR ?_ | refine zK ?_ | refine zM ?_ | refine zB ?_ | refine zA ?_ | refine zS ?_ | refine zL ?_)
          refine qc ?_
          (repeat refine qb ?_); refine qk ?_
          exact ⟨Or.inr rfl, _, _, wlkR, Wk.refl _, rfl, rfl, rfl, rfl⟩
        · rw [if_neg (by revert h; cases p.set <;> simp)]
          refine qm ?_
          (repeat refine qb ?_); refine qa ?_
          repeat (first | refine zR ?_ | refine zK ?_ | refine zM ?_ | refine zB ?_ | refine zA ?_ | refine zS ?_ | refine zL ?_)
          refine qn rfl (qg rfl rfl rfl rfl (target_h p.target hp.tgt) rfl rfl ?_)
          repeat (first | refine zR ?_ | refine zK ?_ | refine zM ?_ | refine zB ?_ | refine zA ?_ | refine zS ?_ | refine zL ?_)
          refine qc ?_
          (repeat refine qb ?_); refine qa ?_
          repeat (first | refine zR ?_ | refine zK ?_ | refine zM ?_ | refine zB ?_ | refine zA ?_ | refine zS ?_ | refine zL ?_)
          refine qc ?_
          (repeat refine qb ?_); refine qf rfl (fun h => ?_) (fun h => ?_)
          · have h3 : ¬ zI p.target = 0 := by simpa using h
            rw [if_neg h3]
            (repeat refine qb ?_); refine qa ?_
            repeat (first | refine zR ?_ | refine zK ?_ | refine zM ?_ | refine zB ?_ | refine zA ?_ | refine zS ?_ | refine zL ?_)
            refine qc ?_
            (repeat refine qb ?_); refine qk ?_
            exact ⟨Or.inr rfl, _, _, wlkR, Wk.refl _, rfl, rfl, rfl, rfl⟩
          · have h3 : zI p.target = 0 := by simpa using h
            rw [if_pos h3]
            refine qm ?_
            (repeat refine qb ?_); refine qa ?_
            repeat (first | refine zR ?_ | refine zK ?_ | refine zM ?_ | refine zB ?_ | refine zA ?_ | refine zS ?_ | refine zL ?_)
            refine qn rfl (qg rfl rfl rfl rfl (obls_h p.obls hp.obls) rfl rfl ?_)
            repeat (first | refine zR ?_ | refine zK ?_ | refine zM ?_ | refine zB ?_ | refine zA ?_ | refine zS ?_ | refine zL ?_)
            refine qc ?_
            (repeat refine qb ?_); refine qa ?_
            repeat (first | refine zR ?_ | refine zK ?_ | refine zM ?_ | refine zB ?_ | refine zA ?_ | refine zS ?_ | refine zL ?_)
            refine qc ?_
            (repeat refine qb ?_); refine qf rfl (fun h => ?_) (fun h => ?_)
            · have h4 : ¬ oblsS p.obls = 0 := by simpa using h
              rw [if_neg h4]
              (repeat refine qb ?_); refine qa ?_
              repeat (first | refine zR ?_ | refine zK ?_ | refine zM ?_ | refine zB ?_ | refine zA ?_ | refine zS ?_ | refine zL ?_)
              refine qc ?_
              (repeat refine qb ?_); refine qk ?_
              exact ⟨Or.inr rfl, _, _, wlkR, Wk.refl _, rfl, rfl, rfl, rfl⟩
            · have h4 : oblsS p.obls = 0 := by simpa using h
              rw [if_pos h4]
              refine qm ?_
              (repeat refine qb ?_); refine qs (by kernel_rfl) ?_
              repeat (refine qr qe rfl (by exact True.intro) rfl ?_)
              refine qQ ?_
              rw [l1, l2]
              (repeat refine qb ?_); refine qf rfl (fun h => ?_) (fun h => ?_)
              · rw [if_pos (by simp at h; omega)]
                (repeat refine qb ?_); refine qa ?_
                repeat (first | refine zR ?_ | refine zK ?_ | refine zM ?_ | refine zB ?_ | refine zA ?_ | refine zS ?_ | refine zL ?_)
                refine qc ?_
                (repeat refine qb ?_); refine qk ?_
                exact ⟨Or.inr rfl, _, _, wlkR, Wk.refl _, rfl, rfl, rfl, rfl⟩
              · rw [if_neg (by simp at h; omega)]
                refine qm ?_
                (repeat refine qb ?_); refine qa ?_
                repeat (first | refine zR ?_ | refine zK ?_ | refine zM ?_ | refine zB ?_ | refine zA ?_ | refine zS ?_ | refine zL ?_)
                refine qc ?_
                (repeat refine qb ?_); refine qk ?_
                exact ⟨Or.inr rfl, _, _, wlkR, Wk.refl _, rfl, rfl, rfl, rfl⟩
def PolFit : Nat → Pol → Prop
  | 0, _ => True
  | n + 1, p => HeadFit p ∧ ∀ k ∈ p.kids, PolFit n k
theorem wpol_h : ∀ (n : Nat) (hn : n ≤ 4) (w : Wlk) (p : Pol), lim w → PolFit n p → zZ Tryz.prog 44 [.ptr 1000000 0, .p (.agg (polP p)), .p (pI (5 - n))] (wlkO w) (.p (pI (polS n w p).1)) (wlkO (polS n w p).2)
  | 0, _, w, p, _, _ => by
    rw [zf]
    refine ja (ts := [6]) Tryz.func44 (by kernel_rfl) rfl rfl rfl ?_
    (repeat refine qb ?_); refine qa ?_
    repeat (first | refine zR ?_ | refine zK ?_ | refine zM ?_ | refine zB ?_ | refine zA ?_ | refine zS ?_ | refine zL ?_)
    refine qc ?_
    (repeat refine qb ?_); refine qa ?_
    repeat (first | refine zR ?_ | refine zK ?_ | refine zM ?_ | refine zB ?_ | refine zA ?_ | refine zS ?_ | refine zL ?_)
    refine qc ?_
    (repeat refine qb ?_); refine qf rfl (fun h => ?_) (fun h => ?_)
    · (repeat refine qb ?_); refine qa ?_
      repeat (first | refine zR ?_ | refine zK ?_ | refine zM ?_ | refine zB ?_ | refine zA ?_ | refine zS ?_ | refine zL ?_)
      refine qc ?_
      (repeat refine qb ?_); refine qk ?_
      exact ⟨Or.inr rfl, _, _, wlkR, Wk.refl _, rfl, rfl, rfl, rfl⟩
    · cases h
  | n + 1, hn, w, p, hw, hf => by
    have H := whead_h w p hf.1
    have IH := fun w k hw hk => wpol_h n (by omega) w k hw hk
    have l1 : ((p.rules.map zt).length) = p.rules.length := by simp
    have l2 : ((p.kids.map polP).length) = p.kids.length := by simp
    rw [zf] at H ⊢
    rw [polS]
    have hlen := hf.1.nr
    have hlen2 := hf.1.nk
    unfold reachBytes at hlen hlen2
    refine ja (ts := [6]) Tryz.func44 (by kernel_rfl) rfl rfl rfl ?_
    (repeat refine qb ?_); refine qa ?_
    repeat (first | refine zR ?_ | refine zK ?_ | refine zM ?_ | refine zB ?_ | refine zA ?_ | refine zS ?_ | refine zL ?_)
    refine qc ?_
    (repeat refine qb ?_); refine qa ?_
    repeat (first | refine zR ?_ | refine zK ?_ | refine zM ?_ | refine zB ?_ | refine zA ?_ | refine zS ?_ | refine zL ?_)
    refine qc ?_
    (repeat refine qb ?_); refine qf rfl (fun h => ?_) (fun h => ?_)
    · exfalso
      simp at h
      omega
    · refine qm ?_
      (repeat refine qb ?_); refine qa ?_
      repeat (first | refine zR ?_ | refine zK ?_ | refine zM ?_ | refine zB ?_ | refine zA ?_ | refine zS ?_ | refine zL ?_)
      refine qn rfl (zr wlkR rfl rfl rfl rfl rfl rfl (H) rfl rfl rfl ?_)
      repeat (first | refine zR ?_ | refine zK ?_ | refine zM ?_ | refine zB ?_ | refine zA ?_ | refine zS ?_ | refine zL ?_)
      refine qc ?_
      (repeat refine qb ?_); refine qa ?_
      repeat (first | refine zR ?_ | refine zK ?_ | refine zM ?_ | refine zB ?_ | refine zA ?_ | refine zS ?_ | refine zL ?_)
      refine qc ?_
      (repeat refine qb ?_); refine qf rfl (fun h => ?_) (fun h => ?_)
      · have h1 : ¬ (zF w p).1 = 0 := by simpa using h
        rw [if_neg h1]
        (repeat refine qb ?_); refine qa ?_
        repeat (first | refine zR ?_ | refine zK ?_ | refine zM ?_ | refine zB ?_ | refine zA ?_ | refine zS ?_ | refine zL ?_)
        refine qc ?_
        (repeat refine qb ?_); refine qk ?_
        exact ⟨Or.inr rfl, _, _, wlkR, Wk.refl _, rfl, rfl, rfl, rfl⟩
      · have h1 : (zF w p).1 = 0 := by simpa using h
        rw [if_pos h1]
        have hw1 : lim (zF w p).2 := hw
        generalize (zF w p).2 = w1 at *
        refine qm ?_
        (repeat refine qb ?_); refine qa ?_
        repeat (first | refine zR ?_ | refine zK ?_ | refine zM ?_ | refine zB ?_ | refine zA ?_ | refine zS ?_ | refine zL ?_)
        refine qc ?_
        (repeat refine qb ?_); refine ql ?_
        refine SW.wk (qq [0, 2, 4, 23, 24, 25] [(1000000, 1000000), (1000001, 1000001), (4, 4)] rfl rfl) ?_
        refine qO (fun m s => ∃ (k : Nat) (kk : Int) (wk : Wlk), k ≤ p.rules.length ∧ m = p.rules.length - k ∧ kk = k ∧ (seqS zq w1 (p.rules.take k)).1 = 0 ∧ wk = (seqS zq w1 (p.rules.take k)).2 ∧
          s = ⟨52, [(0, .ptr 1000000 0), (2, .p (pI (5 - (n + 1 : Nat)))), (4, .ptr 4 0), (23, .p (.sl 5 (p.rules.map zt))), (24, .p (pI p.rules.length)), (25, .p (pI kk))], wlkO wk ++ [(4, .cells ([pS p.id, pB p.set, pI p.alg, tgtP p.target, .sl 5 (p.rules.map zt), .sl 7 (p.kids.map polP), zQ p.obls].map .p))]⟩) p.rules.length ⟨0, 0, w1, Nat.zero_le _, rfl, rfl, rfl, rfl, by rw [← l1]; rfl⟩ ?_
        rintro m s ⟨k, _, wk, hk, rfl, rfl, ha, hwk, rfl⟩
        have hlk : lim wk := by rw [hwk]; exact jI (P := lim) (fun w x hw h => ruleS_lim hw h) hw1 ha
        (repeat refine qb ?_); refine qa ?_
        repeat (first | refine zR ?_ | refine zK ?_ | refine zM ?_ | refine zB ?_ | refine zA ?_ | refine zS ?_ | refine zL ?_)
        refine qc ?_
        (repeat refine qb ?_); refine qf rfl (fun hlt => ?_) (fun hlt => ?_)
        · refine qm ?_
          simp only [decide_eq_true_eq] at hlt
          have hlt' : k < p.rules.length := by omega
          have hst := seqS_some hlt' ha
          rw [← hwk] at hst
          (repeat refine qb ?_); refine ql ?_
          (repeat refine qb ?_); refine qa ?_
          repeat (first | refine zR ?_ | refine zK ?_ | refine zM ?_ | refine zB ?_ | refine zA ?_ | refine zS ?_ | refine zL ?_)
          refine qw qe rfl rfl (by rw [l1]; omega) rfl ?_
          rw [qJ hlt']
          repeat (first | refine zR ?_ | refine zK ?_ | refine zM ?_ | refine zB ?_ | refine zA ?_ | refine zS ?_ | refine zL ?_)
          refine qc ?_
          have H2 := wrule_h wk hlk p.rules[k] (hf.1.rules _ (List.getElem_mem hlt'))
          (repeat refine qb ?_); refine qa ?_
          repeat (first | refine zR ?_ | refine zK ?_ | refine zM ?_ | refine zB ?_ | refine zA ?_ | refine zS ?_ | refine zL ?_)
          refine qn rfl (zr wlkR rfl rfl rfl rfl rfl rfl (H2) rfl rfl rfl ?_)
          repeat (first | refine zR ?_ | refine zK ?_ | refine zM ?_ | refine zB ?_ | refine zA ?_ | refine zS ?_ | refine zL ?_)
          refine qc ?_
          (repeat refine qb ?_); refine qa ?_
          repeat (first | refine zR ?_ | refine zK ?_ | refine zM ?_ | refine zB ?_ | refine zA ?_ | refine zS ?_ | refine zL ?_)
          refine qc ?_
          (repeat refine qb ?_); refine qf rfl (fun h => ?_) (fun h => ?_)
          · have h2 : ¬ (zq wk p.rules[k]).1 = 0 := by simpa using h
            have e : seqS zq w1 p.rules = zq wk p.rules[k] := by rw [seqS_stop (k + 1) (by rw [hst]; exact h2), hst]
            rw [e, if_neg h2]
            (repeat refine qb ?_); refine qa ?_
            repeat (first | refine zR ?_ | refine zK ?_ | refine zM ?_ | refine zB ?_ | refine zA ?_ | refine zS ?_ | refine zL ?_)
            refine qc ?_
            (repeat refine qb ?_); refine qk ?_
            exact ⟨Or.inr rfl, _, _, wlkR, Wk.refl _, rfl, rfl, rfl, rfl⟩
          · have h2 : (zq wk p.rules[k]).1 = 0 := by simpa using h
            refine qm ?_
            (repeat refine qb ?_); refine qa ?_
            repeat (first | refine zR ?_ | refine zK ?_ | refine zM ?_ | refine zB ?_ | refine zA ?_ | refine zS ?_ | refine zL ?_)
            refine qc ?_
            refine ⟨_, _, ?_, qq [0, 2, 4, 23, 24, 25] [(1000000, 1000000), (1000001, 1000001), (4, 4)] rfl rfl, k + 1, _, _, hlt', rfl, qz hlt' (by omega), by rw [hst]; exact h2, by rw [hst], rfl⟩
            omega
        · refine qK ?_
          simp only [decide_eq_false_iff_not] at hlt
          have hkk : k = p.rules.length := by omega
          subst hkk
          rw [List.take_length] at ha hwk
          rw [if_pos ha, ← hwk]
          clear hwk
          (repeat refine qb ?_); refine qa ?_
          repeat (first | refine zR ?_ | refine zK ?_ | refine zM ?_ | refine zB ?_ | refine zA ?_ | refine zS ?_ | refine zL ?_)
          refine qc ?_
          (repeat refine qb ?_); refine ql ?_
          refine SW.wk (qq [0, 2, 37, 38, 39] [(1000000, 1000000), (1000001, 1000001)] rfl rfl) ?_
          refine qO (fun m s => ∃ (k : Nat) (kk : Int) (w2 : Wlk), k ≤ p.kids.length ∧ m = p.kids.length - k ∧ kk = k ∧ (seqS (polS n) wk (p.kids.take k)).1 = 0 ∧ w2 = (seqS (polS n) wk (p.kids.take k)).2 ∧
            s = ⟨52, [(0, .ptr 1000000 0), (2, .p (pI (5 - (n + 1 : Nat)))), (37, .p (.sl 7 (p.kids.map polP))), (38, .p (pI p.kids.length)), (39, .p (pI kk))], wlkO w2⟩) p.kids.length ⟨0, 0, wk, Nat.zero_le _, rfl, rfl, rfl, rfl, by rw [← l2]; rfl⟩ ?_
          rintro m s ⟨k, _, w2, hk, rfl, rfl, ha, hwk, rfl⟩
          have hl2 : lim w2 := by rw [hwk]; exact jI (P := lim) (fun w x hw h => polS_lim n w x hw h) hlk ha
          (repeat refine qb ?_); refine qa ?_
          repeat (first | refine zR ?_ | refine zK ?_ | refine zM ?_ | refine zB ?_ | refine zA ?_ | refine zS ?_ | refine zL ?_)
          refine qc ?_
          (repeat refine qb ?_); refine qf rfl (fun hlt => ?_) (fun hlt => ?_)
          · refine qm ?_
            simp only [decide_eq_true_eq] at hlt
            have hlt' : k < p.kids.length := by omega
            have hst := seqS_some hlt' ha
            rw [← hwk] at hst
            (repeat refine qb ?_); refine ql ?_
            (repeat refine qb ?_); refine qa ?_
            repeat (first | refine zR ?_ | refine zK ?_ | refine zM ?_ | refine zB ?_ | refine zA ?_ | refine zS ?_ | refine zL ?_)
            refine qw qe rfl rfl (by rw [l2]; omega) rfl ?_
            rw [qJ hlt', zf]
            repeat (first | refine zR ?_ | refine zK ?_ | refine zM ?_ | refine zB ?_ | refine zA ?_ | refine zS ?_ | refine zL ?_)
            refine qc ?_
            have H2 := IH w2 p.kids[k] hl2 (hf.2 _ (List.getElem_mem hlt'))
            rw [zf] at H2
            (repeat refine qb ?_); refine qa ?_
            repeat (first | refine zR ?_ | refine zK ?_ | refine zM ?_ | refine zB ?_ | refine zA ?_ | refine zS ?_ | refine zL ?_)
            rw [show IntKind.i64.wrap ((5 : Int) - (n + 1 : Nat) + 1) = 5 - (n : Int) by rw [IntWalk.i64_in _ (by omega)]; omega]
            refine qn rfl (zr wlkR rfl rfl rfl rfl rfl rfl (H2) rfl rfl rfl ?_)
            repeat (first | refine zR ?_ | refine zK ?_ | refine zM ?_ | refine zB ?_ | refine zA ?_ | refine zS ?_ | refine zL ?_)
            refine qc ?_
            (repeat refine qb ?_); refine qa ?_
            repeat (first | refine zR ?_ | refine zK ?_ | refine zM ?_ | refine zB ?_ | refine zA ?_ | refine zS ?_ | refine zL ?_)
            refine qc ?_
            (repeat refine qb ?_); refine qf rfl (fun h => ?_) (fun h => ?_)
            · have h2 : ¬ (polS n w2 p.kids[k]).1 = 0 := by simpa using h
              have e : seqS (polS n) wk p.kids = polS n w2 p.kids[k] := by rw [seqS_stop (k + 1) (by rw [hst]; exact h2), hst]
              rw [e]
              (repeat refine qb ?_); refine qa ?_
              repeat (first | refine zR ?_ | refine zK ?_ | refine zM ?_ | refine zB ?_ | refine zA ?_ | refine zS ?_ | refine zL ?_)
              refine qc ?_
              (repeat refine qb ?_); refine qk ?_
              exact ⟨Or.inr rfl, _, _, wlkR, Wk.refl _, rfl, rfl, rfl, rfl⟩
            · have h2 : (polS n w2 p.kids[k]).1 = 0 := by simpa using h
              refine qm ?_
              (repeat refine qb ?_); refine qa ?_
              repeat (first | refine zR ?_ | refine zK ?_ | refine zM ?_ | refine zB ?_ | refine zA ?_ | refine zS ?_ | refine zL ?_)
              refine qc ?_
              refine ⟨_, _, ?_, qq [0, 2, 37, 38, 39] [(1000000, 1000000), (1000001, 1000001)] rfl rfl, k + 1, _, _, hlt', rfl, qz hlt' (by omega), by rw [hst]; exact h2, by rw [hst], rfl⟩
              omega
          · refine qK ?_
            simp only [decide_eq_false_iff_not] at hlt
            have hkk : k = p.kids.length := by omega
            subst hkk
            rw [List.take_length] at ha hwk
            rw [ha, ← hwk]
            (repeat refine qb ?_); refine qa ?_
            repeat (first | refine zR ?_ | refine zK ?_ | refine zM ?_ | refine zB ?_ | refine zA ?_ | refine zS ?_ | refine zL ?_)
            refine qc ?_
            (repeat refine qb ?_); refine qk ?_
            exact ⟨Or.inr rfl, _, _, wlkR, Wk.refl _, rfl, rfl, rfl, rfl⟩
theorem right_h (p : Pol) (hf : PolFit 4 p) : Holds Tryz.prog 17 [.agg (polP p)] (.p (pI (zb p))) [] := by
  have H := wpol_h 4 (Nat.le_refl _) ⟨[], 0⟩ p ⟨Int.le_refl _, by decide⟩ hf
  rw [zf] at H ⊢
  refine qA (ts := [2]) Tryz.func17 (by kernel_rfl) rfl rfl rfl ?_
  (repeat refine qb ?_); refine qa ?_
  repeat (first | refine zR ?_ | refine zK ?_ | refine zM ?_ | refine zB ?_ | refine zA ?_ | refine zS ?_ | refine zL ?_)
  refine qc ?_
  (repeat refine qb ?_); refine qa ?_
  repeat (first | refine zR ?_ | refine zK ?_ | refine zM ?_ | refine zB ?_ | refine zA ?_ | refine zS ?_ | refine zL ?_)
  refine qc ?_
  (repeat refine qb ?_); refine qa ?_
  repeat (first | refine zR ?_ | refine zK ?_ | refine zM ?_ | refine zB ?_ | refine zA ?_ | refine zS ?_ | refine zL ?_)
  refine qn rfl (zr [(6, 1000000), (4, 1000001)] rfl rfl rfl rfl rfl rfl (H) rfl rfl rfl ?_)
  repeat (first | refine zR ?_ | refine zK ?_ | refine zM ?_ | refine zB ?_ | refine zA ?_ | refine zS ?_ | refine zL ?_)
  refine qc ?_
  (repeat refine qb ?_); refine qk ?_
  exact ⟨Or.inr rfl, _, _, [], Wk.refl _, rfl, rfl, rfl, rfl⟩
end Go.Proofs.YtppfcacnofjmdaaGreatDoor
namespace Go.Proofs.YtppfcacnofjmdaaGreatDoor
set_option linter.unusedVariables false
set_option linter.unusedSimpArgs false
open Go.RowKit
theorem opens_tint : Opens Tryz.prog 3 1 rInt := opens_int Tryz.underlying3 (by kernel_rfl)
theorem opens_tstr : Opens Tryz.prog 9 1 rStr := opens_str Tryz.underlying9 (by kernel_rfl)
theorem opens_tbool : Opens Tryz.prog 4 1 rBool := opens_bool Tryz.underlying4 (by kernel_rfl)
set_option maxRecDepth 100000 in
theorem opens_val : Opens Tryz.prog 52 3 rVal := by
  refine ⟨by kernel_rfl, fun H enc w fuel cs x h hw => ?_⟩
  obtain ⟨hlen, m, _, hf⟩ := jl Tryz.underlying52 h hw
  have hc : Tryz.prog.cellsOf 52 = 3 := by kernel_rfl
  rw [hc] at hlen
  match cs, hlen with
  | [c0, c1, c2], _ =>
    obtain ⟨k, hk⟩ := opens_tint.field (off := 0) (hf 0 _ rfl)
    obtain ⟨n, hn⟩ := opens_tint.field (off := 1) (hf 1 _ rfl)
    obtain ⟨s, hs⟩ := opens_tstr.field (off := 2) (hf 2 _ rfl)
    simp only [rInt, rStr, List.drop_succ_cons, List.drop_zero, List.take_succ_cons, List.take_zero, List.cons.injEq, and_true] at hk hn hs
    obtain ⟨rfl, hk⟩ := hk
    obtain ⟨rfl, hn⟩ := hn
    obtain ⟨rfl, hs⟩ := hs
    exact ⟨⟨k, n, s⟩, rfl, hk, hn, hs⟩
end Go.Proofs.YtppfcacnofjmdaaGreatDoor
namespace Go.Proofs.YtppfcacnofjmdaaGreatDoor
set_option linter.unusedVariables false
set_option linter.unusedSimpArgs false
open Go.RowKit
set_option maxRecDepth 100000 in
theorem opens_atr : Opens Tryz.prog 54 3 rAtr := by
  refine ⟨by kernel_rfl, fun H enc w fuel cs x h hw => ?_⟩
  obtain ⟨hlen, m, _, hf⟩ := jl Tryz.underlying54 h hw
  have hc : Tryz.prog.cellsOf 54 = 3 := by kernel_rfl
  rw [hc] at hlen
  match cs, hlen with
  | [c0, c1, c2], _ =>
    obtain ⟨k, hk⟩ := opens_tint.field (off := 0) (hf 0 _ rfl)
    obtain ⟨n, hn⟩ := opens_tstr.field (off := 1) (hf 1 _ rfl)
    obtain ⟨s, hs⟩ := opens_tbool.field (off := 2) (hf 2 _ rfl)
    simp only [rInt, rStr, rBool, List.drop_succ_cons, List.drop_zero, List.take_succ_cons, List.take_zero, List.cons.injEq, and_true] at hk hn hs
    obtain ⟨rfl, hk⟩ := hk
    obtain ⟨rfl, hn⟩ := hn
    obtain rfl := hs
    exact ⟨⟨k, n, s⟩, rfl, hk, hn⟩
set_option maxRecDepth 100000 in
theorem opens_mat : Opens Tryz.prog 62 7 rMat := by
  refine ⟨by kernel_rfl, fun H enc w fuel cs x h hw => ?_⟩
  obtain ⟨hlen, m, _, hf⟩ := jl Tryz.underlying62 h hw
  have hc : Tryz.prog.cellsOf 62 = 7 := by kernel_rfl
  rw [hc] at hlen
  match cs, hlen with
  | [c0, c1, c2, c3, c4, c5, c6], _ =>
    obtain ⟨a, ha⟩ := opens_atr.field (off := 0) (hf 0 _ rfl)
    obtain ⟨o, ho⟩ := opens_tint.field (off := 3) (hf 1 _ rfl)
    obtain ⟨v, hv⟩ := opens_val.field (off := 4) (hf 2 _ rfl)
    simp only [rInt, rAtr, rVal, Atr.cells, Val.cells, List.drop_succ_cons, List.drop_zero, List.take_succ_cons, List.take_zero, List.cons.injEq, and_true] at ha ho hv
    obtain ⟨⟨rfl, rfl, rfl⟩, ha⟩ := ha
    obtain ⟨rfl, ho⟩ := ho
    obtain ⟨⟨rfl, rfl, rfl⟩, hv⟩ := hv
    exact ⟨⟨a, o, v⟩, rfl, ha, ho, hv⟩
theorem opens_mats : Opens Tryz.prog 63 1 (rSl rMat 7) := wK Tryz.underlying63 (by kernel_rfl) (by decide +kernel) (by omega) opens_mat
theorem opens_matss : Opens Tryz.prog 64 1 (rSl (rSl rMat 7) 1) := wK Tryz.underlying64 (by kernel_rfl) (by decide +kernel) (by omega) opens_mats
theorem opens_tar : Opens Tryz.prog 23 1 (rSl (rSl (rSl rMat 7) 1) 1) := wK Tryz.underlying23 (by kernel_rfl) (by decide +kernel) (by omega) opens_matss
end Go.Proofs.YtppfcacnofjmdaaGreatDoor
namespace Go.Proofs.YtppfcacnofjmdaaGreatDoor
set_option linter.unusedVariables false
set_option linter.unusedSimpArgs false
open Go.RowKit
set_option maxRecDepth 100000 in
theorem opens_obl : Opens Tryz.prog 43 3 rObl := by
  refine ⟨by kernel_rfl, fun H enc w fuel cs x h hw => ?_⟩
  obtain ⟨hlen, m, _, hf⟩ := jl Tryz.underlying43 h hw
  have hc : Tryz.prog.cellsOf 43 = 3 := by kernel_rfl
  rw [hc] at hlen
  match cs, hlen with
  | [c0, c1, c2], _ =>
    obtain ⟨k, hk⟩ := opens_tint.field (off := 0) (hf 0 _ rfl)
    obtain ⟨n, hn⟩ := opens_tint.field (off := 1) (hf 1 _ rfl)
    obtain ⟨s, hs⟩ := opens_tstr.field (off := 2) (hf 2 _ rfl)
    simp only [rInt, rStr, List.drop_succ_cons, List.drop_zero, List.take_succ_cons, List.take_zero, List.cons.injEq, and_true] at hk hn hs
    obtain ⟨rfl, hk⟩ := hk
    obtain ⟨rfl, hn⟩ := hn
    obtain ⟨rfl, hs⟩ := hs
    exact ⟨⟨k, n, s⟩, rfl, hk, hn, hs⟩
set_option maxRecDepth 100000 in
theorem opens_nod : Opens Tryz.prog 56 7 rNod := by
  refine ⟨by kernel_rfl, fun H enc w fuel cs x h hw => ?_⟩
  obtain ⟨hlen, m, _, hf⟩ := jl Tryz.underlying56 h hw
  have hc : Tryz.prog.cellsOf 56 = 7 := by kernel_rfl
  rw [hc] at hlen
  match cs, hlen with
  | [c0, c1, c2, c3, c4, c5, c6], _ =>
    obtain ⟨o, ho⟩ := opens_tint.field (off := 0) (hf 0 _ rfl)
    obtain ⟨v, hv⟩ := opens_val.field (off := 1) (hf 1 _ rfl)
    obtain ⟨a, ha⟩ := opens_atr.field (off := 4) (hf 2 _ rfl)
    simp only [rInt, rAtr, rVal, Atr.cells, Val.cells, List.drop_succ_cons, List.drop_zero, List.take_succ_cons, List.take_zero, List.cons.injEq, and_true] at ha ho hv
    obtain ⟨⟨rfl, rfl, rfl⟩, ha⟩ := ha
    obtain ⟨rfl, ho⟩ := ho
    obtain ⟨⟨rfl, rfl, rfl⟩, hv⟩ := hv
    exact ⟨⟨o, v, a⟩, rfl, ho, hv, ha⟩
theorem opens_obls : Opens Tryz.prog 26 1 (rSl rObl 3) := wK Tryz.underlying26 (by kernel_rfl) (by decide +kernel) (by omega) opens_obl
theorem opens_nods : Opens Tryz.prog 50 1 (rSl rNod 7) := wK Tryz.underlying50 (by kernel_rfl) (by decide +kernel) (by omega) opens_nod
theorem obl_pv {w : World} {cs : List Value} {x : Obli} (h : rObl w cs x) : rPV (fun _ => True) w cs x.pv := by
  rw [h.1]; exact plain_rPV (xs := [.int .i64 x.on, .int .i64 x.kind, .string x.arg]) (by simp [plain])
theorem nod_pv {w : World} {cs : List Value} {x : Nod} (h : rNod w cs x) : rPV (fun _ => True) w cs x.pv := by
  rw [h.1]; exact plain_rPV (xs := [.int .i64 x.op, .int .i64 x.val.kind, .int .i64 x.val.n, .string x.val.s, .int .i64 x.attr.cat, .string x.attr.name, .bool x.attr.must]) (by simp [plain])
end Go.Proofs.YtppfcacnofjmdaaGreatDoor
namespace Go.Proofs.YtppfcacnofjmdaaGreatDoor
set_option linter.unusedVariables false
set_option linter.unusedSimpArgs false
open Go.RowKit
theorem SlV.rel {α : Type} {R : Rp α} {f : α → List PV} {z : Nat} {w : World} {v : Value} {l : List α} (h : SlV R z w v l) (hz : ∀ x, (f x).length = z ∧ (f x).all oneP = true) (hf : ∀ x ∈ l, ∀ cs, R w cs x → rPV (fun _ => True) w cs (f x)) : RelP (fun _ => True) w (.sl z (l.map f)) v := by
  obtain ⟨A, c, rfl, h1, h2, h3⟩ := h
  exact rel_sl h3 h1 h2 hz hf
theorem SlV.fit {α : Type} {R : Rp α} {size : Nat} {w : World} {v : Value} {l : List α} {F : α → Prop} (h : SlV R size w v l) (hR : ∀ cs x, R w cs x → F x) : (∀ x ∈ l, F x) ∧ l.length ≤ reachBytes := by
  obtain ⟨A, c, rfl, h1, h2, h3⟩ := h
  exact ⟨h3.fit hR, h2.1⟩
theorem jf {ok : Nat → Prop} {w : World} {c : Value} {cs : List Value} {p : PV} {ps : List PV} (h : RelP ok w p c) (t : rPV ok w cs ps) : rPV ok w (c :: cs) (p :: ps) := by
  refine ⟨by simp [t.1], fun j s u hs hu => ?_⟩
  cases j with
  | zero => simp at hs hu; subst hs; subst hu; exact h
  | succ j => exact t.2 j s u (by simpa using hs) (by simpa using hu)
theorem rPV_nil {ok : Nat → Prop} {w : World} : rPV ok w [] [] := ⟨rfl, fun j s u hs _ => by simp at hs⟩
set_option maxRecDepth 100000 in
theorem opens_rul : Opens Tryz.prog 59 5 rRul := by
  refine ⟨by kernel_rfl, fun H enc w fuel cs x h hw => ?_⟩
  obtain ⟨hlen, m, _, hf⟩ := jl Tryz.underlying59 h hw
  have hc : Tryz.prog.cellsOf 59 = 5 := by kernel_rfl
  rw [hc] at hlen
  match cs, hlen with
  | [c0, c1, c2, c3, c4], _ =>
    obtain ⟨o, ho⟩ := opens_tstr.field (off := 0) (hf 0 _ rfl)
    obtain ⟨b, hb⟩ := opens_tbool.field (off := 1) (hf 1 _ rfl)
    obtain ⟨t, h2⟩ := opens_tar.field (off := 2) (hf 2 _ rfl)
    obtain ⟨n, h3⟩ := opens_nods.field (off := 3) (hf 3 _ rfl)
    obtain ⟨l, h4⟩ := opens_obls.field (off := 4) (hf 4 _ rfl)
    simp only [rStr, rBool, List.drop_succ_cons, List.drop_zero, List.take_succ_cons, List.take_zero, List.cons.injEq, and_true] at ho hb h2 h3 h4
    obtain ⟨rfl, ho⟩ := ho
    subst hb
    exact ⟨⟨o, b, t, n, l⟩, c2, c3, c4, rfl, ho, .of h2, .of h3, .of h4⟩
theorem opens_ruls : Opens Tryz.prog 24 1 (rSl rRul 5) := wK Tryz.underlying24 (by kernel_rfl) (by decide +kernel) (by omega) opens_rul
theorem tar_pv {w : World} {v : Value} {t : Tar} (h : SlV rTar' 1 w v t) : RelP (fun _ => True) w (tgtP t) v := by
  obtain ⟨A, c, rfl, h1, h2, h3⟩ := h
  exact tgt_rel h3 h1 h2
theorem rul_pv {w : World} {cs : List Value} {x : Rul} (h : rRul w cs x) : rPV (fun _ => True) w cs (zt x) := by
  obtain ⟨c2, c3, c4, rfl, _, h2, h3, h4⟩ := h
  exact jf (.v rfl) (jf (.v rfl) (jf (tar_pv h2) (jf (h3.rel (fun x => ⟨rfl, rfl⟩) fun x _ cs h => nod_pv h) (jf (h4.rel (fun x => ⟨rfl, rfl⟩) fun x _ cs h => obl_pv h) rPV_nil))))
theorem rul_fit {w : World} {cs : List Value} {x : Rul} (h : rRul w cs x) : RulFit x := by
  obtain ⟨c2, c3, c4, rfl, h1, ⟨A, c, rfl, _, _, h2⟩, h3, h4⟩ := h
  exact ⟨h1, tgt_fit h2, (h3.fit fun _ _ h => h.2).1, (h4.fit fun _ _ h => h.2).1⟩
def rPolX : Rp Pol := fun w cs p => ∃ n, rPolN n w cs p
def OpensS {α : Type} (P : Program) (t : TypeId) (size : Nat) (R : Rp α) (s : Nat) : Prop :=
  P.cellsOf t = size ∧ ∀ (H : Type) (enc : TypeId × Value → H) (w : World) (fuel : Nat) (cs : List Value) (x : DataW H × List MemPlace), SizeOf.sizeOf x.1 < s →
    DataW.trod enc P w 0 (fun _ => true) true fuel t cs = some x → (∀ n ∈ x.1.weights P t, n ≤ reachBytes) → ∃ y, R w cs y
theorem sl_openS {α : Type} {P : Program} {t e : TypeId} {size s : Nat} {R : Rp α} (ht : P.underlying t = some (.slice e)) (hb : 1 ≤ P.bytesOf e) (hs : 1 ≤ size) (he : OpensS P e size R s)
    {H : Type} {enc : TypeId × Value → H} {w : World} {fuel : Nat} {cs : List Value} {x : DataW H × List MemPlace} (hx : SizeOf.sizeOf x.1 ≤ s) (h : DataW.trod enc P w 0 (fun _ => true) true fuel t cs = some x) (hw : ∀ n ∈ x.1.weights P t, n ≤ reachBytes) : ∃ y, rSl R size w cs y := by
  rcases Go.Deep.open_slice ht h with ⟨rfl, _⟩ | ⟨a, len, cap, m, n, D, Pl, rfl, _, hlc, hcm, hm, rfl, hel⟩
  · exact ⟨[], none, 0, rfl, Nat.le_refl _, ⟨Nat.zero_le _, Nat.zero_le _⟩, SlAt.nil⟩
  · simp only [if_true] at hm
    subst hm
    have hcap : m ≤ reachBytes := by
      have h1 := hw ((((List.range len).map D).length + ((List.range (m - len)).map fun j => D (len + j)).length) * P.bytesOf e) (by simp [DataW.weights, ht])
      simp only [List.length_map, List.length_range] at h1
      have h2 : len + (m - len) = m := by omega
      rw [h2] at h1
      exact Nat.le_trans (Nat.le_mul_of_pos_right m hb) h1
    have hcap' : m ≤ maxLen := by unfold maxLen; unfold reachBytes at hcap; omega
    have hsz : ∀ i, i < m → SizeOf.sizeOf (D i) < s := fun i hi => by
      simp only [DataW.slice.sizeOf_spec] at hx
      rcases Nat.lt_or_ge i len with hil | hil
      · have : D i ∈ (List.range len).map D := List.mem_map.2 ⟨i, List.mem_range.2 hil, rfl⟩
        have := List.sizeOf_lt_of_mem this
        omega
      · have : D i ∈ (List.range (m - len)).map fun j => D (len + j) := List.mem_map.2 ⟨i - len, List.mem_range.2 (by omega), by rw [show len + (i - len) = i by omega]⟩
        have := List.sizeOf_lt_of_mem this
        omega
    have hcell : ∀ i, i < m → ∃ cs', cs'.length = size ∧ (∀ j u, cs'[j]? = some u → w.cell? ((a.add (i * size)).add j) = some u) ∧ ∃ y, R w cs' y := fun i hi => by
      obtain ⟨cs', h1, h2⟩ := hel i hi
      rw [he.1] at h1
      obtain ⟨_, h3, h4⟩ := World.cells?_some h1
      refine ⟨cs', h3, fun j u hj => ?_, ?_⟩
      · have : j < size := by rw [← h3]; exact (List.getElem?_eq_some_iff.1 hj).1
        rw [h4 j this, hj]
      · refine he.2 H enc w n cs' _ (hsz i hi) h2 fun k hk => hw k ?_
        simp only [DataW.weights, ht, List.mem_cons, List.mem_append]
        rcases Nat.lt_or_ge i len with hil | hil
        · exact Or.inr (Or.inl (jc (List.mem_map.2 ⟨i, List.mem_range.2 hil, rfl⟩) k hk))
        · refine Or.inr (Or.inr (jc (d := D i) (List.mem_map.2 ⟨i - len, List.mem_range.2 (by omega), ?_⟩) k hk))
          rw [show len + (i - len) = i by omega]
    rcases Nat.eq_zero_or_pos len with h0 | hpos
    · subst h0
      exact ⟨[], some a, m, rfl, Nat.zero_le _, ⟨Nat.zero_le _, hcap'⟩, SlAt.nil⟩
    · have hsp : a.spot = none ∧ a.block < w.heap.size := by
        obtain ⟨cs', h1, h2, _⟩ := hcell 0 (by omega)
        obtain ⟨u, hu⟩ : ∃ u, cs'[0]? = some u := ⟨cs'[0]'(by omega), List.getElem?_eq_getElem _⟩
        have h3 := h2 0 u hu
        simp only [Nat.zero_mul, Addr.add, if_true] at h3
        exact ⟨(lt_of_cell h3).2, (lt_of_cell h3).1⟩
      obtain ⟨b, o, sp⟩ := a
      obtain ⟨rfl, hlt⟩ := hsp
      have hadd : ∀ o k : Nat, (⟨b, o, none⟩ : Addr).add k = ⟨b, o + k, none⟩ := fun o k => by
        unfold Addr.add; split
        · simp [*]
        · rfl
      have hex : ∀ i : Nat, ∃ y : α, i < m → ∃ cs', cs'.length = size ∧ CellsAt w b (o + i * size) cs' ∧ R w cs' y := fun i => by
        by_cases hi : i < m
        · obtain ⟨cs', h1, h2, y, hy⟩ := hcell i hi
          refine ⟨y, fun _ => ⟨cs', h1, fun j u hj => ?_, hy⟩⟩
          have := h2 j u hj
          rw [hadd, hadd] at this
          exact this
        · obtain ⟨_, _, _, y, _⟩ := hcell 0 (by omega)
          exact ⟨y, fun h => absurd h hi⟩
      obtain ⟨f, hf⟩ := Classical.axiomOfChoice hex
      refine ⟨(List.range len).map f, some ⟨b, o, none⟩, m, by simp, by simpa using hlc, ⟨by simp; omega, hcap'⟩, fun _ => ⟨b, o, rfl, hlt, fun i hi => ?_⟩⟩
      have hi' : i < len := by simpa using hi
      obtain ⟨cs', h1, h2, h3⟩ := hf i (by omega)
      exact ⟨cs', h1, h2, by simpa using h3⟩
theorem struct_openS {H : Type} {enc : TypeId × Value → H} {P : Program} {w : World} {fuel : Nat} {t : TypeId} {fs : Array Field} {cs : List Value} {x : DataW H × List MemPlace} (ht : P.underlying t = some (.struct fs))
    (h : DataW.trod enc P w 0 (fun _ => true) true fuel t cs = some x) (hw : ∀ n ∈ x.1.weights P t, n ≤ reachBytes) :
    cs.length = P.cellsOf t ∧ ∃ m, ∀ (i : Nat) (f : Field), fs[i]? = some f → ∃ y, DataW.trod enc P w 0 (fun _ => true) true m f.type ((cs.drop f.offset).take (P.cellsOf f.type)) = some y ∧ (∀ n ∈ y.1.weights P f.type, n ≤ reachBytes) ∧ SizeOf.sizeOf y.1 < SizeOf.sizeOf x.1 := by
  obtain ⟨xs, n, hn, hx, hlen, hxl, hf⟩ := DataW.trod_struct ht h
  refine ⟨hlen, n, fun i f hi => ?_⟩
  have hil : i < fs.size := (Array.getElem?_eq_some_iff.1 hi).1
  have hy : xs[i]? = some (xs[i]'(by omega)) := List.getElem?_eq_getElem (by omega)
  refine ⟨_, (hf i f hi).trans hy, fun k hk => hw k ?_, ?_⟩
  · subst hx
    simp only [DataW.weights, ht]
    refine DataW.weights_mem_each (j := i) (t := f.type) (d := (xs[i]'(by omega)).1) ?_ ?_ k hk
    · rw [List.getElem?_map, Array.getElem?_toList, hi]; rfl
    · rw [List.getElem?_map, hy]; rfl
  · subst hx
    have h1 : (xs[i]'(by omega)).1 ∈ xs.map (·.1) := List.mem_map.2 ⟨_, List.getElem_mem _, rfl⟩
    have h2 := List.sizeOf_lt_of_mem h1
    simp only [DataW.agg.sizeOf_spec]
    omega
theorem hd3 {α : Type} {P : α → Prop} {Q R : α → Prop} (h : ∃ y, P y ∧ Q y ∧ R y) : ∃ y, P y ∧ Q y := by
  obtain ⟨y, a, b, _⟩ := h; exact ⟨y, a, b⟩
set_option maxRecDepth 100000 in
theorem opens_polS : ∀ s, OpensS Tryz.prog 28 7 (rPolN s) s := by
  intro s
  induction s with
  | zero => exact ⟨by kernel_rfl, fun H enc w fuel cs x hx => absurd hx (Nat.not_lt_zero _)⟩
  | succ s ih =>
    refine ⟨by kernel_rfl, fun H enc w fuel cs x hx h hw => ?_⟩
    obtain ⟨hlen, m, hf⟩ := struct_openS Tryz.underlying28 h hw
    have hc : Tryz.prog.cellsOf 28 = 7 := by kernel_rfl
    rw [hc] at hlen
    match cs, hlen with
    | [c0, c1, c2, c3, c4, c5, c6], _ =>
      obtain ⟨o, ho⟩ := opens_tstr.field (off := 0) (hd3 (hf 0 _ rfl))
      obtain ⟨b, hb⟩ := opens_tbool.field (off := 1) (hd3 (hf 1 _ rfl))
      obtain ⟨n, hn⟩ := opens_tint.field (off := 2) (hd3 (hf 2 _ rfl))
      obtain ⟨t, h3⟩ := opens_tar.field (off := 3) (hd3 (hf 3 _ rfl))
      obtain ⟨r, h4⟩ := opens_ruls.field (off := 4) (hd3 (hf 4 _ rfl))
      obtain ⟨l, h6⟩ := opens_obls.field (off := 6) (hd3 (hf 6 _ rfl))
      obtain ⟨y, h5, hy1, hy2⟩ := hf 5 _ rfl
      obtain ⟨k, h5⟩ := sl_openS Tryz.underlying25 (by decide +kernel) (by omega) ih (by omega) h5 hy1
      have hc1 : Tryz.prog.cellsOf 25 = 1 := by kernel_rfl
      simp only [rStr, rBool, rInt, hc1, List.drop_succ_cons, List.drop_zero, List.take_succ_cons, List.take_zero, List.cons.injEq, and_true] at ho hb hn h3 h4 h5 h6
      obtain ⟨rfl, ho⟩ := ho
      subst hb
      obtain ⟨rfl, hn⟩ := hn
      exact ⟨.mk o b n t r k l, c3, c4, c5, c6, rfl, ho, hn, .of h3, .of h4, .of h5, .of h6⟩
theorem opens_pol : Opens Tryz.prog 28 7 rPolX := ⟨(opens_polS 0).1, fun H enc w fuel cs x h hw => by
  obtain ⟨p, hp⟩ := (opens_polS (SizeOf.sizeOf x.1 + 1)).2 H enc w fuel cs x (Nat.lt_succ_self _) h hw
  exact ⟨p, _, hp⟩⟩
theorem polP_shape (x : Pol) : (polP x).length = 7 ∧ (polP x).all oneP = true := by rw [zf]; exact ⟨rfl, rfl⟩
theorem pol_pv : ∀ (n : Nat) {w : World} {cs : List Value} {p : Pol}, rPolN n w cs p → rPV (fun _ => True) w cs (polP p)
  | n + 1, w, cs, p, ⟨c3, c4, c5, c6, he, _, _, h3, h4, h5, h6⟩ => by
    subst he
    rw [zf]
    exact jf (.v rfl) (jf (.v rfl) (jf (.v rfl) (jf (tar_pv h3) (jf (h4.rel (fun x => ⟨rfl, rfl⟩) fun x _ cs h => rul_pv h)
      (jf (h5.rel polP_shape fun x _ cs h => pol_pv n h) (jf (h6.rel (fun x => ⟨rfl, rfl⟩) fun x _ cs h => obl_pv h) rPV_nil))))))
theorem pol_fit : ∀ (m : Nat) {n : Nat} {w : World} {cs : List Value} {p : Pol}, rPolN n w cs p → PolFit m p
  | 0, _, _, _, _, _ => trivial
  | m + 1, n + 1, w, cs, p, ⟨c3, c4, c5, c6, he, hid, _, ⟨A, c, ha, _, _, h3⟩, h4, h5, h6⟩ => by
    have k4 := h4.fit (F := RulFit) fun _ _ h => rul_fit h
    have k5 := h5.fit (F := PolFit m) fun _ _ h => pol_fit m h
    have k6 := h6.fit (F := Obli.Fit) fun _ _ h => h.2
    exact ⟨⟨hid, tgt_fit h3, k4.1, k6.1, k4.2, k5.2⟩, k5.1⟩
end Go.Proofs.YtppfcacnofjmdaaGreatDoor
namespace Go.Proofs.YtppfcacnofjmdaaGreatDoor
set_option linter.unusedVariables false
set_option linter.unusedSimpArgs false
open Go.RowKit
def PolF : Nat → Pol → Prop
  | 0, _ => False
  | n + 1, p => HeadFit p ∧ R64 p.alg ∧ ∀ k ∈ p.kids, PolF n k
theorem qaF : ∀ (m : Nat) {n : Nat} {p : Pol}, PolF n p → PolFit m p
  | 0, _, _, _ => True.intro
  | m + 1, n + 1, p, h => ⟨h.1, fun k hk => qaF m (h.2.2 k hk)⟩
theorem polF_of : ∀ {n : Nat} {w : World} {cs : List Value} {p : Pol}, rPolN n w cs p → PolF n p
  | n + 1, w, cs, p, h => by
    have h1 := pol_fit 1 h
    obtain ⟨c3, c4, c5, c6, he, hid, ha, _, _, h5, _⟩ := h
    exact ⟨h1.1, ha, (h5.fit (F := PolF n) fun _ _ h => polF_of h).1⟩
end Go.Proofs.YtppfcacnofjmdaaGreatDoor
namespace Go.Proofs.YtppfcacnofjmdaaGreatDoor
set_option linter.unusedVariables false
set_option linter.unusedSimpArgs false
open Go.RowKit
theorem SWT.wk {P : Program} {ops l : List Oper} {Q : St → Prop} {st st' : St} (h : Wk st st') (h' : SWT P ops l Q st') : SWT P ops l Q st := fun w0 Sx γ a w QQ hI hQ => by
  obtain ⟨γ', hI'⟩ := h w0 Sx γ a w hI
  exact h' w0 Sx γ' a w QQ hI' hQ
def TarL (t : Tar) : Prop := t.length ≤ 3000 ∧ ∀ x ∈ t, x.length ≤ 3000 ∧ ∀ y ∈ x, y.length ≤ 3000
theorem xsz_le {t : Tar} {x : List (List Mat)} (h : x ∈ t) : xsz x ≤ tsz t := by
  have := wb (f := xsz) h
  unfold tsz; omega
theorem len_sumBy {α : Type} (f : α → Nat) (h : ∀ x, 1 ≤ f x) : ∀ l : List α, l.length ≤ qT f l
  | [] => Nat.zero_le _
  | x :: r => by
    have h1 := len_sumBy f h r
    have h2 := h x
    simp only [qT, List.map_cons, List.sum_cons, List.length_cons] at h1 ⊢
    omega
theorem tarL_of {t : Tar} {n : Nat} (h : tsz t ≤ n) (hn : n ≤ 3000) : TarL t := by
  refine ⟨by unfold tsz at h; omega, fun x hx => ?_⟩
  have h1 := xsz_le hx
  refine ⟨by unfold xsz at h1; omega, fun y hy => ?_⟩
  have h4 : asz y ≤ xsz x := by have := wb (f := asz) hy; unfold xsz; omega
  unfold asz at h4
  omega
theorem sz_facts {p : Pol} {n : Nat} (h : p.sz ≤ n) (hn : n ≤ 3000) : TarL p.target ∧ p.rules.length ≤ 3000 ∧ p.kids.length ≤ 3000 ∧ p.obls.length ≤ 3000 ∧ (∀ r ∈ p.rules, TarL r.target ∧ r.cond.length ≤ 3000 ∧ r.obls.length ≤ 3000) ∧ ∀ k ∈ p.kids, k.sz ≤ n := by
  have h1 := Pol.sz_eq p
  have h2 := len_sumBy Pol.sz (fun p => by rw [Pol.sz_eq]; omega) p.kids
  have h3 : p.obls.length ≤ osz p.obls := by unfold osz; omega
  refine ⟨tarL_of (n := n) (by omega) hn, by omega, by omega, by omega, fun r hr => ?_, fun k hk => ?_⟩
  · have h4 := wb (f := rusz) hr
    have h5 : r.obls.length ≤ osz r.obls := by unfold osz; omega
    have h6 : rusz r = txt r.id + tsz r.target + r.cond.length + osz r.obls + qT nsz r.cond := rfl
    exact ⟨tarL_of (n := n) (by omega) hn, by omega, by omega⟩
  · have := wb (f := Pol.sz) hk
    omega
end Go.Proofs.YtppfcacnofjmdaaGreatDoor
namespace Go.Proofs.YtppfcacnofjmdaaGreatDoor
set_option linter.unusedVariables false
set_option linter.unusedSimpArgs false
open Go.RowKit
instance decVal : DecidableEq Val := fun a b => decidable_of_iff (a.kind = b.kind ∧ a.n = b.n ∧ a.s = b.s) ⟨fun h => by cases a; cases b; simp only at h; simp [h], fun h => by subst h; simp⟩
instance decAtr : DecidableEq Atr := fun a b => decidable_of_iff (a.cat = b.cat ∧ a.name = b.name ∧ a.must = b.must) ⟨fun h => by cases a; cases b; simp only at h; simp [h], fun h => by subst h; simp⟩
instance decMat : DecidableEq Mat := fun a b => decidable_of_iff (a.attr = b.attr ∧ a.op = b.op ∧ a.val = b.val) ⟨fun h => by cases a; cases b; simp only at h; simp [h], fun h => by subst h; simp⟩
instance decNod : DecidableEq Nod := fun a b => decidable_of_iff (a.op = b.op ∧ a.val = b.val ∧ a.attr = b.attr) ⟨fun h => by cases a; cases b; simp only at h; simp [h], fun h => by subst h; simp⟩
structure Atm where
  m : Mat
  c : List Nod
instance decAtm : DecidableEq Atm := fun a b => decidable_of_iff (a.m = b.m ∧ a.c = b.c) ⟨fun h => by cases a; cases b; simp only at h; simp [h], fun h => by subst h; simp⟩
def findA (l : List Atm) (a : Atm) : Int := if l.findIdx (fun x => decide (x = a)) < l.length then ((l.findIdx fun x => decide (x = a) : Nat) : Int) else -1
def moreA (l : List Atm) (a : Atm) : List Atm := if a ∈ l then l else l ++ [a]
def addA (l bs : List Atm) : List Atm := bs.foldl moreA l
def zeroM : Mat := ⟨⟨0, ⟨#[]⟩, false⟩, 0, ⟨0, 0, ⟨#[]⟩⟩⟩
def allA (y : List Mat) : List Atm := y.map fun m => ⟨m, []⟩
def anyA (x : List (List Mat)) : List Atm := x.flatMap allA
def tarA (t : Tar) : List Atm := t.flatMap anyA
def condA (c : List Nod) : List Atm := if c = [] then [] else [⟨zeroM, c⟩]
def rulA (r : Rul) : List Atm := tarA r.target ++ condA r.cond
def polA : Nat → Pol → List Atm
  | 0, _ => []
  | n + 1, p => tarA p.target ++ (p.rules.flatMap rulA ++ p.kids.flatMap (polA n))
theorem findA_mem {l : List Atm} {a : Atm} : a ∈ l ↔ l.findIdx (fun x => decide (x = a)) < l.length := by
  rw [List.findIdx_lt_length]
  constructor
  · intro h; exact ⟨a, h, by simp⟩
  · rintro ⟨x, h1, h2⟩
    have : x = a := by simpa using h2
    subst this; exact h1
theorem findA_no {l : List Atm} {a : Atm} (h : a ∉ l) : findA l a = -1 := by
  unfold findA; rw [if_neg (fun h2 => h (findA_mem.2 h2))]
theorem findA_yes {l : List Atm} {a : Atm} (h : a ∈ l) : 0 ≤ findA l a := by
  unfold findA; rw [if_pos (findA_mem.1 h)]; omega
theorem findA_at {l : List Atm} {a : Atm} {k : Nat} (hk : k < l.length) (h : l[k] = a) (h0 : ∀ x ∈ l.take k, x ≠ a) : findA l a = k := by
  have hm : a ∈ l := h ▸ List.getElem_mem hk
  have e : l.findIdx (fun x => decide (x = a)) = k := by
    rw [List.findIdx_eq hk]
    refine ⟨by simp [h], fun j hj => ?_⟩
    have : l[j] ∈ l.take k := by
      rw [List.mem_take_iff_getElem]
      exact ⟨j, by omega, rfl⟩
    simpa using h0 _ this
  unfold findA
  rw [if_pos (findA_mem.1 hm), e]
theorem findA_nodup {l : List Atm} (h : l.Nodup) {k : Nat} (hk : k < l.length) : findA l l[k] = k := by
  refine findA_at hk rfl fun x hx e => ?_
  obtain ⟨j, hj, rfl⟩ := List.mem_take_iff_getElem.1 hx
  have := (List.getElem_inj h).1 e
  omega
theorem moreA_mem {l : List Atm} {a x : Atm} : x ∈ moreA l a ↔ x ∈ l ∨ x = a := by
  unfold moreA
  split
  · rename_i h
    exact ⟨Or.inl, fun h2 => h2.elim id fun e => e ▸ h⟩
  · simp
theorem moreA_nodup {l : List Atm} (h : l.Nodup) (a : Atm) : (moreA l a).Nodup := by
  unfold moreA
  split
  · exact h
  · rename_i hn
    rw [List.nodup_append]
    exact ⟨h, by simp, fun x hx y hy e => hn (by rw [List.mem_singleton.1 hy] at e; exact e ▸ hx)⟩
theorem moreA_len (l : List Atm) (a : Atm) : (moreA l a).length ≤ l.length + 1 := by
  unfold moreA; split <;> simp
theorem addA_cons (l : List Atm) (a : Atm) (bs : List Atm) : addA l (a :: bs) = addA (moreA l a) bs := rfl
theorem qaH (l a b : List Atm) : addA l (a ++ b) = addA (addA l a) b := List.foldl_append ..
theorem addA_mem : ∀ {bs l : List Atm} {x : Atm}, x ∈ addA l bs ↔ x ∈ l ∨ x ∈ bs
  | [], l, x => by simp [addA]
  | a :: bs, l, x => by rw [addA_cons, addA_mem, moreA_mem, List.mem_cons, or_assoc]
theorem addA_nodup : ∀ {bs l : List Atm}, l.Nodup → (addA l bs).Nodup
  | [], _, h => h
  | a :: bs, _, h => addA_nodup (bs := bs) (moreA_nodup h a)
theorem qaJ : ∀ (bs l : List Atm), (addA l bs).length ≤ l.length + bs.length
  | [], l => Nat.le_refl _
  | a :: bs, l => by
    have h1 := qaJ bs (moreA l a)
    have h2 := moreA_len l a
    rw [addA_cons, List.length_cons]; omega
theorem addA_same : ∀ {bs l : List Atm}, (∀ x ∈ bs, x ∈ l) → addA l bs = l
  | [], _, _ => rfl
  | a :: bs, l, h => by
    have e : moreA l a = l := by unfold moreA; rw [if_pos (h a (by simp))]
    rw [addA_cons, e]
    exact addA_same fun x hx => h x (List.mem_cons_of_mem _ hx)
theorem nodup_le : ∀ {a b : List Atm}, a.Nodup → (∀ x ∈ a, x ∈ b) → a.length ≤ b.length
  | [], _, _, _ => Nat.zero_le _
  | x :: a, b, h, hs => by
    have hx := hs x (by simp)
    have h1 := List.nodup_cons.1 h
    have h2 := nodup_le (b := b.erase x) h1.2 fun y hy => (List.mem_erase_of_ne (fun e => h1.1 (by rw [← e]; exact hy))).2 (hs y (List.mem_cons_of_mem _ hy))
    rw [List.length_erase_of_mem hx] at h2
    have h3 := List.length_pos_of_mem hx
    rw [List.length_cons]; omega
theorem polA_dp : ∀ {n : Nat} {p : Pol}, Dp n p → ∀ {m : Nat}, n ≤ m → polA m p = polA n p
  | n + 1, p, h, m + 1, hm => by
    rw [polA, polA]
    have e : p.kids.flatMap (polA m) = p.kids.flatMap (polA n) := by
      have : p.kids.map (polA m) = p.kids.map (polA n) := List.map_congr_left fun k hk => polA_dp (h k hk) (by omega)
      rw [List.flatMap_def, List.flatMap_def, this]
    rw [e]
theorem polA_kid {p : Pol} (h : zb p = 0) {k : Pol} (hk : k ∈ p.kids) {x : Atm} (hx : x ∈ addA [] (polA 4 k)) : x ∈ addA [] (polA 4 p) := by
  rw [addA_mem] at hx ⊢
  rcases hx with hx | hx
  · cases hx
  · refine .inr ?_
    rw [polA_dp (right_kid_dp h k hk) (by omega)] at hx
    rw [polA, List.mem_append, List.mem_append]
    exact .inr (.inr (List.mem_flatMap.2 ⟨k, hk, hx⟩))
def Pol.putRl (p : Pol) (l : List Rul) : Pol := .mk p.id p.set p.alg p.target l p.kids p.obls
theorem vars_more (p : Pol) (s : ByteArray) (d : Bool) (o : List Obli) (n : Nat) : addA [] (polA (n + 1) (p.putRl (p.rules ++ [⟨s, d, p.target, [], o⟩]))) = addA [] (polA (n + 1) p) := by
  show addA [] (tarA p.target ++ ((p.rules ++ [_]).flatMap rulA ++ p.kids.flatMap (polA n))) = addA [] (tarA p.target ++ (p.rules.flatMap rulA ++ p.kids.flatMap (polA n)))
  have e : (p.rules ++ [(⟨s, d, p.target, [], o⟩ : Rul)]).flatMap rulA = p.rules.flatMap rulA ++ tarA p.target := by
    rw [List.flatMap_append]; simp [rulA, condA]
  rw [e, qaH, qaH, qaH, qaH [] (tarA p.target), qaH _ (p.rules.flatMap rulA), addA_same (bs := tarA p.target)]
  intro x hx
  rw [addA_mem, addA_mem]
  exact .inl (.inr hx)
theorem qaK {α : Type} (f : α → List Atm) (c : α → Nat) (h : ∀ x, (f x).length ≤ c x) : ∀ l : List α, (l.flatMap f).length ≤ qT c l
  | [] => Nat.le_refl _
  | x :: l => by
    have h1 := qaK f c h l
    have h2 := h x
    simp only [List.flatMap_cons, List.length_append, qT, List.map_cons, List.sum_cons] at *
    omega
theorem tarA_len (t : Tar) : (tarA t).length ≤ tsz t := by
  have h1 : ∀ y : List Mat, (allA y).length ≤ asz y := fun y => by unfold allA asz; rw [List.length_map]; omega
  have h2 : ∀ x : List (List Mat), (anyA x).length ≤ xsz x := fun x => by
    have := qaK allA asz h1 x
    unfold anyA xsz; omega
  have := qaK anyA xsz h2 t
  unfold tarA tsz; omega
theorem rulA_len (r : Rul) : (rulA r).length ≤ rusz r := by
  have h1 := tarA_len r.target
  have h2 : (condA r.cond).length ≤ 1 := by unfold condA; split <;> simp
  have h6 : rusz r = txt r.id + tsz r.target + r.cond.length + osz r.obls + qT nsz r.cond := rfl
  have h7 : 1 ≤ txt r.id := by unfold txt; omega
  unfold rulA
  rw [List.length_append]; omega
theorem polA_len : ∀ (n : Nat) (p : Pol), (polA n p).length ≤ p.sz
  | 0, p => Nat.zero_le _
  | n + 1, p => by
    have h1 := tarA_len p.target
    have h2 := qaK rulA rusz rulA_len p.rules
    have h3 := qaK (polA n) Pol.sz (polA_len n) p.kids
    have h4 := Pol.sz_eq p
    rw [polA, List.length_append, List.length_append]; omega
end Go.Proofs.YtppfcacnofjmdaaGreatDoor
namespace Go.Proofs.YtppfcacnofjmdaaGreatDoor
set_option linter.unusedVariables false
set_option linter.unusedSimpArgs false
open Go.RowKit
set_option maxHeartbeats 1000000
theorem beq_bytes (a b : ByteArray) : (a.toList == b.toList) = decide (a = b) := by
  rw [Bool.eq_iff_iff]
  simp only [beq_iff_eq, decide_eq_true_eq]
  exact ⟨toList_inj, fun h => by rw [h]⟩
end Go.Proofs.YtppfcacnofjmdaaGreatDoor
namespace Go.Proofs.YtppfcacnofjmdaaGreatDoor
set_option linter.unusedVariables false
set_option linter.unusedSimpArgs false
open Go.RowKit
set_option maxHeartbeats 4000000
end Go.Proofs.YtppfcacnofjmdaaGreatDoor
namespace Go.Proofs.YtppfcacnofjmdaaGreatDoor
open Go.RowKit
set_option linter.unusedSimpArgs false
set_option linter.unusedVariables false
attribute [local go_sem] ext_cell wi
attribute [local go_sem low] we jp
end Go.Proofs.YtppfcacnofjmdaaGreatDoor
namespace Go.Proofs.YtppfcacnofjmdaaGreatDoor
open Go.RowKit
set_option linter.unusedSimpArgs false
set_option linter.unusedVariables false
attribute [local go_sem] ext_cell wi
attribute [local go_sem low] we jp
attribute [local go_sem ↓] eql_val
end Go.Proofs.YtppfcacnofjmdaaGreatDoor
namespace Go.Proofs.YtppfcacnofjmdaaGreatDoor
open Go.RowKit
set_option linter.unusedSimpArgs false
set_option linter.unusedVariables false
attribute [local go_sem] ext_cell wi
attribute [local go_sem low] we jp
attribute [local go_sem ↓] eql_val
end Go.Proofs.YtppfcacnofjmdaaGreatDoor
namespace Go.Proofs.YtppfcacnofjmdaaGreatDoor
set_option linter.unusedVariables false
set_option linter.unusedSimpArgs false
open Go.RowKit
structure Itm.Fit (x : Itm) : Prop where
  bag : ∀ v ∈ x.bag, v.Fit
  v : x.v.Fit
  len : x.bag.length ≤ 1000000
end Go.Proofs.YtppfcacnofjmdaaGreatDoor
namespace Go.Proofs.YtppfcacnofjmdaaGreatDoor
set_option linter.unusedVariables false
set_option linter.unusedSimpArgs false
open Go.RowKit
set_option maxHeartbeats 4000000
def TarSm (t : Tar) : Prop := t.length ≤ 1000000 ∧ ∀ x ∈ t, x.length ≤ 1000000 ∧ ∀ y ∈ x, y.length ≤ 1000000
structure GivOk (g : List Giv) : Prop where
  fit : ∀ x ∈ g, x.Fit
  len : g.length ≤ 1000000
  bags : ∀ x ∈ g, x.bag.length ≤ 1000000
end Go.Proofs.YtppfcacnofjmdaaGreatDoor
namespace Go.Proofs.YtppfcacnofjmdaaGreatDoor
set_option linter.unusedVariables false
set_option linter.unusedSimpArgs false
open Go.RowKit
def Upto (k m : Nat) (r : SV) : Prop := ∃ b : Bool, r = .p (pB b) ∧ (b = true → k ≤ m)
theorem upto_ok {k m : Nat} {w : World} {e : Ending} {w' : World} (h : upTo k m w e w') : ∃ r, Upto k m r ∧ flatS r = true ∧ e = .returned (valS r) ∧ Below w.heap.size w w' ∧ RelS (fun _ => True) (fun _ => none) w' r (valS r) := by
  rcases h with ⟨rfl, hb⟩ | ⟨rfl, hk, hb⟩
  · exact ⟨.p (pB false), ⟨false, rfl, fun h => by cases h⟩, rfl, rfl, hb, .p (.v rfl)⟩
  · exact ⟨.p (pB true), ⟨true, rfl, fun _ => hk.out⟩, rfl, rfl, hb, .p (.v rfl)⟩
end Go.Proofs.YtppfcacnofjmdaaGreatDoor
namespace Go.Proofs.YtppfcacnofjmdaaGreatDoor
set_option linter.unusedVariables false
set_option linter.unusedSimpArgs false
open Go.RowKit
end Go.Proofs.YtppfcacnofjmdaaGreatDoor
namespace Go.Proofs.YtppfcacnofjmdaaGreatDoor
set_option linter.unusedVariables false
set_option linter.unusedSimpArgs false
open Go.RowKit
def waitsO (o : Oper) (p : Nat) : Bool := o.after.toList.any fun e => Region.binds .any e && Nat.beq e.on p
section
variable {P : Program} {ops : Array Oper} {Q : Exit → Act → World → Prop}
abbrev Pend := List (Nat × (World → Prop))
def alive (ops : Array Oper) (i : Nat) (pd : Pend) : Pend := match ops[i]? with
  | some o => pd.filter fun p => !waitsO o p.1
  | none => pd
def wpAnyP (P : Program) (ops : Array Oper) (Q : Exit → Act → World → Prop) : Nat → Pend → Array Bool → Act → World → Prop
  | 0, _, listed, a, w => Region.ready .any ops listed = [] ∧ Q .normal a w
  | fuel + 1, pd, listed, a, w => (Region.ready .any ops listed = [] → Q .normal a w) ∧
      ∀ i ∈ Region.ready .any ops listed, wpOp P ops Q i (fun a' w' => (∀ p ∈ alive ops i pd, p.2 w') ∧ wpAnyP P ops Q fuel (alive ops i pd) (listed.setIfInBounds i true) a' w') a w
theorem wZ : ∀ (fuel : Nat) (pd : Pend) (listed : Array Bool) (a : Act) (w : World), wpAnyP P ops Q fuel pd listed a w → wpAny P .any ops Q fuel listed a w
  | 0, _, _, _, _, h => h
  | fuel + 1, _, _, _, _, h => ⟨h.1, fun i hi => wpOp_mono (fun a' w' h' => wZ fuel _ _ a' w' h'.2) (h.2 i hi)⟩
def Covers (pd pd' : Pend) : Prop := ∀ p ∈ pd, (∀ x, p.2 x) ∨ ∃ p' ∈ pd', p'.1 = p.1 ∧ ∀ x, p'.2 x → p.2 x
theorem Covers.refl (pd : Pend) : Covers pd pd := fun p hp => .inr ⟨p, hp, rfl, fun _ h => h⟩
theorem mem_alive {i : Nat} {pd : Pend} {p : Nat × (World → Prop)} : p ∈ alive ops i pd ↔ p ∈ pd ∧ (∀ o, ops[i]? = some o → waitsO o p.1 = false) := by
  unfold alive
  cases h : ops[i]? with
  | none => simp
  | some o => simp [List.mem_filter]
theorem Covers.alive {pd pd' : Pend} (h : Covers pd pd') (i : Nat) : Covers (alive ops i pd) (Go.Proofs.YtppfcacnofjmdaaGreatDoor.alive ops i pd') := fun p hp => by
  obtain ⟨h1, h2⟩ := mem_alive.1 hp
  rcases h p h1 with h | ⟨p', h3, h4, h5⟩
  · exact .inl h
  · exact .inr ⟨p', mem_alive.2 ⟨h3, fun o ho => by rw [h4]; exact h2 o ho⟩, h4, h5⟩
theorem Covers.at {pd pd' : Pend} (h : Covers pd pd') {w : World} (hw : ∀ p ∈ pd', p.2 w) : ∀ p ∈ pd, p.2 w := fun p hp => by
  rcases h p hp with h | ⟨p', h3, h4, h5⟩
  · exact h w
  · exact h5 w (hw p' h3)
theorem jC : ∀ (f : Nat) {pd pd' : Pend} (_ : Covers pd pd') (ls : Array Bool) (a : Act) (w : World), wpAnyP P ops Q f pd' ls a w → wpAnyP P ops Q f pd ls a w
  | 0, _, _, _, _, _, _, h => h
  | f + 1, _, _, hc, ls, a, w, h => ⟨h.1, fun i hi => wpOp_mono (fun a' w' h' => ⟨(hc.alive i).at h'.1, jC f (hc.alive i) _ a' w' h'.2⟩) (h.2 i hi)⟩
theorem wpAnyP_first {i : Nat} {oi : Oper} {v : Value} (hi : ops[i]? = some oi) (hsel : ∀ (j : Nat) (o : Oper) cs b, ops[j]? = some o → o.op ≠ .select cs b)
    (hQ : ∀ c a w, Q (.panic c) (a.put oi.dst v) w → Q (.panic c) a w) {S : World → Prop} :
    ∀ (fuel : Nat) (pd : Pend) (listed : Array Bool) (a : Act) (w : World),
      (∀ j oj, ops[j]? = some oj → j ≠ i → listed.getD j true = false → (∀ e ∈ oj.after, Region.binds .any e = true → e.on ≠ i) → oi.apart ops oj = true) →
      i ∈ Region.ready .any ops listed → YieldsIf P ops S oi v a → S w → (∀ p ∈ pd, p.2 w) →
      wpAnyP P ops Q fuel ((i, S) :: pd) (listed.setIfInBounds i true) (a.put oi.dst v) w → wpAnyP P ops Q (fuel + 1) pd listed a w := by
  have drop : ∀ (pd : Pend), Covers (Go.Proofs.YtppfcacnofjmdaaGreatDoor.alive ops i pd) ((i, S) :: pd) := fun pd p hp => .inr ⟨p, List.mem_cons_of_mem _ (mem_alive.1 hp).1, rfl, fun _ h => h⟩
  intro fuel
  induction fuel with
  | zero =>
    intro pd listed a w _ hr hy hS hpd H
    refine ⟨fun h => (by rw [h] at hr; cases hr), fun j hj => ?_⟩
    by_cases hji : j = i
    · subst hji; exact hy.wpOp hi hS ⟨fun p hp => hpd p (mem_alive.1 hp).1, H⟩
    · have := ready_mono hj hji
      rw [H.1] at this
      cases this
  | succ fuel ih =>
    intro pd listed a w hfree hr hy hS hpd H
    refine ⟨fun h => (by rw [h] at hr; cases hr), fun j hj => ?_⟩
    by_cases hji : j = i
    · subst hji; exact hy.wpOp hi hS ⟨fun p hp => hpd p (mem_alive.1 hp).1, jC _ (drop pd) _ _ _ H⟩
    · have h1 := H.2 j (ready_mono hj hji)
      obtain ⟨hjun, oj, hoj, hall⟩ := mem_ready.1 hj
      have hnot : ∀ e ∈ oj.after, Region.binds .any e = true → e.on ≠ i := fun e he hb heq => by
        have h1 := hall e he hb
        have h0 := (mem_ready.1 hr).1
        rw [heq] at h1
        rcases Nat.lt_or_ge i listed.size with h' | h'
        · simp [h'] at h0 h1; rw [h0] at h1; cases h1
        · simp [Array.getElem?_eq_none h'] at h1
      have hwait : waitsO oj i = false := by
        unfold waitsO
        rw [List.any_eq_false]
        intro e he h
        rw [Bool.and_eq_true] at h
        exact hnot e (by simpa using he) h.1 (Nat.eq_of_beq_eq_true h.2)
      have hal : Go.Proofs.YtppfcacnofjmdaaGreatDoor.alive ops j ((i, S) :: pd) = (i, S) :: Go.Proofs.YtppfcacnofjmdaaGreatDoor.alive ops j pd := by
        unfold Go.Proofs.YtppfcacnofjmdaaGreatDoor.alive
        rw [hoj]
        simp [List.filter_cons, hwait]
      have h2 := wpOp_putIf hoj (hfree j oj hoj hji hjun hnot) (fun cs b => hsel i oi cs b hi) (fun cs b => hsel j oj cs b hoj) hQ hy h1
      have hfree' : ∀ k ok, ops[k]? = some ok → k ≠ i → (listed.setIfInBounds j true).getD k true = false →
          (∀ e ∈ ok.after, Region.binds .any e = true → e.on ≠ i) → oi.apart ops ok = true := fun k ok hk hki hun hno => by
        refine hfree k ok hk hki ?_ hno
        by_cases hjk : j = k
        · subst hjk; exact hjun
        · rw [getD_set_ne true hjk] at hun; exact hun
      refine wpOp_mono (fun a' w' h3 => ?_) h2
      obtain ⟨h31, h32, h33⟩ := h3
      rw [hal] at h32 h33
      have hpd' : ∀ p ∈ Go.Proofs.YtppfcacnofjmdaaGreatDoor.alive ops j pd, p.2 w' := fun p hp => h32 p (List.mem_cons_of_mem _ hp)
      refine ⟨hpd', ih _ (listed.setIfInBounds j true) a' w' hfree' (ready_mono hr (Ne.symm hji)) h31 (h32 _ (List.mem_cons_self ..)) hpd' ?_⟩
      rw [Array.setIfInBounds_comm _ _ hji]
      exact h33
end
section
variable {P : Program} {ops : Array Oper} {Q : Exit → Act → World → Prop}
def wpMoveP (P : Program) (ops : Array Oper) (Q : Exit → Act → World → Prop) : Pend → List (Nat × Bool) → Act → World → Prop
  | _, [], a, w => Q .normal a w
  | pd, (i, true) :: r, a, w => (∀ p ∈ pd, p.2 w) ∧ ∃ S o v pd', S w ∧ ops[i]? = some o ∧ YieldsIf P ops S o v a ∧ Covers ((i, S) :: pd) pd' ∧ wpMoveP P ops Q pd' r (a.put o.dst v) w
  | pd, (i, false) :: r, a, w => wpOp P ops Q i (fun a' w' => ∃ pd', Covers (alive ops i pd) pd' ∧ (∀ p ∈ pd', p.2 w') ∧ wpMoveP P ops Q pd' r a' w') a w
theorem anyP_of_move (hs : Region.noSelect ops = true) (hQ : ∀ c a d v w, Q (.panic c) (a.put d v) w → Q (.panic c) a w) : ∀ (r : List (Nat × Bool)) (pd : Pend) (ls : Array Bool) (a : Act) (w : World),
    zW .any ops r ls = true → wpMoveP P ops Q pd r a w → wpAnyP P ops Q r.length pd ls a w
  | [], pd, ls, a, w, hB, h => ⟨by simpa [zW] using hB, h⟩
  | (i, true) :: r, pd, ls, a, w, hB, h => by
    obtain ⟨hpd, S, o, v, pd', hS, ho, hy, hc, hr⟩ := h
    simp only [zW, if_true, Bool.and_eq_true] at hB
    exact wpAnyP_first ho (Region.noSelect_spec hs) (fun c a w h => hQ c a _ _ w h) r.length pd ls a w (Region.free_spec ho hB.1.1) (by simpa using hB.1.2) hy hS hpd (jC _ hc _ _ _ (anyP_of_move hs hQ r pd' _ _ w hB.2 hr))
  | (i, false) :: r, pd, ls, a, w, hB, h => by
    simp only [zW, Bool.false_eq_true, if_false, Bool.and_eq_true, beq_iff_eq] at hB
    refine ⟨fun h0 => (by rw [hB.1] at h0; cases h0), fun j hj => ?_⟩
    rw [hB.1] at hj
    obtain rfl : j = i := by simpa using hj
    exact wpOp_mono (fun a' w' h' => by
      obtain ⟨pd', h1, h2, h3⟩ := h'
      exact ⟨h1.at h2, jC _ h1 _ _ _ (anyP_of_move hs hQ r pd' _ _ _ hB.2 h3)⟩) h
end
abbrev Kap := List (Nat × List Nat)
def pendOf (γ : Nat → Value) (own : List (Nat × Box)) (w : World) (κ : Kap) : Pend := κ.map fun p => (p.1, fun x => SameOn (vis p.2 γ own) w x)
theorem wC {γ : Nat → Value} {own : List (Nat × Box)} {w : World} {κ : Kap} : ∀ p ∈ pendOf γ own w κ, p.2 w := fun p hp => by
  obtain ⟨q, _, rfl⟩ := List.mem_map.1 hp
  exact SameOn.refl _ _
def kapB (o : Oper) (κ : Kap) : Kap := κ.filter fun p => !waitsO o p.1
def SWP (P : Program) (ops : List Oper) (κ : Kap) (order : List (Nat × Bool)) (Q : St → Prop) (st : St) : Prop := ∀ (w0 : Base) (Sx : Nat → Prop) (γ : Nat → Value) (a : Act) (w : World) (QQ : Exit → Act → World → Prop), Sim w0 Sx γ st a w →
  (∀ st' γ' a' w', Sim w0 Sx γ' st' a' w' → Q st' → QQ .normal a' w') → wpMoveP P ops.toArray (NoPanic QQ) (pendOf γ st.own w κ) order a w
section
variable {P : Program} {ops : List Oper} {κ : Kap} {st : St} {Q : St → Prop} {i : Nat} {r : List (Nat × Bool)} {o : Oper}
theorem swp_nil (h : Q st) : SWP P ops κ [] Q st := fun _ _ γ a w _ hI hQ => hQ st γ a w hI h
theorem swp_skip {b : Bool} (hi : nthO ops i = some o) (hw : zw ops st o = some false) (hd : zn st o.dst = true) (h : SWP P ops κ r Q (st.put o.dst (.tup []))) : SWP P ops κ ((i, b) :: r) Q st := fun w0 Sx γ a w QQ hI hQ => by
  have hrest := h w0 Sx γ _ w QQ (hI.skip hd) hQ
  simp only [wP] at hrest
  cases b with
  | true => exact ⟨wC, fun _ => True, o, undef, _, trivial, (qZ ops i).trans hi, Or.inr ⟨zD hI hw, rfl⟩, fun p hp => by
      rcases List.mem_cons.1 hp with rfl | hp
      · exact .inl fun _ => trivial
      · exact .inr ⟨p, hp, rfl, fun _ h => h⟩, hrest⟩
  | false =>
    unfold wpMoveP wpOp
    rw [(qZ ops i).trans hi]
    simp only [zD hI hw, Bool.false_eq_true, if_false]
    exact ⟨_, fun p hp => .inr ⟨p, (mem_alive.1 hp).1, rfl, fun _ h => h⟩, wC, hrest⟩
theorem swp_act {Ws : List Nat} (hi : nthO ops i = some o) (hw : zw ops st o = some true) (hK : (kapB o κ).all (fun p => Ws.all fun j => p.2.contains j) = true) (h : ActOk P Ws o st (SWP P ops (kapB o κ) r Q)) : SWP P ops κ ((i, false) :: r) Q st := fun w0 Sx γ a w QQ hI hQ => by
  have hsub : ∀ p ∈ kapB o κ, ∀ j ∈ Ws, j ∈ p.2 := fun p hp j hj => by simpa using List.all_eq_true.1 (List.all_eq_true.1 hK p hp) j hj
  have hio := (qZ ops i).trans hi
  unfold wpMoveP wpOp
  rw [hio]
  simp only [zD hI hw, if_true]
  refine Or.inl ?_
  have := h w0 Sx γ a w (NoPanic QQ) hI
  have mono : ∀ {a' w'}, (∃ γ' st', SWP P ops (kapB o κ) r Q st' ∧ Sim w0 Sx γ' st' a' w' ∧ SameOn (vis Ws γ st.own) w w' ∧ ∀ K : List Nat, (∀ i ∈ Ws, i ∈ K) → ∀ b, b < w.heap.size → vis K γ st.own b → vis K γ' st'.own b) →
      ∃ pd' : Pend, Covers (alive ops.toArray i (pendOf γ st.own w κ)) pd' ∧ (∀ p ∈ pd', p.2 w') ∧ wpMoveP P ops.toArray (NoPanic QQ) pd' r a' w' := fun {a' w'} ⟨γ', st', h1, h2, h3, h4⟩ => by
    refine ⟨pendOf γ' st'.own w' (kapB o κ), fun p hp => ?_, wC, h1 w0 Sx γ' a' w' QQ h2 hQ⟩
    obtain ⟨hp1, hp2⟩ := mem_alive.1 hp
    obtain ⟨q, hq, rfl⟩ := List.mem_map.1 hp1
    have hq' : q ∈ kapB o κ := List.mem_filter.2 ⟨hq, by rw [hp2 o hio]; rfl⟩
    have hs := hsub q hq'
    refine .inr ⟨_, List.mem_map.2 ⟨q, hq', rfl⟩, rfl, fun x hx => ⟨Nat.le_trans h3.size hx.size, fun b hb hv => ?_⟩⟩
    have e1 := h3.block b hb (fun j bx hj hjW hjb => hv j bx hj (by simpa using hs j (by simpa using hjW)) hjb)
    have e2 := hx.block b (Nat.lt_of_lt_of_le hb h3.size) (h4 q.2 hs b hb hv)
    exact e2.trans e1
  unfold Oper.wp at this ⊢
  generalize (execOp a.eval o).run P w = res at *
  cases res with
  | ok n w' =>
    cases n <;> simp only [Oper.upon] at this ⊢ <;> first
      | exact mono this
      | exact this
      | exact Calls.mono this (fun e w'' he => by cases e <;> first | exact mono he | exact he)
      | exact Rows.mono this (fun _ _ he => mono he)
  | halt x w' => cases x <;> simp only [Oper.upon] at this ⊢ <;> exact this
theorem sw_region_pend {id : Nat} {l : List Oper} {QS : SEx → St → Prop} (order : List (Nat × Bool)) (hm : P.follows .mixedOrders = true) (hs : Region.noSelect l.toArray = true)
    (hB : (zW .any l.toArray order (Array.replicate l.toArray.size false) && order.length == l.toArray.size) = true) (h : SWP P l [] order (QS .normal) st) : SW P (.region id l.toArray true) QS st := fun w0 Sx γ a w QQ hI hQ => by
  simp only [Bool.and_eq_true, beq_iff_eq] at hB
  refine wp_region_noPanic (wp_region_any hm (wZ _ [] _ _ _ ?_))
  have h1 := h w0 Sx γ a w.drew QQ hI.drew fun s' γ' a' w' hI' hq => hQ .normal s' γ' a' w' hI' hq
  have := anyP_of_move hs (fun _ _ _ _ _ h => h) order _ (Array.replicate l.toArray.size false) a w.drew hB.1 h1
  rw [hB.2] at this
  exact this
end
end Go.Proofs.YtppfcacnofjmdaaGreatDoor
namespace Go.Proofs.YtppfcacnofjmdaaGreatDoor
set_option linter.unusedVariables false
set_option linter.unusedSimpArgs false
open Go.RowKit
section
variable {α : Type}
def fNat (n : Nat) (k : Nat → α) : α := match n with
  | 0 => k 0
  | .succ m => k (.succ m)
theorem qaj (n : Nat) (k : Nat → α) : fNat n k = k n := by cases n <;> rfl
def fInt (n : Int) (k : Int → α) : α := match n with
  | .ofNat a => fNat a fun a => k (.ofNat a)
  | .negSucc a => fNat a fun a => k (.negSucc a)
theorem fInt_eq (n : Int) (k : Int → α) : fInt n k = k n := by cases n <;> simp [fInt, qaj]
def fBool (b : Bool) (k : Bool → α) : α := match b with
  | true => k true
  | false => k false
theorem fBool_eq (b : Bool) (k : Bool → α) : fBool b k = k b := by cases b <;> rfl
def fList {β : Type} : List β → (List β → α) → α
  | [], k => k []
  | x :: r, k => fList r fun r => k (x :: r)
theorem wa {β : Type} : ∀ (l : List β) (k : List β → α), fList l k = k l
  | [], k => rfl
  | x :: r, k => by rw [fList, wa r]
def fStr (s : ByteArray) (k : ByteArray → α) : α := match s with
  | ⟨⟨l⟩⟩ => fList l fun l => k ⟨⟨l⟩⟩
theorem fStr_eq (s : ByteArray) (k : ByteArray → α) : fStr s k = k s := by
  obtain ⟨⟨l⟩⟩ := s; simp [fStr, wa]
def fVal (v : Value) (k : Value → α) : α := match v with
  | .int q n => fInt n fun n => k (.int q n)
  | .bool b => fBool b fun b => k (.bool b)
  | .string s => fStr s fun s => k (.string s)
  | v => k v
theorem fVal_eq (v : Value) (k : Value → α) : fVal v k = k v := by
  cases v <;> simp [fVal, fInt_eq, fBool_eq, fStr_eq]
def fLeaf (p : PV) (k : PV → α) : α := match p with
  | .v x => fVal x fun x => k (.v x)
  | p => k p
theorem fLeaf_eq (p : PV) (k : PV → α) : fLeaf p k = k p := by cases p <;> simp [fLeaf, fVal_eq]
def fLeafs : List PV → (List PV → α) → α
  | [], k => k []
  | p :: r, k => fLeaf p fun p => fLeafs r fun r => k (p :: r)
theorem fLeafs_eq : ∀ (l : List PV) (k : List PV → α), fLeafs l k = k l
  | [], k => rfl
  | p :: r, k => by rw [fLeafs, fLeaf_eq, fLeafs_eq r]
def fPV (p : PV) (k : PV → α) : α := match p with
  | .v x => fVal x fun x => k (.v x)
  | .agg cs => fLeafs cs fun cs => k (.agg cs)
  | .rp cs => fLeafs cs fun cs => k (.rp cs)
  | .sl z l => fList l fun l => k (.sl z l)
  | p => k p
theorem fPV_eq (p : PV) (k : PV → α) : fPV p k = k p := by cases p <;> simp [fPV, fVal_eq, fLeafs_eq, wa]
def fOne (s : SV) (k : SV → α) : α := match s with
  | .p x => fPV x fun x => k (.p x)
  | .ptr i o => fNat i fun i => fNat o fun o => k (.ptr i o)
  | .eptr i z x o => fNat x fun x => fNat o fun o => k (.eptr i z x o)
  | .view i z lo hi => fNat lo fun lo => fNat hi fun hi => k (.view i z lo hi)
  | s => k s
theorem fOne_eq (s : SV) (k : SV → α) : fOne s k = k s := by cases s <;> simp [fOne, fPV_eq, qaj]
def fOnes : List SV → (List SV → α) → α
  | [], k => k []
  | s :: r, k => fOne s fun s => fOnes r fun r => k (s :: r)
theorem fOnes_eq : ∀ (l : List SV) (k : List SV → α), fOnes l k = k l
  | [], k => rfl
  | s :: r, k => by rw [fOnes, fOne_eq, fOnes_eq r]
def fMid (s : SV) (k : SV → α) : α := match s with
  | .agg cs => fOnes cs fun cs => k (.agg cs)
  | .fn f cs => fOnes cs fun cs => k (.fn f cs)
  | s => fOne s k
theorem fMid_eq (s : SV) (k : SV → α) : fMid s k = k s := by cases s <;> simp [fMid, fOne_eq, fOnes_eq]
def fMids : List SV → (List SV → α) → α
  | [], k => k []
  | s :: r, k => fMid s fun s => fMids r fun r => k (s :: r)
theorem fMids_eq : ∀ (l : List SV) (k : List SV → α), fMids l k = k l
  | [], k => rfl
  | s :: r, k => by rw [fMids, fMid_eq, fMids_eq r]
def fSV (s : SV) (k : SV → α) : α := match s with
  | .tup cs => fMids cs fun cs => k (.tup cs)
  | s => fMid s k
theorem fSV_eq (s : SV) (k : SV → α) : fSV s k = k s := by cases s <;> simp [fSV, fMid_eq, fMids_eq]
def fFr : List (Nat × SV) → (List (Nat × SV) → α) → α
  | [], k => k []
  | (t, s) :: r, k => fMid s fun s => fFr r fun r => k ((t, s) :: r)
theorem fFr_eq : ∀ (l : List (Nat × SV)) (k : List (Nat × SV) → α), fFr l k = k l
  | [], k => rfl
  | (t, s) :: r, k => by rw [fFr, fMid_eq, fFr_eq r]
def fEls : List (List PV) → (List (List PV) → α) → α
  | [], k => k []
  | e :: r, k => fLeafs e fun e => fEls r fun r => k (e :: r)
theorem fEls_eq : ∀ (l : List (List PV)) (k : List (List PV) → α), fEls l k = k l
  | [], k => rfl
  | e :: r, k => by rw [fEls, fLeafs_eq, fEls_eq r]
def fMap : List (Value × PV) → (List (Value × PV) → α) → α
  | [], k => k []
  | (v, p) :: r, k => fVal v fun v => fPV p fun p => fMap r fun r => k ((v, p) :: r)
theorem fMap_eq : ∀ (l : List (Value × PV)) (k : List (Value × PV) → α), fMap l k = k l
  | [], k => rfl
  | (v, p) :: r, k => by rw [fMap, fVal_eq, fPV_eq, fMap_eq r]
def fBox (b : Box) (k : Box → α) : α := match b with
  | .row e z l => fList l fun l => k (.row e z l)
  | .cells cs => fOnes cs fun cs => k (.cells cs)
  | .mp es => fList es fun es => k (.mp es)
theorem fBox_eq (b : Box) (k : Box → α) : fBox b k = k b := by cases b <;> simp [fBox, wa, fOnes_eq]
def fOwn : List (Nat × Box) → (List (Nat × Box) → α) → α
  | [], k => k []
  | (i, b) :: r, k => fNat i fun i => fBox b fun b => fOwn r fun r => k ((i, b) :: r)
theorem fOwn_eq : ∀ (l : List (Nat × Box)) (k : List (Nat × Box) → α), fOwn l k = k l
  | [], k => rfl
  | (i, b) :: r, k => by rw [fOwn, qaj, fBox_eq, fOwn_eq r]
end
def ible (a b : Int) : Bool := match a, b with
  | .ofNat a, .ofNat b => Nat.ble a b
  | .negSucc _, .ofNat _ => true
  | .ofNat _, .negSucc _ => false
  | .negSucc a, .negSucc b => Nat.ble b a
theorem jT {a b : Int} (h : ible a b = true) : a ≤ b := by
  cases a <;> cases b <;> simp only [ible, Nat.ble_eq] at h <;> first | (cases h; done) | (simp only [Int.ofNat_eq_natCast, Int.negSucc_eq]; omega)
def wu (n : Int) (m : Nat) : Bool := match n with
  | .ofNat a => Nat.blt a m
  | .negSucc _ => false
theorem jq {n : Int} {m : Nat} (h : wu n m = true) : 0 ≤ n ∧ n < m := by
  cases n <;> simp [wu, Nat.blt] at h
  simp only [Int.ofNat_eq_natCast]; omega
def sEq : List UInt8 → List UInt8 → Bool
  | [], [] => true
  | a :: r, b :: s => bif Nat.beq a.toNat b.toNat then sEq r s else false
  | _, _ => false
noncomputable def lkF {α : Type} (t : Nat) (l : List (Nat × α)) : Option α := @List.rec (Nat × α) (fun _ => Option α) none (fun p _ ih => @Prod.rec Nat α (fun _ => Option α) (fun u s => @Bool.rec (fun _ => Option α) ih (some s) (Nat.beq t u)) p) l
theorem qY {α : Type} (t : Nat) : ∀ l : List (Nat × α), lkF t l = lk t l
  | [] => rfl
  | (u, s) :: r => by
    have ih := qY t r
    unfold lkF at ih ⊢
    rw [lk]
    show @Bool.rec (fun _ => Option α) _ _ _ = _
    cases h : Nat.beq t u <;> simp [ih]
noncomputable def evF (st : St) (x : Operand) : Option SV := match x with
  | .tmp t => lkF t st.fr
  | x => evS st x
theorem evF_eq (st : St) (x : Operand) : evF st x = evS st x := by cases x <;> simp [evF, evS, qY]
noncomputable section
def binC (op : BinOp) (a b : Value) : Bool := match op with
  | .shl => (match b with | .int _ b => ible 0 b | _ => false)
  | .shr => (match b with | .int _ b => ible 0 b | _ => false)
  | .quo => (match b with | .int _ b => !(decide (b = 0)) | _ => false)
  | .rem => (match b with | .int _ b => !(decide (b = 0)) | _ => false)
  | .add => (match a, b with | .string a, .string b => Nat.ble (a.size + b.size) 9223372036854775807 | _, _ => true)
  | _ => true
def rBinC (T : TT) (op : BinOp) (t : TypeId) (a b : Option SV) : Bool := match a, b with
  | some (.p (.v a)), some (.p (.v b)) => binC op a b
  | some (.p (.agg xs)), some (.p (.agg _)) => (match lkF t T with
    | some ⟨_, _, _, z, _⟩ => zm xs z
    | none => false)
  | _, _ => false
def jn (T : TT) (st : St) (t : TypeId) (a i : Option SV) : Bool := match i with
  | some (.p (.v (.int _ n))) => (match a with
    | some (.p (.sl _ l)) => wu n l.length
    | some (.row j) => (match lkF j st.own with
      | some (.row _ _ l) => wu n l.length
      | _ => false)
    | some (.view _ _ lo hi) => wu n (hi - lo)
    | _ => (match lkF t T with
      | some ⟨_, _, .arr len _, _, _⟩ => wu n len
      | _ => false))
  | _ => false
def rIndexC (T : TT) (t : TypeId) (a i : Option SV) : Bool := match i with
  | some (.p (.v (.int _ n))) => (match a with
    | some (.p (.v (.string s))) => wu n s.size
    | _ => (match lkF t T with
      | some ⟨_, _, .arr len _, _, _⟩ => wu n len
      | _ => false))
  | _ => false
def endsC (st : St) (n : Nat) (lo hi : Option Operand) : Bool := match ends st n lo hi with
  | some (l, h) => (ible 0 l && ible l h) && ible h (.ofNat n)
  | none => false
def rSliceC (st : St) (a : Option SV) (lo hi : Option Operand) : Bool := match a with
  | some (.p (.v (.string s))) => endsC st s.size lo hi
  | some (.p (.sl _ xs)) => endsC st xs.length lo hi
  | some (.row j) => (match lkF j st.own with
    | some (.row _ _ xs) => endsC st xs.length lo hi
    | _ => false)
  | some (.view _ _ lo0 hi0) => endsC st (hi0 - lo0) lo hi
  | _ => false
def rLoadC (st : St) (a : Option SV) : Bool := match a with
  | some (.eptr j _ k _) => (match lkF j st.own with
    | some (.row _ _ l) => Nat.blt k l.length
    | _ => false)
  | _ => true
def rLookupC (T : TT) (st : St) (t : TypeId) (m : Option SV) : Bool := match m, lkF t T with
  | some (.row j), some ⟨_, _, .mp kt _, _, _⟩ => (match lkF kt T, lkF j st.own with
    | some ki, some (.mp es) => es.all fun x => kdOk ki.d x.1
    | _, _ => false)
  | _, _ => false
section
variable {β : Type}
def goF (r : Option (Prop × SV)) (c : Bool) (k : SV → Option β) : Option β := match r with
  | some (_, s) => bif c then fSV s k else none
  | none => none
def goP (r : Option (Prop × SV)) (k : SV → Option β) : Option β := match r with
  | some (_, s) => k s
  | none => none
def goS (r : Option SV) (k : SV → Option β) : Option β := match r with
  | some s => k s
  | none => none
def eStr (op : BinOp) (a b : ByteArray) (k : SV → Option β) : Option β := match op with
  | .eql => fBool (sEq a.data.toList b.data.toList) fun r => k (.p (.v (.bool r)))
  | .neq => fBool (!(sEq a.data.toList b.data.toList)) fun r => k (.p (.v (.bool r)))
  | .add => bif Nat.ble (a.size + b.size) 9223372036854775807 then fList (a.data.toList ++ b.data.toList) fun l => k (.p (.v (.string ⟨⟨l⟩⟩))) else none
  | .lss => fBool (Op.bytesLess a.data.toList b.data.toList) fun r => k (.p (.v (.bool r)))
  | .geq => fBool (!(Op.bytesLess a.data.toList b.data.toList)) fun r => k (.p (.v (.bool r)))
  | .leq => fBool (Op.bytesLess a.data.toList b.data.toList || sEq a.data.toList b.data.toList) fun r => k (.p (.v (.bool r)))
  | .gtr => fBool (!(Op.bytesLess a.data.toList b.data.toList || sEq a.data.toList b.data.toList)) fun r => k (.p (.v (.bool r)))
  | _ => none
def isNil (T : TT) (st : St) (t : TypeId) (ptr : Bool) (a : SV) : Option Bool := match lkF t T, ptr with
  | some ⟨_, _, .sl _, _, _⟩, false => (match a with
    | .p (.v (.slice none 0 0)) => some true
    | .p (.sl _ (_ :: _)) => some false
    | .row j => (match lkF j st.own with
      | some (.row _ _ (_ :: _)) => some false
      | _ => none)
    | _ => none)
  | some ⟨_, _, .ptr, _, _⟩, true => (match a with
    | .p (.v (.pointer none)) => some true
    | .p (.rp _) => some false
    | .ptr _ _ => some false
    | .eptr _ _ _ _ => some false
    | _ => none)
  | _, _ => none
def eIfc (T : TT) (op : BinOp) (t t' : TypeId) (a : Option SV) (k : SV → Option β) : Option β := match a, lkF t T, Nat.beq t t' with
  | some (.p (.v .nilIface)), some ⟨_, _, .ifc, _, _⟩, true => (match op with
    | .eql => k (.p (.v (.bool true)))
    | .neq => k (.p (.v (.bool false)))
    | _ => none)
  | _, _, _ => none
def eNil (T : TT) (st : St) (op : BinOp) (t t' : TypeId) (ptr : Bool) (a : Option SV) (k : SV → Option β) : Option β := match a, Nat.beq t t' with
  | some a, true => (match isNil T st t ptr a, op with
    | some b, .eql => k (.p (.v (.bool b)))
    | some true, .neq => k (.p (.v (.bool false)))
    | some false, .neq => k (.p (.v (.bool true)))
    | _, _ => none)
  | _, _ => none
def isConst : Operand → Bool
  | .const _ => true
  | _ => false
def eBin (T : TT) (st : St) (op : BinOp) (t t' : TypeId) (cst : Bool) (a b : Option SV) (k : SV → Option β) : Option β := match a, b with
  | some (.p (.v (.string a))), some (.p (.v (.string b))) => eStr op a b k
  | a, some (.p (.v (.slice none 0 0))) => eNil T st op t t' false a k
  | a, some (.p (.v (.pointer none))) => eNil T st op t t' true a k
  | a, some (.p (.v .nilIface)) => bif cst then eIfc T op t t' a k else none
  | a, b => goF (rBin T op t a b) (rBinC T op t a b) k
def eIndex (T : TT) (t : TypeId) (a i : Option SV) (k : SV → Option β) : Option β := match a, i with
  | some (.p (.v (.string s))), some (.p (.v (.int _ n))) => (match lkF t T with
    | some ⟨_, _, .str, _, _⟩ => (match s.data.toList[n.toNat]? with
      | some b => bif wu n s.size then fNat b.toNat fun b => k (.p (.v (.int .u8 (.ofNat b)))) else none
      | none => none)
    | _ => none)
  | a, i => goF (rIndex T t a i) (rIndexC T t a i) k
def eSliceX (T : TT) (st : St) (t : TypeId) (a : Option SV) (lo hi : Option Operand) (k : SV → Option β) : Option β := match lkF t T with
  | some ⟨_, _, .sl e, _, _⟩ => (match a, ends st 0 lo hi with
    | some (.p (.v (.slice none 0 0))), some (l, h) => bif (lkF e T).isSome && (ible 0 l && ible l h && ible h 0) then k (.p (.v (.slice none 0 0))) else none
    | _, _ => none)
  | _ => none
def eSlice (T : TT) (st : St) (t : TypeId) (a : Option SV) (lo hi mx : Option Operand) (k : SV → Option β) : Option β := match a with
  | some (.p (.v (.string s))) => (match mx, lkF t T, ends st s.size lo hi with
    | none, some ⟨_, _, .str, _, _⟩, some (l, h) => bif (ible 0 l && ible l h) && ible h (.ofNat s.size) then fList ((s.data.toList.drop l.toNat).take (h.toNat - l.toNat)) fun l => k (.p (.v (.string ⟨⟨l⟩⟩))) else none
    | _, _, _ => none)
  | some (.p (.v (.slice none 0 0))) => (match mx with
    | none => eSliceX T st t a lo hi k
    | some _ => none)
  | a => goF (rSlice T st t a lo hi mx) (rSliceC st a lo hi) k
def eCall (T : TT) (st : St) (c : Call) (k : SV → Option β) : Option β := match c.callee with
  | .builtin .len => (match c.args.toList, c.argTypes.toList with
    | [x], [t] => goF (rLen T st t (evF st x)) true k
    | _, _ => none)
  | .builtin .min => (match c.args.toList with
    | [x, y] => goF (rMinMax true (evF st x) (evF st y)) true k
    | _ => none)
  | .builtin .max => (match c.args.toList with
    | [x, y] => goF (rMinMax false (evF st x) (evF st y)) true k
    | _ => none)
  | .builtin .real => (match c.args.toList with
    | [x] => goP (rReal (evF st x)) k
    | _ => none)
  | .builtin .imag => (match c.args.toList with
    | [x] => goP (rImag (evF st x)) k
    | _ => none)
  | .builtin .complex => (match c.args.toList with
    | [x, y] => goP (rCplx (evF st x) (evF st y)) k
    | _ => none)
  | _ => none
def eUn (op : UnOp) (x : Option SV) (k : SV → Option β) : Option β := match x with
  | some (.p (.v v)) => (match unS op v with
    | some v => fVal v fun v => k (.p (.v v))
    | none => none)
  | _ => none
def eFn (T : TT) (K : List Nat) (st : St) (o : Op) (k : SV → Option β) : Option β := goF (opR T K st o) true k
def eExtract (x : Option SV) (n : Nat) (k : SV → Option β) : Option β := match x with
  | some (.tup cs) => goS cs[n]? k
  | _ => none
def byteOf : List PV → Option UInt8
  | [.v (.int .u8 n)] => some (UInt8.ofNat n.toNat)
  | _ => none
def bytesOf : List (List PV) → Option (List UInt8)
  | [] => some []
  | c :: r => match byteOf c with
    | some b => match bytesOf r with
      | some l => some (b :: l)
      | none => none
    | none => none
def eText (T : TT) (s d : TypeId) (l : List (List PV)) (k : SV → Option β) : Option β := match lkF s T, lkF d T with
  | some ⟨_, _, .sl e, _, _⟩, some ⟨_, _, .str, _, _⟩ => (match lkF e T, bytesOf l with
    | some ⟨_, _, .int .u8, _, _⟩, some bs => fList bs fun bs => k (.p (.v (.string ⟨⟨bs⟩⟩)))
    | _, _ => none)
  | _, _ => none
def eConv (T : TT) (K : List Nat) (st : St) (s d : TypeId) (a : Option SV) (k : SV → Option β) : Option β := match a with
  | some (.p (.sl _ l)) => eText T s d l k
  | some (.p (.v (.slice none 0 0))) => eText T s d [] k
  | some (.row j) => bif K.contains j then none else (match lkF j st.own with
    | some (.row _ _ l) => eText T s d l k
    | _ => none)
  | a => goF (rConv T s d a) true k
def isRd (o : Op) : Bool := match o with
  | .move _ => true | .assign _ => true | .pick _ _ _ => true | .binOp _ _ _ _ _ => true | .unOp _ _ _ => true | .convert _ _ _ => true | .field _ _ _ => true | .fieldAddr _ _ _ => true
  | .indexAddr _ _ _ => true | .index _ _ _ => true | .slice _ _ _ _ _ => true | .load _ _ => true | .extract _ _ => true | .makeFunc _ _ _ => true | .lookup _ _ _ _ => true | .build _ _ => true | .nilCheck _ => true
  | .call c => (match c.callee with | .builtin .append => false | .builtin _ => true | _ => false)
  | _ => false
def opE (T : TT) (K : List Nat) (st : St) (o : Op) (k : SV → Option β) : Option β := match o with
  | .move x => goS (evF st x) k
  | .assign x => goS (evF st x) k
  | .pick c a b => goP (rPick (evF st c) (evF st a) (evF st b)) k
  | .binOp op t x y t' => eBin T st op t t' (isConst y) (evF st x) (evF st y) k
  | .unOp op _ x => eUn op (evF st x) k
  | .convert s d x => eConv T K st s d (evF st x) k
  | .field t x f => goF (rField T t (evF st x) f) true k
  | .fieldAddr t x f => goF (wR T t (evF st x) f) true k
  | .indexAddr t x i => goF (wh T st t (evF st x) (evF st i)) (jn T st t (evF st x) (evF st i)) k
  | .index t x i => eIndex T t (evF st x) (evF st i) k
  | .slice t x lo hi mx => eSlice T st t (evF st x) lo hi mx k
  | .load t a => goF (rLoad T K st t (evF st a)) (rLoadC st (evF st a)) k
  | .extract x n => eExtract (evF st x) n k
  | .makeFunc f first caps => eFn T K st (.makeFunc f first caps) k
  | .call c => eCall T st c k
  | .lookup t m key true => goF (rLookup T K st t (evF st m) (evF st key)) (rLookupC T st t (evF st m)) k
  | .build t parts => eFn T K st (.build t parts) k
  | .nilCheck x => eFn T K st (.nilCheck x) k
  | _ => none
end
def mem (i : Nat) : List Nat → Bool
  | [] => false
  | j :: r => bif Nat.beq i j then true else mem i r
mutual
def refs : SV → List Nat
  | .p _ => []
  | .junk => []
  | .row i => [i]
  | .ptr i _ => [i]
  | .eptr i _ _ _ => [i]
  | .view i _ _ _ => [i]
  | .agg cs => refss cs
  | .tup cs => refss cs
  | .fn _ cs => refss cs
def refss : List SV → List Nat
  | [] => []
  | s :: r => refs s ++ refss r
end
def reach (own : List (Nat × Box)) : Nat → List Nat → List Nat → List Nat
  | 0, _, seen => seen
  | _ + 1, [], seen => seen
  | f + 1, i :: todo, seen => bif mem i seen then reach own f todo seen else match lkF i own with
    | some (.cells cs) => reach own f (refss cs ++ todo) (i :: seen)
    | some _ => reach own f todo (i :: seen)
    | none => reach own f todo seen
def ju (big : Bool) : Nat → List Nat → List (Nat × Nat)
  | _, [] => []
  | k, i :: r => bif !big && Nat.ble 1000000 i then (i, i) :: ju big k r else (i, k) :: ju big (k + 1) r
def rowsIn (st : St) : List Nat → List Nat
  | [] => []
  | i :: r => match lkF i st.own with
    | some (.row _ _ _) => i :: rowsIn st r
    | _ => rowsIn st r
def keys : List (Nat × SV) → List Nat → List Nat
  | [], acc => acc
  | (t, .junk) :: r, acc => keys r acc
  | (t, _) :: r, acc => bif mem t acc then keys r acc else keys r (t :: acc)
section
variable {α : Type}
def fNats : List Nat → (List Nat → α) → α
  | [], k => k []
  | i :: r, k => fNat i fun i => fNats r fun r => k (i :: r)
theorem fNats_eq : ∀ (l : List Nat) (k : List Nat → α), fNats l k = k l
  | [], k => rfl
  | i :: r, k => by rw [fNats, qaj, fNats_eq r]
def fRen : List (Nat × Nat) → (List (Nat × Nat) → α) → α
  | [], k => k []
  | (i, j) :: r, k => fNat i fun i => fNat j fun j => fRen r fun r => k ((i, j) :: r)
theorem fRen_eq : ∀ (l : List (Nat × Nat)) (k : List (Nat × Nat) → α), fRen l k = k l
  | [], k => rfl
  | (i, j) :: r, k => by rw [fRen, qaj, qaj, fRen_eq r]
def fSt (st : St) (k : St → α) : α := match st with
  | ⟨n, fr, own⟩ => fNat n fun n => fFr fr fun fr => fOwn own fun own => k ⟨n, fr, own⟩
theorem fSt_eq (st : St) (k : St → α) : fSt st k = k st := by cases st; simp [fSt, qaj, fFr_eq, fOwn_eq]
def fN (st : St) (k : St → α) : α := match st with
  | ⟨n, fr, own⟩ => fNat n fun n => k ⟨n, fr, own⟩
theorem fN_eq (st : St) (k : St → α) : fN st k = k st := by cases st; simp [fN, qaj]
def putE (st : St) (dst : Option Tmp) (s : SV) (k : St → α) : α := match dst, st with
  | some d, ⟨n, fr, own⟩ => k ⟨n, (d, s) :: fr, own⟩
  | none, st => k st
theorem putE_eq (st : St) (dst : Option Tmp) (s : SV) (k : St → α) : putE st dst s k = k (st.put dst s) := by cases dst <;> rfl
end
section
variable {β : Type}
def frzAll : List Nat → St → (St → Option β) → Option β
  | [], st, k => k st
  | i :: r, st, k => match lkF i st.own with
    | some (.row _ z l) => fSt (st.frz i z l) fun st => frzAll r st k
    | _ => frzAll r st k
structure FnI where
  n : Nat
  c : Code
  ts : List ResultVar
  ords : List (Nat × List (Nat × Bool))
structure Cx where
  T : TT
  F : List (FuncId × FnI)
  C : FuncId → List PV → Option SV
abbrev Ret := Option (SV × List (Nat × Box))
def newBox (st : St) (d : Nat) (s : SV) (bx : Box) (k : List Nat → St → Option β) : Option β :=
  bif (lkF d st.own).isNone && Nat.blt d st.n then fBox bx fun bx => fN ⟨st.n, (d, s) :: st.fr, (d, bx) :: st.own⟩ fun st => k [] st else none
def rhoOk (ρ : List (Nat × Nat)) : Bool := (dist (ρ.map (·.1)) && dist (ρ.map (·.2))) && ρ.all (fun p => Nat.ble 1000000 p.2)
def backE (st : St) (o : Oper) (ρ : List (Nat × Nat)) (rt : Ret) (k : List Nat → St → Option β) : Option β := match rt with
  | some (r, own') => bif zn st o.dst && backOk st ρ o.dst own' then (match st.back ρ o.dst r own' with
    | some st' => fSt st' fun st' => k (ρ.map (·.1)) st'
    | none => none) else none
  | none => none
def enterE (ev : FuncId → FnI → List SV → List (Nat × Box) → Ret) (st : St) (o : Oper) (f : FuncId) (fi : FnI) (caps : List SV) (xs : List Operand) (ρ : List (Nat × Nat)) (k : List Nat → St → Option β) : Option β := match ownR ρ st.own ρ, argWs st ρ xs, mapRs ρ caps with
  | some own, some a, some c => bif rhoOk ρ then (fOnes (a ++ c) fun args => fOwn own fun own => backE st o ρ (ev f fi args own) k) else none
  | _, _, _ => none
def callE (cx : Cx) (ev : FuncId → FnI → List SV → List (Nat × Box) → Ret) (st : St) (o : Oper) (pf : Bool) (f : FuncId) (caps : List SV) (xs : List Operand) (k : List Nat → St → Option β) : Option β :=
  match lkF f cx.F with
  | some fi => (match evs st xs with
    | some ss => fRen (ju true 1000000 (reach st.own 1000 (refss ss ++ refss caps) [])) fun ρ => enterE ev st o f fi caps xs ρ k
    | none => none)
  | none => (match pf, pures caps, argPs st xs with
    | true, some cps, some (ps, _) => (match cx.C f (ps ++ cps) with
      | some r => bif flatS r && zn st o.dst then (putE st o.dst r fun st => k [] st) else none
      | none => none)
    | _, _, _ => none)
def isPS : SV → Bool
  | .p _ => true
  | _ => false
def appRow (st : St) (d : Nat) (e : TypeId) (ei : TyI) (j : Nat) (s2 : Option SV) (k : St → Option β) : Option β := match lkF j st.own, s2 with
  | some (.row e' z l), some s2 => (match srcL st ei.size (some j) s2 with
    | some l2 => bif Nat.beq e' e && Nat.beq z ei.size && Nat.ble (l.length + l2.length) reachBytes && Nat.ble ((l.length + l2.length) * ei.bytes) 140737488355328 && (lk d (killO j st.own)).isNone then
      (fList (l ++ l2) fun l3 => fSt ⟨st.n, (d, .row d) :: killF j st.fr, (d, .row e ei.size l3) :: killO j st.own⟩ k) else none
    | none => none)
  | _, _ => none
def shrunk (st : St) (t j z m : Nat) (e : TypeId) (l : List (List PV)) : St := ⟨st.n, (t, .row 904999) :: killF j st.fr, (904999, .row e z (l.take m)) :: killO j st.own⟩
def appView (st : St) (d : Nat) (e : TypeId) (ei : TyI) (sx xx : Operand) (j zv m : Nat) (k : St → Option β) : Option β := match sx, lkF j st.own with
  | .tmp t, some (.row e' z l0) => bif (lk 904999 st.own).isNone && Nat.beq zv z then fSt (shrunk st t j z m e' l0) fun st1 => appRow st1 d e ei 904999 (evF st1 xx) k else none
  | _, _ => none
def appNil (st : St) (d : Nat) (e : TypeId) (ei : TyI) (s2 : Option SV) (k : List Nat → St → Option β) : Option β := match s2 with
  | some s2 => (match srcL st ei.size none s2 with
    | some l2 => bif Nat.ble (l2.length * ei.bytes) 140737488355328 then newBox st d (.row d) (.row e ei.size l2) k else none
    | none => none)
  | none => none
def appE (T : TT) (st : St) (o : Oper) (sx xx : Operand) (t : TypeId) (k : List Nat → St → Option β) : Option β := match o.dst, lkF t T with
  | some d, some ⟨_, _, .sl e, _, _⟩ => (match lkF e T with
    | some ei => bif Nat.blt 0 ei.size && Nat.beq ei.zero.length ei.size && Nat.blt d st.n then (match evF st sx with
      | some (.p (.v (.slice none 0 0))) => appNil st d e ei (evF st xx) k
      | some (.row j) => appRow st d e ei j (evF st xx) fun st => k [j] st
      | some (.view j z 0 m) => appView st d e ei sx xx j z m fun st => k [j] st
      | _ => none) else none
    | none => none)
  | _, _ => none
def boxE (st : St) (dst : Option Tmp) (s : Option SV) (k : List Nat → St → Option β) : Option β := match dst, s with
  | some d, some s => (match cellsOf s with
    | some cs => bif cs.all oneS then newBox st d (.ptr d 0) (.cells cs) k else none
    | none => none)
  | _, _ => none
def allocE (T : TT) (st : St) (dst : Option Tmp) (e : TypeId) (k : List Nat → St → Option β) : Option β := match dst, lkF e T with
  | some d, some i => bif i.zero.all plain then newBox st d (.ptr d 0) (.cells (i.zero.map fun z => .p (.v z))) k else none
  | _, _ => none
def buildE (T : TT) (st : St) (dst : Option Tmp) (t : TypeId) (len : Nat) (xs : List Operand) (k : List Nat → St → Option β) : Option β := match dst, lkF t T, evs st xs with
  | some d, some ⟨_, _, .sl e, _, _⟩, some ss => (match lkF e T with
    | some ei => bif Nat.blt 0 ei.size && Nat.ble (len * ei.size) 16777216 && Nat.beq xs.length len then
        (fNats (rowsIn st (refss ss)) fun ids => frzAll ids st fun st => match bElems st ei.size xs with
          | some l => fEls l fun l => newBox st d (.row d) (.row e ei.size l) k
          | none => none)
        else none
    | none => none)
  | _, _, _ => none
def storeE (T : TT) (st : St) (t : TypeId) (ad x : Option SV) (k : List Nat → St → Option β) : Option β := match lkF t T, ad, x with
  | some ti, some (.ptr j off), some s => (match lkF j st.own, cellsOf s with
    | some (.cells cs), some xs => bif xs.all oneS && Nat.beq xs.length ti.size && Nat.ble (off + xs.length) cs.length then
        (fOnes (cs.take off ++ xs ++ cs.drop (off + xs.length)) fun cs => fOwn (setB j (.cells cs) st.own) fun own => fN ⟨st.n, st.fr, own⟩ fun st => k [j] st) else none
    | _, _ => none)
  | some ti, some (.eptr j z i off), some s => (match lkF j st.own, cellsP s with
    | some (.row e z' l), some xs => bif Nat.beq z z' && xs.all oneP && Nat.beq xs.length ti.size && Nat.ble (off + xs.length) z && Nat.blt i l.length then
        (fLeafs ((l.getD i []).take off ++ xs ++ (l.getD i []).drop (off + xs.length)) fun c => fList (l.set i c) fun l => fOwn (setB j (.row e z l) st.own) fun own => fN ⟨st.n, st.fr, own⟩ fun st => k [j] st) else none
    | _, _ => none)
  | _, _, _ => none
def mapE (T : TT) (st : St) (t : TypeId) (m key x : Option SV) (k : List Nat → St → Option β) : Option β := match lkF t T, m, key, x with
  | some ⟨_, _, .mp kt _, _, _⟩, some (.row j), some (.p (.v kv)), some (.p p) => (match lkF kt T, lkF j st.own with
    | some ki, some (.mp es) => bif kdOk ki.d kv && es.all (fun x => kdOk ki.d x.1) && (mfind kv es).isNone then
        (fMap (es ++ [(kv, p)]) fun es => fOwn (setB j (.mp es) st.own) fun own => fN ⟨st.n, st.fr, own⟩ fun st => k [j] st) else none
    | _, _ => none)
  | _, _, _, _ => none
def acallE (cx : Cx) (ev : FuncId → FnI → List SV → List (Nat × Box) → Ret) (st : St) (o : Oper) (c : Call) (k : List Nat → St → Option β) : Option β := match c.callee with
  | .builtin .append => (match c.args.toList, c.argTypes.toList with
    | [sx, xx], [t, t'] => bif Nat.beq t t' then appE cx.T st o sx xx t k else none
    | _, _ => none)
  | .value fo => (match evF st fo with
    | some s => (match fnOf s with
      | some (f, caps) => callE cx ev st o (isPS s) f caps c.args.toList k
      | none => none)
    | none => none)
  | _ => none
def actE (cx : Cx) (ev : FuncId → FnI → List SV → List (Nat × Box) → Ret) (st : St) (o : Oper) (k : List Nat → St → Option β) : Option β := match o.op with
  | .alloc e => allocE cx.T st o.dst e k
  | .box _ x => boxE st o.dst (evF st x) k
  | .buildSlice t len parts => (match jJ 0 parts.toList with
    | some xs => buildE cx.T st o.dst t len xs k
    | none => none)
  | .store t ad x => (match o.dst with
    | none => storeE cx.T st t (evF st ad) (evF st x) k
    | some _ => none)
  | .makeMap _ none => (match o.dst with
    | some d => newBox st d (.row d) (.mp []) k
    | none => none)
  | .mapUpdate t m key x => (match o.dst with
    | none => mapE cx.T st t (evF st m) (evF st key) (evF st x) k
    | some _ => none)
  | .call c => acallE cx ev st o c k
  | _ => none
def stepE (cx : Cx) (ev : FuncId → FnI → List SV → List (Nat × Box) → Ret) (K : List Nat) (st : St) (o : Oper) (k : List Nat → St → Option β) : Option β :=
  bif isRd o.op then (bif zn st o.dst then opE cx.T K st o.op fun s => putE st o.dst s fun st => k [] st else none) else actE cx ev st o k
end
def evT (cx : Cx) (ev : FuncId → FnI → List SV → List (Nat × Box) → Ret) (ops : List Oper) : List Oper → St → Option St
  | [], st => some st
  | o :: r, st => match zw ops st o with
    | some true => stepE cx ev [] st o fun _ st' => evT cx ev ops r st'
    | some false => bif zn st o.dst then putE st o.dst (.tup []) fun st => evT cx ev ops r st else none
    | none => none
def kapOf (K : List Nat) (st : St) (o : Op) : List Nat := match o with
  | .load _ a => (match evF st a with
    | some s => K.filter fun j => !mem j (refs s)
    | none => K)
  | .lookup _ m _ _ => (match evF st m with
    | some s => K.filter fun j => !mem j (refs s)
    | none => K)
  | .convert _ _ x => (match evF st x with
    | some (.row j) => K.filter fun i => !(Nat.beq i j)
    | _ => K)
  | _ => K
def okW (w : List Nat) (κ : Kap) : Bool := κ.all fun p => w.all fun i => mem i p.2
def evM (cx : Cx) (ev : FuncId → FnI → List SV → List (Nat × Box) → Ret) (ops : List Oper) (K : List Nat) (chk : Bool) : List (Nat × Bool) → Kap → List Nat → St → Option (List Nat × St)
  | [], _, ws, st => some (ws, st)
  | (i, b) :: r, κ, ws, st => match nthO ops i with
    | some o => match zw ops st o with
      | some true => bif b then (bif zn st o.dst then fNats (kapOf K st o.op) fun Ki => opE cx.T Ki st o.op fun s => putE st o.dst s fun st => evM cx ev ops K chk r ((i, Ki) :: κ) ws st else none)
        else stepE cx ev [] st o fun w st' => bif !chk || okW w (kapB o κ) then evM cx ev ops K chk r (kapB o κ) (w ++ ws) st' else none
      | some false => bif zn st o.dst then putE st o.dst (.tup []) fun st => evM cx ev ops K chk r κ ws st else none
      | none => none
    | none => none
def dstsOf : List Oper → List Nat
  | [] => []
  | o :: r => match o.dst with
    | some d => d :: (1000 * (d + 1)) :: dstsOf r
    | none => dstsOf r
def idsOf : List (Nat × Box) → List Nat
  | [] => []
  | (i, _) :: r => i :: idsOf r
def evReg (cx : Cx) (ev : FuncId → FnI → List SV → List (Nat × Box) → Ret) (ords : List (Nat × List (Nat × Bool))) (id : Nat) (ops : List Oper) (st : St) : Bool → Option St
  | false => evT cx ev ops ops st
  | true => match lkF id ords with
    | some od => fNats (idsOf st.own ++ dstsOf ops) fun K0 => match evM cx ev ops K0 true od [] [] st with
      | some (_, st') => some st'
      | none => match evM cx ev ops [] false od [] [] st with
        | some ([], st') => some st'
        | some (ws, _) => fNats ws fun ws => match evM cx ev ops ws true od [] [] st with
          | some (_, st') => some st'
          | none => none
        | none => none
    | none => none
def lent : List (Nat × Box) → List Nat
  | [] => []
  | (i, _) :: r => bif Nat.ble 1000000 i then i :: lent r else lent r
def turnE {β : Type} (ts : List Nat) (st : St) (k : St → Option β) : Option β :=
  fRen (ju false 905000 (reach st.own 1000 (match frR (st.own.map fun p => (p.1, p.1)) st.fr ts with | some fr => refss (fr.map (·.2)) ++ lent st.own | none => lent st.own) [])) fun ρ => bif renOk ρ then (match st.only ts ρ with
    | some st' => fSt st' k
    | none => none) else none
def evC (cx : Cx) (ev : FuncId → FnI → List SV → List (Nat × Box) → Ret) (ords : List (Nat × List (Nat × Bool))) (again : Code → St → Option (SEx × St)) (jump : Code → Nat → St → Option (SEx × St)) : Code → St → Option (SEx × St)
  | .skip, st => some (.normal, st)
  | .region id ops d, st => match evReg cx ev ords id ops.toList st d with
    | some st' => some (.normal, st')
    | none => none
  | .seq a b, st => match evC cx ev ords again jump a st with
    | some (.normal, st') => evC cx ev ords again jump b st'
    | r => r
  | .cond c a b, st => match evF st c with
    | some (.p (.v (.bool true))) => evC cx ev ords again jump a st
    | some (.p (.v (.bool false))) => evC cx ev ords again jump b st
    | _ => none
  | .block id b, st => match evC cx ev ords again jump b st with
    | some (.exit i, st') => bif Nat.beq i id then some (.normal, st') else some (.exit i, st')
    | r => r
  | .loop b, st => fNats (keys st.fr []) fun ts => match evC cx ev ords again jump b st with
    | some (.normal, st') => turnE ts st' fun st'' => again (.loop b) st''
    | r => r
  | .exit id, st => some (.exit id, st)
  | .ret, st => some (.ret, st)
  | .label _, st => some (.normal, st)
  | .goto l, st => some (.goto l, st)
  | .scope b, st => match evC cx ev ords again jump b st with
    | some (.goto l, st') => turnE (keys st'.fr []) st' fun st'' => jump b l st''
    | r => r
  | _, _ => none
def resO (T : TT) (st : St) : ResultVar → Option SV
  | .tmp t => lk t st.fr
  | .cell a t => match rLoad T [] st t (lk a st.fr), lk a st.fr with
    | some (_, s), some (.ptr _ _) => some s
    | _, _ => none
def resOs (T : TT) (st : St) : List ResultVar → Option (List SV)
  | [] => some []
  | t :: r => match resO T st t with
    | some s => match resOs T st r with
      | some l => some (s :: l)
      | none => none
    | none => none
def resC (T : TT) (st : St) : List ResultVar → Option SV
  | [t] => resO T st t
  | ts => match resOs T st ts with
    | some l => some (.tup l)
    | none => none
def finE (T : TT) (ts : List ResultVar) (st : St) : Ret := match resC T st ts with
  | some s => fRen (ju false 0 (reach st.own 1000 (refs s ++ lent st.own) [])) fun ρ => match s.mapR ρ, ownR ρ st.own ρ with
    | some r, some own => bif renOk ρ then fSV r fun r => fOwn own fun own => some (r, own) else none
    | _, _ => none
  | none => none
def finR (T : TT) (ts : List ResultVar) (r : Option (SEx × St)) : Ret := match r with
  | some (.normal, st') => finE T ts st'
  | some (.ret, st') => finE T ts st'
  | _ => none
def jumpE (run : Code → St → Option (SEx × St)) (go : St → Option (SEx × St)) (b : Code) (l : Nat) (st : St) : Option (SEx × St) := match findLabel b l with
  | some rest => (match run rest st with
    | some (.goto l', st') => bif Nat.beq l' l then turnE (keys st'.fr []) st' go else none
    | r => r)
  | none => none
abbrev Ords := List (Nat × List (Nat × Bool))
def evNJ (cx : Cx) : Nat → (Ords → Code → St → Option (SEx × St)) × (Ords → Code → Nat → St → Option (SEx × St))
  | 0 => (fun _ _ _ => none, fun _ _ _ _ => none)
  | n + 1 =>
    (fun ords c st => evC cx (fun _ fi args own => bif Nat.ble args.length fi.n then finR cx.T fi.ts ((evNJ cx n).1 fi.ords fi.c ⟨fi.n, jN 0 args, own⟩) else none) ords ((evNJ cx n).1 ords) ((evNJ cx n).2 ords) c st,
     fun ords b l st => jumpE (evC cx (fun _ fi args own => bif Nat.ble args.length fi.n then finR cx.T fi.ts ((evNJ cx n).1 fi.ords fi.c ⟨fi.n, jN 0 args, own⟩) else none) ords ((evNJ cx n).1 ords) ((evNJ cx n).2 ords)) ((evNJ cx n).2 ords b l) b l st)
def evN (cx : Cx) (n : Nat) (ords : Ords) (c : Code) (st : St) : Option (SEx × St) := (evNJ cx n).1 ords c st
def evJ (cx : Cx) (n : Nat) (ords : Ords) (b : Code) (l : Nat) (st : St) : Option (SEx × St) := (evNJ cx n).2 ords b l st
def chkR (ords : List (Nat × List (Nat × Bool))) (id : Nat) (ops : Array Oper) : Bool := match lk id ords with
  | some od => Region.noSelect ops && (zW .any ops od (Array.replicate ops.size false) && od.length == ops.size)
  | none => true
def chkC (ords : List (Nat × List (Nat × Bool))) : Code → Bool
  | .region id ops true => chkR ords id ops
  | .seq a b => chkC ords a && chkC ords b
  | .cond _ a b => chkC ords a && chkC ords b
  | .block _ b => chkC ords b
  | .loop b => chkC ords b
  | .scope b => chkC ords b
  | _ => true
end
end Go.Proofs.YtppfcacnofjmdaaGreatDoor
