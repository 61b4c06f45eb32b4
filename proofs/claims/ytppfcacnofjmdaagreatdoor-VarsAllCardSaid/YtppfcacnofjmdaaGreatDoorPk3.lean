/-
  What the statement leans on, part 3: Small, ConvV, Conv, Value, PolS, ValH, PolH, AskS, HasS, ExS, ExT, EvS, PolM, PolP, EvP, PolE, PolW, Data, Data2, Data3, Data4, PolF, SzS, VarP, AskG, LessH, Fun, Fun2, Fun3, ExF.
-/
import Derived.WalkLawsBesides
import Derived.WalkSpells
import Derived.Deep.Cut
import Derived.Deep.Light
import Derived.Test.YtppfcacnofjmdaaGreatDoorRows
import Derived.Test.YtppfcacnofjmdaaGreatDoorPk1
import Derived.Test.YtppfcacnofjmdaaGreatDoorPk2
namespace Go.Proofs.YtppfcacnofjmdaaGreatDoor
open Go.RowKit
set_option linter.unusedSimpArgs false
set_option linter.unusedVariables false
attribute [local go_sem] ext_cell wi
attribute [local go_sem low] we jp
set_option maxRecDepth 100000 in
set_option maxHeartbeats 2000000 in
theorem cnt_obls (b c : Nat) (l : List Obli) (L : Option Addr) (d : Nat) (w0 w : World) (hL : SlAt rObl 3 w0 L l) (hl : l.length ≤ reachBytes) (hB0 : Below w0.heap.size w0 w) (hb : w0.heap.size ≤ b)
    (hc : w.heap[b]? = some (cntObj c)) (hcc : c ≤ 3000) :
    Calls Tryz.prog 66 #[.pointer (some ⟨b, 0, none⟩), .slice L l.length d] w (cntPost b c (osz l) w) := by
  unfold reachBytes at hl
  have HL := hide hL
  clear hL
  replace hc := hide hc
  go_enter Tryz.func66, Tryz.ntmps66
  go_upto_region 3 with (go_at_call 42; refine (wG b c l.length _ _ (by simp) hc.out (by omega) hcc).mono ?_; rintro e w1 (⟨c1, rfl, h1, h3⟩ | ⟨c1, rfl, h1, h2, h3⟩))
  · go_ret
    exact Or.inl ⟨c1, rfl, h1, h3⟩
  · clear hc
    go_wp2
    go_loopw [6, 14] (fun _ i wr => ∃ k c2 : Nat, k ≤ l.length ∧ i = .int .i64 k ∧ c2 ≤ c ∧ CntR b c2 w wr ∧ Hid (l.length + qT (fun o : Obli => txt o.arg) (l.take k) + c2 = c)) (fun _ i _ => l.length - (intOf i).toNat)
    case atStart => exact ⟨0, c1, Nat.zero_le _, rfl, h1, h3, h2.out⟩
    case round =>
      clear h1 h2 h3
      obtain ⟨k, c2, hk, rfl, h1, h3, h2⟩ := hrel
      have hB1 := Below.cnt hB0 h3 hb (Nat.le_refl _)
      by_cases hlt : k < l.length
      · obtain ⟨b4, o4, rfl, hbb, e0, e1, e2, hf⟩ := (HL.out.keep keeps_obl hB1).obl hlt
        have hs := hide (zG (f := fun o : Obli => txt o.arg) hlt)
        have n1 := hf.arg
        have hc := hide h3.cnt
        have hsz := lt_of_block h3.cnt
        go_wp2_with (go_at_call 43; (with_reducible refine (jY b c2 _ _ (heap_alloc hc.out _) n1 (by omega)).mono ?_); rintro e w2 (⟨c7, rfl, h10, h12⟩ | ⟨c7, rfl, h10, h11, h12⟩); all_goals (first | replace hA := CntR.trans hA h12 | have hA := CntR.trans hR h12 | have hA := CntR.trans (CntR.alloc hR _) h12 | skip); all_goals (first | replace hL := CntR.trans hL h12 | have hL := h12); (try clear q1 q2 q3 q4); all_goals (clear h12; obtain ⟨q1, q2, q3, q4⟩ := CntR.facts hL; try simp only [World.size_alloc] at q1 q2 q3 q4))
        · go_ret
          exact Or.inl ⟨c7, rfl, by omega, (h3.alloc _).trans hL⟩
        · go_roundw
          case rel => exact ⟨k + 1, c7, by omega, by go_num, by omega, (h3.alloc _).trans hL, hide (by have := h2.out; have := hs.out; have := h11.out; omega)⟩
          case measure => simp [intOf]; omega
      · obtain rfl : k = l.length := by omega
        rw [List.take_length] at h2
        go_wp2
        go_ret
        exact Or.inr ⟨c2, rfl, h1, h2, h3⟩
def CntPolicy (n : Nat) : Prop := ∀ (b c : Nat) (p : Pol) (w0 w : World) (c3 c4 c5 c6 : Value), rPolN n w0 [.string p.id, .bool p.set, .int .i64 p.alg, c3, c4, c5, c6] p → Below w0.heap.size w0 w → w0.heap.size ≤ b →
    w.heap[b]? = some (cntObj c) → c ≤ 3000 →
    Calls Tryz.prog 41 #[.pointer (some ⟨b, 0, none⟩), .agg #[.string p.id, .bool p.set, .int .i64 p.alg, c3, c4, c5, c6]] w (cntPost b c p.sz w)
set_option maxRecDepth 100000 in
set_option maxHeartbeats 4000000 in
theorem cnt_policy_step (n : Nat) (ih : CntPolicy n) : CntPolicy (n + 1) := by
    intro b c p w0 w c3 c4 c5 c6 hp hB0 hb hc hcc
    obtain ⟨_, _, _, _, he, hid, halg, h3, h4, h5, h6⟩ := hp
    simp only [List.cons.injEq, true_and, and_true] at he
    obtain ⟨rfl, rfl, rfl, rfl⟩ := he
    obtain ⟨A3, d3, rfl, l3, m3, h3⟩ := h3
    obtain ⟨A4, d4, rfl, l4, m4, h4⟩ := h4
    obtain ⟨A5, d5, rfl, l5, m5, h5⟩ := h5
    obtain ⟨A6, d6, rfl, l6, m6, h6⟩ := h6
    replace h3 := hide h3
    replace h4 := hide h4
    replace h5 := hide h5
    replace h6 := hide h6
    have hsz := lt_of_block hc
    replace ih := hide ih
    simp only [reachBytes] at m3 m4 m5 m6
    have e := hide p.sz_eq
    replace hc := hide hc
    go_enter Tryz.func41, Tryz.ntmps41
    have hR : CntR b c (w.alloc (.cells #[.string p.id, .bool p.set, .int .i64 p.alg, .slice A3 (List.length p.target) d3, .slice A4 p.rules.length d4, .slice A5 p.kids.length d5, .slice A6 p.obls.length d6] 28)) (w.alloc (.cells #[.string p.id, .bool p.set, .int .i64 p.alg, .slice A3 (List.length p.target) d3, .slice A4 p.rules.length d4, .slice A5 p.kids.length d5, .slice A6 p.obls.length d6] 28)) := CntR.refl (heap_alloc hc.out _)
    go_upto_region 3 with (first | (go_at_call 42; (with_reducible refine (wG b c (1 + p.rules.length) _ _ (by simp) (heap_alloc hc.out _) (by omega) hcc).mono ?_); rintro e w2 (⟨c7, rfl, h10, h12⟩ | ⟨c7, rfl, h10, h11, h12⟩); all_goals (first | replace hA := CntR.trans hA h12 | have hA := CntR.trans hR h12 | have hA := CntR.trans (CntR.alloc hR _) h12 | skip); all_goals (first | replace hL := CntR.trans hL h12 | have hL := h12); (try clear q1 q2 q3 q4); all_goals (clear h12; obtain ⟨q1, q2, q3, q4⟩ := CntR.facts hL; try simp only [World.size_alloc] at q1 q2 q3 q4)) | (go_at_call 43; (with_reducible refine (jY b _ _ _ hA.cnt hid (by omega)).mono ?_); rintro e w2 (⟨c7, rfl, h10, h12⟩ | ⟨c7, rfl, h10, h11, h12⟩); all_goals (first | replace hA := CntR.trans hA h12 | have hA := CntR.trans hR h12 | have hA := CntR.trans (CntR.alloc hR _) h12 | skip); all_goals (first | replace hL := CntR.trans hL h12 | have hL := h12); (try clear q1 q2 q3 q4); all_goals (clear h12; obtain ⟨q1, q2, q3, q4⟩ := CntR.facts hL; try simp only [World.size_alloc] at q1 q2 q3 q4)) | (go_at_call 65; (with_reducible refine (cnt_target b _ p.target _ _ w0 _ h3.out (by simp only [reachBytes]; omega) (Below.cnt (Below.alloc1 hB0 _) hA hb (Nat.le_refl _)) hb hA.cnt (by omega)).mono ?_); rintro e w2 (⟨c7, rfl, h10, h12⟩ | ⟨c7, rfl, h10, h11, h12⟩); all_goals (first | replace hA := CntR.trans hA h12 | have hA := CntR.trans hR h12 | have hA := CntR.trans (CntR.alloc hR _) h12 | skip); all_goals (first | replace hL := CntR.trans hL h12 | have hL := h12); (try clear q1 q2 q3 q4); all_goals (clear h12; obtain ⟨q1, q2, q3, q4⟩ := CntR.facts hL; try simp only [World.size_alloc] at q1 q2 q3 q4)) | (go_at_call 66; (with_reducible refine (cnt_obls b _ p.obls _ _ w0 _ h6.out (by simp only [reachBytes]; omega) (Below.cnt (Below.alloc1 hB0 _) hA hb (Nat.le_refl _)) hb hA.cnt (by omega)).mono ?_); rintro e w2 (⟨c7, rfl, h10, h12⟩ | ⟨c7, rfl, h10, h11, h12⟩); all_goals (first | replace hA := CntR.trans hA h12 | have hA := CntR.trans hR h12 | have hA := CntR.trans (CntR.alloc hR _) h12 | skip); all_goals (first | replace hL := CntR.trans hL h12 | have hL := h12); (try clear q1 q2 q3 q4); all_goals (clear h12; obtain ⟨q1, q2, q3, q4⟩ := CntR.facts hL; try simp only [World.size_alloc] at q1 q2 q3 q4)))
    all_goals first | (go_ret; exact Or.inl ⟨_, rfl, by omega, (CntR.alloc (CntR.refl hc.out) _).trans hA⟩) | skip
    rename Hid (1 + p.rules.length + _ = c) => g1
    rename Hid (txt p.id + _ = _) => g2
    rename Hid (tsz p.target + _ = _) => g3
    replace hR := hA
    clear hA
    obtain ⟨k0, hk0⟩ : ∃ k0, k0 = 1 + p.rules.length + txt p.id + tsz p.target + osz p.obls := ⟨_, rfl⟩
    have g := hide (show k0 + c7 = c by have := g1.out; have := g2.out; have := g3.out; have := h11.out; omega)
    have hcc7 : c7 ≤ c := by omega
    replace hk0 := hide hk0
    clear g1 g2 g3 h11 q1 q2 q3 q4 h10 hL
    obtain ⟨q1, q2, q3, q4⟩ := CntR.facts hR
    simp only [World.size_alloc] at q3
    go_wp2
    clear q1 q2 q3 q4
    go_loopw [6, 8, 42] (fun _ _ i wr => ∃ k c2 : Nat, k ≤ p.rules.length ∧ i = .int .i64 k ∧ c2 ≤ c ∧ CntR b c2 (w.alloc (.cells #[.string p.id, .bool p.set, .int .i64 p.alg, .slice A3 (List.length p.target) d3, .slice A4 p.rules.length d4, .slice A5 p.kids.length d5, .slice A6 p.obls.length d6] 28)) wr ∧ Hid (k0 + qT rusz (p.rules.take k) + c2 = c)) (fun _ _ i _ => p.rules.length - (intOf i).toNat)
    case atStart => exact ⟨0, c7, Nat.zero_le _, rfl, hcc7, hR, g.out⟩
    case round =>
      clear hR g hcc7
      obtain ⟨k, c2, hk, rfl, hc2, hR, g⟩ := hrel
      have hB1 : Below w0.heap.size w0 wr := Below.cnt (Below.alloc1 hB0 _) hR hb (Nat.le_refl _)
      by_cases hlt : k < p.rules.length
      · obtain ⟨b2, o2, v2, v3, v4, rfl, hbb, e0, e1, e2, e3, e4, n1, s2, s3, s4⟩ := h4.out.rul0 hB1 hlt
        obtain ⟨B2, j2, rfl, u2, t2, s2⟩ := s2
        obtain ⟨B3, j3, rfl, u3, t3, s3⟩ := s3
        obtain ⟨B4, j4, rfl, u4, t4, s4⟩ := s4
        replace s2 := hide s2
        replace s3 := hide s3
        replace s4 := hide s4
        have hs := hide (zG (f := rusz) hlt)
        have hbw := hB1.size
        have hbr := lt_of_block hR.cnt
        simp only [reachBytes] at t2 t3 t4
        go_upto_region 8 with (first | (go_at_call 42; (with_reducible refine (wG b _ p.rules[k].cond.length _ _ (by simp) hA.cnt (by omega) (by omega)).mono ?_); rintro e w2 (⟨c7, rfl, h10, h12⟩ | ⟨c7, rfl, h10, h11, h12⟩); all_goals (first | replace hA := CntR.trans hA h12 | have hA := CntR.trans hR h12 | have hA := CntR.trans (CntR.alloc hR _) h12 | skip); all_goals (first | replace hL := CntR.trans hL h12 | have hL := h12); (try clear q1 q2 q3 q4); all_goals (clear h12; obtain ⟨q1, q2, q3, q4⟩ := CntR.facts hL; try simp only [World.size_alloc] at q1 q2 q3 q4)) | (go_at_call 43; (with_reducible refine (jY b _ _ _ (heap_alloc hR.cnt _) n1 (by omega)).mono ?_); rintro e w2 (⟨c7, rfl, h10, h12⟩ | ⟨c7, rfl, h10, h11, h12⟩); all_goals (first | replace hA := CntR.trans hA h12 | have hA := CntR.trans hR h12 | have hA := CntR.trans (CntR.alloc hR _) h12 | skip); all_goals (first | replace hL := CntR.trans hL h12 | have hL := h12); (try clear q1 q2 q3 q4); all_goals (clear h12; obtain ⟨q1, q2, q3, q4⟩ := CntR.facts hL; try simp only [World.size_alloc] at q1 q2 q3 q4)) | (go_at_call 65; (with_reducible refine (cnt_target b _ p.rules[k].target _ _ w0 _ s2.out (by simp only [reachBytes]; omega) (Below.cnt (Below.alloc1 hB0 _) hA hb (Nat.le_refl _)) hb hA.cnt (by omega)).mono ?_); rintro e w2 (⟨c7, rfl, h10, h12⟩ | ⟨c7, rfl, h10, h11, h12⟩); all_goals (first | replace hA := CntR.trans hA h12 | have hA := CntR.trans hR h12 | have hA := CntR.trans (CntR.alloc hR _) h12 | skip); all_goals (first | replace hL := CntR.trans hL h12 | have hL := h12); (try clear q1 q2 q3 q4); all_goals (clear h12; obtain ⟨q1, q2, q3, q4⟩ := CntR.facts hL; try simp only [World.size_alloc] at q1 q2 q3 q4)) | (go_at_call 66; (with_reducible refine (cnt_obls b _ p.rules[k].obls _ _ w0 _ s4.out (by simp only [reachBytes]; omega) (Below.cnt (Below.alloc1 hB0 _) hA hb (Nat.le_refl _)) hb hA.cnt (by omega)).mono ?_); rintro e w2 (⟨c7, rfl, h10, h12⟩ | ⟨c7, rfl, h10, h11, h12⟩); all_goals (first | replace hA := CntR.trans hA h12 | have hA := CntR.trans hR h12 | have hA := CntR.trans (CntR.alloc hR _) h12 | skip); all_goals (first | replace hL := CntR.trans hL h12 | have hL := h12); (try clear q1 q2 q3 q4); all_goals (clear h12; obtain ⟨q1, q2, q3, q4⟩ := CntR.facts hL; try simp only [World.size_alloc] at q1 q2 q3 q4)))
        all_goals first | (go_ret; exact Or.inl ⟨_, rfl, by omega, (CntR.alloc (CntR.refl hc.out) _).trans hA⟩) | skip
        rename Hid (txt p.rules[k].id + _ = _) => g1
        rename Hid (tsz p.rules[k].target + _ = _) => g2
        rename Hid (p.rules[k].cond.length + _ = _) => g3
        obtain ⟨k1, hk1⟩ : ∃ k1, k1 = txt p.rules[k].id + tsz p.rules[k].target + p.rules[k].cond.length + osz p.rules[k].obls := ⟨_, rfl⟩
        have g' := hide (show k1 + c7 = c2 by have := g1.out; have := g2.out; have := g3.out; have := h11.out; omega)
        have hcc7 : c7 ≤ c := by omega
        have e1 := hide (show rusz p.rules[k] = k1 + qT nsz p.rules[k].cond by subst hk1; rfl)
        clear g1 g2 g3 h11 h10 hk1
        go_wp2
        clear q1 q2 q3 q4
        replace hR := hA
        clear hA
        go_loopw [8, 76] (fun _ i wr' => ∃ k' c4 : Nat, k' ≤ p.rules[k].cond.length ∧ i = .int .i64 k' ∧ c4 ≤ c ∧ CntR b c4 (w.alloc (.cells #[.string p.id, .bool p.set, .int .i64 p.alg, .slice A3 (List.length p.target) d3, .slice (some ⟨b2, o2, none⟩) p.rules.length d4, .slice A5 p.kids.length d5, .slice A6 p.obls.length d6] 28)) wr' ∧ Hid (k1 + qT nsz (p.rules[k].cond.take k') + c4 = c2)) (fun _ i _ => p.rules[k].cond.length - (intOf i).toNat)
        case atStart => exact ⟨0, c7, Nat.zero_le _, rfl, hcc7, hR, g'.out⟩
        case round =>
          clear hR g' hcc7 hL hbb hB1
          obtain ⟨k', c4, hk', rfl, hc4, hR, g'⟩ := hrel
          have hB1 : Below w0.heap.size w0 wr := Below.cnt (Below.alloc1 hB0 _) hR hb (Nat.le_refl _)
          by_cases hlt' : k' < p.rules[k].cond.length
          · obtain ⟨b4, o4, rfl, hbb, e0, ⟨e3, e4, e5⟩, ⟨e6, e7, e8⟩, hf⟩ := (s3.out.keep keeps_nod hB1).nod hlt'
            have hs' := hide (zG (f := nsz) hlt')
            have n1 := hf.attr.name
            have n2 := hf.val.s
            have hbw := hB1.size
            have hbr := lt_of_block hR.cnt
            go_wp2_with (go_at_call 43; (first | (with_reducible refine (jY b c4 _ _ (heap_alloc hR.cnt _) n1 (by omega)).mono ?_) | (with_reducible refine (jY b _ _ _ hA.cnt n2 (by omega)).mono ?_)); rintro e w2 (⟨c7, rfl, h10, h12⟩ | ⟨c7, rfl, h10, h11, h12⟩); all_goals (first | replace hA := CntR.trans hA h12 | have hA := CntR.trans hR h12 | have hA := CntR.trans (CntR.alloc hR _) h12 | skip); all_goals (first | replace hL := CntR.trans hL h12 | have hL := h12); (try clear q1 q2 q3 q4); all_goals (clear h12; obtain ⟨q1, q2, q3, q4⟩ := CntR.facts hL; try simp only [World.size_alloc] at q1 q2 q3 q4))
            · go_ret
              exact Or.inl ⟨_, rfl, by omega, (CntR.alloc (CntR.refl hc.out) _).trans hA⟩
            · go_ret
              exact Or.inl ⟨_, rfl, by omega, (CntR.alloc (CntR.refl hc.out) _).trans hA⟩
            · rename Hid (txt p.rules[k].cond[k'].attr.name + _ = c4) => g1
              go_roundw
              case rel => exact ⟨k' + 1, c7, by omega, by go_num, by omega, hA, hide (by have := g'.out; have := hs'.out; have := h11.out; have := g1.out; have e : nsz p.rules[k].cond[k'] = txt p.rules[k].cond[k'].attr.name + txt p.rules[k].cond[k'].val.s := rfl; omega)⟩
              case measure => simp [intOf]; omega
          · obtain rfl : k' = p.rules[k].cond.length := by omega
            rw [List.take_length] at g'
            go_wp2
            go_roundw
            case rel => exact ⟨k + 1, c4, by omega, by go_num, hc4, hR, hide (by have := g.out; have := g'.out; have := hs.out; have := e1.out; omega)⟩
            case measure => simp [intOf]; omega
      · obtain rfl : k = p.rules.length := by omega
        rw [List.take_length] at g
        obtain ⟨q1, q2, q3, q4⟩ := CntR.facts hR
        simp only [World.size_alloc] at q3
        go_wp2
        clear q1 q2 q3 q4
        go_loopw [10, 99] (fun _ i wr' => ∃ k' c4 : Nat, k' ≤ p.kids.length ∧ i = .int .i64 k' ∧ c4 ≤ c ∧ CntR b c4 (w.alloc (.cells #[.string p.id, .bool p.set, .int .i64 p.alg, .slice A3 (List.length p.target) d3, .slice A4 p.rules.length d4, .slice A5 p.kids.length d5, .slice A6 p.obls.length d6] 28)) wr' ∧ Hid (k0 + qT rusz p.rules + qT Pol.sz (p.kids.take k') + c4 = c)) (fun _ i _ => p.kids.length - (intOf i).toNat)
        case atStart => exact ⟨0, c2, Nat.zero_le _, rfl, hc2, hR, g.out⟩
        case round =>
          clear hR g hB1 hc2
          obtain ⟨k', c4, hk', rfl, hc4, hR, g⟩ := hrel
          have hB1 : Below w0.heap.size w0 wr := Below.cnt (Below.alloc1 hB0 _) hR hb (Nat.le_refl _)
          by_cases hlt' : k' < p.kids.length
          · obtain ⟨b2, o2, v3, v4, v5, v6, rfl, hbb, e0, e1, e2, e3, e4, e5, e6, hr⟩ := h5.out.pol0 hB1 hlt'
            have hs' := hide (zG (f := Pol.sz) hlt')
            obtain ⟨B3, j3, B4, j4, B5, j5, B6, j6, rfl, rfl, rfl, rfl⟩ := rPolN_form hr
            replace hr := hide hr
            have hbw := hB1.size
            have hbr := lt_of_block hR.cnt
            go_wp2_with (go_at_call 41; refine (ih.out b c4 p.kids[k'] w0 _ _ _ _ _ hr.out (Below.alloc1 hB1 _) hb (heap_alloc hR.cnt _) (by omega)).mono ?_; rintro e w2 (⟨c7, rfl, h10, h12⟩ | ⟨c7, rfl, h10, h11, h12⟩); all_goals (first | replace hA := CntR.trans hA h12 | have hA := CntR.trans hR h12 | have hA := CntR.trans (CntR.alloc hR _) h12 | skip); all_goals (first | replace hL := CntR.trans hL h12 | have hL := h12); (try clear q1 q2 q3 q4); all_goals (clear h12; obtain ⟨q1, q2, q3, q4⟩ := CntR.facts hL; try simp only [World.size_alloc] at q1 q2 q3 q4))
            · go_ret
              exact Or.inl ⟨_, rfl, by omega, (CntR.alloc (CntR.refl hc.out) _).trans hA⟩
            · go_roundw
              case rel => exact ⟨k' + 1, c7, by omega, by go_num, by omega, hA, hide (by have := g.out; have := hs'.out; have := h11.out; omega)⟩
              case measure => simp [intOf]; omega
          · obtain rfl : k' = p.kids.length := by omega
            rw [List.take_length] at g
            go_wp2
            go_ret
            exact Or.inr ⟨c4, rfl, hc4, hide (by have := g.out; have := e.out; have := hk0.out; omega), (CntR.alloc (CntR.refl hc.out) _).trans hR⟩
theorem cnt_policy (n : Nat) : CntPolicy n := by
  induction n with
  | zero => intro b c p w0 w c3 c4 c5 c6 h; exact h.elim
  | succ n ih => exact cnt_policy_step n ih
def upTo (k m : Nat) (w : World) (e : Ending) (w' : World) : Prop := (e = .returned (.bool false) ∧ Below w.heap.size w w') ∨ (e = .returned (.bool true) ∧ Hid (k ≤ m) ∧ Below w.heap.size w w')
theorem heap_new (w : World) (o : Obj) : (w.alloc o).heap[w.heap.size]? = some o := by
  show (w.heap.push o)[w.heap.size]? = _
  simp
theorem heap_at (w : World) (o : Obj) (b : Nat) (hb : b = w.heap.size) : (w.alloc o).heap[b]? = some o := by subst hb; exact heap_new w o
theorem small_any (n : Nat) (p : Pol) (w : World) (c3 c4 c5 c6 : Value) (hp : rPolN n w [.string p.id, .bool p.set, .int .i64 p.alg, c3, c4, c5, c6] p) :
    Calls Tryz.prog 15 #[.agg #[.string p.id, .bool p.set, .int .i64 p.alg, c3, c4, c5, c6]] w (upTo p.sz 3000 w) := by
  obtain ⟨A3, d3, A4, d4, A5, d5, A6, d6, rfl, rfl, rfl, rfl⟩ := rPolN_form hp
  replace hp := hide hp
  go_enter Tryz.func15, Tryz.ntmps15
  go_wp2_with (go_at_call 41; refine (cnt_policy n (w.heap.size + 1) 3000 p w _ _ _ _ _ hp.out (by repeat (first | exact Below.refl _ _ | assumption | refine Below.alloc1 ?_ _ | refine Below.drew ?_ | refine qt ?_ | refine Below.setCell ?_ (by first | exact Nat.le_refl _ | (simp; done) | omega | (simp; omega)) _ | refine Below.lift ?_ (by assumption))) (by omega) ?_ (Nat.le_refl _)).mono ?_; exact heap_at _ _ _ (by simp); rintro e w2 (⟨c7, rfl, h10, h12⟩ | ⟨c7, rfl, h10, h11, h12⟩))
  · go_ret
    exact Or.inl ⟨rfl, ((Below.refl _ _).alloc (Nat.le_refl _) _).alloc (by simp) _ |>.trans (h12.below (by omega) (by simp; omega))⟩
  · go_ret
    exact Or.inr ⟨rfl, hide (by have := h11.out; omega), ((Below.refl _ _).alloc (Nat.le_refl _) _).alloc (by simp) _ |>.trans (h12.below (by omega) (by simp; omega))⟩
def gsz (g : Giv) : Nat := txt g.name + g.bag.length + qT (fun v : Val => txt v.s) g.bag
def fsz (l : List Giv) : Nat := 2 * l.length + qT gsz l
theorem SlAt.giv0 {w0 w : World} {A : Option Addr} {l : List Giv} (h : SlAt rGiv 3 w0 A l) (hB : Below w0.heap.size w0 w) {k : Nat} (hk : k < l.length) :
    ∃ b o B c, A = some ⟨b, o, none⟩ ∧ b < w0.heap.size ∧ w.cell? ⟨b, o + k * 3, none⟩ = some (.int .i64 l[k].cat) ∧ w.cell? ⟨b, o + k * 3 + 1, none⟩ = some (.string l[k].name) ∧
      w.cell? ⟨b, o + k * 3 + 2, none⟩ = some (.slice B l[k].bag.length c) ∧ R64 l[k].cat ∧ l[k].name.size ≤ reachBytes ∧ l[k].bag.length ≤ c ∧ (l[k].bag.length ≤ reachBytes ∧ c ≤ maxLen) ∧ SlAt rVal 3 w0 B l[k].bag := by
  obtain ⟨b, o, B, c, hA, hb, h0, h1, h2, h3⟩ := h.giv hk
  have cell : ∀ j, w.cell? ⟨b, j, none⟩ = w0.cell? ⟨b, j, none⟩ := fun j => hB.cell (p := ⟨b, j, none⟩) hb
  exact ⟨b, o, B, c, hA, hb, (cell _).trans h0, (cell _).trans h1, (cell _).trans h2, h3⟩
set_option maxRecDepth 100000 in
set_option maxHeartbeats 4000000 in
theorem few_any (l : List Giv) (A : Option Addr) (c : Nat) (w0 : World) (hl : l.length ≤ reachBytes) (h : SlAt rGiv 3 w0 A l) :
    Calls Tryz.prog 16 #[.slice A l.length c] w0 (upTo (fsz l) 1200 w0) := by
  unfold reachBytes at hl
  replace h := hide h
  have hb : w0.heap.size ≤ w0.heap.size := Nat.le_refl _
  have hB0 : Below w0.heap.size w0 w0 := Below.refl _ _
  have hc := hide (heap_new w0 (cntObj 1200))
  go_enter Tryz.func16, Tryz.ntmps16
  go_upto_region 4 with (go_at_call 42; refine (wG w0.heap.size 1200 (2 * l.length) _ _ (by simp) hc.out (by omega) (by omega)).mono ?_; rintro e w1 (⟨c1, rfl, h1, h3⟩ | ⟨c1, rfl, h1, h2, h3⟩))
  · go_ret
    exact Or.inl ⟨rfl, ((Below.refl _ _).alloc (Nat.le_refl _) _).trans (h3.below (by omega) (by simp))⟩
  · go_wp2
    go_loopw [5, 7, 18] (fun _ _ i wr => ∃ k c2 : Nat, k ≤ l.length ∧ i = .int .i64 k ∧ c2 ≤ 1200 ∧ CntR w0.heap.size c2 (w0.alloc (cntObj 1200)) wr ∧ Hid (2 * l.length + qT gsz (l.take k) + c2 = 1200)) (fun _ _ i _ => l.length - (intOf i).toNat)
    case atStart => exact ⟨0, c1, Nat.zero_le _, rfl, h1, h3, h2.out⟩
    case round =>
      clear h1 h2 h3
      obtain ⟨k, c2, hk, rfl, hc2, hR, g⟩ := hrel
      have hB1 : Below w0.heap.size w0 wr := Below.cnt (Below.alloc1 hB0 _) hR hb (Nat.le_refl _)
      by_cases hlt : k < l.length
      · obtain ⟨b2, o2, B2, j2, rfl, hbb, e0, e1, e2, hcat, n1, t1, t2, hbag⟩ := h.out.giv0 hB1 hlt
        have hs := hide (zG (f := gsz) hlt)
        replace hbag := hide hbag
        have hbw := hB1.size
        have hbr := lt_of_block hR.cnt
        simp only [reachBytes] at t2
        go_upto_region 9 with (first | (go_at_call 42; (with_reducible refine (wG _ _ l[k].bag.length _ _ (by simp) hA.cnt (by omega) (by omega)).mono ?_); rintro e w2 (⟨c7, rfl, h10, h12⟩ | ⟨c7, rfl, h10, h11, h12⟩); all_goals (first | replace hA := CntR.trans hA h12 | have hA := CntR.trans hR h12 | have hA := CntR.trans (CntR.alloc hR _) h12 | skip); all_goals (first | replace hL := CntR.trans hL h12 | have hL := h12); (try clear q1 q2 q3 q4); all_goals (clear h12; obtain ⟨q1, q2, q3, q4⟩ := CntR.facts hL; try simp only [World.size_alloc] at q1 q2 q3 q4)) | (go_at_call 43; (with_reducible refine (jY _ c2 _ _ (heap_alloc hR.cnt _) n1 (by omega)).mono ?_); rintro e w2 (⟨c7, rfl, h10, h12⟩ | ⟨c7, rfl, h10, h11, h12⟩); all_goals (first | replace hA := CntR.trans hA h12 | have hA := CntR.trans hR h12 | have hA := CntR.trans (CntR.alloc hR _) h12 | skip); all_goals (first | replace hL := CntR.trans hL h12 | have hL := h12); (try clear q1 q2 q3 q4); all_goals (clear h12; obtain ⟨q1, q2, q3, q4⟩ := CntR.facts hL; try simp only [World.size_alloc] at q1 q2 q3 q4)))
        · go_ret
          exact Or.inl ⟨rfl, ((Below.refl _ _).alloc (Nat.le_refl _) _).trans (hA.below (by omega) (by simp))⟩
        · go_ret
          exact Or.inl ⟨rfl, ((Below.refl _ _).alloc (Nat.le_refl _) _).trans (hA.below (by omega) (by simp))⟩
        · rename Hid (txt l[k].name + _ = _) => g1
          obtain ⟨k1, hk1⟩ : ∃ k1, k1 = txt l[k].name + l[k].bag.length := ⟨_, rfl⟩
          have g' := hide (show k1 + c7 = c2 by have := g1.out; have := h11.out; omega)
          have hcc7 : c7 ≤ 1200 := by omega
          have e1 := hide (show gsz l[k] = k1 + qT (fun v : Val => txt v.s) l[k].bag by subst hk1; rfl)
          clear g1 h11 h10 hk1
          go_wp2
          clear q1 q2 q3 q4
          replace hR := hA
          clear hA
          go_loopw [7, 38] (fun _ i wr' => ∃ k' c4 : Nat, k' ≤ l[k].bag.length ∧ i = .int .i64 k' ∧ c4 ≤ 1200 ∧ CntR w0.heap.size c4 (w0.alloc (cntObj 1200)) wr' ∧ Hid (k1 + qT (fun v : Val => txt v.s) (l[k].bag.take k') + c4 = c2)) (fun _ i _ => l[k].bag.length - (intOf i).toNat)
          case atStart => exact ⟨0, c7, Nat.zero_le _, rfl, hcc7, hR, g'.out⟩
          case round =>
            clear hR g' hcc7 hL hbb hB1
            obtain ⟨k', c4, hk', rfl, hc4, hR, g'⟩ := hrel
            have hB1 : Below w0.heap.size w0 wr := Below.cnt (Below.alloc1 hB0 _) hR hb (Nat.le_refl _)
            by_cases hlt' : k' < l[k].bag.length
            · obtain ⟨b4, o4, rfl, hbb, e3, e4, e5, hf⟩ := (hbag.out.keep qS hB1).val hlt'
              have hs' := hide (zG (f := fun v : Val => txt v.s) hlt')
              have n2 := hf.s
              have hbw := hB1.size
              have hbr := lt_of_block hR.cnt
              go_wp2_with (go_at_call 43; (with_reducible refine (jY _ c4 _ _ (heap_alloc hR.cnt _) n2 (by omega)).mono ?_); rintro e w2 (⟨c7, rfl, h10, h12⟩ | ⟨c7, rfl, h10, h11, h12⟩); all_goals (first | replace hA := CntR.trans hA h12 | have hA := CntR.trans hR h12 | have hA := CntR.trans (CntR.alloc hR _) h12 | skip); all_goals (first | replace hL := CntR.trans hL h12 | have hL := h12); (try clear q1 q2 q3 q4); all_goals (clear h12; obtain ⟨q1, q2, q3, q4⟩ := CntR.facts hL; try simp only [World.size_alloc] at q1 q2 q3 q4))
              · go_ret
                exact Or.inl ⟨rfl, ((Below.refl _ _).alloc (Nat.le_refl _) _).trans (hA.below (by omega) (by simp))⟩
              · go_roundw
                case rel => exact ⟨k' + 1, c7, by omega, by go_num, by omega, hA, hide (by have := g'.out; have := hs'.out; have := h11.out; omega)⟩
                case measure => simp [intOf]; omega
            · obtain rfl : k' = l[k].bag.length := by omega
              rw [List.take_length] at g'
              go_wp2
              go_roundw
              case rel => exact ⟨k + 1, c4, by omega, by go_num, hc4, hR, hide (by have := g.out; have := g'.out; have := hs.out; have := e1.out; omega)⟩
              case measure => simp [intOf]; omega
      · obtain rfl : k = l.length := by omega
        rw [List.take_length] at g
        go_wp2
        go_ret
        exact Or.inr ⟨rfl, hide (by have := g.out; unfold fsz; omega), ((Below.refl _ _).alloc (Nat.le_refl _) _).trans (hR.below (by omega) (by simp))⟩
end Go.Proofs.YtppfcacnofjmdaaGreatDoor
namespace Go.Proofs.YtppfcacnofjmdaaGreatDoor
set_option linter.unusedVariables false
set_option linter.unusedSimpArgs false
open Go.RowKit
theorem val_back {ok : Nat → Prop} {w : World} {cs : List Value} {x : Val} (h : rPV ok w cs x.pv) : cs = x.cells := rPV_plain (xs := x.cells) h
theorem val_pv {w : World} {cs : List Value} {x : Val} (h : rVal w cs x) : rPV (fun _ => True) w cs x.pv := by
  obtain ⟨rfl, _⟩ := h
  exact plain_rPV (xs := x.cells) (fun v hv => by simp [Val.cells] at hv; rcases hv with rfl | rfl | rfl <;> rfl)
theorem vals_typed {ok : Nat → Prop} {w : World} {u : Value} {l : List Val} (h : RelP ok w (valsP l) u) (hf : ∀ x ∈ l, x.Fit) : ∃ A c, u = .slice A l.length c ∧ l.length ≤ c ∧ (l.length ≤ reachBytes ∧ c ≤ maxLen) ∧ SlAt rVal 3 w A l :=
  sl_typed h fun x hx cs hcs => ⟨val_back hcs, hf x hx⟩
theorem SlAt.fit {α : Type} {R : Rp α} {size : Nat} {w : World} {A : Option Addr} {l : List α} {F : α → Prop} (h : SlAt R size w A l) (hR : ∀ cs x, R w cs x → F x) : ∀ x ∈ l, F x := fun x hx => by
  obtain ⟨i, hi, rfl⟩ := List.mem_iff_getElem.1 hx
  obtain ⟨b, o, _, _, hc⟩ := h (by omega)
  obtain ⟨cs, _, _, h3⟩ := hc i hi
  exact hR cs _ h3
end Go.Proofs.YtppfcacnofjmdaaGreatDoor
namespace Go.Proofs.YtppfcacnofjmdaaGreatDoor
set_option linter.unusedVariables false
set_option linter.unusedSimpArgs false
open Go.RowKit
theorem mat_back {ok : Nat → Prop} {w : World} {cs : List Value} {x : Mat} (h : rPV ok w cs x.pv) : cs = x.cells := rPV_plain (xs := x.cells) h
theorem mat_pv {w : World} {cs : List Value} {x : Mat} (h : rMat w cs x) : rPV (fun _ => True) w cs x.pv := by
  obtain ⟨rfl, _⟩ := h
  exact plain_rPV (xs := x.cells) (fun v hv => by simp [Mat.cells, Atr.cells, Val.cells] at hv; rcases hv with rfl | rfl | rfl | rfl | rfl | rfl | rfl <;> rfl)
theorem mats_typed {ok : Nat → Prop} {w : World} {u : Value} {l : List Mat} (h : RelP ok w (qaB l) u) (hf : ∀ x ∈ l, x.Fit) : ∃ A c, u = .slice A l.length c ∧ l.length ≤ c ∧ (l.length ≤ reachBytes ∧ c ≤ maxLen) ∧ SlAt rMat 7 w A l :=
  sl_typed h fun x hx cs hcs => ⟨mat_back hcs, hf x hx⟩
structure Giv.Fit (x : Giv) : Prop where
  cat : R64 x.cat
  name : x.name.size ≤ reachBytes
  bag : ∀ v ∈ x.bag, v.Fit
theorem giv_back {ok : Nat → Prop} {w : World} {cs : List Value} {x : Giv} (h : rPV ok w cs x.pv) (hf : x.Fit) : rGiv w cs x := by
  have h0 := h.1
  match cs, h0 with
  | [a, b, c], _ =>
    have h1 := h.2 0 _ a rfl rfl
    have h2 := h.2 1 _ b rfl rfl
    have h3 := h.2 2 _ c rfl rfl
    cases h1; cases h2
    obtain ⟨A, d, rfl, g1, g2, g3⟩ := vals_typed h3 hf.bag
    exact ⟨A, d, rfl, hf.cat, hf.name, g1, g2, g3⟩
theorem giv_pv {w : World} {cs : List Value} {x : Giv} (h : rGiv w cs x) : rPV (fun _ => True) w cs x.pv := by
  obtain ⟨A, c, rfl, h1, h2, h3, h4, h5⟩ := h
  refine ⟨rfl, fun j s u hs hu => ?_⟩
  match j with
  | 0 => cases hs; cases hu; exact .v rfl
  | 1 => cases hs; cases hu; exact .v rfl
  | 2 => cases hs; cases hu; exact rel_sl h5 h3 h4 (fun _ => ⟨rfl, rfl⟩) fun x _ cs hcs => val_pv hcs
  | j + 3 => simp [Giv.pv] at hs
theorem givs_typed {ok : Nat → Prop} {w : World} {u : Value} {l : List Giv} (h : RelP ok w (zP l) u) (hf : ∀ x ∈ l, x.Fit) : ∃ A c, u = .slice A l.length c ∧ l.length ≤ c ∧ (l.length ≤ reachBytes ∧ c ≤ maxLen) ∧ SlAt rGiv 3 w A l :=
  sl_typed h fun x hx cs hcs => giv_back hcs (hf x hx)
theorem givs_rel {w : World} {A : Option Addr} {c : Nat} {l : List Giv} (h : SlAt rGiv 3 w A l) (hl : l.length ≤ c) (hc : l.length ≤ reachBytes ∧ c ≤ maxLen) : RelP (fun _ => True) w (zP l) (.slice A l.length c) :=
  rel_sl h hl hc (fun _ => ⟨rfl, rfl⟩) fun x _ cs hcs => giv_pv hcs
theorem any_back {ok : Nat → Prop} {w : World} {cs : List Value} {x : List Mat} (h : rPV ok w cs [qaB x]) (hf : ∀ m ∈ x, m.Fit) : rSl rMat 7 w cs x := by
  have h0 := h.1
  match cs, h0 with
  | [a], _ =>
    obtain ⟨A, d, rfl, g1, g2, g3⟩ := mats_typed (h.2 0 _ a rfl rfl) hf
    exact ⟨A, d, rfl, g1, g2, g3⟩
theorem mats_pv {w : World} {cs : List Value} {x : List Mat} (h : rSl rMat 7 w cs x) : rPV (fun _ => True) w cs [qaB x] := by
  obtain ⟨A, c, rfl, h1, h2, h3⟩ := h
  refine ⟨rfl, fun j s u hs hu => ?_⟩
  match j with
  | 0 => cases hs; cases hu; exact rel_sl h3 h1 h2 (fun _ => ⟨rfl, rfl⟩) fun x _ cs hcs => mat_pv hcs
  | j + 1 => simp at hs
theorem anys_back {ok : Nat → Prop} {w : World} {cs : List Value} {x : List (List Mat)} (h : rPV ok w cs [anyP x]) (hf : ∀ l ∈ x, ∀ m ∈ l, m.Fit) : rTar' w cs x := by
  have h0 := h.1
  match cs, h0 with
  | [a], _ =>
    obtain ⟨A, d, rfl, g1, g2, g3⟩ := sl_typed (R := rSl rMat 7) (h.2 0 _ a rfl rfl) fun y hy cs hcs => any_back hcs (hf y hy)
    exact ⟨A, d, rfl, g1, g2, g3⟩
theorem anys_pv {w : World} {cs : List Value} {x : List (List Mat)} (h : rTar' w cs x) : rPV (fun _ => True) w cs [anyP x] := by
  obtain ⟨A, c, rfl, h1, h2, h3⟩ := h
  refine ⟨rfl, fun j s u hs hu => ?_⟩
  match j with
  | 0 => cases hs; cases hu; exact rel_sl h3 h1 h2 (fun _ => ⟨rfl, rfl⟩) fun x _ cs hcs => mats_pv hcs
  | j + 1 => simp at hs
theorem tgt_typed {ok : Nat → Prop} {w : World} {u : Value} {t : Tar} (h : RelP ok w (tgtP t) u) (hf : ∀ x ∈ t, ∀ l ∈ x, ∀ m ∈ l, m.Fit) : ∃ A c, u = .slice A t.length c ∧ t.length ≤ c ∧ (t.length ≤ reachBytes ∧ c ≤ maxLen) ∧ SlAt rTar' 1 w A t :=
  sl_typed h fun x hx cs hcs => anys_back hcs (hf x hx)
theorem tgt_rel {w : World} {A : Option Addr} {c : Nat} {t : Tar} (h : SlAt rTar' 1 w A t) (hl : t.length ≤ c) (hc : t.length ≤ reachBytes ∧ c ≤ maxLen) : RelP (fun _ => True) w (tgtP t) (.slice A t.length c) :=
  rel_sl h hl hc (fun _ => ⟨rfl, rfl⟩) fun x _ cs hcs => anys_pv hcs
theorem giv_fit {w : World} {cs : List Value} {x : Giv} (h : rGiv w cs x) : x.Fit := by
  obtain ⟨A, c, rfl, h1, h2, h3, h4, h5⟩ := h
  exact ⟨h1, h2, h5.fit fun _ _ h => h.2⟩
theorem tgt_fit {w : World} {A : Option Addr} {t : Tar} (h : SlAt rTar' 1 w A t) : ∀ x ∈ t, ∀ l ∈ x, ∀ m ∈ l, m.Fit :=
  h.fit fun cs x ⟨_, _, _, _, _, h1⟩ => h1.fit fun cs y ⟨_, _, _, _, _, h2⟩ => h2.fit fun _ _ h => h.2
end Go.Proofs.YtppfcacnofjmdaaGreatDoor
namespace Go.Proofs.YtppfcacnofjmdaaGreatDoor
open Go.RowKit
set_option linter.unusedSimpArgs false
set_option linter.unusedVariables false
attribute [local go_sem] ext_cell wi
attribute [local go_sem low] we jp
theorem eql_val (a b : Int) (s : ByteArray) (a' b' : Int) (s' : ByteArray) (w : World) :
    (binOp .eql 52 (.agg #[.int .i64 a, .int .i64 b, .string s]) (.agg #[.int .i64 a', .int .i64 b', .string s'])).run Tryz.prog w = .ok (.bool (jh ⟨a, b, s⟩ ⟨a', b', s'⟩)) w := by
  unfold jh
  by_cases h1 : a = a'
  · by_cases h2 : b = b'
    · by_cases h3 : s = s'
      · subst h1; subst h2; subst h3
        go_simp
      · have : s.toList ≠ s'.toList := fun h => h3 (toList_inj h)
        subst h1; subst h2
        go_simp
    · subst h1
      go_simp
  · go_simp
set_option maxHeartbeats 2000000 in
theorem name_any (s : ByteArray) (w : World) (hs : s.size ≤ reachBytes) :
    Calls Tryz.prog 105 #[.string s] w fun e w' => e = .returned (.bool (wO s)) ∧ w = w' := by
  unfold reachBytes at hs
  go_enter Tryz.func105, Tryz.ntmps105
  go_wp2
  go_loop [3, 4, 5, 6, 9] (fun _ _ _ _ i => ∃ k : Nat, k ≤ s.size ∧ i = .int .i64 k ∧ Hid (∀ i (h : i < s.size), i < k → okC (i == 0) s[i].toNat = true)) (fun _ _ _ _ i => s.size - (intOf i).toNat)
  case atStart => exact ⟨0, Nat.zero_le _, rfl, fun i _ h => absurd h (by omega)⟩
  case round =>
    obtain ⟨k, hk, rfl, hok⟩ := hrel
    by_cases hlt : k < s.size
    · skip
      go_upto_region 5 with (fail)
      refine wp_spec (by kernel_rfl) ?_
      repeat (refine qH ?_; intro K hK; go_big_quiet_op; go_big_quiet_on)
      refine zx ?_
      intro us
      simp only [junk, Act.put, List.setIfInBounds_toArray, List.set_cons_zero, List.set_cons_succ]
      go_upto_region 6 with (fail)
      refine wp_spec (by kernel_rfl) ?_
      repeat (refine qH ?_; intro K hK; go_big_quiet_op; go_big_quiet_on)
      refine zx ?_
      intro us
      simp only [junk, Act.put, List.setIfInBounds_toArray, List.set_cons_zero, List.set_cons_succ]
      go_upto_region 7 with (fail)
      refine wp_spec (by kernel_rfl) ?_
      repeat (refine qH ?_; intro K hK; go_big_quiet_op; go_big_quiet_on)
      refine zx ?_
      intro us
      simp only [junk, Act.put, List.setIfInBounds_toArray, List.set_cons_zero, List.set_cons_succ]
      go_wp2
      · go_ret
        refine ⟨wc (nameS_no hlt ?_).symm, rfl⟩
        go_light
        simp [okC] at *
        omega
      · go_round
        case rel =>
          refine ⟨k + 1, by omega, by go_num, name_step hlt hok.out ?_⟩
          go_light
          simp [okC] at *
          omega
        case measure => simp [intOf]; omega
    · obtain rfl : k = s.size := by omega
      have e1 := hide (nameS_end hok.out)
      go_upto_region 10 with (fail)
      refine wp_spec (by kernel_rfl) ?_
      repeat (refine qH ?_; intro K hK; go_big_quiet_op; go_big_quiet_on)
      refine zx ?_
      intro us
      simp only [junk, Act.put, List.setIfInBounds_toArray, List.set_cons_zero, List.set_cons_succ]
      go_wp2
      go_ret
      refine ⟨wc ?_, rfl⟩
      rw [e1.out, jg, Bool.eq_iff_iff]
      simp only [Bool.and_eq_true, decide_eq_true_eq, Bool.not_eq_true', decide_eq_false_iff_not]
      omega
theorem right_any (k n : Int) (s : ByteArray) (w : World) (hs : s.size ≤ reachBytes) :
    Calls Tryz.prog 103 #[.agg #[.int .i64 k, .int .i64 n, .string s]] w fun e w' => e = .returned (.bool (Val.right ⟨k, n, s⟩)) ∧ Below w.heap.size w w' := by
  unfold reachBytes at hs
  have hs' : s.size ≤ reachBytes := hs
  go_enter Tryz.func103, Tryz.ntmps103
  go_wp2_with (go_at_call 105; refine (name_any _ _ hs').mono ?_; rintro e w1 ⟨rfl, rfl⟩)
  all_goals
    go_ret
    refine ⟨wc ?_, (Below.refl _ _).alloc (Nat.le_refl _) _⟩
    go_light
    simp only [beq_iff_eq, beq_eq_false_iff_ne, ne_eq] at *
    simp [Val.right, jg, *]
    try omega
theorem texts_any (k : Int) (w : World) :
    Calls Tryz.prog 104 #[.int .i64 k] w fun e w' => e = .returned (.bool (textsS k)) ∧ w = w' := by
  go_enter Tryz.func104, Tryz.ntmps104
  go_upto_region 1 with (fail)
  refine wp_spec (by kernel_rfl) ?_
  repeat (refine qH ?_; intro K hK; go_big_quiet_op; go_big_quiet_on)
  refine zx ?_
  intro us
  simp only [junk, Act.put, List.setIfInBounds_toArray, List.set_cons_zero, List.set_cons_succ]
  go_wp2
  go_ret
  exact ⟨wc (by rw [Bool.eq_iff_iff]; simp [textsS]), rfl⟩
theorem less_any (k n : Int) (s : ByteArray) (k' n' : Int) (s' : ByteArray) (w : World) (hs : s.size ≤ reachBytes) (hs' : s'.size ≤ reachBytes) :
    Calls Tryz.prog 83 #[.agg #[.int .i64 k, .int .i64 n, .string s], .agg #[.int .i64 k', .int .i64 n', .string s']] w
      fun e w' => e = .returned (.tuple #[.bool (wN ⟨k, n, s⟩ ⟨k', n', s'⟩).1, .int .i64 (wN ⟨k, n, s⟩ ⟨k', n', s'⟩).2]) ∧ Below w.heap.size w w' := by
  go_enter Tryz.func83, Tryz.ntmps83
  go_upto_region 1 with (fail)
  refine wp_spec_ext (by kernel_rfl) ?_
  repeat (refine qH ?_; intro K hK; go_big_quiet_op; go_big_quiet_on)
  refine qH ?_; intro K hK; go_big_quiet_op
  refine ⟨_, fun _ => wQ (right_any _ _ _ _ hs), ?_⟩
  go_big_quiet_on
  repeat (refine qH ?_; intro K hK; go_big_quiet_op; go_big_quiet_on)
  refine qH ?_; intro K hK; go_big_quiet_op
  refine ⟨_, fun _ => wQ (right_any _ _ _ _ hs'), ?_⟩
  go_big_quiet_on
  repeat (refine qH ?_; intro K hK; go_big_quiet_op; go_big_quiet_on)
  refine zx ?_
  intro us w1 hB1
  simp only [junk, Act.put, List.setIfInBounds_toArray, List.set_cons_zero, List.set_cons_succ]
  obtain ⟨hc1, hf1⟩ := jF hB1; have hz1 := hB1.size; try simp only [World.size_alloc, World.size_drew] at hc1 hf1 hz1
  go_upto_region 3 with (fail)
  · go_ret2
    refine ⟨ret_bi ?_, (by repeat (first | exact Below.refl _ _ | assumption | refine Below.alloc1 ?_ _ | refine Below.drew ?_ | refine qt ?_ | refine Below.setCell ?_ (by first | exact Nat.le_refl _ | (simp; done) | omega | (simp; omega)) _ | refine Below.lift ?_ (by assumption)))⟩
    go_light
    simp_all [wN]
  · have h : (!{ kind := k, n := n, s := s : Val }.right) = false ∧ (!{ kind := k', n := n', s := s' : Val }.right) = false := by assumption
    have H := hide h
    clear h
    refine wp_spec (by kernel_rfl) ?_
    repeat (refine qH ?_; intro K hK; go_big_quiet_op; go_big_quiet_on)
    refine zx ?_
    intro us
    simp only [junk, Act.put, List.setIfInBounds_toArray, List.set_cons_zero, List.set_cons_succ]
    go_wp2_with (go_at_call 104; refine (texts_any _ _).mono ?_; rintro e w2 ⟨rfl, rfl⟩)
    all_goals
      go_ret2
      refine ⟨ret_bi ?_, (by repeat (first | exact Below.refl _ _ | assumption | refine Below.alloc1 ?_ _ | refine Below.drew ?_ | refine qt ?_ | refine Below.setCell ?_ (by first | exact Nat.le_refl _ | (simp; done) | omega | (simp; omega)) _ | refine Below.lift ?_ (by assumption)))⟩
      have h := H.out
      go_light
      simp_all [wN, lessB]
      try (intro h1; simp_all)
end Go.Proofs.YtppfcacnofjmdaaGreatDoor
namespace Go.Proofs.YtppfcacnofjmdaaGreatDoor
set_option linter.unusedVariables false
set_option linter.unusedSimpArgs false
def attrS (a : Atr) : Bool := decide (1 ≤ a.cat) && decide (a.cat ≤ 4) && wO a.name
def manyS (n : Nat) : Int := if n = 0 then 1 else if 8 < n then 6 else 0
def matchS (m : Mat) : Bool := attrS m.attr && decide (1 ≤ m.op) && decide (m.op ≤ 3) && m.val.right
def firstE {α : Type} (f : α → Int) : List α → Int
  | [] => 0
  | x :: r => if f x = 0 then firstE f r else f x
def okE (b : Bool) : Int := if b then 0 else 1
def allOfS (l : List Mat) : Int := if manyS l.length = 0 then firstE (fun m => okE (matchS m)) l else manyS l.length
def anyOfS (l : List (List Mat)) : Int := if manyS l.length = 0 then firstE allOfS l else manyS l.length
def zI (t : Tar) : Int := if 8 < t.length then 6 else firstE anyOfS t
def oblS (o : Obli) : Bool := decide (1 ≤ o.on) && decide (o.on ≤ 2) && decide (1 ≤ o.kind) && decide (o.kind ≤ 4) && wO o.arg
def oblsS (l : List Obli) : Int := if 8 < l.length then 6 else firstE (fun o => okE (oblS o)) l
def zu (op : Int) : Option (List Bool) :=
  if op = 1 ∨ op = 2 then some []
  else if op = 3 ∨ op = 4 then some [true]
  else if op = 5 then some [true, false]
  else if op = 11 then some [false]
  else if 6 ≤ op ∧ op ≤ 13 then some [false, false]
  else none
def isNoVal (v : Val) : Bool := decide (v.kind = 0) && decide (v.n = 0) && decide (v.s.size = 0)
def isNoAtr (a : Atr) : Bool := decide (a.cat = 0) && decide (a.name.size = 0) && !a.must
def ji (n : Nod) : Bool :=
  if n.op = 1 then n.val.right && isNoAtr n.attr
  else if n.op = 2 then attrS n.attr && isNoVal n.val
  else isNoVal n.val && isNoAtr n.attr
def zy (l : List Bool) (n : Nod) : Option (List Bool) := match zu n.op with
  | none => none
  | some w => if ji n = true ∧ w.length ≤ l.length ∧ l.drop (l.length - w.length) = w then some (l.take (l.length - w.length) ++ [decide (n.op = 2)]) else none
def qW : List Bool → List Nod → Option (List Bool)
  | l, [] => some l
  | l, n :: r => match zy l n with
    | some l' => qW l' r
    | none => none
def zo (l : List Nod) : Int :=
  if 32 < l.length then 6 else match qW [] l with
    | none => 1
    | some made => if l = [] ∨ made = [false] then 0 else 1
structure Wlk where
  met : List ByteArray
  rules : Int
def hasS (m : List ByteArray) (s : ByteArray) : Bool := m.any fun t => decide (s = t)
def zO (m : List ByteArray) (s : ByteArray) : Bool := !hasS m s && wO s
def nameM (m : List ByteArray) (s : ByteArray) : List ByteArray := if zO m s then m ++ [s] else m
def ruleE (r : Rul) : Int := if zI r.target = 0 then (if zo r.cond = 0 then oblsS r.obls else zo r.cond) else zI r.target
def zq (w : Wlk) (r : Rul) : Int × Wlk :=
  if zO w.met r.id then (if 64 < w.rules + 1 then 6 else ruleE r, ⟨w.met ++ [r.id], w.rules + 1⟩) else (1, w)
def headE (p : Pol) : Int :=
  if (p.set && decide (0 < p.rules.length)) || (!p.set && (decide (0 < p.kids.length) || decide (p.alg = 4))) then 1
  else if zI p.target = 0 then (if oblsS p.obls = 0 then (if 16 < p.rules.length ∨ 16 < p.kids.length then 6 else 0) else oblsS p.obls) else zI p.target
def zF (w : Wlk) (p : Pol) : Int × Wlk :=
  (if zO w.met p.id && decide (1 ≤ p.alg) && decide (p.alg ≤ 6) then headE p else 1, ⟨nameM w.met p.id, w.rules⟩)
def seqS {α : Type} (f : Wlk → α → Int × Wlk) : Wlk → List α → Int × Wlk
  | w, [] => (0, w)
  | w, x :: r => if (f w x).1 = 0 then seqS f (f w x).2 r else f w x
def polS : Nat → Wlk → Pol → Int × Wlk
  | 0, w, _ => (6, w)
  | n + 1, w, p =>
    if (zF w p).1 = 0 then
      if (seqS zq (zF w p).2 p.rules).1 = 0 then seqS (polS n) (seqS zq (zF w p).2 p.rules).2 p.kids
      else seqS zq (zF w p).2 p.rules
    else zF w p
def zb (p : Pol) : Int := (polS 4 ⟨[], 0⟩ p).1
theorem seqS_some {α : Type} {f : Wlk → α → Int × Wlk} : ∀ {l : List α} {w : Wlk} {k : Nat} (hk : k < l.length), (seqS f w (l.take k)).1 = 0 → seqS f w (l.take (k + 1)) = f (seqS f w (l.take k)).2 l[k]
  | x :: r, w, 0, _, _ => by
    simp only [Nat.zero_add, List.take_succ_cons, List.take_zero, seqS, List.getElem_cons_zero]
    split
    · rename_i h; rw [← h]
    · rfl
  | x :: r, w, k + 1, hk, h => by
    rw [List.take_succ_cons, seqS] at h
    rw [List.take_succ_cons, List.take_succ_cons, seqS, seqS]
    by_cases h0 : (f w x).1 = 0
    · rw [if_pos h0] at h
      rw [if_pos h0, if_pos h0]
      exact seqS_some (by simpa using hk) h
    · rw [if_neg h0] at h; exact absurd h h0
theorem seqS_stop {α : Type} {f : Wlk → α → Int × Wlk} : ∀ {l : List α} {w : Wlk} (k : Nat), (seqS f w (l.take k)).1 ≠ 0 → seqS f w l = seqS f w (l.take k)
  | [], w, k, _ => by simp
  | x :: r, w, 0, h => by simp [seqS] at h
  | x :: r, w, k + 1, h => by
    rw [List.take_succ_cons, seqS] at h ⊢
    rw [seqS]
    by_cases h0 : (f w x).1 = 0
    · rw [if_pos h0] at h ⊢
      rw [if_pos h0]
      exact seqS_stop k h
    · rw [if_neg h0, if_neg h0]
theorem wV {α : Type} {f : α → Int} : ∀ {l : List α} {k : Nat} (hk : k < l.length), (∀ x ∈ l.take k, f x = 0) → f l[k] ≠ 0 → firstE f l = f l[k]
  | x :: r, 0, _, _, h => by simp only [List.getElem_cons_zero] at h ⊢; rw [firstE, if_neg h]
  | x :: r, k + 1, hk, ha, h => by
    have h0 : f x = 0 := ha x (by simp)
    rw [firstE, if_pos h0]
    simp only [List.getElem_cons_succ] at h ⊢
    exact wV (by simpa using hk) (fun y hy => ha y (by rw [List.take_succ_cons]; exact List.mem_cons_of_mem _ hy)) h
theorem wT {α : Type} {f : α → Int} : ∀ {l : List α}, (∀ x ∈ l, f x = 0) → firstE f l = 0
  | [], _ => rfl
  | x :: r, h => by rw [firstE, if_pos (h x List.mem_cons_self)]; exact wT fun y hy => h y (List.mem_cons_of_mem _ hy)
theorem take_ok {α : Type} {p : α → Prop} {l : List α} {k : Nat} (h : k < l.length) (ha : ∀ x ∈ l.take k, p x) (hk : p l[k]) : ∀ x ∈ l.take (k + 1), p x := by
  intro x hx
  rw [List.take_succ_eq_append_getElem h, List.mem_append, List.mem_singleton] at hx
  rcases hx with hx | rfl
  · exact ha x hx
  · exact hk
end Go.Proofs.YtppfcacnofjmdaaGreatDoor
namespace Go.Proofs.YtppfcacnofjmdaaGreatDoor
set_option linter.unusedVariables false
set_option linter.unusedSimpArgs false
open Go.RowKit
set_option maxHeartbeats 1000000
theorem one_arg {vs : List Value} (h : vs.length = 1) : ∃ u, vs = [u] := by
  match vs, h with
  | [u], _ => exact ⟨u, rfl⟩
theorem name_h (s : ByteArray) (hs : s.size ≤ reachBytes) : Holds Tryz.prog 105 [pS s] (.p (pB (wO s))) [] :=
  .of_calls Tryz.func105 (by kernel_rfl) rfl (fun w vs hl hr => by
    obtain ⟨u, rfl⟩ := one_arg hl
    have h := zX (hr 0 _ u rfl rfl) rfl
    subst h
    exact (name_any s w hs).mono fun e w' ⟨h1, h2⟩ => ⟨h1, h2 ▸ Below.refl _ _⟩) rfl fun w => .p (.v rfl)
theorem qad (v : Val) (hs : v.s.size ≤ reachBytes) : Holds Tryz.prog 103 [.agg v.pv] (.p (pB v.right)) [] :=
  .of_calls Tryz.func103 (by kernel_rfl) rfl (fun w vs hl hr => by
    obtain ⟨u, rfl⟩ := one_arg hl
    have h := zX (hr 0 _ u rfl rfl) rfl
    subst h
    exact right_any v.kind v.n v.s w hs) rfl fun w => .p (.v rfl)
theorem beq_bytes2 (a b : ByteArray) : (a.toList == b.toList) = decide (a = b) := by
  rw [Bool.eq_iff_iff]
  simp only [beq_iff_eq, decide_eq_true_eq]
  exact ⟨toList_inj, fun h => by rw [h]⟩
theorem eqL_val (x y : Val) : eqL x.pv y.pv = some (jh x y) := by
  have h : eqL x.pv y.pv = some ((x.kind == y.kind) && ((x.n == y.n) && ((x.s.toList == y.s.toList) && true))) := rfl
  rw [h, beq_bytes2, Bool.and_true]
  congr 1
  rw [Bool.eq_iff_iff]
  simp [jh, and_assoc]
theorem opR_eqV {T : TT} {K : List Nat} {st : St} {o : Op} {t t' : TypeId} {a b : Operand} (x y : Val) (ho : o = .binOp .eql t a b t') {n m : Nat} {d : Ty} {z : List Value} (ht : lk t T = some ⟨n, m, d, z, true⟩) (ha : evS st a = some (.p (.agg x.pv))) (hb : evS st b = some (.p (.agg y.pv))) : opR T K st o = some (zm x.pv z = true, .p (pB (jh x y))) := by
  subst ho
  show rBin T .eql t (evS st a) (evS st b) = _
  rw [ha, hb]
  unfold rBin
  simp only [ht, eqL_val]
end Go.Proofs.YtppfcacnofjmdaaGreatDoor
namespace Go.Proofs.YtppfcacnofjmdaaGreatDoor
set_option linter.unusedVariables false
set_option linter.unusedSimpArgs false
open Go.RowKit
set_option maxHeartbeats 1000000
def Nod.pv (x : Nod) : List PV := [pI x.op, pI x.val.kind, pI x.val.n, pS x.val.s, pI x.attr.cat, pS x.attr.name, pB x.attr.must]
def Obli.pv (x : Obli) : List PV := [pI x.on, pI x.kind, pS x.arg]
def qar (l : List Nod) : PV := .sl 7 (l.map Nod.pv)
def zQ (l : List Obli) : PV := .sl 3 (l.map Obli.pv)
def jA (l : List Bool) : List (List PV) := l.map fun b => [pB b]
def zt (r : Rul) : List PV := [pS r.id, pB r.deny, tgtP r.target, qar r.cond, zQ r.obls]
theorem attr_h (a : Atr) (ha : a.name.size ≤ reachBytes) : Holds Tryz.prog 143 [.agg a.pv] (.p (pB (attrS a))) [] := by
  refine qA (ts := [2]) Tryz.func143 (by kernel_rfl) rfl rfl rfl ?_
  (repeat refine qb ?_); refine qa ?_
  repeat (first | refine zR ?_ | refine zK ?_ | refine zM ?_ | refine zB ?_ | refine zA ?_ | refine zS ?_ | refine zL ?_)
  refine qc ?_
  (repeat refine qb ?_); refine qs (by kernel_rfl) ?_
  repeat (refine qr qe rfl (by exact True.intro) rfl ?_)
  refine zj rfl rfl rfl rfl (name_h a.name ha) rfl rfl ?_
  repeat (refine qr qe rfl (by exact True.intro) rfl ?_)
  refine qQ ?_
  (repeat refine qb ?_); refine qk ?_
  refine wS rfl ?_
  unfold attrS
  cases h1 : decide (1 ≤ a.cat) <;> cases h2 : decide (a.cat ≤ 4) <;> simp_all
theorem many_h (n : Nat) : Holds Tryz.prog 134 [pI n] (.p (pI (manyS n))) [] := by
  refine qA (ts := [2]) Tryz.func134 (by kernel_rfl) rfl rfl rfl ?_
  (repeat refine qb ?_); refine qa ?_
  repeat (first | refine zR ?_ | refine zK ?_ | refine zM ?_ | refine zB ?_ | refine zA ?_ | refine zS ?_ | refine zL ?_)
  refine qc ?_
  (repeat refine qb ?_); refine ql ?_
  (repeat refine qb ?_); refine qa ?_
  repeat (first | refine zR ?_ | refine zK ?_ | refine zM ?_ | refine zB ?_ | refine zA ?_ | refine zS ?_ | refine zL ?_)
  refine qc ?_
  (repeat refine qb ?_); refine qf rfl (fun h => ?_) (fun h => ?_)
  · have h0 : n = 0 := by simpa using h
    subst h0
    (repeat refine qb ?_); refine qa ?_
    repeat (first | refine zR ?_ | refine zK ?_ | refine zM ?_ | refine zB ?_ | refine zA ?_ | refine zS ?_ | refine zL ?_)
    refine qc ?_
    (repeat refine qb ?_); refine qk ?_
    exact zg rfl rfl
  · have h0 : n ≠ 0 := by simpa using h
    (repeat refine qb ?_); refine qa ?_
    repeat (first | refine zR ?_ | refine zK ?_ | refine zM ?_ | refine zB ?_ | refine zA ?_ | refine zS ?_ | refine zL ?_)
    refine qc ?_
    (repeat refine qb ?_); refine qf rfl (fun h2 => ?_) (fun h2 => ?_)
    · (repeat refine qb ?_); refine qa ?_
      repeat (first | refine zR ?_ | refine zK ?_ | refine zM ?_ | refine zB ?_ | refine zA ?_ | refine zS ?_ | refine zL ?_)
      refine qc ?_
      (repeat refine qb ?_); refine qk ?_
      refine zg rfl ?_
      simp at h2
      simp [manyS, h0]; omega
    · refine qm ?_
      (repeat refine qb ?_); refine qa ?_
      repeat (first | refine zR ?_ | refine zK ?_ | refine zM ?_ | refine zB ?_ | refine zA ?_ | refine zS ?_ | refine zL ?_)
      refine qc ?_
      (repeat refine qb ?_); refine qk ?_
      refine zg rfl ?_
      simp at h2
      simp [manyS, h0]; omega
theorem match_h (m : Mat) (hm : m.Fit) : Holds Tryz.prog 153 [.agg m.pv] (.p (pB (matchS m))) [] := by
  refine qA (ts := [2]) Tryz.func153 (by kernel_rfl) rfl rfl rfl ?_
  (repeat refine qb ?_); refine qa ?_
  repeat (first | refine zR ?_ | refine zK ?_ | refine zM ?_ | refine zB ?_ | refine zA ?_ | refine zS ?_ | refine zL ?_)
  refine qc ?_
  (repeat refine qb ?_); refine qs (by kernel_rfl) ?_
  repeat (refine qr qe rfl (by exact True.intro) rfl ?_)
  refine zj rfl rfl rfl rfl (attr_h m.attr hm.attr.name) rfl rfl ?_
  repeat (refine qr qe rfl (by exact True.intro) rfl ?_)
  refine zj rfl rfl rfl rfl (qad m.val hm.val.s) rfl rfl ?_
  repeat (refine qr qe rfl (by exact True.intro) rfl ?_)
  refine qQ ?_
  (repeat refine qb ?_); refine qk ?_
  refine wS rfl ?_
  unfold matchS
  cases attrS m.attr <;> cases h1 : decide (1 ≤ m.op) <;> cases h2 : decide (m.op ≤ 3) <;> simp_all
theorem allOf_h (l : List Mat) (hf : ∀ x ∈ l, x.Fit) : Holds Tryz.prog 135 [qaB l] (.p (pI (allOfS l))) [] := by
  refine qA (ts := [2]) Tryz.func135 (by kernel_rfl) rfl rfl rfl ?_
  refine sw_len (t := 0) (z := 7) (l := l.map Mat.pv) rfl fun hlen => ?_
  rw [List.length_map] at hlen
  unfold reachBytes at hlen
  (repeat refine qb ?_); refine qa ?_
  repeat (first | refine zR ?_ | refine zK ?_ | refine zM ?_ | refine zB ?_ | refine zA ?_ | refine zS ?_ | refine zL ?_)
  refine qc ?_
  (repeat refine qb ?_); refine qa ?_
  repeat (first | refine zR ?_ | refine zK ?_ | refine zM ?_ | refine zB ?_ | refine zA ?_ | refine zS ?_ | refine zL ?_)
  refine qn rfl (qg rfl rfl rfl rfl (many_h (l.map Mat.pv).length) rfl rfl ?_)
  repeat (first | refine zR ?_ | refine zK ?_ | refine zM ?_ | refine zB ?_ | refine zA ?_ | refine zS ?_ | refine zL ?_)
  refine qc ?_
  (repeat refine qb ?_); refine qa ?_
  repeat (first | refine zR ?_ | refine zK ?_ | refine zM ?_ | refine zB ?_ | refine zA ?_ | refine zS ?_ | refine zL ?_)
  refine qc ?_
  rw [List.length_map]
  (repeat refine qb ?_); refine qf rfl (fun hm => ?_) (fun hm => ?_)
  · (repeat refine qb ?_); refine qa ?_
    repeat (first | refine zR ?_ | refine zK ?_ | refine zM ?_ | refine zB ?_ | refine zA ?_ | refine zS ?_ | refine zL ?_)
    refine qc ?_
    (repeat refine qb ?_); refine qk ?_
    refine zg rfl ?_
    have h0 : manyS l.length ≠ 0 := by simpa using hm
    simp [allOfS, h0]
  · refine qm ?_
    have h0 : manyS l.length = 0 := by simpa using hm
    (repeat refine qb ?_); refine qa ?_
    repeat (first | refine zR ?_ | refine zK ?_ | refine zM ?_ | refine zB ?_ | refine zA ?_ | refine zS ?_ | refine zL ?_)
    refine qc ?_
    (repeat refine qb ?_); refine ql ?_
    refine SW.wk (qq [12, 13, 14] [] rfl rfl) ?_
    refine qO (fun n s => ∃ (k : Nat) (kk : Int), k ≤ l.length ∧ n = l.length - k ∧ kk = k ∧ (∀ x ∈ l.take k, (fun m => okE (matchS m)) x = 0) ∧ s = ⟨22, [(12, .p (qaB l)), (13, .p (pI (l.map Mat.pv).length)), (14, .p (pI kk))], []⟩) l.length ⟨0, 0, Nat.zero_le _, rfl, rfl, by simp, rfl⟩ ?_
    rintro n s ⟨k, _, hk, rfl, rfl, ha, rfl⟩
    (repeat refine qb ?_); refine qa ?_
    repeat (first | refine zR ?_ | refine zK ?_ | refine zM ?_ | refine zB ?_ | refine zA ?_ | refine zS ?_ | refine zL ?_)
    refine qc ?_
    (repeat refine qb ?_); refine qf rfl (fun hlt => ?_) (fun hlt => ?_)
    · refine qm ?_
      simp only [List.length_map, decide_eq_true_eq] at hlt
      have hlt' : k < l.length := by omega
      (repeat refine qb ?_); refine ql ?_
      (repeat refine qb ?_); refine qa ?_
      repeat (first | refine zR ?_ | refine zK ?_ | refine zM ?_ | refine zB ?_ | refine zA ?_ | refine zS ?_ | refine zL ?_)
      refine qw qe rfl rfl (by simp only [List.length_map]; omega) rfl ?_
      rw [qJ hlt']
      repeat (first | refine zR ?_ | refine zK ?_ | refine zM ?_ | refine zB ?_ | refine zA ?_ | refine zS ?_ | refine zL ?_)
      refine qc ?_
      (repeat refine qb ?_); refine qa ?_
      repeat (first | refine zR ?_ | refine zK ?_ | refine zM ?_ | refine zB ?_ | refine zA ?_ | refine zS ?_ | refine zL ?_)
      refine qn rfl (qg rfl rfl rfl rfl (match_h l[k] (hf _ (List.getElem_mem hlt'))) rfl rfl ?_)
      repeat (first | refine zR ?_ | refine zK ?_ | refine zM ?_ | refine zB ?_ | refine zA ?_ | refine zS ?_ | refine zL ?_)
      refine qc ?_
      (repeat refine qb ?_); refine qf rfl (fun hp => ?_) (fun hp => ?_)
      · (repeat refine qb ?_); refine qa ?_
        repeat (first | refine zR ?_ | refine zK ?_ | refine zM ?_ | refine zB ?_ | refine zA ?_ | refine zS ?_ | refine zL ?_)
        refine qc ?_
        (repeat refine qb ?_); refine qk ?_
        refine zg rfl ?_
        have hq : okE (matchS l[k]) = 1 := by simpa [okE] using hp
        rw [allOfS, if_pos h0, wV (f := fun m => okE (matchS m)) hlt' ha (by rw [hq]; decide), hq]
      · refine qm ?_
        (repeat refine qb ?_); refine qa ?_
        repeat (first | refine zR ?_ | refine zK ?_ | refine zM ?_ | refine zB ?_ | refine zA ?_ | refine zS ?_ | refine zL ?_)
        refine qc ?_
        refine ⟨_, _, ?_, qq [12, 13, 14] [] rfl rfl, k + 1, _, hlt', rfl, qz hlt' (by omega), take_ok hlt' ha (by simpa [okE] using hp), rfl⟩
        omega
    · refine qK ?_
      simp only [List.length_map, decide_eq_false_iff_not] at hlt
      have hkk : k = l.length := by omega
      subst hkk
      rw [List.take_length] at ha
      (repeat refine qb ?_); refine qa ?_
      repeat (first | refine zR ?_ | refine zK ?_ | refine zM ?_ | refine zB ?_ | refine zA ?_ | refine zS ?_ | refine zL ?_)
      refine qc ?_
      (repeat refine qb ?_); refine qk ?_
      refine zg rfl ?_
      simp [allOfS, h0, wT ha]
theorem anyOf_h (l : List (List Mat)) (hf : ∀ x ∈ l, ∀ m ∈ x, m.Fit) : Holds Tryz.prog 106 [anyP l] (.p (pI (anyOfS l))) [] := by
  refine qA (ts := [2]) Tryz.func106 (by kernel_rfl) rfl rfl rfl ?_
  refine sw_len (t := 0) (z := 1) (l := l.map (fun x => [qaB x])) rfl fun hlen => ?_
  rw [List.length_map] at hlen
  unfold reachBytes at hlen
  (repeat refine qb ?_); refine qa ?_
  repeat (first | refine zR ?_ | refine zK ?_ | refine zM ?_ | refine zB ?_ | refine zA ?_ | refine zS ?_ | refine zL ?_)
  refine qc ?_
  (repeat refine qb ?_); refine qa ?_
  repeat (first | refine zR ?_ | refine zK ?_ | refine zM ?_ | refine zB ?_ | refine zA ?_ | refine zS ?_ | refine zL ?_)
  refine qn rfl (qg rfl rfl rfl rfl (many_h (l.map (fun x => [qaB x])).length) rfl rfl ?_)
  repeat (first | refine zR ?_ | refine zK ?_ | refine zM ?_ | refine zB ?_ | refine zA ?_ | refine zS ?_ | refine zL ?_)
  refine qc ?_
  (repeat refine qb ?_); refine qa ?_
  repeat (first | refine zR ?_ | refine zK ?_ | refine zM ?_ | refine zB ?_ | refine zA ?_ | refine zS ?_ | refine zL ?_)
  refine qc ?_
  rw [List.length_map]
  (repeat refine qb ?_); refine qf rfl (fun hm => ?_) (fun hm => ?_)
  · (repeat refine qb ?_); refine qa ?_
    repeat (first | refine zR ?_ | refine zK ?_ | refine zM ?_ | refine zB ?_ | refine zA ?_ | refine zS ?_ | refine zL ?_)
    refine qc ?_
    (repeat refine qb ?_); refine qk ?_
    refine zg rfl ?_
    have h0 : manyS l.length ≠ 0 := by simpa using hm
    simp [anyOfS, h0]
  · refine qm ?_
    have h0 : manyS l.length = 0 := by simpa using hm
    (repeat refine qb ?_); refine qa ?_
    repeat (first | refine zR ?_ | refine zK ?_ | refine zM ?_ | refine zB ?_ | refine zA ?_ | refine zS ?_ | refine zL ?_)
    refine qc ?_
    (repeat refine qb ?_); refine ql ?_
    refine SW.wk (qq [13, 14, 15] [] rfl rfl) ?_
    refine qO (fun n s => ∃ (k : Nat) (kk : Int), k ≤ l.length ∧ n = l.length - k ∧ kk = k ∧ (∀ x ∈ l.take k, allOfS x = 0) ∧ s = ⟨25, [(13, .p (anyP l)), (14, .p (pI (l.map (fun x => [qaB x])).length)), (15, .p (pI kk))], []⟩) l.length ⟨0, 0, Nat.zero_le _, rfl, rfl, by simp, rfl⟩ ?_
    rintro n s ⟨k, _, hk, rfl, rfl, ha, rfl⟩
    (repeat refine qb ?_); refine qa ?_
    repeat (first | refine zR ?_ | refine zK ?_ | refine zM ?_ | refine zB ?_ | refine zA ?_ | refine zS ?_ | refine zL ?_)
    refine qc ?_
    (repeat refine qb ?_); refine qf rfl (fun hlt => ?_) (fun hlt => ?_)
    · refine qm ?_
      simp only [List.length_map, decide_eq_true_eq] at hlt
      have hlt' : k < l.length := by omega
      (repeat refine qb ?_); refine ql ?_
      (repeat refine qb ?_); refine qa ?_
      repeat (first | refine zR ?_ | refine zK ?_ | refine zM ?_ | refine zB ?_ | refine zA ?_ | refine zS ?_ | refine zL ?_)
      refine qw qe rfl rfl (by simp only [List.length_map]; omega) rfl ?_
      rw [qJ hlt']
      repeat (first | refine zR ?_ | refine zK ?_ | refine zM ?_ | refine zB ?_ | refine zA ?_ | refine zS ?_ | refine zL ?_)
      refine qc ?_
      (repeat refine qb ?_); refine qa ?_
      repeat (first | refine zR ?_ | refine zK ?_ | refine zM ?_ | refine zB ?_ | refine zA ?_ | refine zS ?_ | refine zL ?_)
      refine qn rfl (qg rfl rfl rfl rfl (allOf_h l[k] (hf _ (List.getElem_mem hlt'))) rfl rfl ?_)
      repeat (first | refine zR ?_ | refine zK ?_ | refine zM ?_ | refine zB ?_ | refine zA ?_ | refine zS ?_ | refine zL ?_)
      refine qc ?_
      (repeat refine qb ?_); refine qa ?_
      repeat (first | refine zR ?_ | refine zK ?_ | refine zM ?_ | refine zB ?_ | refine zA ?_ | refine zS ?_ | refine zL ?_)
      refine qc ?_
      (repeat refine qb ?_); refine qf rfl (fun hp => ?_) (fun hp => ?_)
      · (repeat refine qb ?_); refine qa ?_
        repeat (first | refine zR ?_ | refine zK ?_ | refine zM ?_ | refine zB ?_ | refine zA ?_ | refine zS ?_ | refine zL ?_)
        refine qc ?_
        (repeat refine qb ?_); refine qk ?_
        refine zg rfl ?_
        have hq : allOfS l[k] ≠ 0 := by simpa using hp
        rw [anyOfS, if_pos h0, wV hlt' ha hq]
      · refine qm ?_
        (repeat refine qb ?_); refine qa ?_
        repeat (first | refine zR ?_ | refine zK ?_ | refine zM ?_ | refine zB ?_ | refine zA ?_ | refine zS ?_ | refine zL ?_)
        refine qc ?_
        refine ⟨_, _, ?_, qq [13, 14, 15] [] rfl rfl, k + 1, _, hlt', rfl, qz hlt' (by omega), take_ok hlt' ha (by simpa using hp), rfl⟩
        omega
    · refine qK ?_
      simp only [List.length_map, decide_eq_false_iff_not] at hlt
      have hkk : k = l.length := by omega
      subst hkk
      rw [List.take_length] at ha
      (repeat refine qb ?_); refine qa ?_
      repeat (first | refine zR ?_ | refine zK ?_ | refine zM ?_ | refine zB ?_ | refine zA ?_ | refine zS ?_ | refine zL ?_)
      refine qc ?_
      (repeat refine qb ?_); refine qk ?_
      refine zg rfl ?_
      simp [anyOfS, h0, wT ha]
theorem target_h (l : List (List (List Mat))) (hf : ∀ x ∈ l, ∀ y ∈ x, ∀ m ∈ y, m.Fit) : Holds Tryz.prog 85 [tgtP l] (.p (pI (zI l))) [] := by
  refine qA (ts := [2]) Tryz.func85 (by kernel_rfl) rfl rfl rfl ?_
  refine sw_len (t := 0) (z := 1) (l := l.map (fun x => [anyP x])) rfl fun hlen => ?_
  rw [List.length_map] at hlen
  unfold reachBytes at hlen
  (repeat refine qb ?_); refine qa ?_
  repeat (first | refine zR ?_ | refine zK ?_ | refine zM ?_ | refine zB ?_ | refine zA ?_ | refine zS ?_ | refine zL ?_)
  refine qc ?_
  (repeat refine qb ?_); refine qa ?_
  repeat (first | refine zR ?_ | refine zK ?_ | refine zM ?_ | refine zB ?_ | refine zA ?_ | refine zS ?_ | refine zL ?_)
  refine qc ?_
  rw [List.length_map]
  (repeat refine qb ?_); refine qf rfl (fun hm => ?_) (fun hm => ?_)
  · (repeat refine qb ?_); refine qa ?_
    repeat (first | refine zR ?_ | refine zK ?_ | refine zM ?_ | refine zB ?_ | refine zA ?_ | refine zS ?_ | refine zL ?_)
    refine qc ?_
    (repeat refine qb ?_); refine qk ?_
    refine zg rfl ?_
    have h0 : 8 < l.length := by simp at hm; omega
    simp [zI, h0]
  · refine qm ?_
    have h0 : ¬ 8 < l.length := by simp at hm; omega
    (repeat refine qb ?_); refine qa ?_
    repeat (first | refine zR ?_ | refine zK ?_ | refine zM ?_ | refine zB ?_ | refine zA ?_ | refine zS ?_ | refine zL ?_)
    refine qc ?_
    (repeat refine qb ?_); refine ql ?_
    refine SW.wk (qq [9, 10, 11] [] rfl rfl) ?_
    refine qO (fun n s => ∃ (k : Nat) (kk : Int), k ≤ l.length ∧ n = l.length - k ∧ kk = k ∧ (∀ x ∈ l.take k, anyOfS x = 0) ∧ s = ⟨21, [(9, .p (tgtP l)), (10, .p (pI (l.map (fun x => [anyP x])).length)), (11, .p (pI kk))], []⟩) l.length ⟨0, 0, Nat.zero_le _, rfl, rfl, by simp, rfl⟩ ?_
    rintro n s ⟨k, _, hk, rfl, rfl, ha, rfl⟩
    (repeat refine qb ?_); refine qa ?_
    repeat (first | refine zR ?_ | refine zK ?_ | refine zM ?_ | refine zB ?_ | refine zA ?_ | refine zS ?_ | refine zL ?_)
    refine qc ?_
    (repeat refine qb ?_); refine qf rfl (fun hlt => ?_) (fun hlt => ?_)
    · refine qm ?_
      simp only [List.length_map, decide_eq_true_eq] at hlt
      have hlt' : k < l.length := by omega
      (repeat refine qb ?_); refine ql ?_
      (repeat refine qb ?_); refine qa ?_
      repeat (first | refine zR ?_ | refine zK ?_ | refine zM ?_ | refine zB ?_ | refine zA ?_ | refine zS ?_ | refine zL ?_)
      refine qw qe rfl rfl (by simp only [List.length_map]; omega) rfl ?_
      rw [qJ hlt']
      repeat (first | refine zR ?_ | refine zK ?_ | refine zM ?_ | refine zB ?_ | refine zA ?_ | refine zS ?_ | refine zL ?_)
      refine qc ?_
      (repeat refine qb ?_); refine qa ?_
      repeat (first | refine zR ?_ | refine zK ?_ | refine zM ?_ | refine zB ?_ | refine zA ?_ | refine zS ?_ | refine zL ?_)
      refine qn rfl (qg rfl rfl rfl rfl (anyOf_h l[k] (hf _ (List.getElem_mem hlt'))) rfl rfl ?_)
      repeat (first | refine zR ?_ | refine zK ?_ | refine zM ?_ | refine zB ?_ | refine zA ?_ | refine zS ?_ | refine zL ?_)
      refine qc ?_
      (repeat refine qb ?_); refine qa ?_
      repeat (first | refine zR ?_ | refine zK ?_ | refine zM ?_ | refine zB ?_ | refine zA ?_ | refine zS ?_ | refine zL ?_)
      refine qc ?_
      (repeat refine qb ?_); refine qf rfl (fun hp => ?_) (fun hp => ?_)
      · (repeat refine qb ?_); refine qa ?_
        repeat (first | refine zR ?_ | refine zK ?_ | refine zM ?_ | refine zB ?_ | refine zA ?_ | refine zS ?_ | refine zL ?_)
        refine qc ?_
        (repeat refine qb ?_); refine qk ?_
        refine zg rfl ?_
        have hq : anyOfS l[k] ≠ 0 := by simpa using hp
        rw [zI, if_neg h0, wV hlt' ha hq]
      · refine qm ?_
        (repeat refine qb ?_); refine qa ?_
        repeat (first | refine zR ?_ | refine zK ?_ | refine zM ?_ | refine zB ?_ | refine zA ?_ | refine zS ?_ | refine zL ?_)
        refine qc ?_
        refine ⟨_, _, ?_, qq [9, 10, 11] [] rfl rfl, k + 1, _, hlt', rfl, qz hlt' (by omega), take_ok hlt' ha (by simpa using hp), rfl⟩
        omega
    · refine qK ?_
      simp only [List.length_map, decide_eq_false_iff_not] at hlt
      have hkk : k = l.length := by omega
      subst hkk
      rw [List.take_length] at ha
      (repeat refine qb ?_); refine qa ?_
      repeat (first | refine zR ?_ | refine zK ?_ | refine zM ?_ | refine zB ?_ | refine zA ?_ | refine zS ?_ | refine zL ?_)
      refine qc ?_
      (repeat refine qb ?_); refine qk ?_
      refine zg rfl ?_
      simp [zI, h0, wT ha]
theorem oblS_eq (o : Obli) : (!oblS o) = (decide (o.on < 1) || decide (2 < o.on) || decide (o.kind < 1) || decide (4 < o.kind) || !wO o.arg) := by
  rw [Bool.eq_iff_iff]
  simp [oblS]
theorem obls_h (l : List Obli) (hf : ∀ x ∈ l, x.Fit) : Holds Tryz.prog 86 [zQ l] (.p (pI (oblsS l))) [] := by
  refine qA (ts := [2]) Tryz.func86 (by kernel_rfl) rfl rfl rfl ?_
  refine sw_len (t := 0) (z := 3) (l := l.map Obli.pv) rfl fun hlen => ?_
  rw [List.length_map] at hlen
  unfold reachBytes at hlen
  (repeat refine qb ?_); refine qa ?_
  repeat (first | refine zR ?_ | refine zK ?_ | refine zM ?_ | refine zB ?_ | refine zA ?_ | refine zS ?_ | refine zL ?_)
  refine qc ?_
  (repeat refine qb ?_); refine qa ?_
  repeat (first | refine zR ?_ | refine zK ?_ | refine zM ?_ | refine zB ?_ | refine zA ?_ | refine zS ?_ | refine zL ?_)
  refine qc ?_
  rw [List.length_map]
  (repeat refine qb ?_); refine qf rfl (fun hm => ?_) (fun hm => ?_)
  · (repeat refine qb ?_); refine qa ?_
    repeat (first | refine zR ?_ | refine zK ?_ | refine zM ?_ | refine zB ?_ | refine zA ?_ | refine zS ?_ | refine zL ?_)
    refine qc ?_
    (repeat refine qb ?_); refine qk ?_
    refine zg rfl ?_
    have h0 : 8 < l.length := by simp at hm; omega
    simp [oblsS, h0]
  · refine qm ?_
    have h0 : ¬ 8 < l.length := by simp at hm; omega
    (repeat refine qb ?_); refine qa ?_
    repeat (first | refine zR ?_ | refine zK ?_ | refine zM ?_ | refine zB ?_ | refine zA ?_ | refine zS ?_ | refine zL ?_)
    refine qc ?_
    (repeat refine qb ?_); refine ql ?_
    refine SW.wk (qq [8, 9, 10] [] rfl rfl) ?_
    refine qO (fun n s => ∃ (k : Nat) (kk : Int), k ≤ l.length ∧ n = l.length - k ∧ kk = k ∧ (∀ x ∈ l.take k, (fun m => okE (oblS m)) x = 0) ∧ s = ⟨39, [(8, .p (zQ l)), (9, .p (pI (l.map Obli.pv).length)), (10, .p (pI kk))], []⟩) l.length ⟨0, 0, Nat.zero_le _, rfl, rfl, by simp, rfl⟩ ?_
    rintro n s ⟨k, _, hk, rfl, rfl, ha, rfl⟩
    (repeat refine qb ?_); refine qa ?_
    repeat (first | refine zR ?_ | refine zK ?_ | refine zM ?_ | refine zB ?_ | refine zA ?_ | refine zS ?_ | refine zL ?_)
    refine qc ?_
    (repeat refine qb ?_); refine qf rfl (fun hlt => ?_) (fun hlt => ?_)
    · refine qm ?_
      simp only [List.length_map, decide_eq_true_eq] at hlt
      have hlt' : k < l.length := by omega
      (repeat refine qb ?_); refine ql ?_
      (repeat refine qb ?_); refine qa ?_
      repeat (first | refine zR ?_ | refine zK ?_ | refine zM ?_ | refine zB ?_ | refine zA ?_ | refine zS ?_ | refine zL ?_)
      refine qw qe rfl rfl (by simp only [List.length_map]; omega) rfl ?_
      rw [qJ hlt']
      repeat (first | refine zR ?_ | refine zK ?_ | refine zM ?_ | refine zB ?_ | refine zA ?_ | refine zS ?_ | refine zL ?_)
      refine qc ?_
      (repeat refine qb ?_); refine qs (by kernel_rfl) ?_
      repeat (refine qr qe rfl (by exact True.intro) rfl ?_)
      refine zj rfl rfl rfl rfl (name_h l[k].arg (hf _ (List.getElem_mem hlt')).arg) rfl rfl ?_
      repeat (refine qr qe rfl (by exact True.intro) rfl ?_)
      refine qQ ?_
      (repeat refine qb ?_); refine qf rfl (fun hp => ?_) (fun hp => ?_)
      · (repeat refine qb ?_); refine qa ?_
        repeat (first | refine zR ?_ | refine zK ?_ | refine zM ?_ | refine zB ?_ | refine zA ?_ | refine zS ?_ | refine zL ?_)
        refine qc ?_
        (repeat refine qb ?_); refine qk ?_
        refine zg rfl ?_
        have hq : okE (oblS l[k]) = 1 := by
          have := oblS_eq l[k]
          cases h1 : oblS l[k] with
          | false => rfl
          | true =>
            exfalso
            rw [h1] at this
            simp at this hp
            rcases hp with ((((h | h) | h) | h) | h) <;> first | omega | simp_all
        rw [oblsS, if_neg h0, wV (f := fun m => okE (oblS m)) hlt' ha (by rw [hq]; decide), hq]
      · refine qm ?_
        (repeat refine qb ?_); refine qa ?_
        repeat (first | refine zR ?_ | refine zK ?_ | refine zM ?_ | refine zB ?_ | refine zA ?_ | refine zS ?_ | refine zL ?_)
        refine qc ?_
        refine ⟨_, _, ?_, qq [8, 9, 10] [] rfl rfl, k + 1, _, hlt', rfl, qz hlt' (by omega), take_ok hlt' ha ?_, rfl⟩
        · omega
        · have := oblS_eq l[k]
          cases h1 : oblS l[k] with
          | true => simp [okE, h1]
          | false =>
            exfalso
            rw [h1] at this
            simp at this hp
            rcases this with ((((h | h) | h) | h) | h) <;> first | omega | simp_all
    · refine qK ?_
      simp only [List.length_map, decide_eq_false_iff_not] at hlt
      have hkk : k = l.length := by omega
      subst hkk
      rw [List.take_length] at ha
      (repeat refine qb ?_); refine qa ?_
      repeat (first | refine zR ?_ | refine zK ?_ | refine zM ?_ | refine zB ?_ | refine zA ?_ | refine zS ?_ | refine zL ?_)
      refine qc ?_
      (repeat refine qb ?_); refine qk ?_
      refine zg rfl ?_
      simp [oblsS, h0, wT ha]
theorem wk_nilp {st : St} (t d : Nat) (e : TypeId) (z : Nat) (ht : lk t st.fr = some (.p (.v (.slice none 0 0)))) (hd : lk d st.own = none) (hdl : Nat.blt d 1000000 = true := by rfl) : Wk st (St.frz ⟨st.n, (t, .row d) :: st.fr, (d, .row e z []) :: st.own⟩ d z []) :=
  (jP t d e z ht hd hdl).trans (zN (e := e) (by show lk d ((d, Box.row e z []) :: st.own) = _; rw [qE, if_pos rfl]))
theorem wants_h (op : Int) : Holds Tryz.prog 113 [pI op] (.tup [.p (.sl 1 (jA ((zu op).getD []))), .p (pB (zu op).isSome)]) [] := by
  refine qA (ts := [2,3]) Tryz.func113 (by kernel_rfl) rfl rfl rfl ?_
  (repeat refine qb ?_); refine qa ?_
  repeat (first | refine zR ?_ | refine zK ?_ | refine zM ?_ | refine zB ?_ | refine zA ?_ | refine zS ?_ | refine zL ?_)
  refine qc ?_
  (repeat refine qb ?_); refine ql ?_
  (repeat refine qb ?_); refine qs (by kernel_rfl) ?_
  repeat (refine qr qe rfl (by exact True.intro) rfl ?_)
  refine qQ ?_
  (repeat refine qb ?_); refine qf rfl (fun h => ?_) (fun h => ?_)
  · have e : zu op = some [] := by
      unfold zu; rw [if_pos (by simpa using h)]
    rw [e]
    (repeat refine qb ?_); refine qa ?_
    repeat (first | refine zR ?_ | refine zK ?_ | refine zM ?_ | refine zB ?_ | refine zA ?_ | refine zS ?_ | refine zL ?_)
    refine qc ?_
    (repeat refine qb ?_); refine qk ?_
    exact ⟨Or.inr rfl, _, _, [], wk_nilp 2 0 4 1 rfl rfl, rfl, rfl, rfl, rfl⟩
  · have n1 : ¬ (op = 1 ∨ op = 2) := by simpa using h
    (repeat refine qb ?_); refine qs (by kernel_rfl) ?_
    repeat (refine qr qe rfl (by exact True.intro) rfl ?_)
    refine qQ ?_
    (repeat refine qb ?_); refine qf rfl (fun h => ?_) (fun h => ?_)
    · have e : zu op = some [true] := by
        unfold zu; rw [if_neg n1, if_pos (by simpa using h)]
      rw [e]
      (repeat refine qb ?_); refine qa ?_
      repeat (first | refine zR ?_ | refine zK ?_ | refine zM ?_ | refine zB ?_ | refine zA ?_ | refine zS ?_ | refine zL ?_)
      refine qc ?_
      (repeat refine qb ?_); refine qk ?_
      exact ⟨Or.inr rfl, _, _, [], zN (k := 18) rfl, rfl, rfl, rfl, rfl⟩
    · have n2 : ¬ (op = 3 ∨ op = 4) := by simpa using h
      (repeat refine qb ?_); refine qa ?_
      repeat (first | refine zR ?_ | refine zK ?_ | refine zM ?_ | refine zB ?_ | refine zA ?_ | refine zS ?_ | refine zL ?_)
      refine qc ?_
      (repeat refine qb ?_); refine qf rfl (fun h => ?_) (fun h => ?_)
      · have e : zu op = some [true, false] := by
          unfold zu; rw [if_neg n1, if_neg n2, if_pos (by simpa using h)]
        rw [e]
        (repeat refine qb ?_); refine qa ?_
        repeat (first | refine zR ?_ | refine zK ?_ | refine zM ?_ | refine zB ?_ | refine zA ?_ | refine zS ?_ | refine zL ?_)
        refine qc ?_
        (repeat refine qb ?_); refine qk ?_
        exact ⟨Or.inr rfl, _, _, [], zN (k := 22) rfl, rfl, rfl, rfl, rfl⟩
      · have n3 : ¬ op = 5 := by simpa using h
        (repeat refine qb ?_); refine qa ?_
        repeat (first | refine zR ?_ | refine zK ?_ | refine zM ?_ | refine zB ?_ | refine zA ?_ | refine zS ?_ | refine zL ?_)
        refine qc ?_
        (repeat refine qb ?_); refine qf rfl (fun h => ?_) (fun h => ?_)
        · have e : zu op = some [false] := by
            unfold zu; rw [if_neg n1, if_neg n2, if_neg n3, if_pos (by simpa using h)]
          rw [e]
          (repeat refine qb ?_); refine qa ?_
          repeat (first | refine zR ?_ | refine zK ?_ | refine zM ?_ | refine zB ?_ | refine zA ?_ | refine zS ?_ | refine zL ?_)
          refine qc ?_
          (repeat refine qb ?_); refine qk ?_
          exact ⟨Or.inr rfl, _, _, [], zN (k := 26) rfl, rfl, rfl, rfl, rfl⟩
        · have n4 : ¬ op = 11 := by simpa using h
          (repeat refine qb ?_); refine qs (by kernel_rfl) ?_
          repeat (refine qr qe rfl (by exact True.intro) rfl ?_)
          refine qQ ?_
          (repeat refine qb ?_); refine qf rfl (fun h => ?_) (fun h => ?_)
          · have e : zu op = some [false, false] := by
              unfold zu; rw [if_neg n1, if_neg n2, if_neg n3, if_neg n4, if_pos (by simp at h; omega)]
            rw [e]
            (repeat refine qb ?_); refine qa ?_
            repeat (first | refine zR ?_ | refine zK ?_ | refine zM ?_ | refine zB ?_ | refine zA ?_ | refine zS ?_ | refine zL ?_)
            refine qc ?_
            (repeat refine qb ?_); refine qk ?_
            exact ⟨Or.inr rfl, _, _, [], zN (k := 34) rfl, rfl, rfl, rfl, rfl⟩
          · have e : zu op = none := by
              unfold zu; rw [if_neg n1, if_neg n2, if_neg n3, if_neg n4, if_neg (by simp at h; omega)]
            rw [e]
            refine qm ?_
            (repeat refine qb ?_); refine qa ?_
            repeat (first | refine zR ?_ | refine zK ?_ | refine zM ?_ | refine zB ?_ | refine zA ?_ | refine zS ?_ | refine zL ?_)
            refine qc ?_
            (repeat refine qb ?_); refine qk ?_
            exact ⟨Or.inr rfl, _, _, [], wk_nilp 2 0 4 1 rfl rfl, rfl, rfl, rfl, rfl⟩
theorem noVal_eq (v : Val) : (v.kind == 0 && (v.n == 0 && v.s.toList.isEmpty)) = isNoVal v := by
  rw [jg, Bool.eq_iff_iff]
  simp [isNoVal, and_assoc]
theorem noAtr_eq (a : Atr) : (a.cat == 0 && (a.name.toList.isEmpty && !a.must)) = isNoAtr a := by
  rw [jg, Bool.eq_iff_iff]
  simp [isNoAtr, and_assoc]
theorem fields_h (n : Nod) (hn : n.Fit) : Holds Tryz.prog 114 [.agg n.pv] (.p (pB (ji n))) [] := by
  refine qA (ts := [2]) Tryz.func114 (by kernel_rfl) rfl rfl rfl ?_
  (repeat refine qb ?_); refine qa ?_
  repeat (first | refine zR ?_ | refine zK ?_ | refine zM ?_ | refine zB ?_ | refine zA ?_ | refine zS ?_ | refine zL ?_)
  refine qc ?_
  (repeat refine qb ?_); refine qa ?_
  repeat (first | refine zR ?_ | refine zK ?_ | refine zM ?_ | refine zB ?_ | refine zA ?_ | refine zS ?_ | refine zL ?_)
  refine qc ?_
  (repeat refine qb ?_); refine ql ?_
  (repeat refine qb ?_); refine qa ?_
  repeat (first | refine zR ?_ | refine zK ?_ | refine zM ?_ | refine zB ?_ | refine zA ?_ | refine zS ?_ | refine zL ?_)
  refine qc ?_
  (repeat refine qb ?_); refine qf rfl (fun h => ?_) (fun h => ?_)
  · have h1 : n.op = 1 := by simpa using h
    (repeat refine qb ?_); refine qs (by kernel_rfl) ?_
    repeat (refine qr qe rfl (by exact True.intro) rfl ?_)
    refine zj rfl rfl rfl rfl (qad n.val hn.val.s) rfl rfl ?_
    repeat (refine qr qe rfl (by exact True.intro) rfl ?_)
    refine qr qe rfl (rfl) rfl ?_
    repeat (refine qr qe rfl (by exact True.intro) rfl ?_)
    refine qQ ?_
    (repeat refine qb ?_); refine qk ?_
    refine wS rfl ?_
    unfold ji
    rw [if_pos h1]
    cases n.val.right <;> simp [← noAtr_eq]
  · have n1 : ¬ n.op = 1 := by simpa using h
    (repeat refine qb ?_); refine qa ?_
    repeat (first | refine zR ?_ | refine zK ?_ | refine zM ?_ | refine zB ?_ | refine zA ?_ | refine zS ?_ | refine zL ?_)
    refine qc ?_
    (repeat refine qb ?_); refine qf rfl (fun h => ?_) (fun h => ?_)
    · have h2 : n.op = 2 := by simpa using h
      (repeat refine qb ?_); refine qs (by kernel_rfl) ?_
      repeat (refine qr qe rfl (by exact True.intro) rfl ?_)
      refine zj rfl rfl rfl rfl (attr_h n.attr hn.attr.name) rfl rfl ?_
      repeat (refine qr qe rfl (by exact True.intro) rfl ?_)
      refine qr qe rfl (rfl) rfl ?_
      repeat (refine qr qe rfl (by exact True.intro) rfl ?_)
      refine qQ ?_
      (repeat refine qb ?_); refine qk ?_
      refine wS rfl ?_
      unfold ji
      rw [if_neg n1, if_pos h2]
      cases attrS n.attr <;> simp [← noVal_eq]
    · have n2 : ¬ n.op = 2 := by simpa using h
      refine qm ?_
      (repeat refine qb ?_); refine qs (by kernel_rfl) ?_
      repeat (refine qr qe rfl (by exact True.intro) rfl ?_)
      refine qr qe rfl (rfl) rfl ?_
      repeat (refine qr qe rfl (by exact True.intro) rfl ?_)
      refine qr qe rfl (rfl) rfl ?_
      repeat (refine qr qe rfl (by exact True.intro) rfl ?_)
      refine qQ ?_
      (repeat refine qb ?_); refine qk ?_
      refine wS rfl ?_
      unfold ji
      rw [if_neg n1, if_neg n2]
      simp [← noVal_eq, ← noAtr_eq]
end Go.Proofs.YtppfcacnofjmdaaGreatDoor
namespace Go.Proofs.YtppfcacnofjmdaaGreatDoor
set_option linter.unusedVariables false
set_option linter.unusedSimpArgs false
open Go.RowKit
def isG (cat : Int) (name : ByteArray) (g : Giv) : Bool := decide (g.cat = cat) && decide (g.name = name)
def placeS (cat : Int) (name : ByteArray) (l : List Giv) : Int := if l.findIdx (isG cat name) < l.length then (l.findIdx (isG cat name) : Int) else -1
theorem placeS_at {cat : Int} {name : ByteArray} {l : List Giv} {k : Nat} (hk : k < l.length) (h : ∀ g ∈ l.take k, isG cat name g = false) (hg : isG cat name l[k] = true) : placeS cat name l = k := by
  have e : l.findIdx (isG cat name) = k := (List.findIdx_eq hk).2 ⟨hg, fun j hj => h _ (List.mem_take_iff_getElem.2 ⟨j, by omega, rfl⟩)⟩
  unfold placeS
  rw [e, if_pos hk]
theorem placeS_no {cat : Int} {name : ByteArray} {l : List Giv} (h : ∀ g ∈ l, isG cat name g = false) : placeS cat name l = -1 := by
  have e : l.findIdx (isG cat name) = l.length := List.findIdx_eq_length.2 h
  unfold placeS
  rw [e, if_neg (Nat.lt_irrefl _)]
def bagS (cat : Int) (name : ByteArray) (l : List Giv) : List Val := match l.find? (isG cat name) with | some g => g.bag | none => []
def getS (a : Atr) (l : List Giv) : List Val × Int := if (bagS a.cat a.name l).isEmpty && a.must then ([], 4) else (bagS a.cat a.name l, 0)
theorem bagS_no {cat : Int} {name : ByteArray} {l : List Giv} (h : ∀ g ∈ l, isG cat name g = false) : bagS cat name l = [] := by
  have : l.find? (isG cat name) = none := List.find?_eq_none.2 fun g hg => by simp [h g hg]
  simp [bagS, this]
theorem bagS_at {cat : Int} {name : ByteArray} {l : List Giv} {k : Nat} (hk : k < l.length) (h : ∀ g ∈ l.take k, isG cat name g = false) (hg : isG cat name l[k] = true) : bagS cat name l = l[k].bag := by
  have e : l = l.take k ++ l[k] :: l.drop (k + 1) := by rw [← List.drop_eq_getElem_cons hk, List.take_append_drop]
  have : l.find? (isG cat name) = some l[k] := by
    conv => lhs; rw [e]
    rw [List.find?_append, List.find?_eq_none.2 fun g hm => by simp [h g hm], List.find?_cons, hg]
    rfl
  simp [bagS, this]
theorem place_cases (cat : Int) (name : ByteArray) (l : List Giv) : (placeS cat name l = -1 ∧ bagS cat name l = [] ∧ ∀ g ∈ l, isG cat name g = false) ∨ ∃ (k : Nat) (hk : k < l.length), placeS cat name l = k ∧ bagS cat name l = l[k].bag ∧ isG cat name l[k] = true ∧ ∀ g ∈ l.take k, isG cat name g = false := by
  by_cases h : l.findIdx (isG cat name) < l.length
  · right
    have h1 : isG cat name l[l.findIdx (isG cat name)] = true := List.findIdx_getElem (w := h)
    have h2 : ∀ g ∈ l.take (l.findIdx (isG cat name)), isG cat name g = false := by
      intro g hg
      obtain ⟨j, hj, rfl⟩ := List.mem_take_iff_getElem.1 hg
      exact List.not_of_lt_findIdx (by omega)
    exact ⟨_, h, placeS_at h h2 h1, bagS_at h h2 h1, h1, h2⟩
  · left
    have h1 : l.findIdx (isG cat name) = l.length := Nat.le_antisymm List.findIdx_le_length (by omega)
    have h2 := List.findIdx_eq_length.1 h1
    exact ⟨placeS_no h2, bagS_no h2, h2⟩
end Go.Proofs.YtppfcacnofjmdaaGreatDoor
namespace Go.Proofs.YtppfcacnofjmdaaGreatDoor
set_option linter.unusedVariables false
set_option linter.unusedSimpArgs false
def hasV (l : List Val) (v : Val) : Bool := l.any fun x => jh v x
end Go.Proofs.YtppfcacnofjmdaaGreatDoor
namespace Go.Proofs.YtppfcacnofjmdaaGreatDoor
set_option linter.unusedVariables false
set_option linter.unusedSimpArgs false
open Go.RowKit
theorem wd {a : List Nod} (h : zo a = 0) (hn : a ≠ []) : qW [] a = some [false] ∧ a.length ≤ 32 := by
  unfold zo at h
  split at h
  · cases h
  · cases hs : qW [] a with
    | none => rw [hs] at h; cases h
    | some m =>
      rw [hs] at h
      simp only at h
      split at h
      · rename_i hc
        rcases hc with hc | hc
        · exact absurd hc hn
        · subst hc; exact ⟨rfl, by omega⟩
      · cases h
structure Itm where
  bag : List Val
  v : Val
  e : Int
def Itm.pv (x : Itm) : List PV := [valsP x.bag, pI x.v.kind, pI x.v.n, pS x.v.s, pI x.e]
def noItm : Itm := ⟨[], noVal, 0⟩
def itmT (b : Bool) : Itm := ⟨[], jo b, 0⟩
def isT (v : Val) (n : Int) : Bool := jh v ⟨1, n, ⟨#[]⟩⟩
def Itm.is (x : Itm) (n : Int) : Bool := decide (x.e = 0) && isT x.v n
def qL (op : Int) : Nat := if op = 1 ∨ op = 2 then 0 else if op = 3 ∨ op = 4 ∨ op = 11 then 1 else 2
def decS (op : Int) (l : List Itm) : Bool := (decide (op = 12) || decide (op = 13)) && ((l.getD 0 noItm).is (op - 12) || (l.getD 1 noItm).is (op - 12))
def errS : List Itm → Int
  | [] => 0
  | x :: r => if x.e = 0 then errS r else x.e
def lastS (op : Int) (l : List Itm) : Itm :=
  if op = 3 then (if (l.getD 0 noItm).bag.length = 1 then ⟨[], (l.getD 0 noItm).bag.getD 0 noVal, 0⟩ else ⟨[], noVal, 4⟩)
  else if op = 4 then ⟨[], ⟨2, (l.getD 0 noItm).bag.length, ⟨#[]⟩⟩, 0⟩
  else if op = 5 then itmT (hasV (l.getD 0 noItm).bag (l.getD 1 noItm).v)
  else ⟨[], (qN op (l.map Itm.v)).1, (qN op (l.map Itm.v)).2⟩
def zc (n : Nod) (l : List Itm) (g : List Giv) : Itm :=
  if n.op = 1 then ⟨[], n.val, 0⟩
  else if n.op = 2 then ⟨(getS n.attr g).1, noVal, (getS n.attr g).2⟩
  else if decS n.op l then itmT (decide (n.op = 13))
  else if errS l ≠ 0 then ⟨[], noVal, errS l⟩
  else lastS n.op l
def zJ (g : List Giv) (s : List Itm) (n : Nod) : List Itm := s.take (s.length - qL n.op) ++ [zc n (s.drop (s.length - qL n.op)) g]
def jV (g : List Giv) (l : List Nod) : List Itm := l.foldl (zJ g) []
def zk (l : List Nod) (g : List Giv) : Val × Int :=
  if l = [] ∨ zo l ≠ 0 then (noVal, 1) else (((jV g l).getD 0 noItm).v, ((jV g l).getD 0 noItm).e)
def ww (x : Val × Int) : Int := if (Itm.mk [] x.1 x.2).is 1 then 2 else if (Itm.mk [] x.1 x.2).is 0 then 0 else 1
def qam (l : List Nod) (g : List Giv) : Int := if l = [] then 2 else ww (zk l g)
theorem operandsS_wants {op : Int} {w : List Bool} (h : zu op = some w) : w.length = qL op := by
  unfold zu at h
  unfold qL
  repeat' split at h
  all_goals (cases h; try (simp; try omega))
  all_goals (try (split <;> simp_all <;> omega))
theorem stepI_len {g : List Giv} {s : List Itm} {n : Nod} {l l' : List Bool} (hl : s.length = l.length) (h : zy l n = some l') : (zJ g s n).length = l'.length ∧ qL n.op ≤ s.length := by
  unfold zy at h
  split at h
  · cases h
  · rename_i w hw
    split at h
    · rename_i hc
      cases h
      have := operandsS_wants hw
      simp only [zJ, List.length_append, List.length_take, List.length_singleton]
      omega
    · cases h
theorem evalI_len {g : List Giv} : ∀ {r : List Nod} {s : List Itm} {l l' : List Bool}, s.length = l.length → qW l r = some l' → (r.foldl (zJ g) s).length = l'.length
  | [], s, l, l', hl, h => by cases h; exact hl
  | n :: r, s, l, l', hl, h => by
    rw [qW] at h
    cases hs : zy l n with
    | none => rw [hs] at h; cases h
    | some m =>
      rw [hs] at h
      rw [List.foldl_cons]
      exact evalI_len (s := zJ g s n) (l := m) (stepI_len (g := g) hl hs).1 h
theorem evalI_one {g : List Giv} {l : List Nod} (h : zo l = 0) (hn : l ≠ []) : ∃ x, jV g l = [x] := by
  have h1 := evalI_len (g := g) (s := []) (l := []) rfl (wd h hn).1
  exact List.length_eq_one_iff.1 h1
theorem zp {g : List Giv} {l : List Nod} {x : Itm} (h : zo l = 0) (hn : l ≠ []) (hx : jV g l = [x]) : zk l g = (x.v, x.e) := by
  unfold zk
  rw [if_neg (by simp [h, hn]), hx]; rfl
end Go.Proofs.YtppfcacnofjmdaaGreatDoor
namespace Go.Proofs.YtppfcacnofjmdaaGreatDoor
set_option linter.unusedVariables false
set_option linter.unusedSimpArgs false
open Go.RowKit
section
variable {s : ByteArray} (hs : wO s = true)
include hs
end
end Go.Proofs.YtppfcacnofjmdaaGreatDoor
namespace Go.Proofs.YtppfcacnofjmdaaGreatDoor
set_option linter.unusedVariables false
set_option linter.unusedSimpArgs false
open Go.RowKit
def againstT (m : Mat) (v : Val) : Bool × Int :=
  if m.op = 1 then (if v.kind ≠ m.val.kind then (false, 2) else (jh v m.val, 0)) else if m.op = 2 then wN v m.val else wN m.val v
def okT (m : Mat) (v : Val) : Bool := (againstT m v).1
def badT (m : Mat) (v : Val) : Bool := decide ((againstT m v).2 ≠ 0)
def qax (m : Mat) (l : List Giv) : Int :=
  if (getS m.attr l).2 ≠ 0 then 1 else if (getS m.attr l).1.any (okT m) then 2 else if (getS m.attr l).1.any (badT m) then 1 else 0
def allTT (l : List Mat) (g : List Giv) : Int := l.foldl (fun o m => min o (qax m g)) 2
def anyTT (l : List (List Mat)) (g : List Giv) : Int := l.foldl (fun o x => max o (allTT x g)) 0
def metT (t : Tar) (g : List Giv) : Int := t.foldl (fun o x => min o (anyTT x g)) 2
abbrev Mk := Nat × Nat
def mks : List Mk := [(0, 0), (2, 0), (0, 2), (1, 0), (0, 1), (1, 1)]
def qaA (a b : Mk) : Mk := (max a.1 b.1, max a.2 b.2)
def overM (j : Mk) : Mk := if j.2 = 2 then (0, 2) else if j.2 = 1 ∧ 1 ≤ j.1 then (1, 1) else if j.2 = 1 then (0, 1) else if j.1 = 2 then (2, 0) else if j.1 = 1 then (1, 0) else (0, 0)
def turnM (j : Mk) : Mk := (j.2, j.1)
def qat (m : Mk) : Mk := if m = (2, 0) then (1, 0) else if m = (0, 2) then (0, 1) else m
def qaC (l : List Mk) : Mk := l.foldl qaA (0, 0)
def wy : List Mk → Mk
  | [] => (0, 0)
  | m :: r => if m = (0, 0) then wy r else m
def sureM (m : Mk) : Bool := decide (m = (0, 0)) || decide (m = (2, 0)) || decide (m = (0, 2))
def stepJ (j m : Mk) : Mk := if j = (0, 0) then m else if m ≠ (0, 0) then (1, 1) else j
def onlyM : Mk → List Mk → Mk
  | j, [] => j
  | j, m :: r => if sureM m then onlyM (stepJ j m) r else (1, 1)
def zY (l : List Mk) (m other : Mk) : Mk := if other ∈ l then other else m
def allM (alg : Int) (l : List Mk) : Mk :=
  if alg = 1 then overM (qaC l) else if alg = 2 then turnM (overM (turnM (qaC l))) else if alg = 3 then wy l
  else if alg = 4 then onlyM (0, 0) l else if alg = 5 then zY l (0, 2) (2, 0) else if alg = 6 then zY l (2, 0) (0, 2) else (0, 0)
theorem overM_mem (j : Mk) : overM j ∈ mks := by
  unfold overM mks
  repeat' split
  all_goals simp
theorem turnM_mem {j : Mk} (h : j ∈ mks) : turnM j ∈ mks := by
  unfold mks at h ⊢
  simp only [List.mem_cons, List.not_mem_nil, or_false] at h
  rcases h with rfl | rfl | rfl | rfl | rfl | rfl <;> simp [turnM]
theorem qau {j : Mk} (h : j ∈ mks) : qat j ∈ mks := by
  unfold mks at h ⊢
  simp only [List.mem_cons, List.not_mem_nil, or_false] at h
  rcases h with rfl | rfl | rfl | rfl | rfl | rfl <;> simp [qat]
theorem firstM_mem : ∀ {l : List Mk}, (∀ m ∈ l, m ∈ mks) → wy l ∈ mks
  | [], _ => by simp [wy, mks]
  | m :: r, h => by
    rw [wy]
    split
    · exact firstM_mem fun x hx => h x (List.mem_cons_of_mem _ hx)
    · exact h m (by simp)
theorem onlyM_mem : ∀ {l : List Mk} {j : Mk}, j ∈ mks → (∀ m ∈ l, m ∈ mks) → onlyM j l ∈ mks
  | [], j, hj, _ => hj
  | m :: r, j, hj, h => by
    rw [onlyM]
    split
    · refine onlyM_mem ?_ fun x hx => h x (List.mem_cons_of_mem _ hx)
      unfold stepJ
      split
      · exact h m (by simp)
      · split
        · simp [mks]
        · exact hj
    · simp [mks]
theorem allM_mem {alg : Int} {l : List Mk} (h : ∀ m ∈ l, m ∈ mks) : allM alg l ∈ mks := by
  unfold allM zY
  repeat' split
  all_goals first | exact overM_mem _ | exact turnM_mem (overM_mem _) | exact firstM_mem h | exact onlyM_mem (by simp [mks]) h | (simp [mks])
structure Rs where
  m : Mk
  obls : List Obli
def noRs : Rs := ⟨(0, 0), []⟩
def dutyS (m : Mk) (o : Obli) : Bool := (decide (o.on = 1) && decide (m = (2, 0))) || (decide (o.on = 2) && decide (m = (0, 2)))
def jm (l : List Obli) (m : Mk) : List Obli := l.filter (dutyS m)
def effM (r : Rul) : Mk := if r.deny then (0, 2) else (2, 0)
def jW (r : Rul) (t c : Int) : Rs :=
  if t = 0 ∨ (t = 2 ∧ c = 0) then ⟨(0, 0), []⟩ else if t = 1 ∨ c = 1 then ⟨qat (effM r), []⟩ else ⟨effM r, jm r.obls (effM r)⟩
def qaw (g : List Giv) (r : Rul) : Rs := jW r (metT r.target g) (qam r.cond g)
def wF (alg : Int) (m : Mk) : List Rs → List Obli
  | [] => []
  | x :: r => if x.m = m then (if alg = 3 then x.obls else x.obls ++ wF alg m r) else wF alg m r
def wM (p : Pol) (t : Int) (parts : List Rs) : Rs :=
  if t = 0 then ⟨(0, 0), []⟩ else if t = 1 then ⟨qat (allM p.alg (parts.map Rs.m)), []⟩
  else if allM p.alg (parts.map Rs.m) ≠ (2, 0) ∧ allM p.alg (parts.map Rs.m) ≠ (0, 2) then ⟨allM p.alg (parts.map Rs.m), []⟩
  else ⟨allM p.alg (parts.map Rs.m), wF p.alg (allM p.alg (parts.map Rs.m)) parts ++ jm p.obls (allM p.alg (parts.map Rs.m))⟩
def qF (g : List Giv) : Nat → Pol → Rs
  | 0, _ => noRs
  | n + 1, p => if metT p.target g = 0 then noRs else wM p (metT p.target g) (p.rules.map (qaw g) ++ p.kids.map (qF g n))
def evalS (p : Pol) (g : List Giv) : Rs × Int := if zb p = 0 then (qF g 4 p, 0) else (noRs, 1)
theorem effM_mem (r : Rul) : effM r ∈ mks := by unfold effM mks; split <;> simp
theorem qan (r : Rul) (t c : Int) : (jW r t c).m ∈ mks := by
  unfold jW
  repeat' split
  · simp [mks]
  · exact qau (effM_mem r)
  · exact effM_mem r
theorem joinR_mem {p : Pol} {t : Int} {l : List Rs} (h : ∀ x ∈ l, x.m ∈ mks) : (wM p t l).m ∈ mks := by
  have h0 : allM p.alg (l.map Rs.m) ∈ mks := allM_mem fun m hm => by
    obtain ⟨x, hx, rfl⟩ := List.mem_map.1 hm
    exact h x hx
  unfold wM
  repeat' split
  · simp [mks]
  · exact qau h0
  · exact h0
  · exact h0
theorem qaa (g : List Giv) : ∀ (n : Nat) (p : Pol), (qF g n p).m ∈ mks
  | 0, _ => by simp [qF, noRs, mks]
  | n + 1, p => by
    rw [qF]
    split
    · simp [noRs, mks]
    · refine joinR_mem fun x hx => ?_
      rcases List.mem_append.1 hx with hx | hx
      · obtain ⟨r, _, rfl⟩ := List.mem_map.1 hx
        exact qan _ _ _
      · obtain ⟨k, _, rfl⟩ := List.mem_map.1 hx
        exact qaa g n k
def Rs.ok (x : Rs) : Prop := x.m ∈ mks ∧ (x.m ≠ (2, 0) → x.m ≠ (0, 2) → x.obls = [])
end Go.Proofs.YtppfcacnofjmdaaGreatDoor
namespace Go.Proofs.YtppfcacnofjmdaaGreatDoor
set_option linter.unusedVariables false
set_option linter.unusedSimpArgs false
def Wlk.le (w v : Wlk) : Prop := (∀ s, hasS w.met s = true → hasS v.met s = true) ∧ w.rules ≤ v.rules
theorem Wlk.le_refl (w : Wlk) : w.le w := ⟨fun _ h => h, Int.le_refl _⟩
theorem seqS_each {α : Type} {f : Wlk → α → Int × Wlk} {Q : α → Prop} (hf : ∀ w x, (f w x).1 = 0 → Q x) : ∀ {l : List α} {w : Wlk}, (seqS f w l).1 = 0 → ∀ x ∈ l, Q x
  | [], w, _, x, hx => by simp at hx
  | y :: r, w, h0, x, hx => by
    rw [seqS] at h0
    by_cases hy : (f w y).1 = 0
    · rw [if_pos hy] at h0
      rcases List.mem_cons.1 hx with rfl | hx
      · exact hf w _ hy
      · exact seqS_each hf h0 x hx
    · rw [if_neg hy] at h0; exact absurd h0 hy
theorem ruleS_lim {w : Wlk} {r : Rul} (hw : 0 ≤ w.rules ∧ w.rules ≤ 64) (h : (zq w r).1 = 0) : 0 ≤ (zq w r).2.rules ∧ (zq w r).2.rules ≤ 64 := by
  unfold zq at h ⊢
  split at h
  · rename_i hn
    rw [if_pos hn]
    simp only at h ⊢
    split at h
    · cases h
    · omega
  · cases h
theorem jI {α : Type} {f : Wlk → α → Int × Wlk} {P : Wlk → Prop} (hf : ∀ w x, P w → (f w x).1 = 0 → P (f w x).2) : ∀ {l : List α} {w : Wlk}, P w → (seqS f w l).1 = 0 → P (seqS f w l).2
  | [], w, hw, _ => hw
  | x :: r, w, hw, h => by
    rw [seqS] at h ⊢
    by_cases h0 : (f w x).1 = 0
    · rw [if_pos h0] at h ⊢
      exact jI hf (hf w x hw h0) h
    · rw [if_neg h0] at h; exact absurd h h0
abbrev lim (w : Wlk) : Prop := 0 ≤ w.rules ∧ w.rules ≤ 64
theorem polS_lim : ∀ (n : Nat) (w : Wlk) (p : Pol), lim w → (polS n w p).1 = 0 → lim (polS n w p).2
  | 0, w, p, _, h => by cases h
  | n + 1, w, p, hw, h => by
    have h1 : lim (zF w p).2 := hw
    rw [polS] at h ⊢
    split at h
    · rename_i h2
      rw [if_pos h2]
      split at h
      · rename_i h3
        rw [if_pos h3]
        exact jI (P := lim) (fun w x hw h => polS_lim n w x hw h) (jI (P := lim) (fun w x hw h => ruleS_lim hw h) h1 h3) h
      · rename_i h3; exact absurd h h3
    · rename_i h2; exact absurd h h2
end Go.Proofs.YtppfcacnofjmdaaGreatDoor
namespace Go.Proofs.YtppfcacnofjmdaaGreatDoor
set_option linter.unusedVariables false
set_option linter.unusedSimpArgs false
open Go.RowKit
mutual
def Pol.nr : Pol → Nat
  | .mk _ _ _ _ rs ks _ => rs.length + Pol.nrs ks
def Pol.nrs : List Pol → Nat
  | [] => 0
  | k :: ks => k.nr + Pol.nrs ks
end
theorem sumBy_take {α : Type} (f : α → Nat) (l : List α) (k : Nat) : qT f (l.take k) ≤ qT f l := by
  have h : qT f (l.take k ++ l.drop k) = qT f (l.take k) + qT f (l.drop k) := by simp only [qT, List.map_append, List.sum_append]
  rw [List.take_append_drop] at h
  omega
def Dp : Nat → Pol → Prop
  | 0, _ => False
  | n + 1, p => ∀ k ∈ p.kids, Dp n k
theorem wj {n : Nat} {w : Wlk} {p : Pol} (h : (polS (n + 1) w p).1 = 0) : (zF w p).1 = 0 ∧ (seqS zq (zF w p).2 p.rules).1 = 0 ∧ (seqS (polS n) (seqS zq (zF w p).2 p.rules).2 p.kids).1 = 0 := by
  rw [polS] at h
  split at h
  · rename_i h2
    split at h
    · rename_i h3; exact ⟨h2, h3, h⟩
    · rename_i h3; exact absurd h h3
  · rename_i h2; exact absurd h h2
theorem polS_dp : ∀ (n : Nat) {w : Wlk} {p : Pol}, (polS n w p).1 = 0 → Dp n p
  | 0, w, p, h => by cases h
  | n + 1, w, p, h => seqS_each (fun w x h => polS_dp n h) (wj h).2.2
end Go.Proofs.YtppfcacnofjmdaaGreatDoor
namespace Go.Proofs.YtppfcacnofjmdaaGreatDoor
set_option linter.unusedVariables false
set_option linter.unusedSimpArgs false
open Go.RowKit
theorem decideS_dp (g : List Giv) : ∀ {n : Nat} {p : Pol}, Dp n p → ∀ {m : Nat}, n ≤ m → qF g m p = qF g n p
  | n + 1, p, h, m + 1, hm => by
    have e : p.kids.map (qF g m) = p.kids.map (qF g n) := List.map_congr_left fun k hk => decideS_dp g (h k hk) (by omega)
    rw [qF, qF, e]
theorem right_dp {p : Pol} (h : zb p = 0) : Dp 4 p := polS_dp 4 h
end Go.Proofs.YtppfcacnofjmdaaGreatDoor
namespace Go.Proofs.YtppfcacnofjmdaaGreatDoor
set_option linter.unusedVariables false
set_option linter.unusedSimpArgs false
open Go.RowKit
set_option maxHeartbeats 1000000
def stepR : Option (List Bool) → SV
  | some _ => .tup [.row 0, .p (pB true)]
  | none => .tup [.p (.v (.slice none 0 0)), .p (pB false)]
def stepO : Option (List Bool) → List (Nat × Box)
  | some l => [(0, .row 4 1 (jA l))]
  | none => []
theorem step_h (l : List Bool) (hl : l.length ≤ 1000000) (n : Nod) (hn : n.Fit) : zZ Tryz.prog 89 [.row 1000000, .p (.agg n.pv)] [(1000000, .row 4 1 (jA l))] (stepR (zy l n)) (stepO (zy l n)) := by
  have H1 := wants_h n.op
  cases hw : zu n.op with
  | none =>
    rw [hw] at H1
    simp only [Option.getD_none, Option.isSome_none] at H1
    have e : zy l n = none := by simp [zy, hw]
    rw [e]
    refine ja (ts := [4,5]) Tryz.func89 (by kernel_rfl) rfl rfl rfl ?_
    (repeat refine qb ?_); refine qa ?_
    repeat (first | refine zR ?_ | refine zK ?_ | refine zM ?_ | refine zB ?_ | refine zA ?_ | refine zS ?_ | refine zL ?_)
    refine qc ?_
    (repeat refine qb ?_); refine qa ?_
    repeat (first | refine zR ?_ | refine zK ?_ | refine zM ?_ | refine zB ?_ | refine zA ?_ | refine zS ?_ | refine zL ?_)
    refine qn rfl (qD rfl rfl rfl rfl (H1) rfl rfl rfl ?_)
    repeat (first | refine zR ?_ | refine zK ?_ | refine zM ?_ | refine zB ?_ | refine zA ?_ | refine zS ?_ | refine zL ?_)
    refine qc ?_
    (repeat refine qb ?_); refine qs (by kernel_rfl) ?_
    repeat (refine qr qe rfl (by exact True.intro) rfl ?_)
    refine zj rfl rfl rfl rfl (fields_h n hn) rfl rfl ?_
    repeat (refine qr qe rfl (by exact True.intro) rfl ?_)
    refine qQ ?_
    (repeat refine qb ?_); refine qf rfl (fun h => ?_) (fun h => ?_)
    · (repeat refine qb ?_); refine qa ?_
      repeat (first | refine zR ?_ | refine zK ?_ | refine zM ?_ | refine zB ?_ | refine zA ?_ | refine zS ?_ | refine zL ?_)
      refine qc ?_
      (repeat refine qb ?_); refine qk ?_
      exact ⟨Or.inr rfl, _, _, [], Wk.refl _, rfl, rfl, rfl, rfl⟩
    · simp at h
  | some w =>
    rw [hw] at H1
    simp only [Option.getD_some, Option.isSome_some] at H1
    have hwl : w.length ≤ 2 := by
      unfold zu at hw
      repeat' split at hw
      all_goals (cases hw; try simp)
    refine ja (ts := [4,5]) Tryz.func89 (by kernel_rfl) rfl rfl rfl ?_
    (repeat refine qb ?_); refine qa ?_
    repeat (first | refine zR ?_ | refine zK ?_ | refine zM ?_ | refine zB ?_ | refine zA ?_ | refine zS ?_ | refine zL ?_)
    refine qc ?_
    (repeat refine qb ?_); refine qa ?_
    repeat (first | refine zR ?_ | refine zK ?_ | refine zM ?_ | refine zB ?_ | refine zA ?_ | refine zS ?_ | refine zL ?_)
    refine qn rfl (qD rfl rfl rfl rfl (H1) rfl rfl rfl ?_)
    repeat (first | refine zR ?_ | refine zK ?_ | refine zM ?_ | refine zB ?_ | refine zA ?_ | refine zS ?_ | refine zL ?_)
    refine qc ?_
    (repeat refine qb ?_); refine qs (by kernel_rfl) ?_
    repeat (refine qr qe rfl (by exact True.intro) rfl ?_)
    refine zj rfl rfl rfl rfl (fields_h n hn) rfl rfl ?_
    repeat (refine qr qe rfl (by exact True.intro) rfl ?_)
    refine qQ ?_
    have ll : (jA l).length = l.length := by simp [jA]
    have lw : (jA w).length = w.length := by simp [jA]
    (repeat refine qb ?_); refine qf rfl (fun h => ?_) (fun h => ?_)
    · have e : zy l n = none := by
        simp only [zy, hw]
        rw [if_neg]
        intro ⟨h1, h2, _⟩
        simp [h1, ll, lw] at h
        omega
      rw [e]
      (repeat refine qb ?_); refine qa ?_
      repeat (first | refine zR ?_ | refine zK ?_ | refine zM ?_ | refine zB ?_ | refine zA ?_ | refine zS ?_ | refine zL ?_)
      refine qc ?_
      (repeat refine qb ?_); refine qk ?_
      exact ⟨Or.inr rfl, _, _, [], Wk.refl _, rfl, rfl, rfl, rfl⟩
    · have hf : ji n = true := by
        cases hq : ji n with
        | true => rfl
        | false => simp [hq] at h
      have hle : w.length ≤ l.length := by
        simp [hf, ll, lw] at h
        omega
      obtain ⟨left, hleft⟩ : ∃ left : Nat, left = l.length - w.length := ⟨_, rfl⟩
      refine qm ?_
      (repeat refine qb ?_); refine qa ?_
      repeat (first | refine zR ?_ | refine zK ?_ | refine zM ?_ | refine zB ?_ | refine zA ?_ | refine zS ?_ | refine zL ?_)
      refine qc ?_
      (repeat refine qb ?_); refine qa ?_
      repeat (first | refine zR ?_ | refine zK ?_ | refine zM ?_ | refine zB ?_ | refine zA ?_ | refine zS ?_ | refine zL ?_)
      refine qc ?_
      (repeat refine qb ?_); refine ql ?_
      refine SW.wk (qq [0, 3, 8, 36, 37, 38] [(1000000, 1000000), (3, 3)] rfl rfl) ?_
      refine qO (fun m s => ∃ (k : Nat) (kk L : Int), k ≤ w.length ∧ m = w.length - k ∧ kk = k ∧ L = left ∧ (l.drop left).take k = w.take k ∧ s = ⟨60, [(0, .row 1000000), (3, .ptr 3 0), (8, .p (pI L)), (36, .p (.sl 1 (jA w))), (37, .p (pI (jA w).length)), (38, .p (pI kk))], [(1000000, .row 4 1 (jA l)), (3, .cells (n.pv.map .p))]⟩) w.length ⟨0, 0, _, Nat.zero_le _, rfl, rfl, ?_, by simp, rfl⟩ ?_
      · show IntKind.i64.wrap (((jA l).length : Int) - (jA w).length) = _
        rw [ll, lw, IntWalk.i64_in _ (by omega)]; omega
      rintro m s ⟨k, _, _, hk, rfl, rfl, rfl, ha, rfl⟩
      (repeat refine qb ?_); refine qa ?_
      repeat (first | refine zR ?_ | refine zK ?_ | refine zM ?_ | refine zB ?_ | refine zA ?_ | refine zS ?_ | refine zL ?_)
      refine qc ?_
      (repeat refine qb ?_); refine qf rfl (fun hlt => ?_) (fun hlt => ?_)
      · refine qm ?_
        rw [lw] at hlt
        simp only [decide_eq_true_eq] at hlt
        have hlt' : k < w.length := by omega
        have hk2 : left + k < l.length := by omega
        (repeat refine qb ?_); refine ql ?_
        (repeat refine qb ?_); refine qa ?_
        repeat (first | refine zR ?_ | refine zK ?_ | refine zM ?_ | refine zB ?_ | refine zA ?_ | refine zS ?_ | refine zL ?_)
        refine qw qe rfl rfl (by rw [lw]; omega) rfl ?_
        rw [show (jA w).getD (Int.toNat (k : Int)) [] = [pB w[k]] from qJ hlt']
        repeat (first | refine zR ?_ | refine zK ?_ | refine zM ?_ | refine zB ?_ | refine zA ?_ | refine zS ?_ | refine zL ?_)
        refine qc ?_
        (repeat refine qb ?_); refine qa ?_
        repeat (first | refine zR ?_ | refine zK ?_ | refine zM ?_ | refine zB ?_ | refine zA ?_ | refine zS ?_ | refine zL ?_)
        have ew : IntKind.i64.wrap ((left : Int) + k) = ((left + k : Nat) : Int) := by rw [IntWalk.i64_in _ (by omega)]; omega
        rw [ew]
        refine qw qe rfl rfl (by rw [ll]; omega) rfl ?_
        repeat (first | refine zR ?_ | refine zK ?_ | refine zM ?_ | refine zB ?_ | refine zA ?_ | refine zS ?_ | refine zL ?_)
        refine qw qe rfl (za rfl rfl rfl rfl rfl (show (jA l).getD (Int.toNat ((left + k : Nat) : Int)) [] = [pB l[left + k]] from qJ hk2) rfl) (by rw [ll]; simp; omega) rfl ?_
        repeat (first | refine zR ?_ | refine zK ?_ | refine zM ?_ | refine zB ?_ | refine zA ?_ | refine zS ?_ | refine zL ?_)
        refine qc ?_
        (repeat refine qb ?_); refine qf rfl (fun hp => ?_) (fun hp => ?_)
        · have e : zy l n = none := by
            simp only [zy, hw]
            rw [if_neg]
            intro ⟨_, _, h3⟩
            rw [← hleft] at h3
            have h4 : w[k] = l[left + k] := by
              have := congrArg (fun x => x[k]?) h3
              simp only [List.getElem?_drop] at this
              rw [List.getElem?_eq_getElem hk2, List.getElem?_eq_getElem hlt'] at this
              exact (Option.some.inj this).symm
            rw [h4] at hp
            simp at hp
          rw [e]
          (repeat refine qb ?_); refine qa ?_
          repeat (first | refine zR ?_ | refine zK ?_ | refine zM ?_ | refine zB ?_ | refine zA ?_ | refine zS ?_ | refine zL ?_)
          refine qc ?_
          (repeat refine qb ?_); refine qk ?_
          exact ⟨Or.inr rfl, _, _, [], Wk.refl _, rfl, rfl, rfl, rfl⟩
        · refine qm ?_
          (repeat refine qb ?_); refine qa ?_
          repeat (first | refine zR ?_ | refine zK ?_ | refine zM ?_ | refine zB ?_ | refine zA ?_ | refine zS ?_ | refine zL ?_)
          refine qc ?_
          refine ⟨_, _, ?_, qq [0, 3, 8, 36, 37, 38] [(1000000, 1000000), (3, 3)] rfl rfl, k + 1, _, _, hlt', rfl, qz hlt' (by omega), rfl, ?_, rfl⟩
          · omega
          · have h4 : l[left + k] = w[k] := by simpa using hp
            rw [List.take_succ_eq_append_getElem hlt', List.take_succ_eq_append_getElem (by simp; omega), ha, List.getElem_drop, h4]
      · refine qK ?_
        rw [lw] at hlt
        simp only [decide_eq_false_iff_not] at hlt
        have hkk : k = w.length := by omega
        subst hkk
        have hd : l.drop left = w := by
          rw [List.take_length] at ha
          rw [← ha, List.take_of_length_le (by simp; omega)]
        have e : zy l n = some (l.take left ++ [decide (n.op = 2)]) := by
          simp only [zy, hw]
          rw [if_pos ⟨hf, hle, by rw [← hleft]; exact hd⟩, hleft]
        rw [e]
        (repeat refine qb ?_); refine zl [1000000] [(0, true), (1, true), (2, true), (3, true), (4, true), (5, true), (6, false), (7, false), (8, true), (9, true)] (by kernel_rfl) (by kernel_rfl) (by kernel_rfl) ?_
        repeat (first | refine yR ?_ | refine yK ?_ | refine yM ?_ | refine yB ?_ | refine yA ?_ | refine yS ?_ | refine yL ?_)
        refine zi qe rfl rfl rfl (by rw [ll]; omega) rfl ?_
        repeat (first | refine yR ?_ | refine yK ?_ | refine yM ?_ | refine yB ?_ | refine yA ?_ | refine yS ?_ | refine yL ?_)
        refine qak rfl rfl rfl (ActOk.shrink 54 999 rfl rfl rfl rfl (qp qe rfl rfl rfl rfl rfl rfl rfl rfl rfl rfl rfl rfl rfl rfl rfl rfl (by simp [reachBytes, jA]; omega) (by simp [jA]; omega) ?_))
        repeat (first | refine yR ?_ | refine yK ?_ | refine yM ?_ | refine yB ?_ | refine yA ?_ | refine yS ?_ | refine yL ?_)
        refine qaO ?_
        (repeat refine qb ?_); refine qk ?_
        have e2 : List.take (Int.toNat (left : Int)) (jA l) ++ [[pB (n.op == 2)]] = jA (l.take left ++ [decide (n.op = 2)]) := by
          have : (n.op == 2) = decide (n.op = 2) := by rw [Bool.eq_iff_iff]; simp
          rw [this]
          simp [jA, List.map_take]
        refine ⟨Or.inr rfl, _, _, [(59, 0)], Wk.refl _, rfl, rfl, ?_, rfl⟩
        show some [(0, Box.row 4 1 (List.take (Int.toNat (left : Int)) (jA l) ++ [[pB (n.op == 2)]]))] = _
        rw [e2]; rfl
theorem stepsS_some : ∀ {l : List Nod} {a m : List Bool} {k : Nat} (hk : k < l.length), qW a (l.take k) = some m → qW a (l.take (k + 1)) = zy m l[k]
  | n :: r, a, m, 0, _, h => by
    simp [qW] at h
    subst h
    simp only [Nat.zero_add, List.take_succ_cons, List.take_zero, qW, List.getElem_cons_zero]
    cases zy a n <;> rfl
  | n :: r, a, m, k + 1, hk, h => by
    rw [List.take_succ_cons, qW] at h ⊢
    cases hs : zy a n with
    | none => rw [hs] at h; cases h
    | some b =>
      rw [hs] at h
      simp only at h ⊢
      rw [stepsS_some (by simpa using hk) h]; rfl
theorem stepsS_none : ∀ {l : List Nod} {a : List Bool} (k : Nat), qW a (l.take k) = none → qW a l = none
  | [], a, k, h => by simp [qW] at h
  | n :: r, a, 0, h => by simp [qW] at h
  | n :: r, a, k + 1, h => by
    rw [List.take_succ_cons, qW] at h
    rw [qW]
    cases hs : zy a n with
    | none => rfl
    | some b => rw [hs] at h; simp only at h ⊢; exact stepsS_none k h
theorem stepS_len {l l' : List Bool} {n : Nod} (h : zy l n = some l') : l'.length ≤ l.length + 1 := by
  unfold zy at h
  split at h
  · cases h
  · split at h
    · cases h; simp
    · cases h
theorem expr_h (l : List Nod) (hf : ∀ x ∈ l, x.Fit) : Holds Tryz.prog 73 [qar l] (.p (pI (zo l))) [] := by
  refine qA (ts := [2]) Tryz.func73 (by kernel_rfl) rfl rfl rfl ?_
  refine sw_len (t := 0) (z := 7) (l := l.map Nod.pv) rfl fun hlen => ?_
  rw [List.length_map] at hlen
  unfold reachBytes at hlen
  have lm : (l.map Nod.pv).length = l.length := by simp
  (repeat refine qb ?_); refine qa ?_
  repeat (first | refine zR ?_ | refine zK ?_ | refine zM ?_ | refine zB ?_ | refine zA ?_ | refine zS ?_ | refine zL ?_)
  refine qc ?_
  (repeat refine qb ?_); refine qa ?_
  repeat (first | refine zR ?_ | refine zK ?_ | refine zM ?_ | refine zB ?_ | refine zA ?_ | refine zS ?_ | refine zL ?_)
  refine qc ?_
  rw [lm]
  (repeat refine qb ?_); refine qf rfl (fun h => ?_) (fun h => ?_)
  · (repeat refine qb ?_); refine qa ?_
    repeat (first | refine zR ?_ | refine zK ?_ | refine zM ?_ | refine zB ?_ | refine zA ?_ | refine zS ?_ | refine zL ?_)
    refine qc ?_
    (repeat refine qb ?_); refine qk ?_
    refine zg rfl ?_
    have h0 : 32 < l.length := by simp at h; omega
    simp [zo, h0]
  · have h0 : ¬ 32 < l.length := by simp at h; omega
    refine qm ?_
    (repeat refine qb ?_); refine qa ?_
    repeat (first | refine zR ?_ | refine zK ?_ | refine zM ?_ | refine zB ?_ | refine zA ?_ | refine zS ?_ | refine zL ?_)
    refine qc ?_
    (repeat refine qb ?_); refine qa ?_
    repeat (first | refine zR ?_ | refine zK ?_ | refine zM ?_ | refine zB ?_ | refine zA ?_ | refine zS ?_ | refine zL ?_)
    refine qc ?_
    (repeat refine qb ?_); refine qa ?_
    repeat (first | refine zR ?_ | refine zK ?_ | refine zM ?_ | refine zB ?_ | refine zA ?_ | refine zS ?_ | refine zL ?_)
    refine qc ?_
    (repeat refine qb ?_); refine ql ?_
    refine SW.wk (jP 3 900 4 1 rfl rfl) ?_
    refine SW.wk (qq [0, 3, 10, 11, 12] [(900, 0)] rfl rfl) ?_
    refine qO (fun m s => ∃ (k : Nat) (kk : Int) (made : List Bool), k ≤ l.length ∧ m = l.length - k ∧ kk = k ∧ qW [] (l.take k) = some made ∧ made.length ≤ k ∧ s = ⟨38, [(0, .p (qar l)), (3, .row 0), (10, .p (qar l)), (11, .p (pI l.length)), (12, .p (pI kk))], [(0, .row 4 1 (jA made))]⟩) l.length ⟨0, 0, [], Nat.zero_le _, rfl, rfl, by simp [qW], Nat.le_refl _, by rw [← lm]; rfl⟩ ?_
    rintro m s ⟨k, _, made, hk, rfl, rfl, ha, hml, rfl⟩
    (repeat refine qb ?_); refine qa ?_
    repeat (first | refine zR ?_ | refine zK ?_ | refine zM ?_ | refine zB ?_ | refine zA ?_ | refine zS ?_ | refine zL ?_)
    refine qc ?_
    (repeat refine qb ?_); refine qf rfl (fun hlt => ?_) (fun hlt => ?_)
    · refine qm ?_
      simp only [decide_eq_true_eq] at hlt
      have hlt' : k < l.length := by omega
      have hst := stepsS_some hlt' ha
      (repeat refine qb ?_); refine ql ?_
      (repeat refine qb ?_); refine qa ?_
      repeat (first | refine zR ?_ | refine zK ?_ | refine zM ?_ | refine zB ?_ | refine zA ?_ | refine zS ?_ | refine zL ?_)
      refine qw qe rfl rfl (by rw [lm]; omega) rfl ?_
      rw [qJ hlt']
      repeat (first | refine zR ?_ | refine zK ?_ | refine zM ?_ | refine zB ?_ | refine zA ?_ | refine zS ?_ | refine zL ?_)
      refine qc ?_
      have H := step_h made (by omega) l[k] (hf _ (List.getElem_mem hlt'))
      cases hs : zy made l[k] with
      | none =>
        rw [hs] at H
        (repeat refine qb ?_); refine qa ?_
        repeat (first | refine zR ?_ | refine zK ?_ | refine zM ?_ | refine zB ?_ | refine zA ?_ | refine zS ?_ | refine zL ?_)
        refine qn rfl (zr [(0, 1000000)] rfl rfl rfl rfl rfl rfl (H) rfl rfl rfl ?_)
        repeat (first | refine zR ?_ | refine zK ?_ | refine zM ?_ | refine zB ?_ | refine zA ?_ | refine zS ?_ | refine zL ?_)
        refine qc ?_
        (repeat refine qb ?_); refine qa ?_
        repeat (first | refine zR ?_ | refine zK ?_ | refine zM ?_ | refine zB ?_ | refine zA ?_ | refine zS ?_ | refine zL ?_)
        refine qc ?_
        (repeat refine qb ?_); refine qf rfl (fun h => ?_) (fun h => ?_)
        · (repeat refine qb ?_); refine qa ?_
          repeat (first | refine zR ?_ | refine zK ?_ | refine zM ?_ | refine zB ?_ | refine zA ?_ | refine zS ?_ | refine zL ?_)
          refine qc ?_
          (repeat refine qb ?_); refine qk ?_
          refine zg rfl ?_
          rw [zo, if_neg h0, stepsS_none (k + 1) (by rw [hst, hs])]
        · cases h
      | some l' =>
        rw [hs] at H
        (repeat refine qb ?_); refine qa ?_
        repeat (first | refine zR ?_ | refine zK ?_ | refine zM ?_ | refine zB ?_ | refine zA ?_ | refine zS ?_ | refine zL ?_)
        refine qn rfl (zr [(0, 1000000)] rfl rfl rfl rfl rfl rfl (H) rfl rfl rfl ?_)
        repeat (first | refine zR ?_ | refine zK ?_ | refine zM ?_ | refine zB ?_ | refine zA ?_ | refine zS ?_ | refine zL ?_)
        refine qc ?_
        (repeat refine qb ?_); refine qa ?_
        repeat (first | refine zR ?_ | refine zK ?_ | refine zM ?_ | refine zB ?_ | refine zA ?_ | refine zS ?_ | refine zL ?_)
        refine qc ?_
        (repeat refine qb ?_); refine qf rfl (fun h => ?_) (fun h => ?_)
        · cases h
        · refine qm ?_
          (repeat refine qb ?_); refine qa ?_
          repeat (first | refine zR ?_ | refine zK ?_ | refine zM ?_ | refine zB ?_ | refine zA ?_ | refine zS ?_ | refine zL ?_)
          refine qc ?_
          refine ⟨_, _, ?_, qq [0, 3, 10, 11, 12] [(20000, 0)] rfl rfl, k + 1, _, l', hlt', rfl, qz hlt' (by omega), by rw [hst, hs], ?_, rfl⟩
          · omega
          · have := stepS_len hs; omega
    · refine qK ?_
      simp only [decide_eq_false_iff_not] at hlt
      have hkk : k = l.length := by omega
      subst hkk
      rw [List.take_length] at ha
      have ex : zo l = if l = [] ∨ made = [false] then 0 else 1 := by rw [zo, if_neg h0, ha]
      cases l with
      | nil =>
        (repeat refine qb ?_); refine qa ?_
        repeat (first | refine zR ?_ | refine zK ?_ | refine zM ?_ | refine zB ?_ | refine zA ?_ | refine zS ?_ | refine zL ?_)
        refine qc ?_
        (repeat refine qb ?_); refine qf rfl (fun h => ?_) (fun h => ?_)
        · cases h
        · refine qm ?_
          (repeat refine qb ?_); refine qa ?_
          repeat (first | refine zR ?_ | refine zK ?_ | refine zM ?_ | refine zB ?_ | refine zA ?_ | refine zS ?_ | refine zL ?_)
          refine qc ?_
          (repeat refine qb ?_); refine qk ?_
          exact zg rfl (by rw [ex]; rfl)
      | cons n r =>
        (repeat refine qb ?_); refine qa ?_
        repeat (first | refine zR ?_ | refine zK ?_ | refine zM ?_ | refine zB ?_ | refine zA ?_ | refine zS ?_ | refine zL ?_)
        rw [show decide ((((n :: r).map Nod.pv).length : Int) > 0) = true by simp]
        repeat (first | refine zR ?_ | refine zK ?_ | refine zM ?_ | refine zB ?_ | refine zA ?_ | refine zS ?_ | refine zL ?_)
        by_cases h1 : made.length = 1
        · obtain ⟨b, rfl⟩ : ∃ b, made = [b] := List.length_eq_one_iff.1 h1
          repeat (first | refine zR ?_ | refine zK ?_ | refine zM ?_ | refine zB ?_ | refine zA ?_ | refine zS ?_ | refine zL ?_)
          refine qw qe rfl rfl (by simp [jA]) rfl ?_
          repeat (first | refine zR ?_ | refine zK ?_ | refine zM ?_ | refine zB ?_ | refine zA ?_ | refine zS ?_ | refine zL ?_)
          refine qw qe rfl rfl (by simp [jA]) rfl ?_
          repeat (first | refine zR ?_ | refine zK ?_ | refine zM ?_ | refine zB ?_ | refine zA ?_ | refine zS ?_ | refine zL ?_)
          refine qc ?_
          (repeat refine qb ?_); refine qf rfl (fun h => ?_) (fun h => ?_)
          · have hb : b = true := by simpa [jA] using h
            (repeat refine qb ?_); refine qa ?_
            repeat (first | refine zR ?_ | refine zK ?_ | refine zM ?_ | refine zB ?_ | refine zA ?_ | refine zS ?_ | refine zL ?_)
            refine qc ?_
            (repeat refine qb ?_); refine qk ?_
            exact zg rfl (by rw [ex, hb]; rfl)
          · have hb : b = false := by simpa [jA] using h
            refine qm ?_
            (repeat refine qb ?_); refine qa ?_
            repeat (first | refine zR ?_ | refine zK ?_ | refine zM ?_ | refine zB ?_ | refine zA ?_ | refine zS ?_ | refine zL ?_)
            refine qc ?_
            (repeat refine qb ?_); refine qk ?_
            exact zg rfl (by rw [ex, hb]; rfl)
        · rw [show (((jA made).length : Int) != 1) = true by simp [jA]; omega]
          repeat (first | refine zR ?_ | refine zK ?_ | refine zM ?_ | refine zB ?_ | refine zA ?_ | refine zS ?_ | refine zL ?_)
          refine qc ?_
          (repeat refine qb ?_); refine qf rfl (fun h => ?_) (fun h => ?_)
          · (repeat refine qb ?_); refine qa ?_
            repeat (first | refine zR ?_ | refine zK ?_ | refine zM ?_ | refine zB ?_ | refine zA ?_ | refine zS ?_ | refine zL ?_)
            refine qc ?_
            (repeat refine qb ?_); refine qk ?_
            exact zg rfl (by rw [ex, if_neg (by rintro (h | rfl); cases h; exact h1 rfl)])
          · cases h
end Go.Proofs.YtppfcacnofjmdaaGreatDoor
namespace Go.Proofs.YtppfcacnofjmdaaGreatDoor
set_option linter.unusedVariables false
set_option linter.unusedSimpArgs false
open Go.RowKit
set_option maxHeartbeats 2000000
def ents (m : List ByteArray) : List (Value × PV) := m.map fun s => (.string s, .agg [])
def wlkO (w : Wlk) : List (Nat × Box) := [(1000000, .cells [.row 1000001, .p (pI w.rules)]), (1000001, .mp (ents w.met))]
abbrev wlkR : List (Nat × Nat) := [(1000000, 1000000), (1000001, 1000001)]
theorem ents_ok : ∀ m : List ByteArray, (ents m).all (fun x => kdOk .str x.1) = true
  | [] => rfl
  | s :: m => by
    have := ents_ok m
    simp only [ents, List.map_cons, List.all_cons, Bool.and_eq_true] at this ⊢
    exact ⟨rfl, this⟩
theorem mfind_ents (s : ByteArray) : ∀ m : List ByteArray, mfind (.string s) (ents m) = if hasS m s then some (.agg []) else none
  | [] => rfl
  | t :: m => by
    have ih := mfind_ents s m
    show (bif keyEq (.string s) (.string t) then some (PV.agg []) else mfind (.string s) (ents m)) = _
    rw [ih]
    by_cases e : s = t
    · subst e; simp [keyEq, hasS]
    · have e' : ∀ i : Decidable (s = t), @decide (s = t) i = false := fun i => by
        cases i with
        | isTrue h => exact absurd h e
        | isFalse h => rfl
      rw [show keyEq (.string s) (.string t) = false from e' _]
      unfold hasS
      rw [List.any_cons, e', cond_false, Bool.false_or]
theorem ents_snoc (m : List ByteArray) (s : ByteArray) : ents m ++ [(.string s, .agg [])] = ents (m ++ [s]) := by simp [ents]
theorem wname_h (m : List ByteArray) (n : Int) (s : ByteArray) (hs : s.size ≤ reachBytes) : zZ Tryz.prog 84 [.ptr 1000000 0, .p (pS s)] (wlkO ⟨m, n⟩) (.p (pB (zO m s))) (wlkO ⟨nameM m s, n⟩) := by
  by_cases hm : hasS m s = true
  · have e1 : zO m s = false := by simp [zO, hm]
    have e2 : nameM m s = m := by simp [nameM, e1]
    rw [e1, e2]
    refine ja (ts := [4]) Tryz.func84 (by kernel_rfl) rfl rfl rfl ?_
    (repeat refine qb ?_); refine qa ?_
    repeat (first | refine zR ?_ | refine zK ?_ | refine zM ?_ | refine zB ?_ | refine zA ?_ | refine zS ?_ | refine zL ?_)
    refine qc ?_
    (repeat refine qb ?_); refine qa ?_
    repeat (first | refine zR ?_ | refine zK ?_ | refine zM ?_ | refine zB ?_ | refine zA ?_ | refine zS ?_ | refine zL ?_)
    refine qw qe rfl rfl (ents_ok m) rfl ?_
    rw [mfind_ents, if_pos hm]
    repeat (first | refine zR ?_ | refine zK ?_ | refine zM ?_ | refine zB ?_ | refine zA ?_ | refine zS ?_ | refine zL ?_)
    refine qc ?_
    (repeat refine qb ?_); refine qs (by kernel_rfl) ?_
    repeat (refine qr qe rfl (by exact True.intro) rfl ?_)
    refine zj rfl rfl rfl rfl (name_h s hs) rfl rfl ?_
    repeat (refine qr qe rfl (by exact True.intro) rfl ?_)
    refine qQ ?_
    (repeat refine qb ?_); refine qf rfl (fun h => ?_) (fun h => ?_)
    · (repeat refine qb ?_); refine qa ?_
      repeat (first | refine zR ?_ | refine zK ?_ | refine zM ?_ | refine zB ?_ | refine zA ?_ | refine zS ?_ | refine zL ?_)
      refine qc ?_
      (repeat refine qb ?_); refine qk ?_
      exact ⟨Or.inr rfl, _, _, wlkR, Wk.refl _, rfl, rfl, rfl, rfl⟩
    · cases h
  · refine ja (ts := [4]) Tryz.func84 (by kernel_rfl) rfl rfl rfl ?_
    (repeat refine qb ?_); refine qa ?_
    repeat (first | refine zR ?_ | refine zK ?_ | refine zM ?_ | refine zB ?_ | refine zA ?_ | refine zS ?_ | refine zL ?_)
    refine qc ?_
    (repeat refine qb ?_); refine qa ?_
    repeat (first | refine zR ?_ | refine zK ?_ | refine zM ?_ | refine zB ?_ | refine zA ?_ | refine zS ?_ | refine zL ?_)
    refine qw qe rfl rfl (ents_ok m) rfl ?_
    rw [mfind_ents, if_neg hm]
    repeat (first | refine zR ?_ | refine zK ?_ | refine zM ?_ | refine zB ?_ | refine zA ?_ | refine zS ?_ | refine zL ?_)
    refine qc ?_
    (repeat refine qb ?_); refine qs (by kernel_rfl) ?_
    repeat (refine qr qe rfl (by exact True.intro) rfl ?_)
    refine zj rfl rfl rfl rfl (name_h s hs) rfl rfl ?_
    repeat (refine qr qe rfl (by exact True.intro) rfl ?_)
    refine qQ ?_
    (repeat refine qb ?_); refine qf rfl (fun h => ?_) (fun h => ?_)
    · have e0 : wO s = false := by simpa using h
      have e1 : zO m s = false := by simp [zO, e0]
      have e2 : nameM m s = m := by simp [nameM, e1]
      rw [e1, e2]
      (repeat refine qb ?_); refine qa ?_
      repeat (first | refine zR ?_ | refine zK ?_ | refine zM ?_ | refine zB ?_ | refine zA ?_ | refine zS ?_ | refine zL ?_)
      refine qc ?_
      (repeat refine qb ?_); refine qk ?_
      exact ⟨Or.inr rfl, _, _, wlkR, Wk.refl _, rfl, rfl, rfl, rfl⟩
    · have e0 : wO s = true := by simpa using h
      have e1 : zO m s = true := by simp [zO, e0, hm]
      have e2 : nameM m s = m ++ [s] := by simp [nameM, e1]
      rw [e1, e2]
      refine qm ?_
      (repeat refine qb ?_); refine qa ?_
      repeat (first | refine zR ?_ | refine zK ?_ | refine zM ?_ | refine zB ?_ | refine zA ?_ | refine zS ?_ | refine zL ?_)
      refine qn rfl (act_mapUpdate qe rfl rfl rfl rfl rfl rfl rfl rfl rfl (ents_ok m) (by rw [mfind_ents, if_neg hm]) rfl ?_)
      rw [ents_snoc]
      repeat (first | refine zR ?_ | refine zK ?_ | refine zM ?_ | refine zB ?_ | refine zA ?_ | refine zS ?_ | refine zL ?_)
      refine qc ?_
      (repeat refine qb ?_); refine qa ?_
      repeat (first | refine zR ?_ | refine zK ?_ | refine zM ?_ | refine zB ?_ | refine zA ?_ | refine zS ?_ | refine zL ?_)
      refine qc ?_
      (repeat refine qb ?_); refine qk ?_
      exact ⟨Or.inr rfl, _, _, wlkR, Wk.refl _, rfl, rfl, rfl, rfl⟩
def TarFit (t : Tar) : Prop := ∀ x ∈ t, ∀ y ∈ x, ∀ m ∈ y, m.Fit
structure RulFit (r : Rul) : Prop where
  id : r.id.size ≤ reachBytes
  tgt : TarFit r.target
  cond : ∀ n ∈ r.cond, n.Fit
  obls : ∀ o ∈ r.obls, o.Fit
theorem wrule_h (w : Wlk) (hw : 0 ≤ w.rules ∧ w.rules ≤ 64) (r : Rul) (hr : RulFit r) : zZ Tryz.prog 68 [.ptr 1000000 0, .p (.agg (zt r))] (wlkO w) (.p (pI (zq w r).1)) (wlkO (zq w r).2) := by
  have H := wname_h w.met w.rules r.id hr.id
  cases hn : zO w.met r.id with
  | false =>
    have e : zq w r = (1, w) := by simp [zq, hn]
    have e2 : nameM w.met r.id = w.met := by simp [nameM, hn]
    rw [hn, e2] at H
    rw [e]
    refine ja (ts := [4]) Tryz.func68 (by kernel_rfl) rfl rfl rfl ?_
    (repeat refine qb ?_); refine qa ?_
    repeat (first | refine zR ?_ | refine zK ?_ | refine zM ?_ | refine zB ?_ | refine zA ?_ | refine zS ?_ | refine zL ?_)
    refine qc ?_
    (repeat refine qb ?_); refine qa ?_
    repeat (first | refine zR ?_ | refine zK ?_ | refine zM ?_ | refine zB ?_ | refine zA ?_ | refine zS ?_ | refine zL ?_)
    refine qn rfl (zr wlkR rfl rfl rfl rfl rfl rfl (H) rfl rfl rfl ?_)
    repeat (first | refine zR ?_ | refine zK ?_ | refine zM ?_ | refine zB ?_ | refine zA ?_ | refine zS ?_ | refine zL ?_)
    refine qc ?_
    (repeat refine qb ?_); refine qf rfl (fun h => ?_) (fun h => ?_)
    · (repeat refine qb ?_); refine qa ?_
      repeat (first | refine zR ?_ | refine zK ?_ | refine zM ?_ | refine zB ?_ | refine zA ?_ | refine zS ?_ | refine zL ?_)
      refine qc ?_
      (repeat refine qb ?_); refine qk ?_
      exact ⟨Or.inr rfl, _, _, wlkR, Wk.refl _, rfl, rfl, rfl, rfl⟩
    · cases h
  | true =>
    have e2 : nameM w.met r.id = w.met ++ [r.id] := by simp [nameM, hn]
    rw [hn, e2] at H
    have e : zq w r = (if 64 < w.rules + 1 then 6 else ruleE r, ⟨w.met ++ [r.id], w.rules + 1⟩) := by simp [zq, hn]
    rw [e]
    refine ja (ts := [4]) Tryz.func68 (by kernel_rfl) rfl rfl rfl ?_
    (repeat refine qb ?_); refine qa ?_
    repeat (first | refine zR ?_ | refine zK ?_ | refine zM ?_ | refine zB ?_ | refine zA ?_ | refine zS ?_ | refine zL ?_)
    refine qc ?_
    (repeat refine qb ?_); refine qa ?_
    repeat (first | refine zR ?_ | refine zK ?_ | refine zM ?_ | refine zB ?_ | refine zA ?_ | refine zS ?_ | refine zL ?_)
    refine qn rfl (zr wlkR rfl rfl rfl rfl rfl rfl (H) rfl rfl rfl ?_)
    repeat (first | refine zR ?_ | refine zK ?_ | refine zM ?_ | refine zB ?_ | refine zA ?_ | refine zS ?_ | refine zL ?_)
    refine qc ?_
    (repeat refine qb ?_); refine qf rfl (fun h => ?_) (fun h => ?_)
    · cases h
    · refine qm ?_
      (repeat refine qb ?_); refine qa ?_
      repeat (first | refine zR ?_ | refine zK ?_ | refine zM ?_ | refine zB ?_ | refine zA ?_ | refine zS ?_ | refine zL ?_)
      refine qc ?_
      rw [show IntKind.i64.wrap (w.rules + 1) = w.rules + 1 from IntWalk.i64_in _ (by omega)]
      (repeat refine qb ?_); refine qa ?_
      repeat (first | refine zR ?_ | refine zK ?_ | refine zM ?_ | refine zB ?_ | refine zA ?_ | refine zS ?_ | refine zL ?_)
      refine qc ?_
      (repeat refine qb ?_); refine qf rfl (fun h => ?_) (fun h => ?_)
      · have h1 : 64 < w.rules + 1 := by simp at h; omega
        rw [if_pos h1]
        (repeat refine qb ?_); refine qa ?_
        repeat (first | refine zR ?_ | refine zK ?_ | refine zM ?_ | refine zB ?_ | refine zA ?_ | refine zS ?_ | refine zL ?_)
        refine qc ?_
        (repeat refine qb ?_); refine qk ?_
        exact ⟨Or.inr rfl, _, _, wlkR, Wk.refl _, rfl, rfl, rfl, rfl⟩
      · have h1 : ¬ 64 < w.rules + 1 := by simp at h; omega
        rw [if_neg h1]
        unfold ruleE
        refine qm ?_
        (repeat refine qb ?_); refine qa ?_
        repeat (first | refine zR ?_ | refine zK ?_ | refine zM ?_ | refine zB ?_ | refine zA ?_ | refine zS ?_ | refine zL ?_)
        refine qn rfl (qg rfl rfl rfl rfl (target_h r.target hr.tgt) rfl rfl ?_)
        repeat (first | refine zR ?_ | refine zK ?_ | refine zM ?_ | refine zB ?_ | refine zA ?_ | refine zS ?_ | refine zL ?_)
        refine qc ?_
        (repeat refine qb ?_); refine qa ?_
        repeat (first | refine zR ?_ | refine zK ?_ | refine zM ?_ | refine zB ?_ | refine zA ?_ | refine zS ?_ | refine zL ?_)
        refine qc ?_
        (repeat refine qb ?_); refine qf rfl (fun h => ?_) (fun h => ?_)
        · have h2 : ¬ zI r.target = 0 := by simpa using h
          rw [if_neg h2]
          (repeat refine qb ?_); refine qa ?_
          repeat (first | refine zR ?_ | refine zK ?_ | refine zM ?_ | refine zB ?_ | refine zA ?_ | refine zS ?_ | refine zL ?_)
          refine qc ?_
          (repeat refine qb ?_); refine qk ?_
          exact ⟨Or.inr rfl, _, _, wlkR, Wk.refl _, rfl, rfl, rfl, rfl⟩
        · have h2 : zI r.target = 0 := by simpa using h
          rw [if_pos h2]
          refine qm ?_
          (repeat refine qb ?_); refine qa ?_
          repeat (first | refine zR ?_ | refine zK ?_ | refine zM ?_ | refine zB ?_ | refine zA ?_ | refine zS ?_ | refine zL ?_)
          refine qn rfl (qg rfl rfl rfl rfl (expr_h r.cond hr.cond) rfl rfl ?_)
          repeat (first | refine zR ?_ | refine zK ?_ | refine zM ?_ | refine zB ?_ | refine zA ?_ | refine zS ?_ | refine zL ?_)
          refine qc ?_
          (repeat refine qb ?_); refine qa ?_
          repeat (first | refine zR ?_ | refine zK ?_ | refine zM ?_ | refine zB ?_ | refine zA ?_ | refine zS ?_ | refine zL ?_)
          refine qc ?_
          (repeat refine qb ?_); refine qf rfl (fun h => ?_) (fun h => ?_)
          · have h3 : ¬ zo r.cond = 0 := by simpa using h
            rw [if_neg h3]
            (repeat refine qb ?_); refine qa ?_
            repeat (first | refine zR ?_ | refine zK ?_ | refine zM ?_ | refine zB ?_ | refine zA ?_ | refine zS ?_ | refine zL ?_)
            refine qc ?_
            (repeat refine qb ?_); refine qk ?_
            exact ⟨Or.inr rfl, _, _, wlkR, Wk.refl _, rfl, rfl, rfl, rfl⟩
          · have h3 : zo r.cond = 0 := by simpa using h
            rw [if_pos h3]
            refine qm ?_
            (repeat refine qb ?_); refine qa ?_
            repeat (first | refine zR ?_ | refine zK ?_ | refine zM ?_ | refine zB ?_ | refine zA ?_ | refine zS ?_ | refine zL ?_)
            refine qn rfl (qg rfl rfl rfl rfl (obls_h r.obls hr.obls) rfl rfl ?_)
            repeat (first | refine zR ?_ | refine zK ?_ | refine zM ?_ | refine zB ?_ | refine zA ?_ | refine zS ?_ | refine zL ?_)
            refine qc ?_
            (repeat refine qb ?_); refine qk ?_
            exact ⟨Or.inr rfl, _, _, wlkR, Wk.refl _, rfl, rfl, rfl, rfl⟩
mutual
def polP : Pol → List PV
  | .mk id set alg target rules kids obls => [pS id, pB set, pI alg, tgtP target, .sl 5 (rules.map zt), .sl 7 (polPs kids), zQ obls]
def polPs : List Pol → List (List PV)
  | [] => []
  | k :: r => polP k :: polPs r
end
theorem polPs_eq : ∀ l : List Pol, polPs l = l.map polP
  | [] => rfl
  | k :: r => by rw [polPs, polPs_eq r]; rfl
theorem zf (p : Pol) : polP p = [pS p.id, pB p.set, pI p.alg, tgtP p.target, .sl 5 (p.rules.map zt), .sl 7 (p.kids.map polP), zQ p.obls] := by
  cases p
  rw [polP, polPs_eq]; rfl
structure HeadFit (p : Pol) : Prop where
  id : p.id.size ≤ reachBytes
  tgt : TarFit p.target
  rules : ∀ r ∈ p.rules, RulFit r
  obls : ∀ o ∈ p.obls, o.Fit
  nr : p.rules.length ≤ reachBytes
  nk : p.kids.length ≤ reachBytes
theorem whead_h (w : Wlk) (p : Pol) (hp : HeadFit p) : zZ Tryz.prog 67 [.ptr 1000000 0, .p (.agg (polP p))] (wlkO w) (.p (pI (zF w p).1)) (wlkO (zF w p).2) := by
  have H := wname_h w.met w.rules p.id hp.id
  have l1 : ((p.rules.map zt).length) = p.rules.length := by simp
  have l2 : ((p.kids.map polP).length) = p.kids.length := by simp
  rw [zf]
  unfold zF
  cases hn : zO w.met p.id with
  | false =>
    rw [hn] at H
    simp only [Bool.false_and, Bool.false_eq_true, if_false]
    refine ja (ts := [4]) Tryz.func67 (by kernel_rfl) rfl rfl rfl ?_
    (repeat refine qb ?_); refine qa ?_
    repeat (first | refine zR ?_ | refine zK ?_ | refine zM ?_ | refine zB ?_ | refine zA ?_ | refine zS ?_ | refine zL ?_)
    refine qc ?_
    (repeat refine qb ?_); refine qa ?_
    repeat (first | refine zR ?_ | refine zK ?_ | refine zM ?_ | refine zB ?_ | refine zA ?_ | refine zS ?_ | refine zL ?_)
    refine qn rfl (zr wlkR rfl rfl rfl rfl rfl rfl (H) rfl rfl rfl ?_)
    repeat (first | refine zR ?_ | refine zK ?_ | refine zM ?_ | refine zB ?_ | refine zA ?_ | refine zS ?_ | refine zL ?_)
    refine qc ?_
    (repeat refine qb ?_); refine qf rfl (fun h => ?_) (fun h => ?_)
    · (repeat refine qb ?_); refine qa ?_
      repeat (first | refine zR ?_ | refine zK ?_ | refine zM ?_ | refine zB ?_ | refine zA ?_ | refine zS ?_ | refine zL ?_)
      refine qc ?_
      (repeat refine qb ?_); refine qk ?_
      exact ⟨Or.inr rfl, _, _, wlkR, Wk.refl _, rfl, rfl, rfl, rfl⟩
    · cases h
  | true =>
    rw [hn] at H
    refine ja (ts := [4]) Tryz.func67 (by kernel_rfl) rfl rfl rfl ?_
    (repeat refine qb ?_); refine qa ?_
    repeat (first | refine zR ?_ | refine zK ?_ | refine zM ?_ | refine zB ?_ | refine zA ?_ | refine zS ?_ | refine zL ?_)
    refine qc ?_
    (repeat refine qb ?_); refine qa ?_
    repeat (first | refine zR ?_ | refine zK ?_ | refine zM ?_ | refine zB ?_ | refine zA ?_ | refine zS ?_ | refine zL ?_)
    refine qn rfl (zr wlkR rfl rfl rfl rfl rfl rfl (H) rfl rfl rfl ?_)
    repeat (first | refine zR ?_ | refine zK ?_ | refine zM ?_ | refine zB ?_ | refine zA ?_ | refine zS ?_ | refine zL ?_)
    by_cases h1 : p.alg < 1
    · rw [show decide (p.alg < 1) = true from decide_eq_true h1]
      repeat (first | refine zR ?_ | refine zK ?_ | refine zM ?_ | refine zB ?_ | refine zA ?_ | refine zS ?_ | refine zL ?_)
      refine qc ?_
      (repeat refine qb ?_); refine qf rfl (fun h => ?_) (fun h => ?_)
      · rw [if_neg (by simp; omega)]
        (repeat refine qb ?_); refine qa ?_
        repeat (first | refine zR ?_ | refine zK ?_ | refine zM ?_ | refine zB ?_ | refine zA ?_ | refine zS ?_ | refine zL ?_)
        refine qc ?_
        (repeat refine qb ?_); refine qk ?_
        exact ⟨Or.inr rfl, _, _, wlkR, Wk.refl _, rfl, rfl, rfl, rfl⟩
      · cases h
    · rw [show decide (p.alg < 1) = false from decide_eq_false h1]
      repeat (first | refine zR ?_ | refine zK ?_ | refine zM ?_ | refine zB ?_ | refine zA ?_ | refine zS ?_ | refine zL ?_)
      refine qc ?_
      (repeat refine qb ?_); refine qf rfl (fun h => ?_) (fun h => ?_)
      · have h2 : 6 < p.alg := by simpa using h
        rw [if_neg (by simp; omega)]
        (repeat refine qb ?_); refine qa ?_
        repeat (first | refine zR ?_ | refine zK ?_ | refine zM ?_ | refine zB ?_ | refine zA ?_ | refine zS ?_ | refine zL ?_)
        refine qc ?_
        (repeat refine qb ?_); refine qk ?_
        exact ⟨Or.inr rfl, _, _, wlkR, Wk.refl _, rfl, rfl, rfl, rfl⟩
      · have h2 : ¬ 6 < p.alg := by simpa using h
        rw [if_pos (by simp; omega)]
        unfold headE
        refine qm ?_
        (repeat refine qb ?_); refine qs (by kernel_rfl) ?_
        repeat (refine qr qe rfl (by exact True.intro) rfl ?_)
        refine qQ ?_
        rw [l1, l2]
        (repeat refine qb ?_); refine qf rfl (fun h => ?_) (fun h => ?_)
        · rw [if_pos (by revert h; cases p.set <;> simp)]
          (repeat refine qb ?_); refine qa ?_
          repeat (first | refine zR ?_ | refine zK ?_ | refine zM ?_ | refine zB ?_ | refine zA ?_ | refine zS ?_ | refine zL ?_)
          refine qc ?_
          (repeat refine qb ?_); refine qk ?_
          exact ⟨Or.inr rfl, _, _, wlkR, Wk.refl _, rfl, rfl, rfl, rfl⟩
        · rw [if_neg (by revert h; cases p.set <;> simp)]
          refine qm ?_
          (repeat refine qb ?_); refine qa ?_
          repeat (first | refine zR ?_ | refine zK ?_ | refine zM ?_ | refine zB ?_ | refine zA ?_ | refine zS ?_ | refine zL ?_)
          refine qn rfl (qg rfl rfl rfl rfl (target_h p.target hp.tgt) rfl rfl ?_)
          repeat (first | refine zR ?_ | refine zK ?_ | refine zM ?_ | refine zB ?_ | refine zA ?_ | refine zS ?_ | refine zL ?_)
          refine qc ?_
          (repeat refine qb ?_); refine qa ?_
          repeat (first | refine zR ?_ | refine zK ?_ | refine zM ?_ | refine zB ?_ | refine zA ?_ | refine zS ?_ | refine zL ?_)
          refine qc ?_
          (repeat refine qb ?_); refine qf rfl (fun h => ?_) (fun h => ?_)
          · have h3 : ¬ zI p.target = 0 := by simpa using h
            rw [if_neg h3]
            (repeat refine qb ?_); refine qa ?_
            repeat (first | refine zR ?_ | refine zK ?_ | refine zM ?_ | refine zB ?_ | refine zA ?_ | refine zS ?_ | refine zL ?_)
            refine qc ?_
            (repeat refine qb ?_); refine qk ?_
            exact ⟨Or.inr rfl, _, _, wlkR, Wk.refl _, rfl, rfl, rfl, rfl⟩
          · have h3 : zI p.target = 0 := by simpa using h
            rw [if_pos h3]
            refine qm ?_
            (repeat refine qb ?_); refine qa ?_
            repeat (first | refine zR ?_ | refine zK ?_ | refine zM ?_ | refine zB ?_ | refine zA ?_ | refine zS ?_ | refine zL ?_)
            refine qn rfl (qg rfl rfl rfl rfl (obls_h p.obls hp.obls) rfl rfl ?_)
            repeat (first | refine zR ?_ | refine zK ?_ | refine zM ?_ | refine zB ?_ | refine zA ?_ | refine zS ?_ | refine zL ?_)
            refine qc ?_
            (repeat refine qb ?_); refine qa ?_
            repeat (first | refine zR ?_ | refine zK ?_ | refine zM ?_ | refine zB ?_ | refine zA ?_ | refine zS ?_ | refine zL ?_)
            refine qc ?_
            (repeat refine qb ?_); refine qf rfl (fun h => ?_) (fun h => ?_)
            · have h4 : ¬ oblsS p.obls = 0 := by simpa using h
              rw [if_neg h4]
              (repeat refine qb ?_); refine qa ?_
              repeat (first | refine zR ?_ | refine zK ?_ | refine zM ?_ | refine zB ?_ | refine zA ?_ | refine zS ?_ | refine zL ?_)
              refine qc ?_
              (repeat refine qb ?_); refine qk ?_
              exact ⟨Or.inr rfl, _, _, wlkR, Wk.refl _, rfl, rfl, rfl, rfl⟩
            · have h4 : oblsS p.obls = 0 := by simpa using h
              rw [if_pos h4]
              refine qm ?_
              (repeat refine qb ?_); refine qs (by kernel_rfl) ?_
              repeat (refine qr qe rfl (by exact True.intro) rfl ?_)
              refine qQ ?_
              rw [l1, l2]
              (repeat refine qb ?_); refine qf rfl (fun h => ?_) (fun h => ?_)
              · rw [if_pos (by simp at h; omega)]
                (repeat refine qb ?_); refine qa ?_
                repeat (first | refine zR ?_ | refine zK ?_ | refine zM ?_ | refine zB ?_ | refine zA ?_ | refine zS ?_ | refine zL ?_)
                refine qc ?_
                (repeat refine qb ?_); refine qk ?_
                exact ⟨Or.inr rfl, _, _, wlkR, Wk.refl _, rfl, rfl, rfl, rfl⟩
              · rw [if_neg (by simp at h; omega)]
                refine qm ?_
                (repeat refine qb ?_); refine qa ?_
                repeat (first | refine zR ?_ | refine zK ?_ | refine zM ?_ | refine zB ?_ | refine zA ?_ | refine zS ?_ | refine zL ?_)
                refine qc ?_
                (repeat refine qb ?_); refine qk ?_
                exact ⟨Or.inr rfl, _, _, wlkR, Wk.refl _, rfl, rfl, rfl, rfl⟩
def PolFit : Nat → Pol → Prop
  | 0, _ => True
  | n + 1, p => HeadFit p ∧ ∀ k ∈ p.kids, PolFit n k
theorem wpol_h : ∀ (n : Nat) (hn : n ≤ 4) (w : Wlk) (p : Pol), lim w → PolFit n p → zZ Tryz.prog 44 [.ptr 1000000 0, .p (.agg (polP p)), .p (pI (5 - n))] (wlkO w) (.p (pI (polS n w p).1)) (wlkO (polS n w p).2)
  | 0, _, w, p, _, _ => by
    rw [zf]
    refine ja (ts := [6]) Tryz.func44 (by kernel_rfl) rfl rfl rfl ?_
    (repeat refine qb ?_); refine qa ?_
    repeat (first | refine zR ?_ | refine zK ?_ | refine zM ?_ | refine zB ?_ | refine zA ?_ | refine zS ?_ | refine zL ?_)
    refine qc ?_
    (repeat refine qb ?_); refine qa ?_
    repeat (first | refine zR ?_ | refine zK ?_ | refine zM ?_ | refine zB ?_ | refine zA ?_ | refine zS ?_ | refine zL ?_)
    refine qc ?_
    (repeat refine qb ?_); refine qf rfl (fun h => ?_) (fun h => ?_)
    · (repeat refine qb ?_); refine qa ?_
      repeat (first | refine zR ?_ | refine zK ?_ | refine zM ?_ | refine zB ?_ | refine zA ?_ | refine zS ?_ | refine zL ?_)
      refine qc ?_
      (repeat refine qb ?_); refine qk ?_
      exact ⟨Or.inr rfl, _, _, wlkR, Wk.refl _, rfl, rfl, rfl, rfl⟩
    · cases h
  | n + 1, hn, w, p, hw, hf => by
    have H := whead_h w p hf.1
    have IH := fun w k hw hk => wpol_h n (by omega) w k hw hk
    have l1 : ((p.rules.map zt).length) = p.rules.length := by simp
    have l2 : ((p.kids.map polP).length) = p.kids.length := by simp
    rw [zf] at H ⊢
    rw [polS]
    have hlen := hf.1.nr
    have hlen2 := hf.1.nk
    unfold reachBytes at hlen hlen2
    refine ja (ts := [6]) Tryz.func44 (by kernel_rfl) rfl rfl rfl ?_
    (repeat refine qb ?_); refine qa ?_
    repeat (first | refine zR ?_ | refine zK ?_ | refine zM ?_ | refine zB ?_ | refine zA ?_ | refine zS ?_ | refine zL ?_)
    refine qc ?_
    (repeat refine qb ?_); refine qa ?_
    repeat (first | refine zR ?_ | refine zK ?_ | refine zM ?_ | refine zB ?_ | refine zA ?_ | refine zS ?_ | refine zL ?_)
    refine qc ?_
    (repeat refine qb ?_); refine qf rfl (fun h => ?_) (fun h => ?_)
    · exfalso
      simp at h
      omega
    · refine qm ?_
      (repeat refine qb ?_); refine qa ?_
      repeat (first | refine zR ?_ | refine zK ?_ | refine zM ?_ | refine zB ?_ | refine zA ?_ | refine zS ?_ | refine zL ?_)
      refine qn rfl (zr wlkR rfl rfl rfl rfl rfl rfl (H) rfl rfl rfl ?_)
      repeat (first | refine zR ?_ | refine zK ?_ | refine zM ?_ | refine zB ?_ | refine zA ?_ | refine zS ?_ | refine zL ?_)
      refine qc ?_
      (repeat refine qb ?_); refine qa ?_
      repeat (first | refine zR ?_ | refine zK ?_ | refine zM ?_ | refine zB ?_ | refine zA ?_ | refine zS ?_ | refine zL ?_)
      refine qc ?_
      (repeat refine qb ?_); refine qf rfl (fun h => ?_) (fun h => ?_)
      · have h1 : ¬ (zF w p).1 = 0 := by simpa using h
        rw [if_neg h1]
        (repeat refine qb ?_); refine qa ?_
        repeat (first | refine zR ?_ | refine zK ?_ | refine zM ?_ | refine zB ?_ | refine zA ?_ | refine zS ?_ | refine zL ?_)
        refine qc ?_
        (repeat refine qb ?_); refine qk ?_
        exact ⟨Or.inr rfl, _, _, wlkR, Wk.refl _, rfl, rfl, rfl, rfl⟩
      · have h1 : (zF w p).1 = 0 := by simpa using h
        rw [if_pos h1]
        have hw1 : lim (zF w p).2 := hw
        generalize (zF w p).2 = w1 at *
        refine qm ?_
        (repeat refine qb ?_); refine qa ?_
        repeat (first | refine zR ?_ | refine zK ?_ | refine zM ?_ | refine zB ?_ | refine zA ?_ | refine zS ?_ | refine zL ?_)
        refine qc ?_
        (repeat refine qb ?_); refine ql ?_
        refine SW.wk (qq [0, 2, 4, 23, 24, 25] [(1000000, 1000000), (1000001, 1000001), (4, 4)] rfl rfl) ?_
        refine qO (fun m s => ∃ (k : Nat) (kk : Int) (wk : Wlk), k ≤ p.rules.length ∧ m = p.rules.length - k ∧ kk = k ∧ (seqS zq w1 (p.rules.take k)).1 = 0 ∧ wk = (seqS zq w1 (p.rules.take k)).2 ∧
          s = ⟨52, [(0, .ptr 1000000 0), (2, .p (pI (5 - (n + 1 : Nat)))), (4, .ptr 4 0), (23, .p (.sl 5 (p.rules.map zt))), (24, .p (pI p.rules.length)), (25, .p (pI kk))], wlkO wk ++ [(4, .cells ([pS p.id, pB p.set, pI p.alg, tgtP p.target, .sl 5 (p.rules.map zt), .sl 7 (p.kids.map polP), zQ p.obls].map .p))]⟩) p.rules.length ⟨0, 0, w1, Nat.zero_le _, rfl, rfl, rfl, rfl, by rw [← l1]; rfl⟩ ?_
        rintro m s ⟨k, _, wk, hk, rfl, rfl, ha, hwk, rfl⟩
        have hlk : lim wk := by rw [hwk]; exact jI (P := lim) (fun w x hw h => ruleS_lim hw h) hw1 ha
        (repeat refine qb ?_); refine qa ?_
        repeat (first | refine zR ?_ | refine zK ?_ | refine zM ?_ | refine zB ?_ | refine zA ?_ | refine zS ?_ | refine zL ?_)
        refine qc ?_
        (repeat refine qb ?_); refine qf rfl (fun hlt => ?_) (fun hlt => ?_)
        · refine qm ?_
          simp only [decide_eq_true_eq] at hlt
          have hlt' : k < p.rules.length := by omega
          have hst := seqS_some hlt' ha
          rw [← hwk] at hst
          (repeat refine qb ?_); refine ql ?_
          (repeat refine qb ?_); refine qa ?_
          repeat (first | refine zR ?_ | refine zK ?_ | refine zM ?_ | refine zB ?_ | refine zA ?_ | refine zS ?_ | refine zL ?_)
          refine qw qe rfl rfl (by rw [l1]; omega) rfl ?_
          rw [qJ hlt']
          repeat (first | refine zR ?_ | refine zK ?_ | refine zM ?_ | refine zB ?_ | refine zA ?_ | refine zS ?_ | refine zL ?_)
          refine qc ?_
          have H2 := wrule_h wk hlk p.rules[k] (hf.1.rules _ (List.getElem_mem hlt'))
          (repeat refine qb ?_); refine qa ?_
          repeat (first | refine zR ?_ | refine zK ?_ | refine zM ?_ | refine zB ?_ | refine zA ?_ | refine zS ?_ | refine zL ?_)
          refine qn rfl (zr wlkR rfl rfl rfl rfl rfl rfl (H2) rfl rfl rfl ?_)
          repeat (first | refine zR ?_ | refine zK ?_ | refine zM ?_ | refine zB ?_ | refine zA ?_ | refine zS ?_ | refine zL ?_)
          refine qc ?_
          (repeat refine qb ?_); refine qa ?_
          repeat (first | refine zR ?_ | refine zK ?_ | refine zM ?_ | refine zB ?_ | refine zA ?_ | refine zS ?_ | refine zL ?_)
          refine qc ?_
          (repeat refine qb ?_); refine qf rfl (fun h => ?_) (fun h => ?_)
          · have h2 : ¬ (zq wk p.rules[k]).1 = 0 := by simpa using h
            have e : seqS zq w1 p.rules = zq wk p.rules[k] := by rw [seqS_stop (k + 1) (by rw [hst]; exact h2), hst]
            rw [e, if_neg h2]
            (repeat refine qb ?_); refine qa ?_
            repeat (first | refine zR ?_ | refine zK ?_ | refine zM ?_ | refine zB ?_ | refine zA ?_ | refine zS ?_ | refine zL ?_)
            refine qc ?_
            (repeat refine qb ?_); refine qk ?_
            exact ⟨Or.inr rfl, _, _, wlkR, Wk.refl _, rfl, rfl, rfl, rfl⟩
          · have h2 : (zq wk p.rules[k]).1 = 0 := by simpa using h
            refine qm ?_
            (repeat refine qb ?_); refine qa ?_
            repeat (first | refine zR ?_ | refine zK ?_ | refine zM ?_ | refine zB ?_ | refine zA ?_ | refine zS ?_ | refine zL ?_)
            refine qc ?_
            refine ⟨_, _, ?_, qq [0, 2, 4, 23, 24, 25] [(1000000, 1000000), (1000001, 1000001), (4, 4)] rfl rfl, k + 1, _, _, hlt', rfl, qz hlt' (by omega), by rw [hst]; exact h2, by rw [hst], rfl⟩
            omega
        · refine qK ?_
          simp only [decide_eq_false_iff_not] at hlt
          have hkk : k = p.rules.length := by omega
          subst hkk
          rw [List.take_length] at ha hwk
          rw [if_pos ha, ← hwk]
          clear hwk
          (repeat refine qb ?_); refine qa ?_
          repeat (first | refine zR ?_ | refine zK ?_ | refine zM ?_ | refine zB ?_ | refine zA ?_ | refine zS ?_ | refine zL ?_)
          refine qc ?_
          (repeat refine qb ?_); refine ql ?_
          refine SW.wk (qq [0, 2, 37, 38, 39] [(1000000, 1000000), (1000001, 1000001)] rfl rfl) ?_
          refine qO (fun m s => ∃ (k : Nat) (kk : Int) (w2 : Wlk), k ≤ p.kids.length ∧ m = p.kids.length - k ∧ kk = k ∧ (seqS (polS n) wk (p.kids.take k)).1 = 0 ∧ w2 = (seqS (polS n) wk (p.kids.take k)).2 ∧
            s = ⟨52, [(0, .ptr 1000000 0), (2, .p (pI (5 - (n + 1 : Nat)))), (37, .p (.sl 7 (p.kids.map polP))), (38, .p (pI p.kids.length)), (39, .p (pI kk))], wlkO w2⟩) p.kids.length ⟨0, 0, wk, Nat.zero_le _, rfl, rfl, rfl, rfl, by rw [← l2]; rfl⟩ ?_
          rintro m s ⟨k, _, w2, hk, rfl, rfl, ha, hwk, rfl⟩
          have hl2 : lim w2 := by rw [hwk]; exact jI (P := lim) (fun w x hw h => polS_lim n w x hw h) hlk ha
          (repeat refine qb ?_); refine qa ?_
          repeat (first | refine zR ?_ | refine zK ?_ | refine zM ?_ | refine zB ?_ | refine zA ?_ | refine zS ?_ | refine zL ?_)
          refine qc ?_
          (repeat refine qb ?_); refine qf rfl (fun hlt => ?_) (fun hlt => ?_)
          · refine qm ?_
            simp only [decide_eq_true_eq] at hlt
            have hlt' : k < p.kids.length := by omega
            have hst := seqS_some hlt' ha
            rw [← hwk] at hst
            (repeat refine qb ?_); refine ql ?_
            (repeat refine qb ?_); refine qa ?_
            repeat (first | refine zR ?_ | refine zK ?_ | refine zM ?_ | refine zB ?_ | refine zA ?_ | refine zS ?_ | refine zL ?_)
            refine qw qe rfl rfl (by rw [l2]; omega) rfl ?_
            rw [qJ hlt', zf]
            repeat (first | refine zR ?_ | refine zK ?_ | refine zM ?_ | refine zB ?_ | refine zA ?_ | refine zS ?_ | refine zL ?_)
            refine qc ?_
            have H2 := IH w2 p.kids[k] hl2 (hf.2 _ (List.getElem_mem hlt'))
            rw [zf] at H2
            (repeat refine qb ?_); refine qa ?_
            repeat (first | refine zR ?_ | refine zK ?_ | refine zM ?_ | refine zB ?_ | refine zA ?_ | refine zS ?_ | refine zL ?_)
            rw [show IntKind.i64.wrap ((5 : Int) - (n + 1 : Nat) + 1) = 5 - (n : Int) by rw [IntWalk.i64_in _ (by omega)]; omega]
            refine qn rfl (zr wlkR rfl rfl rfl rfl rfl rfl (H2) rfl rfl rfl ?_)
            repeat (first | refine zR ?_ | refine zK ?_ | refine zM ?_ | refine zB ?_ | refine zA ?_ | refine zS ?_ | refine zL ?_)
            refine qc ?_
            (repeat refine qb ?_); refine qa ?_
            repeat (first | refine zR ?_ | refine zK ?_ | refine zM ?_ | refine zB ?_ | refine zA ?_ | refine zS ?_ | refine zL ?_)
            refine qc ?_
            (repeat refine qb ?_); refine qf rfl (fun h => ?_) (fun h => ?_)
            · have h2 : ¬ (polS n w2 p.kids[k]).1 = 0 := by simpa using h
              have e : seqS (polS n) wk p.kids = polS n w2 p.kids[k] := by rw [seqS_stop (k + 1) (by rw [hst]; exact h2), hst]
              rw [e]
              (repeat refine qb ?_); refine qa ?_
              repeat (first | refine zR ?_ | refine zK ?_ | refine zM ?_ | refine zB ?_ | refine zA ?_ | refine zS ?_ | refine zL ?_)
              refine qc ?_
              (repeat refine qb ?_); refine qk ?_
              exact ⟨Or.inr rfl, _, _, wlkR, Wk.refl _, rfl, rfl, rfl, rfl⟩
            · have h2 : (polS n w2 p.kids[k]).1 = 0 := by simpa using h
              refine qm ?_
              (repeat refine qb ?_); refine qa ?_
              repeat (first | refine zR ?_ | refine zK ?_ | refine zM ?_ | refine zB ?_ | refine zA ?_ | refine zS ?_ | refine zL ?_)
              refine qc ?_
              refine ⟨_, _, ?_, qq [0, 2, 37, 38, 39] [(1000000, 1000000), (1000001, 1000001)] rfl rfl, k + 1, _, _, hlt', rfl, qz hlt' (by omega), by rw [hst]; exact h2, by rw [hst], rfl⟩
              omega
          · refine qK ?_
            simp only [decide_eq_false_iff_not] at hlt
            have hkk : k = p.kids.length := by omega
            subst hkk
            rw [List.take_length] at ha hwk
            rw [ha, ← hwk]
            (repeat refine qb ?_); refine qa ?_
            repeat (first | refine zR ?_ | refine zK ?_ | refine zM ?_ | refine zB ?_ | refine zA ?_ | refine zS ?_ | refine zL ?_)
            refine qc ?_
            (repeat refine qb ?_); refine qk ?_
            exact ⟨Or.inr rfl, _, _, wlkR, Wk.refl _, rfl, rfl, rfl, rfl⟩
theorem right_h (p : Pol) (hf : PolFit 4 p) : Holds Tryz.prog 17 [.agg (polP p)] (.p (pI (zb p))) [] := by
  have H := wpol_h 4 (Nat.le_refl _) ⟨[], 0⟩ p ⟨Int.le_refl _, by decide⟩ hf
  rw [zf] at H ⊢
  refine qA (ts := [2]) Tryz.func17 (by kernel_rfl) rfl rfl rfl ?_
  (repeat refine qb ?_); refine qa ?_
  repeat (first | refine zR ?_ | refine zK ?_ | refine zM ?_ | refine zB ?_ | refine zA ?_ | refine zS ?_ | refine zL ?_)
  refine qc ?_
  (repeat refine qb ?_); refine qa ?_
  repeat (first | refine zR ?_ | refine zK ?_ | refine zM ?_ | refine zB ?_ | refine zA ?_ | refine zS ?_ | refine zL ?_)
  refine qc ?_
  (repeat refine qb ?_); refine qa ?_
  repeat (first | refine zR ?_ | refine zK ?_ | refine zM ?_ | refine zB ?_ | refine zA ?_ | refine zS ?_ | refine zL ?_)
  refine qn rfl (zr [(6, 1000000), (4, 1000001)] rfl rfl rfl rfl rfl rfl (H) rfl rfl rfl ?_)
  repeat (first | refine zR ?_ | refine zK ?_ | refine zM ?_ | refine zB ?_ | refine zA ?_ | refine zS ?_ | refine zL ?_)
  refine qc ?_
  (repeat refine qb ?_); refine qk ?_
  exact ⟨Or.inr rfl, _, _, [], Wk.refl _, rfl, rfl, rfl, rfl⟩
end Go.Proofs.YtppfcacnofjmdaaGreatDoor
namespace Go.Proofs.YtppfcacnofjmdaaGreatDoor
set_option linter.unusedVariables false
set_option linter.unusedSimpArgs false
open Go.RowKit
theorem opens_tint : Opens Tryz.prog 3 1 rInt := opens_int Tryz.underlying3 (by kernel_rfl)
theorem opens_tstr : Opens Tryz.prog 9 1 rStr := opens_str Tryz.underlying9 (by kernel_rfl)
theorem opens_tbool : Opens Tryz.prog 4 1 rBool := opens_bool Tryz.underlying4 (by kernel_rfl)
set_option maxRecDepth 100000 in
theorem opens_val : Opens Tryz.prog 52 3 rVal := by
  refine ⟨by kernel_rfl, fun H enc w fuel cs x h hw => ?_⟩
  obtain ⟨hlen, m, _, hf⟩ := jl Tryz.underlying52 h hw
  have hc : Tryz.prog.cellsOf 52 = 3 := by kernel_rfl
  rw [hc] at hlen
  match cs, hlen with
  | [c0, c1, c2], _ =>
    obtain ⟨k, hk⟩ := opens_tint.field (off := 0) (hf 0 _ rfl)
    obtain ⟨n, hn⟩ := opens_tint.field (off := 1) (hf 1 _ rfl)
    obtain ⟨s, hs⟩ := opens_tstr.field (off := 2) (hf 2 _ rfl)
    simp only [rInt, rStr, List.drop_succ_cons, List.drop_zero, List.take_succ_cons, List.take_zero, List.cons.injEq, and_true] at hk hn hs
    obtain ⟨rfl, hk⟩ := hk
    obtain ⟨rfl, hn⟩ := hn
    obtain ⟨rfl, hs⟩ := hs
    exact ⟨⟨k, n, s⟩, rfl, hk, hn, hs⟩
theorem opens_vals : Opens Tryz.prog 86 1 (rSl rVal 3) := wK Tryz.underlying86 (by kernel_rfl) (by decide +kernel) (by omega) opens_val
end Go.Proofs.YtppfcacnofjmdaaGreatDoor
namespace Go.Proofs.YtppfcacnofjmdaaGreatDoor
set_option linter.unusedVariables false
set_option linter.unusedSimpArgs false
open Go.RowKit
set_option maxRecDepth 100000 in
theorem opens_atr : Opens Tryz.prog 54 3 rAtr := by
  refine ⟨by kernel_rfl, fun H enc w fuel cs x h hw => ?_⟩
  obtain ⟨hlen, m, _, hf⟩ := jl Tryz.underlying54 h hw
  have hc : Tryz.prog.cellsOf 54 = 3 := by kernel_rfl
  rw [hc] at hlen
  match cs, hlen with
  | [c0, c1, c2], _ =>
    obtain ⟨k, hk⟩ := opens_tint.field (off := 0) (hf 0 _ rfl)
    obtain ⟨n, hn⟩ := opens_tstr.field (off := 1) (hf 1 _ rfl)
    obtain ⟨s, hs⟩ := opens_tbool.field (off := 2) (hf 2 _ rfl)
    simp only [rInt, rStr, rBool, List.drop_succ_cons, List.drop_zero, List.take_succ_cons, List.take_zero, List.cons.injEq, and_true] at hk hn hs
    obtain ⟨rfl, hk⟩ := hk
    obtain ⟨rfl, hn⟩ := hn
    obtain rfl := hs
    exact ⟨⟨k, n, s⟩, rfl, hk, hn⟩
set_option maxRecDepth 100000 in
theorem opens_mat : Opens Tryz.prog 62 7 rMat := by
  refine ⟨by kernel_rfl, fun H enc w fuel cs x h hw => ?_⟩
  obtain ⟨hlen, m, _, hf⟩ := jl Tryz.underlying62 h hw
  have hc : Tryz.prog.cellsOf 62 = 7 := by kernel_rfl
  rw [hc] at hlen
  match cs, hlen with
  | [c0, c1, c2, c3, c4, c5, c6], _ =>
    obtain ⟨a, ha⟩ := opens_atr.field (off := 0) (hf 0 _ rfl)
    obtain ⟨o, ho⟩ := opens_tint.field (off := 3) (hf 1 _ rfl)
    obtain ⟨v, hv⟩ := opens_val.field (off := 4) (hf 2 _ rfl)
    simp only [rInt, rAtr, rVal, Atr.cells, Val.cells, List.drop_succ_cons, List.drop_zero, List.take_succ_cons, List.take_zero, List.cons.injEq, and_true] at ha ho hv
    obtain ⟨⟨rfl, rfl, rfl⟩, ha⟩ := ha
    obtain ⟨rfl, ho⟩ := ho
    obtain ⟨⟨rfl, rfl, rfl⟩, hv⟩ := hv
    exact ⟨⟨a, o, v⟩, rfl, ha, ho, hv⟩
set_option maxRecDepth 100000 in
theorem opens_giv : Opens Tryz.prog 88 3 rGiv := by
  refine ⟨by kernel_rfl, fun H enc w fuel cs x h hw => ?_⟩
  obtain ⟨hlen, m, _, hf⟩ := jl Tryz.underlying88 h hw
  have hc : Tryz.prog.cellsOf 88 = 3 := by kernel_rfl
  rw [hc] at hlen
  match cs, hlen with
  | [c0, c1, c2], _ =>
    obtain ⟨k, hk⟩ := opens_tint.field (off := 0) (hf 0 _ rfl)
    obtain ⟨n, hn⟩ := opens_tstr.field (off := 1) (hf 1 _ rfl)
    obtain ⟨s, hs⟩ := opens_vals.field (off := 2) (hf 2 _ rfl)
    simp only [rInt, rStr, rSl, List.drop_succ_cons, List.drop_zero, List.take_succ_cons, List.take_zero, List.cons.injEq, and_true] at hk hn hs
    obtain ⟨rfl, hk⟩ := hk
    obtain ⟨rfl, hn⟩ := hn
    obtain ⟨A, c, rfl, h1, h2, h3⟩ := hs
    exact ⟨⟨k, n, s⟩, A, c, rfl, hk, hn, h1, h2, h3⟩
theorem opens_givs : Opens Tryz.prog 29 1 (rSl rGiv 3) := wK Tryz.underlying29 (by kernel_rfl) (by decide +kernel) (by omega) opens_giv
theorem opens_mats : Opens Tryz.prog 63 1 (rSl rMat 7) := wK Tryz.underlying63 (by kernel_rfl) (by decide +kernel) (by omega) opens_mat
theorem opens_matss : Opens Tryz.prog 64 1 (rSl (rSl rMat 7) 1) := wK Tryz.underlying64 (by kernel_rfl) (by decide +kernel) (by omega) opens_mats
theorem opens_tar : Opens Tryz.prog 23 1 (rSl (rSl (rSl rMat 7) 1) 1) := wK Tryz.underlying23 (by kernel_rfl) (by decide +kernel) (by omega) opens_matss
end Go.Proofs.YtppfcacnofjmdaaGreatDoor
namespace Go.Proofs.YtppfcacnofjmdaaGreatDoor
set_option linter.unusedVariables false
set_option linter.unusedSimpArgs false
open Go.RowKit
set_option maxRecDepth 100000 in
theorem opens_obl : Opens Tryz.prog 43 3 rObl := by
  refine ⟨by kernel_rfl, fun H enc w fuel cs x h hw => ?_⟩
  obtain ⟨hlen, m, _, hf⟩ := jl Tryz.underlying43 h hw
  have hc : Tryz.prog.cellsOf 43 = 3 := by kernel_rfl
  rw [hc] at hlen
  match cs, hlen with
  | [c0, c1, c2], _ =>
    obtain ⟨k, hk⟩ := opens_tint.field (off := 0) (hf 0 _ rfl)
    obtain ⟨n, hn⟩ := opens_tint.field (off := 1) (hf 1 _ rfl)
    obtain ⟨s, hs⟩ := opens_tstr.field (off := 2) (hf 2 _ rfl)
    simp only [rInt, rStr, List.drop_succ_cons, List.drop_zero, List.take_succ_cons, List.take_zero, List.cons.injEq, and_true] at hk hn hs
    obtain ⟨rfl, hk⟩ := hk
    obtain ⟨rfl, hn⟩ := hn
    obtain ⟨rfl, hs⟩ := hs
    exact ⟨⟨k, n, s⟩, rfl, hk, hn, hs⟩
set_option maxRecDepth 100000 in
theorem opens_nod : Opens Tryz.prog 56 7 rNod := by
  refine ⟨by kernel_rfl, fun H enc w fuel cs x h hw => ?_⟩
  obtain ⟨hlen, m, _, hf⟩ := jl Tryz.underlying56 h hw
  have hc : Tryz.prog.cellsOf 56 = 7 := by kernel_rfl
  rw [hc] at hlen
  match cs, hlen with
  | [c0, c1, c2, c3, c4, c5, c6], _ =>
    obtain ⟨o, ho⟩ := opens_tint.field (off := 0) (hf 0 _ rfl)
    obtain ⟨v, hv⟩ := opens_val.field (off := 1) (hf 1 _ rfl)
    obtain ⟨a, ha⟩ := opens_atr.field (off := 4) (hf 2 _ rfl)
    simp only [rInt, rAtr, rVal, Atr.cells, Val.cells, List.drop_succ_cons, List.drop_zero, List.take_succ_cons, List.take_zero, List.cons.injEq, and_true] at ha ho hv
    obtain ⟨⟨rfl, rfl, rfl⟩, ha⟩ := ha
    obtain ⟨rfl, ho⟩ := ho
    obtain ⟨⟨rfl, rfl, rfl⟩, hv⟩ := hv
    exact ⟨⟨o, v, a⟩, rfl, ho, hv, ha⟩
theorem opens_obls : Opens Tryz.prog 26 1 (rSl rObl 3) := wK Tryz.underlying26 (by kernel_rfl) (by decide +kernel) (by omega) opens_obl
theorem opens_nods : Opens Tryz.prog 50 1 (rSl rNod 7) := wK Tryz.underlying50 (by kernel_rfl) (by decide +kernel) (by omega) opens_nod
theorem obl_pv {w : World} {cs : List Value} {x : Obli} (h : rObl w cs x) : rPV (fun _ => True) w cs x.pv := by
  rw [h.1]; exact plain_rPV (xs := [.int .i64 x.on, .int .i64 x.kind, .string x.arg]) (by simp [plain])
theorem nod_pv {w : World} {cs : List Value} {x : Nod} (h : rNod w cs x) : rPV (fun _ => True) w cs x.pv := by
  rw [h.1]; exact plain_rPV (xs := [.int .i64 x.op, .int .i64 x.val.kind, .int .i64 x.val.n, .string x.val.s, .int .i64 x.attr.cat, .string x.attr.name, .bool x.attr.must]) (by simp [plain])
end Go.Proofs.YtppfcacnofjmdaaGreatDoor
namespace Go.Proofs.YtppfcacnofjmdaaGreatDoor
set_option linter.unusedVariables false
set_option linter.unusedSimpArgs false
open Go.RowKit
theorem SlV.rel {α : Type} {R : Rp α} {f : α → List PV} {z : Nat} {w : World} {v : Value} {l : List α} (h : SlV R z w v l) (hz : ∀ x, (f x).length = z ∧ (f x).all oneP = true) (hf : ∀ x ∈ l, ∀ cs, R w cs x → rPV (fun _ => True) w cs (f x)) : RelP (fun _ => True) w (.sl z (l.map f)) v := by
  obtain ⟨A, c, rfl, h1, h2, h3⟩ := h
  exact rel_sl h3 h1 h2 hz hf
theorem SlV.fit {α : Type} {R : Rp α} {size : Nat} {w : World} {v : Value} {l : List α} {F : α → Prop} (h : SlV R size w v l) (hR : ∀ cs x, R w cs x → F x) : (∀ x ∈ l, F x) ∧ l.length ≤ reachBytes := by
  obtain ⟨A, c, rfl, h1, h2, h3⟩ := h
  exact ⟨h3.fit hR, h2.1⟩
theorem jf {ok : Nat → Prop} {w : World} {c : Value} {cs : List Value} {p : PV} {ps : List PV} (h : RelP ok w p c) (t : rPV ok w cs ps) : rPV ok w (c :: cs) (p :: ps) := by
  refine ⟨by simp [t.1], fun j s u hs hu => ?_⟩
  cases j with
  | zero => simp at hs hu; subst hs; subst hu; exact h
  | succ j => exact t.2 j s u (by simpa using hs) (by simpa using hu)
theorem rPV_nil {ok : Nat → Prop} {w : World} : rPV ok w [] [] := ⟨rfl, fun j s u hs _ => by simp at hs⟩
set_option maxRecDepth 100000 in
theorem opens_rul : Opens Tryz.prog 59 5 rRul := by
  refine ⟨by kernel_rfl, fun H enc w fuel cs x h hw => ?_⟩
  obtain ⟨hlen, m, _, hf⟩ := jl Tryz.underlying59 h hw
  have hc : Tryz.prog.cellsOf 59 = 5 := by kernel_rfl
  rw [hc] at hlen
  match cs, hlen with
  | [c0, c1, c2, c3, c4], _ =>
    obtain ⟨o, ho⟩ := opens_tstr.field (off := 0) (hf 0 _ rfl)
    obtain ⟨b, hb⟩ := opens_tbool.field (off := 1) (hf 1 _ rfl)
    obtain ⟨t, h2⟩ := opens_tar.field (off := 2) (hf 2 _ rfl)
    obtain ⟨n, h3⟩ := opens_nods.field (off := 3) (hf 3 _ rfl)
    obtain ⟨l, h4⟩ := opens_obls.field (off := 4) (hf 4 _ rfl)
    simp only [rStr, rBool, List.drop_succ_cons, List.drop_zero, List.take_succ_cons, List.take_zero, List.cons.injEq, and_true] at ho hb h2 h3 h4
    obtain ⟨rfl, ho⟩ := ho
    subst hb
    exact ⟨⟨o, b, t, n, l⟩, c2, c3, c4, rfl, ho, .of h2, .of h3, .of h4⟩
theorem opens_ruls : Opens Tryz.prog 24 1 (rSl rRul 5) := wK Tryz.underlying24 (by kernel_rfl) (by decide +kernel) (by omega) opens_rul
theorem tar_pv {w : World} {v : Value} {t : Tar} (h : SlV rTar' 1 w v t) : RelP (fun _ => True) w (tgtP t) v := by
  obtain ⟨A, c, rfl, h1, h2, h3⟩ := h
  exact tgt_rel h3 h1 h2
theorem rul_pv {w : World} {cs : List Value} {x : Rul} (h : rRul w cs x) : rPV (fun _ => True) w cs (zt x) := by
  obtain ⟨c2, c3, c4, rfl, _, h2, h3, h4⟩ := h
  exact jf (.v rfl) (jf (.v rfl) (jf (tar_pv h2) (jf (h3.rel (fun x => ⟨rfl, rfl⟩) fun x _ cs h => nod_pv h) (jf (h4.rel (fun x => ⟨rfl, rfl⟩) fun x _ cs h => obl_pv h) rPV_nil))))
theorem rul_fit {w : World} {cs : List Value} {x : Rul} (h : rRul w cs x) : RulFit x := by
  obtain ⟨c2, c3, c4, rfl, h1, ⟨A, c, rfl, _, _, h2⟩, h3, h4⟩ := h
  exact ⟨h1, tgt_fit h2, (h3.fit fun _ _ h => h.2).1, (h4.fit fun _ _ h => h.2).1⟩
def rPolX : Rp Pol := fun w cs p => ∃ n, rPolN n w cs p
def OpensS {α : Type} (P : Program) (t : TypeId) (size : Nat) (R : Rp α) (s : Nat) : Prop :=
  P.cellsOf t = size ∧ ∀ (H : Type) (enc : TypeId × Value → H) (w : World) (fuel : Nat) (cs : List Value) (x : DataW H × List MemPlace), SizeOf.sizeOf x.1 < s →
    DataW.trod enc P w 0 (fun _ => true) true fuel t cs = some x → (∀ n ∈ x.1.weights P t, n ≤ reachBytes) → ∃ y, R w cs y
theorem sl_openS {α : Type} {P : Program} {t e : TypeId} {size s : Nat} {R : Rp α} (ht : P.underlying t = some (.slice e)) (hb : 1 ≤ P.bytesOf e) (hs : 1 ≤ size) (he : OpensS P e size R s)
    {H : Type} {enc : TypeId × Value → H} {w : World} {fuel : Nat} {cs : List Value} {x : DataW H × List MemPlace} (hx : SizeOf.sizeOf x.1 ≤ s) (h : DataW.trod enc P w 0 (fun _ => true) true fuel t cs = some x) (hw : ∀ n ∈ x.1.weights P t, n ≤ reachBytes) : ∃ y, rSl R size w cs y := by
  rcases Go.Deep.open_slice ht h with ⟨rfl, _⟩ | ⟨a, len, cap, m, n, D, Pl, rfl, _, hlc, hcm, hm, rfl, hel⟩
  · exact ⟨[], none, 0, rfl, Nat.le_refl _, ⟨Nat.zero_le _, Nat.zero_le _⟩, SlAt.nil⟩
  · simp only [if_true] at hm
    subst hm
    have hcap : m ≤ reachBytes := by
      have h1 := hw ((((List.range len).map D).length + ((List.range (m - len)).map fun j => D (len + j)).length) * P.bytesOf e) (by simp [DataW.weights, ht])
      simp only [List.length_map, List.length_range] at h1
      have h2 : len + (m - len) = m := by omega
      rw [h2] at h1
      exact Nat.le_trans (Nat.le_mul_of_pos_right m hb) h1
    have hcap' : m ≤ maxLen := by unfold maxLen; unfold reachBytes at hcap; omega
    have hsz : ∀ i, i < m → SizeOf.sizeOf (D i) < s := fun i hi => by
      simp only [DataW.slice.sizeOf_spec] at hx
      rcases Nat.lt_or_ge i len with hil | hil
      · have : D i ∈ (List.range len).map D := List.mem_map.2 ⟨i, List.mem_range.2 hil, rfl⟩
        have := List.sizeOf_lt_of_mem this
        omega
      · have : D i ∈ (List.range (m - len)).map fun j => D (len + j) := List.mem_map.2 ⟨i - len, List.mem_range.2 (by omega), by rw [show len + (i - len) = i by omega]⟩
        have := List.sizeOf_lt_of_mem this
        omega
    have hcell : ∀ i, i < m → ∃ cs', cs'.length = size ∧ (∀ j u, cs'[j]? = some u → w.cell? ((a.add (i * size)).add j) = some u) ∧ ∃ y, R w cs' y := fun i hi => by
      obtain ⟨cs', h1, h2⟩ := hel i hi
      rw [he.1] at h1
      obtain ⟨_, h3, h4⟩ := World.cells?_some h1
      refine ⟨cs', h3, fun j u hj => ?_, ?_⟩
      · have : j < size := by rw [← h3]; exact (List.getElem?_eq_some_iff.1 hj).1
        rw [h4 j this, hj]
      · refine he.2 H enc w n cs' _ (hsz i hi) h2 fun k hk => hw k ?_
        simp only [DataW.weights, ht, List.mem_cons, List.mem_append]
        rcases Nat.lt_or_ge i len with hil | hil
        · exact Or.inr (Or.inl (jc (List.mem_map.2 ⟨i, List.mem_range.2 hil, rfl⟩) k hk))
        · refine Or.inr (Or.inr (jc (d := D i) (List.mem_map.2 ⟨i - len, List.mem_range.2 (by omega), ?_⟩) k hk))
          rw [show len + (i - len) = i by omega]
    rcases Nat.eq_zero_or_pos len with h0 | hpos
    · subst h0
      exact ⟨[], some a, m, rfl, Nat.zero_le _, ⟨Nat.zero_le _, hcap'⟩, SlAt.nil⟩
    · have hsp : a.spot = none ∧ a.block < w.heap.size := by
        obtain ⟨cs', h1, h2, _⟩ := hcell 0 (by omega)
        obtain ⟨u, hu⟩ : ∃ u, cs'[0]? = some u := ⟨cs'[0]'(by omega), List.getElem?_eq_getElem _⟩
        have h3 := h2 0 u hu
        simp only [Nat.zero_mul, Addr.add, if_true] at h3
        exact ⟨(lt_of_cell h3).2, (lt_of_cell h3).1⟩
      obtain ⟨b, o, sp⟩ := a
      obtain ⟨rfl, hlt⟩ := hsp
      have hadd : ∀ o k : Nat, (⟨b, o, none⟩ : Addr).add k = ⟨b, o + k, none⟩ := fun o k => by
        unfold Addr.add; split
        · simp [*]
        · rfl
      have hex : ∀ i : Nat, ∃ y : α, i < m → ∃ cs', cs'.length = size ∧ CellsAt w b (o + i * size) cs' ∧ R w cs' y := fun i => by
        by_cases hi : i < m
        · obtain ⟨cs', h1, h2, y, hy⟩ := hcell i hi
          refine ⟨y, fun _ => ⟨cs', h1, fun j u hj => ?_, hy⟩⟩
          have := h2 j u hj
          rw [hadd, hadd] at this
          exact this
        · obtain ⟨_, _, _, y, _⟩ := hcell 0 (by omega)
          exact ⟨y, fun h => absurd h hi⟩
      obtain ⟨f, hf⟩ := Classical.axiomOfChoice hex
      refine ⟨(List.range len).map f, some ⟨b, o, none⟩, m, by simp, by simpa using hlc, ⟨by simp; omega, hcap'⟩, fun _ => ⟨b, o, rfl, hlt, fun i hi => ?_⟩⟩
      have hi' : i < len := by simpa using hi
      obtain ⟨cs', h1, h2, h3⟩ := hf i (by omega)
      exact ⟨cs', h1, h2, by simpa using h3⟩
theorem struct_openS {H : Type} {enc : TypeId × Value → H} {P : Program} {w : World} {fuel : Nat} {t : TypeId} {fs : Array Field} {cs : List Value} {x : DataW H × List MemPlace} (ht : P.underlying t = some (.struct fs))
    (h : DataW.trod enc P w 0 (fun _ => true) true fuel t cs = some x) (hw : ∀ n ∈ x.1.weights P t, n ≤ reachBytes) :
    cs.length = P.cellsOf t ∧ ∃ m, ∀ (i : Nat) (f : Field), fs[i]? = some f → ∃ y, DataW.trod enc P w 0 (fun _ => true) true m f.type ((cs.drop f.offset).take (P.cellsOf f.type)) = some y ∧ (∀ n ∈ y.1.weights P f.type, n ≤ reachBytes) ∧ SizeOf.sizeOf y.1 < SizeOf.sizeOf x.1 := by
  obtain ⟨xs, n, hn, hx, hlen, hxl, hf⟩ := DataW.trod_struct ht h
  refine ⟨hlen, n, fun i f hi => ?_⟩
  have hil : i < fs.size := (Array.getElem?_eq_some_iff.1 hi).1
  have hy : xs[i]? = some (xs[i]'(by omega)) := List.getElem?_eq_getElem (by omega)
  refine ⟨_, (hf i f hi).trans hy, fun k hk => hw k ?_, ?_⟩
  · subst hx
    simp only [DataW.weights, ht]
    refine DataW.weights_mem_each (j := i) (t := f.type) (d := (xs[i]'(by omega)).1) ?_ ?_ k hk
    · rw [List.getElem?_map, Array.getElem?_toList, hi]; rfl
    · rw [List.getElem?_map, hy]; rfl
  · subst hx
    have h1 : (xs[i]'(by omega)).1 ∈ xs.map (·.1) := List.mem_map.2 ⟨_, List.getElem_mem _, rfl⟩
    have h2 := List.sizeOf_lt_of_mem h1
    simp only [DataW.agg.sizeOf_spec]
    omega
theorem hd3 {α : Type} {P : α → Prop} {Q R : α → Prop} (h : ∃ y, P y ∧ Q y ∧ R y) : ∃ y, P y ∧ Q y := by
  obtain ⟨y, a, b, _⟩ := h; exact ⟨y, a, b⟩
set_option maxRecDepth 100000 in
theorem opens_polS : ∀ s, OpensS Tryz.prog 28 7 (rPolN s) s := by
  intro s
  induction s with
  | zero => exact ⟨by kernel_rfl, fun H enc w fuel cs x hx => absurd hx (Nat.not_lt_zero _)⟩
  | succ s ih =>
    refine ⟨by kernel_rfl, fun H enc w fuel cs x hx h hw => ?_⟩
    obtain ⟨hlen, m, hf⟩ := struct_openS Tryz.underlying28 h hw
    have hc : Tryz.prog.cellsOf 28 = 7 := by kernel_rfl
    rw [hc] at hlen
    match cs, hlen with
    | [c0, c1, c2, c3, c4, c5, c6], _ =>
      obtain ⟨o, ho⟩ := opens_tstr.field (off := 0) (hd3 (hf 0 _ rfl))
      obtain ⟨b, hb⟩ := opens_tbool.field (off := 1) (hd3 (hf 1 _ rfl))
      obtain ⟨n, hn⟩ := opens_tint.field (off := 2) (hd3 (hf 2 _ rfl))
      obtain ⟨t, h3⟩ := opens_tar.field (off := 3) (hd3 (hf 3 _ rfl))
      obtain ⟨r, h4⟩ := opens_ruls.field (off := 4) (hd3 (hf 4 _ rfl))
      obtain ⟨l, h6⟩ := opens_obls.field (off := 6) (hd3 (hf 6 _ rfl))
      obtain ⟨y, h5, hy1, hy2⟩ := hf 5 _ rfl
      obtain ⟨k, h5⟩ := sl_openS Tryz.underlying25 (by decide +kernel) (by omega) ih (by omega) h5 hy1
      have hc1 : Tryz.prog.cellsOf 25 = 1 := by kernel_rfl
      simp only [rStr, rBool, rInt, hc1, List.drop_succ_cons, List.drop_zero, List.take_succ_cons, List.take_zero, List.cons.injEq, and_true] at ho hb hn h3 h4 h5 h6
      obtain ⟨rfl, ho⟩ := ho
      subst hb
      obtain ⟨rfl, hn⟩ := hn
      exact ⟨.mk o b n t r k l, c3, c4, c5, c6, rfl, ho, hn, .of h3, .of h4, .of h5, .of h6⟩
theorem opens_pol : Opens Tryz.prog 28 7 rPolX := ⟨(opens_polS 0).1, fun H enc w fuel cs x h hw => by
  obtain ⟨p, hp⟩ := (opens_polS (SizeOf.sizeOf x.1 + 1)).2 H enc w fuel cs x (Nat.lt_succ_self _) h hw
  exact ⟨p, _, hp⟩⟩
theorem polP_shape (x : Pol) : (polP x).length = 7 ∧ (polP x).all oneP = true := by rw [zf]; exact ⟨rfl, rfl⟩
theorem pol_pv : ∀ (n : Nat) {w : World} {cs : List Value} {p : Pol}, rPolN n w cs p → rPV (fun _ => True) w cs (polP p)
  | n + 1, w, cs, p, ⟨c3, c4, c5, c6, he, _, _, h3, h4, h5, h6⟩ => by
    subst he
    rw [zf]
    exact jf (.v rfl) (jf (.v rfl) (jf (.v rfl) (jf (tar_pv h3) (jf (h4.rel (fun x => ⟨rfl, rfl⟩) fun x _ cs h => rul_pv h)
      (jf (h5.rel polP_shape fun x _ cs h => pol_pv n h) (jf (h6.rel (fun x => ⟨rfl, rfl⟩) fun x _ cs h => obl_pv h) rPV_nil))))))
theorem pol_fit : ∀ (m : Nat) {n : Nat} {w : World} {cs : List Value} {p : Pol}, rPolN n w cs p → PolFit m p
  | 0, _, _, _, _, _ => trivial
  | m + 1, n + 1, w, cs, p, ⟨c3, c4, c5, c6, he, hid, _, ⟨A, c, ha, _, _, h3⟩, h4, h5, h6⟩ => by
    have k4 := h4.fit (F := RulFit) fun _ _ h => rul_fit h
    have k5 := h5.fit (F := PolFit m) fun _ _ h => pol_fit m h
    have k6 := h6.fit (F := Obli.Fit) fun _ _ h => h.2
    exact ⟨⟨hid, tgt_fit h3, k4.1, k6.1, k4.2, k5.2⟩, k5.1⟩
end Go.Proofs.YtppfcacnofjmdaaGreatDoor
namespace Go.Proofs.YtppfcacnofjmdaaGreatDoor
set_option linter.unusedVariables false
set_option linter.unusedSimpArgs false
open Go.RowKit
def PolF : Nat → Pol → Prop
  | 0, _ => False
  | n + 1, p => HeadFit p ∧ R64 p.alg ∧ ∀ k ∈ p.kids, PolF n k
theorem qaF : ∀ (m : Nat) {n : Nat} {p : Pol}, PolF n p → PolFit m p
  | 0, _, _, _ => True.intro
  | m + 1, n + 1, p, h => ⟨h.1, fun k hk => qaF m (h.2.2 k hk)⟩
theorem polF_of : ∀ {n : Nat} {w : World} {cs : List Value} {p : Pol}, rPolN n w cs p → PolF n p
  | n + 1, w, cs, p, h => by
    have h1 := pol_fit 1 h
    obtain ⟨c3, c4, c5, c6, he, hid, ha, _, _, h5, _⟩ := h
    exact ⟨h1.1, ha, (h5.fit (F := PolF n) fun _ _ h => polF_of h).1⟩
end Go.Proofs.YtppfcacnofjmdaaGreatDoor
namespace Go.Proofs.YtppfcacnofjmdaaGreatDoor
set_option linter.unusedVariables false
set_option linter.unusedSimpArgs false
open Go.RowKit
theorem SWT.wk {P : Program} {ops l : List Oper} {Q : St → Prop} {st st' : St} (h : Wk st st') (h' : SWT P ops l Q st') : SWT P ops l Q st := fun w0 Sx γ a w QQ hI hQ => by
  obtain ⟨γ', hI'⟩ := h w0 Sx γ a w hI
  exact h' w0 Sx γ' a w QQ hI' hQ
theorem xsz_le {t : Tar} {x : List (List Mat)} (h : x ∈ t) : xsz x ≤ tsz t := by
  have := wb (f := xsz) h
  unfold tsz; omega
theorem len_sumBy {α : Type} (f : α → Nat) (h : ∀ x, 1 ≤ f x) : ∀ l : List α, l.length ≤ qT f l
  | [] => Nat.zero_le _
  | x :: r => by
    have h1 := len_sumBy f h r
    have h2 := h x
    simp only [qT, List.map_cons, List.sum_cons, List.length_cons] at h1 ⊢
    omega
end Go.Proofs.YtppfcacnofjmdaaGreatDoor
namespace Go.Proofs.YtppfcacnofjmdaaGreatDoor
set_option linter.unusedVariables false
set_option linter.unusedSimpArgs false
open Go.RowKit
instance decVal : DecidableEq Val := fun a b => decidable_of_iff (a.kind = b.kind ∧ a.n = b.n ∧ a.s = b.s) ⟨fun h => by cases a; cases b; simp only at h; simp [h], fun h => by subst h; simp⟩
instance decAtr : DecidableEq Atr := fun a b => decidable_of_iff (a.cat = b.cat ∧ a.name = b.name ∧ a.must = b.must) ⟨fun h => by cases a; cases b; simp only at h; simp [h], fun h => by subst h; simp⟩
instance decMat : DecidableEq Mat := fun a b => decidable_of_iff (a.attr = b.attr ∧ a.op = b.op ∧ a.val = b.val) ⟨fun h => by cases a; cases b; simp only at h; simp [h], fun h => by subst h; simp⟩
instance decNod : DecidableEq Nod := fun a b => decidable_of_iff (a.op = b.op ∧ a.val = b.val ∧ a.attr = b.attr) ⟨fun h => by cases a; cases b; simp only at h; simp [h], fun h => by subst h; simp⟩
structure Atm where
  m : Mat
  c : List Nod
instance decAtm : DecidableEq Atm := fun a b => decidable_of_iff (a.m = b.m ∧ a.c = b.c) ⟨fun h => by cases a; cases b; simp only at h; simp [h], fun h => by subst h; simp⟩
def findA (l : List Atm) (a : Atm) : Int := if l.findIdx (fun x => decide (x = a)) < l.length then ((l.findIdx fun x => decide (x = a) : Nat) : Int) else -1
def moreA (l : List Atm) (a : Atm) : List Atm := if a ∈ l then l else l ++ [a]
def addA (l bs : List Atm) : List Atm := bs.foldl moreA l
def zeroM : Mat := ⟨⟨0, ⟨#[]⟩, false⟩, 0, ⟨0, 0, ⟨#[]⟩⟩⟩
def allA (y : List Mat) : List Atm := y.map fun m => ⟨m, []⟩
def anyA (x : List (List Mat)) : List Atm := x.flatMap allA
def tarA (t : Tar) : List Atm := t.flatMap anyA
def condA (c : List Nod) : List Atm := if c = [] then [] else [⟨zeroM, c⟩]
def rulA (r : Rul) : List Atm := tarA r.target ++ condA r.cond
def polA : Nat → Pol → List Atm
  | 0, _ => []
  | n + 1, p => tarA p.target ++ (p.rules.flatMap rulA ++ p.kids.flatMap (polA n))
theorem findA_mem {l : List Atm} {a : Atm} : a ∈ l ↔ l.findIdx (fun x => decide (x = a)) < l.length := by
  rw [List.findIdx_lt_length]
  constructor
  · intro h; exact ⟨a, h, by simp⟩
  · rintro ⟨x, h1, h2⟩
    have : x = a := by simpa using h2
    subst this; exact h1
theorem findA_no {l : List Atm} {a : Atm} (h : a ∉ l) : findA l a = -1 := by
  unfold findA; rw [if_neg (fun h2 => h (findA_mem.2 h2))]
theorem findA_yes {l : List Atm} {a : Atm} (h : a ∈ l) : 0 ≤ findA l a := by
  unfold findA; rw [if_pos (findA_mem.1 h)]; omega
theorem moreA_mem {l : List Atm} {a x : Atm} : x ∈ moreA l a ↔ x ∈ l ∨ x = a := by
  unfold moreA
  split
  · rename_i h
    exact ⟨Or.inl, fun h2 => h2.elim id fun e => e ▸ h⟩
  · simp
theorem moreA_len (l : List Atm) (a : Atm) : (moreA l a).length ≤ l.length + 1 := by
  unfold moreA; split <;> simp
theorem addA_cons (l : List Atm) (a : Atm) (bs : List Atm) : addA l (a :: bs) = addA (moreA l a) bs := rfl
theorem qaH (l a b : List Atm) : addA l (a ++ b) = addA (addA l a) b := List.foldl_append ..
theorem addA_mem : ∀ {bs l : List Atm} {x : Atm}, x ∈ addA l bs ↔ x ∈ l ∨ x ∈ bs
  | [], l, x => by simp [addA]
  | a :: bs, l, x => by rw [addA_cons, addA_mem, moreA_mem, List.mem_cons, or_assoc]
theorem qaJ : ∀ (bs l : List Atm), (addA l bs).length ≤ l.length + bs.length
  | [], l => Nat.le_refl _
  | a :: bs, l => by
    have h1 := qaJ bs (moreA l a)
    have h2 := moreA_len l a
    rw [addA_cons, List.length_cons]; omega
theorem polA_dp : ∀ {n : Nat} {p : Pol}, Dp n p → ∀ {m : Nat}, n ≤ m → polA m p = polA n p
  | n + 1, p, h, m + 1, hm => by
    rw [polA, polA]
    have e : p.kids.flatMap (polA m) = p.kids.flatMap (polA n) := by
      have : p.kids.map (polA m) = p.kids.map (polA n) := List.map_congr_left fun k hk => polA_dp (h k hk) (by omega)
      rw [List.flatMap_def, List.flatMap_def, this]
    rw [e]
theorem qaK {α : Type} (f : α → List Atm) (c : α → Nat) (h : ∀ x, (f x).length ≤ c x) : ∀ l : List α, (l.flatMap f).length ≤ qT c l
  | [] => Nat.le_refl _
  | x :: l => by
    have h1 := qaK f c h l
    have h2 := h x
    simp only [List.flatMap_cons, List.length_append, qT, List.map_cons, List.sum_cons] at *
    omega
theorem tarA_len (t : Tar) : (tarA t).length ≤ tsz t := by
  have h1 : ∀ y : List Mat, (allA y).length ≤ asz y := fun y => by unfold allA asz; rw [List.length_map]; omega
  have h2 : ∀ x : List (List Mat), (anyA x).length ≤ xsz x := fun x => by
    have := qaK allA asz h1 x
    unfold anyA xsz; omega
  have := qaK anyA xsz h2 t
  unfold tarA tsz; omega
theorem rulA_len (r : Rul) : (rulA r).length ≤ rusz r := by
  have h1 := tarA_len r.target
  have h2 : (condA r.cond).length ≤ 1 := by unfold condA; split <;> simp
  have h6 : rusz r = txt r.id + tsz r.target + r.cond.length + osz r.obls + qT nsz r.cond := rfl
  have h7 : 1 ≤ txt r.id := by unfold txt; omega
  unfold rulA
  rw [List.length_append]; omega
theorem polA_len : ∀ (n : Nat) (p : Pol), (polA n p).length ≤ p.sz
  | 0, p => Nat.zero_le _
  | n + 1, p => by
    have h1 := tarA_len p.target
    have h2 := qaK rulA rusz rulA_len p.rules
    have h3 := qaK (polA n) Pol.sz (polA_len n) p.kids
    have h4 := Pol.sz_eq p
    rw [polA, List.length_append, List.length_append]; omega
def askA (x : Atm) (g : List Giv) : Int := if x.c = [] then qax x.m g else qam x.c g
theorem qaN {α : Type} {f h : Int → α → Int} : ∀ {l : List α} {o : Int}, (∀ o, ∀ x ∈ l, f o x = h o x) → l.foldl f o = l.foldl h o
  | [], _, _ => rfl
  | x :: l, o, hh => by
    rw [List.foldl_cons, List.foldl_cons, hh o x (by simp)]
    exact qaN fun o y hy => hh o y (List.mem_cons_of_mem _ hy)
theorem met_alike {t : Tar} {a b : List Giv} (h : ∀ x ∈ tarA t, askA x a = askA x b) : metT t a = metT t b := by
  refine qaN fun o x hx => ?_
  have e : anyTT x a = anyTT x b := by
    refine qaN fun o y hy => ?_
    have e : allTT y a = allTT y b := by
      refine qaN fun o m hm => ?_
      have h1 := h ⟨m, []⟩ (List.mem_flatMap.2 ⟨x, hx, List.mem_flatMap.2 ⟨y, hy, List.mem_map.2 ⟨m, hm, rfl⟩⟩⟩)
      have h2 : qax m a = qax m b := h1
      rw [h2]
    rw [e]
  rw [e]
theorem cond_alike {c : List Nod} {a b : List Giv} (h : ∀ x ∈ condA c, askA x a = askA x b) : qam c a = qam c b := by
  by_cases hc : c = []
  · subst hc; rfl
  · have h1 := h ⟨zeroM, c⟩ (by unfold condA; rw [if_neg hc]; simp)
    unfold askA at h1
    simp only [if_neg hc] at h1
    exact h1
theorem decide_alike {a b : List Giv} : ∀ (n : Nat) (p : Pol), (∀ x ∈ polA n p, askA x a = askA x b) → qF a n p = qF b n p
  | 0, _, _ => rfl
  | n + 1, p, h => by
    have h1 : ∀ x ∈ tarA p.target, askA x a = askA x b := fun x hx => h x (List.mem_append_left _ hx)
    have h2 : ∀ r ∈ p.rules, ∀ x ∈ rulA r, askA x a = askA x b := fun r hr x hx => h x (List.mem_append_right _ (List.mem_append_left _ (List.mem_flatMap.2 ⟨r, hr, hx⟩)))
    have h3 : ∀ k ∈ p.kids, ∀ x ∈ polA n k, askA x a = askA x b := fun k hk x hx => h x (List.mem_append_right _ (List.mem_append_right _ (List.mem_flatMap.2 ⟨k, hk, hx⟩)))
    rw [qF, qF, met_alike h1]
    have e1 : p.rules.map (qaw a) = p.rules.map (qaw b) := List.map_congr_left fun r hr => by
      unfold qaw
      rw [met_alike fun x hx => h2 r hr x (List.mem_append_left _ hx), cond_alike fun x hx => h2 r hr x (List.mem_append_right _ hx)]
    have e2 : p.kids.map (qF a n) = p.kids.map (qF b n) := List.map_congr_left fun k hk => decide_alike n k (h3 k hk)
    rw [e1, e2]
theorem eval_alike {a b : List Giv} {p : Pol} (h : ∀ x ∈ addA [] (polA 4 p), askA x a = askA x b) : evalS p a = evalS p b := by
  unfold evalS
  rw [decide_alike 4 p fun x hx => h x (addA_mem.2 (.inr hx))]
end Go.Proofs.YtppfcacnofjmdaaGreatDoor
namespace Go.Proofs.YtppfcacnofjmdaaGreatDoor
set_option linter.unusedVariables false
set_option linter.unusedSimpArgs false
open Go.RowKit
set_option maxHeartbeats 1000000
theorem beq_bytes (a b : ByteArray) : (a.toList == b.toList) = decide (a = b) := by
  rw [Bool.eq_iff_iff]
  simp only [beq_iff_eq, decide_eq_true_eq]
  exact ⟨toList_inj, fun h => by rw [h]⟩
theorem cloneV_h (l : List Val) (hn : l.length ≤ 1000000) : Holds Tryz.prog 82 [valsP l] (.row 0) [(0, .row 52 3 (l.map Val.pv))] := by
  refine qA (ts := [2]) Tryz.func82 (by kernel_rfl) rfl rfl rfl ?_
  (repeat refine qb ?_); refine qa ?_
  repeat (first | refine zR ?_ | refine zK ?_ | refine zM ?_ | refine zB ?_ | refine zA ?_ | refine zS ?_ | refine zL ?_)
  refine qc ?_
  (repeat refine qb ?_); refine qa ?_
  repeat (first | refine zR ?_ | refine zK ?_ | refine zM ?_ | refine zB ?_ | refine zA ?_ | refine zS ?_ | refine zL ?_)
  refine qn rfl (act_nilcmp qe rfl rfl rfl rfl rfl rfl (fun b hb => ?_))
  refine qc ?_
  (repeat refine qb ?_); refine qf rfl (fun hc => ?_) (fun hc => ?_)
  · have hl := hb hc
    have hl' : l = [] := by simpa using hl
    subst hl'
    (repeat refine qb ?_); refine qa ?_
    repeat (first | refine zR ?_ | refine zK ?_ | refine zM ?_ | refine zB ?_ | refine zA ?_ | refine zS ?_ | refine zL ?_)
    refine qc ?_
    (repeat refine qb ?_); refine qk ?_
    exact ⟨Or.inr rfl, _, _, [(0, 0)], jP 2 0 52 3 rfl rfl, rfl, rfl, rfl, rfl⟩
  · refine qm ?_
    (repeat refine qb ?_); refine qa ?_
    repeat (first | refine zR ?_ | refine zK ?_ | refine zM ?_ | refine zB ?_ | refine zA ?_ | refine zS ?_ | refine zL ?_)
    refine qn rfl (qp qe rfl rfl rfl rfl rfl rfl rfl rfl rfl rfl rfl rfl rfl rfl rfl rfl (by simp [reachBytes]; omega) (by simp; omega) ?_)
    repeat (first | refine zR ?_ | refine zK ?_ | refine zM ?_ | refine zB ?_ | refine zA ?_ | refine zS ?_ | refine zL ?_)
    refine qc ?_
    (repeat refine qb ?_); refine qk ?_
    exact ⟨Or.inr rfl, _, _, [(7, 0)], Wk.refl _, rfl, rfl, rfl, rfl⟩
theorem place1_h (cat : Int) (name : ByteArray) (g : Giv) : Holds Tryz.prog 102 [.agg g.pv, .rp [pI cat], .rp [pS name]] (.p (pB (isG cat name g))) [] := by
  refine qA (ts := [4]) Tryz.func102 (by kernel_rfl) rfl rfl rfl ?_
  (repeat refine qb ?_); refine qa ?_
  repeat (first | refine zR ?_ | refine zK ?_ | refine zM ?_ | refine zB ?_ | refine zA ?_ | refine zS ?_ | refine zL ?_)
  refine qc ?_
  (repeat refine qb ?_); refine qs (by kernel_rfl) ?_
  repeat (refine qr qe rfl (by exact True.intro) rfl ?_)
  refine qQ ?_
  (repeat refine qb ?_); refine qk ?_
  refine wS rfl ?_
  unfold isG
  rw [beq_bytes]
  cases h : decide (g.cat = cat) <;> simp_all
theorem index_h (l : List Giv) (hn : l.length ≤ 1000000) (f : FuncId) (caps : List PV) (p : Giv → Bool) (hF : ∀ g, Holds Tryz.prog f ([.agg g.pv] ++ caps) (.p (pB (p g))) []) :
    Holds Tryz.prog 101 [zP l, .fn f caps] (.p (pI (if l.findIdx p < l.length then (l.findIdx p : Int) else -1))) [] := by
  refine qA (ts := [4]) Tryz.func101 (by kernel_rfl) rfl rfl rfl ?_
  (repeat refine qb ?_); refine qa ?_
  repeat (first | refine zR ?_ | refine zK ?_ | refine zM ?_ | refine zB ?_ | refine zA ?_ | refine zS ?_ | refine zL ?_)
  refine qc ?_
  (repeat refine qb ?_); refine qa ?_
  repeat (first | refine zR ?_ | refine zK ?_ | refine zM ?_ | refine zB ?_ | refine zA ?_ | refine zS ?_ | refine zL ?_)
  refine qc ?_
  (repeat refine qb ?_); refine ql ?_
  refine SW.wk (qq [0, 1, 7, 8] [] rfl rfl) ?_
  refine qO (fun n s => ∃ (k : Nat) (kk : Int), k ≤ l.length ∧ n = l.length - k ∧ kk = k ∧ (∀ g ∈ l.take k, p g = false) ∧ s = ⟨19, [(0, .p (zP l)), (1, .p (.fn f caps)), (7, .p (pI (l.map Giv.pv).length)), (8, .p (pI kk))], []⟩) l.length ⟨0, 0, Nat.zero_le _, rfl, rfl, by simp, rfl⟩ ?_
  rintro n s ⟨k, _, hk, rfl, rfl, ha, rfl⟩
  (repeat refine qb ?_); refine qa ?_
  repeat (first | refine zR ?_ | refine zK ?_ | refine zM ?_ | refine zB ?_ | refine zA ?_ | refine zS ?_ | refine zL ?_)
  refine qc ?_
  (repeat refine qb ?_); refine qf rfl (fun hlt => ?_) (fun hlt => ?_)
  · refine qm ?_
    simp only [List.length_map, decide_eq_true_eq] at hlt
    have hlt' : k < l.length := by omega
    (repeat refine qb ?_); refine ql ?_
    (repeat refine qb ?_); refine qa ?_
    repeat (first | refine zR ?_ | refine zK ?_ | refine zM ?_ | refine zB ?_ | refine zA ?_ | refine zS ?_ | refine zL ?_)
    refine qc ?_
    (repeat refine qb ?_); refine qa ?_
    repeat (first | refine zR ?_ | refine zK ?_ | refine zM ?_ | refine zB ?_ | refine zA ?_ | refine zS ?_ | refine zL ?_)
    refine qw qe rfl rfl (by simp only [List.length_map]; omega) rfl ?_
    rw [qJ hlt']
    repeat (first | refine zR ?_ | refine zK ?_ | refine zM ?_ | refine zB ?_ | refine zA ?_ | refine zS ?_ | refine zL ?_)
    refine qn rfl (qg rfl rfl rfl rfl (hF l[k]) rfl rfl ?_)
    repeat (first | refine zR ?_ | refine zK ?_ | refine zM ?_ | refine zB ?_ | refine zA ?_ | refine zS ?_ | refine zL ?_)
    refine qc ?_
    (repeat refine qb ?_); refine qf rfl (fun hp => ?_) (fun hp => ?_)
    · (repeat refine qb ?_); refine qa ?_
      repeat (first | refine zR ?_ | refine zK ?_ | refine zM ?_ | refine zB ?_ | refine zA ?_ | refine zS ?_ | refine zL ?_)
      refine qc ?_
      (repeat refine qb ?_); refine qk ?_
      refine zg rfl ?_
      have e : l.findIdx p = k := (List.findIdx_eq hlt').2 ⟨hp, fun j hj => ha _ (List.mem_take_iff_getElem.2 ⟨j, by omega, rfl⟩)⟩
      rw [e, if_pos hlt']
    · refine qm ?_
      (repeat refine qb ?_); refine qa ?_
      repeat (first | refine zR ?_ | refine zK ?_ | refine zM ?_ | refine zB ?_ | refine zA ?_ | refine zS ?_ | refine zL ?_)
      refine qc ?_
      refine ⟨_, _, ?_, qq [0, 1, 7, 8] [] rfl rfl, k + 1, _, hlt', rfl, qz hlt' (by omega), ?_, rfl⟩
      · omega
      · intro g hg
        rw [List.take_succ_eq_append_getElem hlt', List.mem_append, List.mem_singleton] at hg
        rcases hg with hg | rfl
        · exact ha g hg
        · exact hp
  · refine qK ?_
    simp only [List.length_map, decide_eq_false_iff_not] at hlt
    have hkk : k = l.length := by omega
    subst hkk
    (repeat refine qb ?_); refine qa ?_
    repeat (first | refine zR ?_ | refine zK ?_ | refine zM ?_ | refine zB ?_ | refine zA ?_ | refine zS ?_ | refine zL ?_)
    refine qc ?_
    (repeat refine qb ?_); refine qk ?_
    refine zg rfl ?_
    rw [List.take_length] at ha
    rw [if_neg]
    have := List.findIdx_eq_length_of_false ha
    omega
theorem place_h (cat : Int) (name : ByteArray) (l : List Giv) (hn : l.length ≤ 1000000) : Holds Tryz.prog 81 [zP l, pI cat, pS name] (.p (pI (placeS cat name l))) [] := by
  refine qA (ts := [6]) Tryz.func81 (by kernel_rfl) rfl rfl rfl ?_
  (repeat refine qb ?_); refine qa ?_
  repeat (first | refine zR ?_ | refine zK ?_ | refine zM ?_ | refine zB ?_ | refine zA ?_ | refine zS ?_ | refine zL ?_)
  refine qc ?_
  (repeat refine qb ?_); refine qa ?_
  repeat (first | refine zR ?_ | refine zK ?_ | refine zM ?_ | refine zB ?_ | refine zA ?_ | refine zS ?_ | refine zL ?_)
  refine qn rfl (qg rfl rfl rfl rfl (index_h l hn _ _ (isG cat name) (fun g => place1_h cat name g)) rfl rfl ?_)
  repeat (first | refine zR ?_ | refine zK ?_ | refine zM ?_ | refine zB ?_ | refine zA ?_ | refine zS ?_ | refine zL ?_)
  refine qc ?_
  (repeat refine qb ?_); refine qk ?_
  exact zg rfl rfl
theorem get_h (a : Atr) (l : List Giv) (hn : l.length ≤ 1000000) (hb : ∀ g ∈ l, g.bag.length ≤ 1000000) : Holds Tryz.prog 62 [zP l, .agg a.pv] (.tup [.p (valsP (getS a l).1), .p (pI (getS a l).2)]) [] := by
  refine qA (ts := [4,5]) Tryz.func62 (by kernel_rfl) rfl rfl rfl ?_
  (repeat refine qb ?_); refine qa ?_
  repeat (first | refine zR ?_ | refine zK ?_ | refine zM ?_ | refine zB ?_ | refine zA ?_ | refine zS ?_ | refine zL ?_)
  refine qc ?_
  (repeat refine qb ?_); refine qa ?_
  repeat (first | refine zR ?_ | refine zK ?_ | refine zM ?_ | refine zB ?_ | refine zA ?_ | refine zS ?_ | refine zL ?_)
  refine qc ?_
  (repeat refine qb ?_); refine qa ?_
  repeat (first | refine zR ?_ | refine zK ?_ | refine zM ?_ | refine zB ?_ | refine zA ?_ | refine zS ?_ | refine zL ?_)
  refine qn rfl (qg rfl rfl rfl rfl (place_h a.cat a.name l hn) rfl rfl ?_)
  repeat (first | refine zR ?_ | refine zK ?_ | refine zM ?_ | refine zB ?_ | refine zA ?_ | refine zS ?_ | refine zL ?_)
  refine qc ?_
  rcases place_cases a.cat a.name l with ⟨hp, hbag, _⟩ | ⟨k, hk, hp, hbag, _, _⟩
  · rw [hp]
    (repeat refine qb ?_); refine qa ?_
    repeat (first | refine zR ?_ | refine zK ?_ | refine zM ?_ | refine zB ?_ | refine zA ?_ | refine zS ?_ | refine zL ?_)
    refine qc ?_
    (repeat refine qb ?_); refine qf rfl (fun hc => ?_) (fun hc => ?_)
    · simp at hc
    · refine qm ?_
      (repeat refine qb ?_); refine qa ?_
      repeat (first | refine zR ?_ | refine zK ?_ | refine zM ?_ | refine zB ?_ | refine zA ?_ | refine zS ?_ | refine zL ?_)
      refine qc ?_
      (repeat refine qb ?_); refine qf rfl (fun hm => ?_) (fun hm => ?_)
      · replace hm : a.must = true := hm
        have e : getS a l = ([], 4) := by simp [getS, hbag, hm]
        rw [e]
        (repeat refine qb ?_); refine qa ?_
        repeat (first | refine zR ?_ | refine zK ?_ | refine zM ?_ | refine zB ?_ | refine zA ?_ | refine zS ?_ | refine zL ?_)
        refine qc ?_
        (repeat refine qb ?_); refine qk ?_
        exact ⟨Or.inr rfl, _, _, [], wk_nilp 4 900 52 3 rfl rfl, rfl, rfl, rfl, rfl⟩
      · replace hm : a.must = false := hm
        have e : getS a l = ([], 0) := by simp [getS, hbag, hm]
        rw [e]
        refine qm ?_
        (repeat refine qb ?_); refine qa ?_
        repeat (first | refine zR ?_ | refine zK ?_ | refine zM ?_ | refine zB ?_ | refine zA ?_ | refine zS ?_ | refine zL ?_)
        refine qc ?_
        (repeat refine qb ?_); refine qk ?_
        exact ⟨Or.inr rfl, _, _, [], wk_nilp 4 900 52 3 rfl rfl, rfl, rfl, rfl, rfl⟩
  · rw [hp]
    (repeat refine qb ?_); refine qa ?_
    repeat (first | refine zR ?_ | refine zK ?_ | refine zM ?_ | refine zB ?_ | refine zA ?_ | refine zS ?_ | refine zL ?_)
    refine qc ?_
    (repeat refine qb ?_); refine qf rfl (fun hc => ?_) (fun hc => ?_)
    · (repeat refine qb ?_); refine qa ?_
      repeat (first | refine zR ?_ | refine zK ?_ | refine zM ?_ | refine zB ?_ | refine zA ?_ | refine zS ?_ | refine zL ?_)
      refine qw qe rfl rfl (by simp only [List.length_map]; omega) rfl ?_
      rw [qJ hk]
      repeat (first | refine zR ?_ | refine zK ?_ | refine zM ?_ | refine zB ?_ | refine zA ?_ | refine zS ?_ | refine zL ?_)
      refine qn rfl (qD rfl rfl rfl rfl ((cloneV_h l[k].bag (hb _ (List.getElem_mem hk))).row_sl) rfl rfl rfl ?_)
      repeat (first | refine zR ?_ | refine zK ?_ | refine zM ?_ | refine zB ?_ | refine zA ?_ | refine zS ?_ | refine zL ?_)
      refine qc ?_
      generalize l[k].bag = b at *
      cases b with
      | nil =>
        (repeat refine qb ?_); refine qa ?_
        repeat (first | refine zR ?_ | refine zK ?_ | refine zM ?_ | refine zB ?_ | refine zA ?_ | refine zS ?_ | refine zL ?_)
        refine qc ?_
        (repeat refine qb ?_); refine qf rfl (fun hm => ?_) (fun hm => ?_)
        · replace hm : a.must = true := hm
          have e : getS a l = ([], 4) := by simp [getS, hbag, hm]
          rw [e]
          (repeat refine qb ?_); refine qa ?_
          repeat (first | refine zR ?_ | refine zK ?_ | refine zM ?_ | refine zB ?_ | refine zA ?_ | refine zS ?_ | refine zL ?_)
          refine qc ?_
          (repeat refine qb ?_); refine qk ?_
          exact ⟨Or.inr rfl, _, _, [], wk_nilp 4 900 52 3 rfl rfl, rfl, rfl, rfl, rfl⟩
        · replace hm : a.must = false := hm
          have e : getS a l = ([], 0) := by simp [getS, hbag, hm]
          rw [e]
          refine qm ?_
          (repeat refine qb ?_); refine qa ?_
          repeat (first | refine zR ?_ | refine zK ?_ | refine zM ?_ | refine zB ?_ | refine zA ?_ | refine zS ?_ | refine zL ?_)
          refine qc ?_
          (repeat refine qb ?_); refine qk ?_
          exact ⟨Or.inr rfl, _, _, [], Wk.refl _, rfl, rfl, rfl, rfl⟩
      | cons v r =>
        have e : getS a l = (v :: r, 0) := by simp [getS, hbag]
        rw [e]
        (repeat refine qb ?_); refine qa ?_
        repeat (first | refine zR ?_ | refine zK ?_ | refine zM ?_ | refine zB ?_ | refine zA ?_ | refine zS ?_ | refine zL ?_)
        rw [show ((((v :: r).map Val.pv).length : Int) == 0) = false by simp; omega]
        repeat (first | refine zR ?_ | refine zK ?_ | refine zM ?_ | refine zB ?_ | refine zA ?_ | refine zS ?_ | refine zL ?_)
        refine qc ?_
        (repeat refine qb ?_); refine qf rfl (fun hm => ?_) (fun hm => ?_)
        · cases hm
        · refine qm ?_
          (repeat refine qb ?_); refine qa ?_
          repeat (first | refine zR ?_ | refine zK ?_ | refine zM ?_ | refine zB ?_ | refine zA ?_ | refine zS ?_ | refine zL ?_)
          refine qc ?_
          (repeat refine qb ?_); refine qk ?_
          exact ⟨Or.inr rfl, _, _, [], Wk.refl _, rfl, rfl, rfl, rfl⟩
    · exfalso
      simp at hc
end Go.Proofs.YtppfcacnofjmdaaGreatDoor
namespace Go.Proofs.YtppfcacnofjmdaaGreatDoor
set_option linter.unusedVariables false
set_option linter.unusedSimpArgs false
open Go.RowKit
set_option maxHeartbeats 4000000
theorem texts_h (k : Int) : Holds Tryz.prog 104 [pI k] (.p (pB (textsS k))) [] := by
  refine qA (ts := [2]) Tryz.func104 (by kernel_rfl) rfl rfl rfl ?_
  (repeat refine qb ?_); refine qa ?_
  repeat (first | refine zR ?_ | refine zK ?_ | refine zM ?_ | refine zB ?_ | refine zA ?_ | refine zS ?_ | refine zL ?_)
  refine qc ?_
  (repeat refine qb ?_); refine qs (by kernel_rfl) ?_
  repeat (refine qr qe rfl (by exact True.intro) rfl ?_)
  refine qQ ?_
  (repeat refine qb ?_); refine qk ?_
  refine wS rfl ?_
  unfold textsS
  rw [Bool.eq_iff_iff]
  simp
theorem less_h (a b : Val) (ha : a.s.size ≤ reachBytes) (hb : b.s.size ≤ reachBytes) : Holds Tryz.prog 83 [.agg a.pv, .agg b.pv] (.tup [.p (pB (wN a b).1), .p (pI (wN a b).2)]) [] := by
  unfold wN
  cases hra : a.right with
  | false =>
    refine qA (ts := [4,5]) Tryz.func83 (by kernel_rfl) rfl rfl rfl ?_
    (repeat refine qb ?_); refine qa ?_
    repeat (first | refine zR ?_ | refine zK ?_ | refine zM ?_ | refine zB ?_ | refine zA ?_ | refine zS ?_ | refine zL ?_)
    refine qc ?_
    (repeat refine qb ?_); refine ql ?_
    (repeat refine qb ?_); refine qa ?_
    repeat (first | refine zR ?_ | refine zK ?_ | refine zM ?_ | refine zB ?_ | refine zA ?_ | refine zS ?_ | refine zL ?_)
    refine qn rfl (qg rfl rfl rfl rfl (qad a ha) rfl rfl ?_)
    repeat (first | refine zR ?_ | refine zK ?_ | refine zM ?_ | refine zB ?_ | refine zA ?_ | refine zS ?_ | refine zL ?_)
    rw [hra]
    repeat (first | refine zR ?_ | refine zK ?_ | refine zM ?_ | refine zB ?_ | refine zA ?_ | refine zS ?_ | refine zL ?_)
    refine qc ?_
    (repeat refine qb ?_); refine qf rfl (fun hc => ?_) (fun hc => ?_)
    · (repeat refine qb ?_); refine qa ?_
      repeat (first | refine zR ?_ | refine zK ?_ | refine zM ?_ | refine zB ?_ | refine zA ?_ | refine zS ?_ | refine zL ?_)
      refine qc ?_
      (repeat refine qb ?_); refine qk ?_
      exact ⟨Or.inr rfl, _, _, [], Wk.refl _, rfl, rfl, rfl, rfl⟩
    · cases hc
  | true =>
    cases hrb : b.right with
    | false =>
      refine qA (ts := [4,5]) Tryz.func83 (by kernel_rfl) rfl rfl rfl ?_
      (repeat refine qb ?_); refine qa ?_
      repeat (first | refine zR ?_ | refine zK ?_ | refine zM ?_ | refine zB ?_ | refine zA ?_ | refine zS ?_ | refine zL ?_)
      refine qc ?_
      (repeat refine qb ?_); refine ql ?_
      (repeat refine qb ?_); refine qa ?_
      repeat (first | refine zR ?_ | refine zK ?_ | refine zM ?_ | refine zB ?_ | refine zA ?_ | refine zS ?_ | refine zL ?_)
      refine qn rfl (qg rfl rfl rfl rfl (qad a ha) rfl rfl ?_)
      repeat (first | refine zR ?_ | refine zK ?_ | refine zM ?_ | refine zB ?_ | refine zA ?_ | refine zS ?_ | refine zL ?_)
      rw [hra]
      repeat (first | refine zR ?_ | refine zK ?_ | refine zM ?_ | refine zB ?_ | refine zA ?_ | refine zS ?_ | refine zL ?_)
      refine qn rfl (qg rfl rfl rfl rfl (qad b hb) rfl rfl ?_)
      repeat (first | refine zR ?_ | refine zK ?_ | refine zM ?_ | refine zB ?_ | refine zA ?_ | refine zS ?_ | refine zL ?_)
      rw [hrb]
      repeat (first | refine zR ?_ | refine zK ?_ | refine zM ?_ | refine zB ?_ | refine zA ?_ | refine zS ?_ | refine zL ?_)
      refine qc ?_
      (repeat refine qb ?_); refine qf rfl (fun hc => ?_) (fun hc => ?_)
      · (repeat refine qb ?_); refine qa ?_
        repeat (first | refine zR ?_ | refine zK ?_ | refine zM ?_ | refine zB ?_ | refine zA ?_ | refine zS ?_ | refine zL ?_)
        refine qc ?_
        (repeat refine qb ?_); refine qk ?_
        exact ⟨Or.inr rfl, _, _, [], Wk.refl _, rfl, rfl, rfl, rfl⟩
      · cases hc
    | true =>
      refine qA (ts := [4,5]) Tryz.func83 (by kernel_rfl) rfl rfl rfl ?_
      (repeat refine qb ?_); refine qa ?_
      repeat (first | refine zR ?_ | refine zK ?_ | refine zM ?_ | refine zB ?_ | refine zA ?_ | refine zS ?_ | refine zL ?_)
      refine qc ?_
      (repeat refine qb ?_); refine ql ?_
      (repeat refine qb ?_); refine qa ?_
      repeat (first | refine zR ?_ | refine zK ?_ | refine zM ?_ | refine zB ?_ | refine zA ?_ | refine zS ?_ | refine zL ?_)
      refine qn rfl (qg rfl rfl rfl rfl (qad a ha) rfl rfl ?_)
      repeat (first | refine zR ?_ | refine zK ?_ | refine zM ?_ | refine zB ?_ | refine zA ?_ | refine zS ?_ | refine zL ?_)
      rw [hra]
      repeat (first | refine zR ?_ | refine zK ?_ | refine zM ?_ | refine zB ?_ | refine zA ?_ | refine zS ?_ | refine zL ?_)
      refine qn rfl (qg rfl rfl rfl rfl (qad b hb) rfl rfl ?_)
      repeat (first | refine zR ?_ | refine zK ?_ | refine zM ?_ | refine zB ?_ | refine zA ?_ | refine zS ?_ | refine zL ?_)
      rw [hrb]
      repeat (first | refine zR ?_ | refine zK ?_ | refine zM ?_ | refine zB ?_ | refine zA ?_ | refine zS ?_ | refine zL ?_)
      refine qc ?_
      (repeat refine qb ?_); refine qf rfl (fun hc => ?_) (fun hc => ?_)
      · cases hc
      simp only [Bool.not_true, Bool.or_self, Bool.false_eq_true, if_false]
      (repeat refine qb ?_); refine qs (by kernel_rfl) ?_
      repeat (refine qr qe rfl (by exact True.intro) rfl ?_)
      refine qQ ?_
      (repeat refine qb ?_); refine qf rfl (fun hk => ?_) (fun hk => ?_)
      · rw [if_pos (by revert hk; by_cases h : a.kind = b.kind <;> simp [h])]
        (repeat refine qb ?_); refine qa ?_
        repeat (first | refine zR ?_ | refine zK ?_ | refine zM ?_ | refine zB ?_ | refine zA ?_ | refine zS ?_ | refine zL ?_)
        refine qc ?_
        (repeat refine qb ?_); refine qk ?_
        exact ⟨Or.inr rfl, _, _, [], Wk.refl _, rfl, rfl, rfl, rfl⟩
      · rw [if_neg (by revert hk; by_cases h : a.kind = b.kind <;> simp [h])]
        (repeat refine qb ?_); refine qa ?_
        repeat (first | refine zR ?_ | refine zK ?_ | refine zM ?_ | refine zB ?_ | refine zA ?_ | refine zS ?_ | refine zL ?_)
        refine qn rfl (qg rfl rfl rfl rfl (texts_h a.kind) rfl rfl ?_)
        repeat (first | refine zR ?_ | refine zK ?_ | refine zM ?_ | refine zB ?_ | refine zA ?_ | refine zS ?_ | refine zL ?_)
        refine qc ?_
        (repeat refine qb ?_); refine qf rfl (fun ht => ?_) (fun ht => ?_)
        · rw [if_pos ht]
          (repeat refine qb ?_); refine qa ?_
          repeat (first | refine zR ?_ | refine zK ?_ | refine zM ?_ | refine zB ?_ | refine zA ?_ | refine zS ?_ | refine zL ?_)
          refine qc ?_
          (repeat refine qb ?_); refine qk ?_
          exact ⟨Or.inr rfl, _, _, [], Wk.refl _, rfl, rfl, rfl, rfl⟩
        · rw [if_neg (by rw [ht]; simp)]
          refine qm ?_
          (repeat refine qb ?_); refine qa ?_
          repeat (first | refine zR ?_ | refine zK ?_ | refine zM ?_ | refine zB ?_ | refine zA ?_ | refine zS ?_ | refine zL ?_)
          refine qc ?_
          (repeat refine qb ?_); refine qk ?_
          exact ⟨Or.inr rfl, _, _, [], Wk.refl _, rfl, rfl, rfl, rfl⟩
end Go.Proofs.YtppfcacnofjmdaaGreatDoor
namespace Go.Proofs.YtppfcacnofjmdaaGreatDoor
open Go.RowKit
set_option linter.unusedSimpArgs false
set_option linter.unusedVariables false
attribute [local go_sem] ext_cell wi
attribute [local go_sem low] we jp
theorem add_any (a b : Int) (w : World) (ha : R64 a) (hb : R64 b) :
    Calls Tryz.prog 119 #[.int .i64 a, .int .i64 b] w fun e w' => e = .returned (.tuple #[.int .i64 (addS a b).1, .int .i64 (addS a b).2]) ∧ w = w' := by
  obtain ⟨ha, ha'⟩ := ha
  obtain ⟨hb, hb'⟩ := hb
  go_enter Tryz.func119, Tryz.ntmps119
  go_wp2
  all_goals
    go_ret2
    refine ⟨ret_ii ?_, rfl⟩
    go_light
    unfold addS inI
    first | rw [if_pos (by simp; omega)] | rw [if_neg (by simp; omega)]
theorem sub_any (a b : Int) (w : World) (ha : R64 a) (hb : R64 b) :
    Calls Tryz.prog 120 #[.int .i64 a, .int .i64 b] w fun e w' => e = .returned (.tuple #[.int .i64 (subS a b).1, .int .i64 (subS a b).2]) ∧ w = w' := by
  obtain ⟨ha, ha'⟩ := ha
  obtain ⟨hb, hb'⟩ := hb
  go_enter Tryz.func120, Tryz.ntmps120
  go_wp2
  all_goals
    go_ret2
    refine ⟨ret_ii ?_, rfl⟩
    go_light
    unfold subS inI
    first | rw [if_pos (by simp; omega)] | rw [if_neg (by simp; omega)]
theorem mul_any (a b : Int) (w : World) (ha : R64 a) (hb : R64 b) :
    Calls Tryz.prog 121 #[.int .i64 a, .int .i64 b] w fun e w' => e = .returned (.tuple #[.int .i64 (mulS a b).1, .int .i64 (mulS a b).2]) ∧ w = w' := by
  obtain ⟨ha, ha'⟩ := ha
  obtain ⟨hb, hb'⟩ := hb
  by_cases h0 : a = 0
  · subst h0
    go_enter Tryz.func121, Tryz.ntmps121
    go_wp2
    all_goals
      go_ret2
      refine ⟨ret_ii ?_, rfl⟩
      simp [mulS, inI]
  · have H := hide (mul_over ha ha' hb hb' h0)
    go_enter Tryz.func121, Tryz.ntmps121
    go_upto_region 2 with (fail)
    refine wp_spec (by kernel_rfl) ?_
    repeat (refine qH ?_; intro K hK; go_big_quiet_op; go_big_quiet_on)
    refine zx ?_
    intro us
    simp only [junk, Act.put, List.setIfInBounds_toArray, List.set_cons_zero, List.set_cons_succ]
    go_wp2
    · go_ret2
      refine ⟨ret_ii ?_, rfl⟩
      go_light
      unfold mulS
      rw [H.out.1 (by simp_all)]
      rfl
    · go_ret2
      refine ⟨ret_ii ?_, rfl⟩
      go_light
      have hin : inI (a * b) = true := by
        cases hc : inI (a * b) with
        | true => rfl
        | false =>
          exfalso
          have := H.out.2 hc
          simp_all
          first | omega | (rcases this with h | h <;> simp_all)
      unfold mulS
      rw [hin]
      simp only [inI, Bool.and_eq_true, decide_eq_true_eq] at hin
      have : wrap64 (a * b) = a * b := by unfold wrap64; omega
      rw [this]; rfl
theorem truth_any (b : Bool) (w : World) :
    Calls Tryz.prog 117 #[.bool b] w fun e w' => e = .returned (.agg #[.int .i64 1, .int .i64 (bitI b), .string ⟨#[]⟩]) ∧ Below w.heap.size w w' := by
  cases b
  · go_enter Tryz.func117, Tryz.ntmps117
    go_wp2
    refine bodyPost_ret (v := .agg #[.int .i64 1, .int .i64 0, .string ⟨#[]⟩]) (by simp [results, Tryz.results117, go_sem, ↓IntWalk.iteOmega]) rfl ?_
    exact ⟨rfl, (by repeat (first | exact Below.refl _ _ | assumption | refine Below.alloc1 ?_ _ | refine Below.drew ?_ | refine qt ?_ | refine Below.setCell ?_ (by first | exact Nat.le_refl _ | (simp; done) | omega | (simp; omega)) _ | refine Below.lift ?_ (by assumption)))⟩
  · go_enter Tryz.func117, Tryz.ntmps117
    go_wp2
    refine bodyPost_ret (v := .agg #[.int .i64 1, .int .i64 1, .string ⟨#[]⟩]) (by simp [results, Tryz.results117, go_sem, ↓IntWalk.iteOmega]) rfl ?_
    exact ⟨rfl, (by repeat (first | exact Below.refl _ _ | assumption | refine Below.alloc1 ?_ _ | refine Below.drew ?_ | refine qt ?_ | refine Below.setCell ?_ (by first | exact Nat.le_refl _ | (simp; done) | omega | (simp; omega)) _ | refine Below.lift ?_ (by assumption)))⟩
theorem all_any (kind : Int) (l : List Val) (A : Option Addr) (c : Nat) (w : World) (hn : l.length ≤ reachBytes) (h : SlAt rVal 3 w A l) :
    Calls Tryz.prog 122 #[.int .i64 kind, .slice A l.length c] w fun e w' => e = .returned (.bool (allS kind l)) ∧ Below w.heap.size w w' := by
  unfold reachBytes at hn
  go_enter Tryz.func122, Tryz.ntmps122
  go_wp2
  go_loopw [6, 9] (fun _ i wr => ∃ k : Nat, k ≤ l.length ∧ i = .int .i64 k ∧ Below w.heap.size w wr ∧ Hid (allS kind (l.take k) = true)) (fun _ i _ => l.length - (intOf i).toNat)
  case atStart => exact ⟨0, Nat.zero_le _, rfl, Below.refl _ _, rfl⟩
  case round =>
    obtain ⟨k, hk, rfl, hB, hall⟩ := hrel
    by_cases hlt : k < l.length
    · obtain ⟨b, o, rfl, hb, c0, c1, c2, hf⟩ := (h.keep qS hB).val hlt
      have H := hide h
      clear h
      go_wp2
      · go_ret
        refine ⟨wc (all_no hlt ?_).symm, (by repeat (first | exact Below.refl _ _ | assumption | refine Below.alloc1 ?_ _ | refine Below.drew ?_ | refine qt ?_ | refine Below.setCell ?_ (by first | exact Nat.le_refl _ | (simp; done) | omega | (simp; omega)) _ | refine Below.lift ?_ (by assumption)))⟩
        go_light
        simp_all
      · go_roundw
        case rel =>
          refine ⟨k + 1, by omega, by go_num, (by repeat (first | exact Below.refl _ _ | assumption | refine Below.alloc1 ?_ _ | refine Below.drew ?_ | refine qt ?_ | refine Below.setCell ?_ (by first | exact Nat.le_refl _ | (simp; done) | omega | (simp; omega)) _ | refine Below.lift ?_ (by assumption))), all_step hlt hall.out ?_⟩
          go_light
          simp_all
        case measure => simp [intOf]; omega
    · obtain rfl : k = l.length := by omega
      have e := hall.out
      rw [take_all] at e
      have E := hide e
      clear e hall
      go_wp2
      go_ret
      exact ⟨wc E.out.symm, (by repeat (first | exact Below.refl _ _ | assumption | refine Below.alloc1 ?_ _ | refine Below.drew ?_ | refine qt ?_ | refine Below.setCell ?_ (by first | exact Nat.le_refl _ | (simp; done) | omega | (simp; omega)) _ | refine Below.lift ?_ (by assumption)))⟩
theorem wY (op : Int) (l : List Val) (A : Option Addr) (c : Nat) (w : World) (hn : l.length ≤ reachBytes) (h : SlAt rVal 3 w A l) :
    Calls Tryz.prog 116 #[.int .i64 op, .slice A l.length c] w fun e w' => e = .returned (.bool (mayS op l)) ∧ Below w.heap.size w w' := by
  unfold reachBytes at hn
  have H := hide h
  clear h
  rcases Bool.eq_false_or_eq_true (op == 11) with h11 | h11
  all_goals
    have g : mayS op l = (decide (6 ≤ op) && decide (op ≤ 13) && decide ((l.length : Int) = if op == 11 then 1 else 2) && l.all Val.right) := by unfold mayS; simp
    rw [h11] at g
    replace g := hide g
    go_enter Tryz.func116, Tryz.ntmps116
    go_upto_region 4 with (fail)
    refine wp_spec (by kernel_rfl) ?_
    repeat (refine qH ?_; intro K hK; go_big_quiet_op; go_big_quiet_on)
    refine zx ?_
    intro us
    simp only [junk, Act.put, List.setIfInBounds_toArray, List.set_cons_zero, List.set_cons_succ]
    go_upto_region 6 with (fail)
    · go_ret
      refine ⟨wc ?_, (by repeat (first | exact Below.refl _ _ | assumption | refine Below.alloc1 ?_ _ | refine Below.drew ?_ | refine qt ?_ | refine Below.setCell ?_ (by first | exact Nat.le_refl _ | (simp; done) | omega | (simp; omega)) _ | refine Below.lift ?_ (by assumption)))⟩
      rw [g.out]
      go_light
      simp_all
      try omega
    · have hl := g.out
      have hl2 : mayS op l = l.all Val.right := by
        rw [hl]
        clear hl
        go_light
        simp_all
      have G := hide hl2
      rename _ ∧ _ => ht
      replace ht := hide ht
      clear hl hl2 g
      go_wp2
      go_loopw [7, 24] (fun _ i wr => ∃ k : Nat, k ≤ l.length ∧ i = .int .i64 k ∧ Below w.heap.size w wr ∧ Hid ((l.take k).all Val.right = true)) (fun _ i _ => l.length - (intOf i).toNat)
      case atStart => exact ⟨0, Nat.zero_le _, rfl, (by repeat (first | exact Below.refl _ _ | assumption | refine Below.alloc1 ?_ _ | refine Below.drew ?_ | refine qt ?_ | refine Below.setCell ?_ (by first | exact Nat.le_refl _ | (simp; done) | omega | (simp; omega)) _ | refine Below.lift ?_ (by assumption))), rfl⟩
      case round =>
        obtain ⟨k, hk, rfl, hB, hall⟩ := hrel
        by_cases hlt : k < l.length
        · obtain ⟨b, o, rfl, hb, c0, c1, c2, hf⟩ := (H.out.keep qS hB).val hlt
          go_wp2_with (go_at_call 103; refine (right_any _ _ _ _ hf.s).mono ?_; rintro e w2 ⟨rfl, hB2⟩)
          · go_ret
            refine ⟨wc ?_, (by repeat (first | exact Below.refl _ _ | assumption | refine Below.alloc1 ?_ _ | refine Below.drew ?_ | refine qt ?_ | refine Below.setCell ?_ (by first | exact Nat.le_refl _ | (simp; done) | omega | (simp; omega)) _ | refine Below.lift ?_ (by assumption)))⟩
            rw [G.out]
            refine (all_no hlt ?_).symm
            go_light
            simp_all
          · go_roundw
            case rel =>
              refine ⟨k + 1, by omega, by go_num, (by repeat (first | exact Below.refl _ _ | assumption | refine Below.alloc1 ?_ _ | refine Below.drew ?_ | refine qt ?_ | refine Below.setCell ?_ (by first | exact Nat.le_refl _ | (simp; done) | omega | (simp; omega)) _ | refine Below.lift ?_ (by assumption))), all_step hlt hall.out ?_⟩
              go_light
              simp_all
            case measure => simp [intOf]; omega
        · obtain rfl : k = l.length := by omega
          have e := hall.out
          rw [take_all] at e
          have E := hide e
          clear e hall
          go_wp2
          go_ret
          exact ⟨wc (by rw [G.out, E.out]), (by repeat (first | exact Below.refl _ _ | assumption | refine Below.alloc1 ?_ _ | refine Below.drew ?_ | refine qt ?_ | refine Below.setCell ?_ (by first | exact Nat.le_refl _ | (simp; done) | omega | (simp; omega)) _ | refine Below.lift ?_ (by assumption)))⟩
theorem number_any (f : FuncId) (hcf : ∀ args w, (callFunc f args).run Tryz.prog w = .ok (.enter f args) w) (F : Int → Int → Int × Int) (hF : ∀ a b w, R64 a → R64 b → Calls Tryz.prog f #[.int .i64 a, .int .i64 b] w fun e w' => e = .returned (.tuple #[.int .i64 (F a b).1, .int .i64 (F a b).2]) ∧ w = w')
    (x y : Val) (A : Option Addr) (c : Nat) (w : World) (h : SlAt rVal 3 w A [x, y]) :
    Calls Tryz.prog 118 #[.func (.func f) #[] #[], .slice A 2 c] w fun e w' => e = .returned (.tuple #[.agg #[.int .i64 ((qM F x y).1).kind, .int .i64 ((qM F x y).1).n, .string ((qM F x y).1).s], .int .i64 (qM F x y).2]) ∧ Below w.heap.size w w' := by
  have H := hide h
  have HF := hide hF
  obtain ⟨b, o, rfl, hb, ⟨c0, c1, c2⟩, ⟨d0, d1, d2⟩, hx, hy⟩ := h.pair
  clear hF h
  go_enter Tryz.func118, Tryz.ntmps118
  go_wp2_with (go_at_call 122; refine (all_any 2 [x, y] _ _ _ (by simp [reachBytes]) (H.out.keep qS ?_)).mono ?_; rotate_left; rintro e w2 ⟨rfl, hB2⟩; obtain ⟨hc2, hf2⟩ := jF hB2; have hz2 := hB2.size; try simp only [World.size_alloc, World.size_drew] at hc2 hf2 hz2)
  · have e : qM F x y = (noVal, 2) := by
      go_light
      simp_all [qM, allS]
    refine bodyPost_ret (v := .tuple #[.agg #[.int .i64 0, .int .i64 0, .string ⟨#[]⟩], .int .i64 2]) (by simp [results, Tryz.results118, go_sem, ↓IntWalk.iteOmega, hc2]) rfl ?_
    exact ⟨by rw [e]; rfl, (by repeat (first | exact Below.refl _ _ | assumption | refine Below.alloc1 ?_ _ | refine Below.drew ?_ | refine qt ?_ | refine Below.setCell ?_ (by first | exact Nat.le_refl _ | (simp; done) | omega | (simp; omega)) _ | refine Below.lift ?_ (by assumption)))⟩
  · rename _ = false => ht
    replace ht := hide ht
    refine wI (by kernel_rfl) (by kernel_rfl) (by kernel_rfl) ?_
    repeat (refine qH ?_; intro K hK; go_big_quiet_op; go_big_quiet_on)
    refine qH ?_; intro K hK; go_big_quiet_op
    refine ⟨_, fun _ => quiet_eq (HF.out _ _ _ hx.n hy.n), ?_⟩
    go_big_quiet_on
    repeat (refine qH ?_; intro K hK; go_big_quiet_op; go_big_quiet_on)
    refine zx ?_
    intro us w3 hB3
    simp only [junk, Act.put, List.setIfInBounds_toArray, List.set_cons_zero, List.set_cons_succ]
    obtain ⟨hc3, hf3⟩ := jF hB3; have hz3 := hB3.size; try simp only [World.size_alloc, World.size_drew] at hc3 hf3 hz3
    have hk := ht.out
    have hkk : x.kind = 2 ∧ y.kind = 2 := by
      clear ht
      go_light
      simp_all [allS]
    have HK := hide hkk
    clear hk hkk
    go_wp2
    · refine bodyPost_ret (v := .tuple #[.agg #[.int .i64 0, .int .i64 0, .string ⟨#[]⟩], .int .i64 (F x.n y.n).2]) (by simp [results, Tryz.results118, go_sem, ↓IntWalk.iteOmega, hc2, hc3]) rfl ?_
      refine ⟨?_, (by repeat (first | exact Below.refl _ _ | assumption | refine Below.alloc1 ?_ _ | refine Below.drew ?_ | refine qt ?_ | refine Below.setCell ?_ (by first | exact Nat.le_refl _ | (simp; done) | omega | (simp; omega)) _ | refine Below.lift ?_ (by assumption)))⟩
      have : qM F x y = (noVal, (F x.n y.n).2) := by
        have := HK.out
        go_light
        simp_all [qM]
      rw [this]; rfl
    · refine bodyPost_ret (v := .tuple #[.agg #[.int .i64 2, .int .i64 (F x.n y.n).1, .string ⟨#[]⟩], .int .i64 0]) (by simp [results, Tryz.results118, go_sem, ↓IntWalk.iteOmega, hc2, hc3]) rfl ?_
      refine ⟨?_, (by repeat (first | exact Below.refl _ _ | assumption | refine Below.alloc1 ?_ _ | refine Below.drew ?_ | refine qt ?_ | refine Below.setCell ?_ (by first | exact Nat.le_refl _ | (simp; done) | omega | (simp; omega)) _ | refine Below.lift ?_ (by assumption)))⟩
      have : qM F x y = (⟨2, (F x.n y.n).1, ⟨#[]⟩⟩, 0) := by
        have := HK.out
        go_light
        simp_all [qM]
      rw [this]
  · exact (by repeat (first | exact Below.refl _ _ | assumption | refine Below.alloc1 ?_ _ | refine Below.drew ?_ | refine qt ?_ | refine Below.setCell ?_ (by first | exact Nat.le_refl _ | (simp; done) | omega | (simp; omega)) _ | refine Below.lift ?_ (by assumption)))
end Go.Proofs.YtppfcacnofjmdaaGreatDoor
namespace Go.Proofs.YtppfcacnofjmdaaGreatDoor
open Go.RowKit
set_option linter.unusedSimpArgs false
set_option linter.unusedVariables false
attribute [local go_sem] ext_cell wi
attribute [local go_sem low] we jp
attribute [local go_sem ↓] eql_val
abbrev jK (op : Int) (l : List Val) (w : World) : Ending → World → Prop := fun e w' => e = .returned (.tuple #[.agg #[.int .i64 ((qN op l).1).kind, .int .i64 ((qN op l).1).n, .string ((qN op l).1).s], .int .i64 (qN op l).2]) ∧ Below w.heap.size w w'
theorem call_no (op : Int) (l : List Val) (A : Option Addr) (c : Nat) (w : World) (hn : l.length ≤ reachBytes) (h : SlAt rVal 3 w A l) (hm : mayS op l = false) :
    Calls Tryz.prog 92 #[.int .i64 op, .slice A l.length c] w (jK op l w) := by
  have H := hide h
  clear h
  have hr : qN op l = (noVal, 1) := by simp [qN, hm]
  go_enter Tryz.func92, Tryz.ntmps92
  go_wp2_with (go_at_call 116; refine (wY _ _ _ _ _ hn (H.out.keep qS (by repeat (first | exact Below.refl _ _ | assumption | refine Below.alloc1 ?_ _ | refine Below.drew ?_ | refine qt ?_ | refine Below.setCell ?_ (by first | exact Nat.le_refl _ | (simp; done) | omega | (simp; omega)) _ | refine Below.lift ?_ (by assumption))))).mono ?_; rintro e w2 ⟨rfl, hB2⟩; obtain ⟨hc2, hf2⟩ := jF hB2; have hz2 := hB2.size; try simp only [World.size_alloc, World.size_drew] at hc2 hf2 hz2)
  refine bodyPost_ret (v := .tuple #[.agg #[.int .i64 0, .int .i64 0, .string ⟨#[]⟩], .int .i64 1]) (by simp [results, Tryz.results92, go_sem, ↓IntWalk.iteOmega, hc2]) rfl ?_
  exact ⟨by rw [hr]; rfl, (by repeat (first | exact Below.refl _ _ | assumption | refine Below.alloc1 ?_ _ | refine Below.drew ?_ | refine qt ?_ | refine Below.setCell ?_ (by first | exact Nat.le_refl _ | (simp; done) | omega | (simp; omega)) _ | refine Below.lift ?_ (by assumption)))⟩
theorem call_eq (x y : Val) (A : Option Addr) (c : Nat) (w : World) (h : SlAt rVal 3 w A [x, y]) (hm : mayS 6 [x, y] = true) :
    Calls Tryz.prog 92 #[.int .i64 6, .slice A 2 c] w (jK 6 [x, y] w) := by
  have H := hide h
  have hr : Hid (qN 6 [x, y] = if x.kind ≠ y.kind then (noVal, 2) else (jo (jh x y), 0)) := by show _ = _; simp [qN, hm]
  obtain ⟨b, o, rfl, hb, ⟨c0, c1, c2⟩, ⟨d0, d1, d2⟩, hx, hy⟩ := h.pair
  clear h
  go_enter Tryz.func92, Tryz.ntmps92
  go_wp2_with (go_at_call 116; refine (wY 6 [x, y] _ _ _ (by simp [reachBytes]) (H.out.keep qS (by repeat (first | exact Below.refl _ _ | assumption | refine Below.alloc1 ?_ _ | refine Below.drew ?_ | refine qt ?_ | refine Below.setCell ?_ (by first | exact Nat.le_refl _ | (simp; done) | omega | (simp; omega)) _ | refine Below.lift ?_ (by assumption))))).mono ?_; rintro e w2 ⟨rfl, hB2⟩; obtain ⟨hc2, hf2⟩ := jF hB2; have hz2 := hB2.size; try simp only [World.size_alloc, World.size_drew] at hc2 hf2 hz2)
  refine wI (by kernel_rfl) (by kernel_rfl) (by kernel_rfl) ?_
  repeat (refine qH ?_; intro K hK; go_big_quiet_op; go_big_quiet_on)
  refine zx ?_
  intro us w5 hB5
  simp only [junk, Act.put, List.setIfInBounds_toArray, List.set_cons_zero, List.set_cons_succ]
  obtain ⟨hc5, hf5⟩ := jF hB5; have hz5 := hB5.size; try simp only [World.size_alloc, World.size_drew] at hc5 hf5 hz5
  go_upto_region 7 with (fail)
  · refine bodyPost_ret (v := .tuple #[.agg #[.int .i64 0, .int .i64 0, .string ⟨#[]⟩], .int .i64 2]) (by simp [results, Tryz.results92, go_sem, ↓IntWalk.iteOmega, hc2, hc5]) rfl ?_
    refine ⟨?_, (by repeat (first | exact Below.refl _ _ | assumption | refine Below.alloc1 ?_ _ | refine Below.drew ?_ | refine qt ?_ | refine Below.setCell ?_ (by first | exact Nat.le_refl _ | (simp; done) | omega | (simp; omega)) _ | refine Below.lift ?_ (by assumption)))⟩
    rw [hr.out, if_pos (by go_light; simp_all)]; rfl
  · rename _ = false => ht
    replace ht := hide ht
    refine wp_spec_draw_tail 8 (by kernel_rfl) (by kernel_rfl) (by kernel_rfl) ?_
    simp only [List.take_succ_cons, List.take_zero, List.drop_succ_cons, List.drop_zero]
    repeat (refine qH ?_; intro K hK; go_big_quiet_op; go_big_quiet_on)
    refine qH ?_; intro K hK; go_big_quiet_op
    refine ⟨_, fun _ => wQ (truth_any _ _), ?_⟩
    go_big_quiet_on
    repeat (refine qH ?_; intro K hK; go_big_quiet_op; go_big_quiet_on)
    refine zx ?_
    intro us w7 hB7
    simp only [junk, Act.put, List.setIfInBounds_toArray, List.set_cons_zero, List.set_cons_succ]
    obtain ⟨hc7, hf7⟩ := jF hB7; have hz7 := hB7.size; try simp only [World.size_alloc, World.size_drew] at hc7 hf7 hz7
    go_wp2
    refine bodyPost_ret (v := .tuple #[.agg #[.int .i64 1, .int .i64 (bitI (jh x y)), .string ⟨#[]⟩], .int .i64 0]) (by simp [results, Tryz.results92, go_sem, ↓IntWalk.iteOmega, hc2, hc5, hc7]) rfl ?_
    refine ⟨?_, (by repeat (first | exact Below.refl _ _ | assumption | refine Below.alloc1 ?_ _ | refine Below.drew ?_ | refine qt ?_ | refine Below.setCell ?_ (by first | exact Nat.le_refl _ | (simp; done) | omega | (simp; omega)) _ | refine Below.lift ?_ (by assumption)))⟩
    rw [hr.out, if_neg (by have := ht.out; clear ht; go_light; simp_all)]; rfl
theorem call_less (x y : Val) (A : Option Addr) (c : Nat) (w : World) (h : SlAt rVal 3 w A [x, y]) (hm : mayS 7 [x, y] = true) :
    Calls Tryz.prog 92 #[.int .i64 7, .slice A 2 c] w (jK 7 [x, y] w) := by
  have H := hide h
  have hr : Hid (qN 7 [x, y] = if (wN x y).2 ≠ 0 then (noVal, (wN x y).2) else (jo (wN x y).1, 0)) := by show _ = _; simp [qN, hm]
  obtain ⟨b, o, rfl, hb, ⟨c0, c1, c2⟩, ⟨d0, d1, d2⟩, hx, hy⟩ := h.pair
  clear h
  go_enter Tryz.func92, Tryz.ntmps92
  go_wp2_with (go_at_call 116; refine (wY 7 [x, y] _ _ _ (by simp [reachBytes]) (H.out.keep qS (by repeat (first | exact Below.refl _ _ | assumption | refine Below.alloc1 ?_ _ | refine Below.drew ?_ | refine qt ?_ | refine Below.setCell ?_ (by first | exact Nat.le_refl _ | (simp; done) | omega | (simp; omega)) _ | refine Below.lift ?_ (by assumption))))).mono ?_; rintro e w2 ⟨rfl, hB2⟩; obtain ⟨hc2, hf2⟩ := jF hB2; have hz2 := hB2.size; try simp only [World.size_alloc, World.size_drew] at hc2 hf2 hz2)
  refine wI (by kernel_rfl) (by kernel_rfl) (by kernel_rfl) ?_
  repeat (refine qH ?_; intro K hK; go_big_quiet_op; go_big_quiet_on)
  refine qH ?_; intro K hK; go_big_quiet_op
  refine ⟨_, fun _ => wQ (less_any _ _ _ _ _ _ _ hx.s hy.s), ?_⟩
  go_big_quiet_on
  repeat (refine qH ?_; intro K hK; go_big_quiet_op; go_big_quiet_on)
  refine zx ?_
  intro us w9 hB9
  simp only [junk, Act.put, List.setIfInBounds_toArray, List.set_cons_zero, List.set_cons_succ]
  obtain ⟨hc9, hf9⟩ := jF hB9; have hz9 := hB9.size; try simp only [World.size_alloc, World.size_drew] at hc9 hf9 hz9
  go_wp2_with (go_at_call 117; refine (truth_any _ _).mono ?_; rintro e w3 ⟨rfl, hB3⟩; obtain ⟨hc3, hf3⟩ := jF hB3; have hz3 := hB3.size; try simp only [World.size_alloc, World.size_drew] at hc3 hf3 hz3)
  · refine bodyPost_ret (v := .tuple #[.agg #[.int .i64 0, .int .i64 0, .string ⟨#[]⟩], .int .i64 (wN x y).2]) (by simp [results, Tryz.results92, go_sem, ↓IntWalk.iteOmega, hc2, hc9]) rfl ?_
    refine ⟨?_, (by repeat (first | exact Below.refl _ _ | assumption | refine Below.alloc1 ?_ _ | refine Below.drew ?_ | refine qt ?_ | refine Below.setCell ?_ (by first | exact Nat.le_refl _ | (simp; done) | omega | (simp; omega)) _ | refine Below.lift ?_ (by assumption)))⟩
    rw [hr.out, if_pos (by go_light; simp_all)]; rfl
  · refine bodyPost_ret (v := .tuple #[.agg #[.int .i64 1, .int .i64 (bitI (wN x y).1), .string ⟨#[]⟩], .int .i64 0]) (by simp [results, Tryz.results92, go_sem, ↓IntWalk.iteOmega, hc2, hc9, hc3]) rfl ?_
    refine ⟨?_, (by repeat (first | exact Below.refl _ _ | assumption | refine Below.alloc1 ?_ _ | refine Below.drew ?_ | refine qt ?_ | refine Below.setCell ?_ (by first | exact Nat.le_refl _ | (simp; done) | omega | (simp; omega)) _ | refine Below.lift ?_ (by assumption)))⟩
    rw [hr.out, if_neg (by go_light; simp_all)]; rfl
theorem call_add (x y : Val) (A : Option Addr) (c : Nat) (w : World) (h : SlAt rVal 3 w A [x, y]) (hm : mayS 8 [x, y] = true) :
    Calls Tryz.prog 92 #[.int .i64 8, .slice A 2 c] w (jK 8 [x, y] w) := by
  have H := hide h
  have hr : Hid (qN 8 [x, y] = qM addS x y) := by show _ = _; simp [qN, hm]
  clear h
  go_enter Tryz.func92, Tryz.ntmps92
  go_wp2_with (first | (go_at_call 116; refine (wY 8 [x, y] _ _ _ (by simp [reachBytes]) (H.out.keep qS (by repeat (first | exact Below.refl _ _ | assumption | refine Below.alloc1 ?_ _ | refine Below.drew ?_ | refine qt ?_ | refine Below.setCell ?_ (by first | exact Nat.le_refl _ | (simp; done) | omega | (simp; omega)) _ | refine Below.lift ?_ (by assumption))))).mono ?_; rintro e w2 ⟨rfl, hB2⟩; obtain ⟨hc2, hf2⟩ := jF hB2; have hz2 := hB2.size; try simp only [World.size_alloc, World.size_drew] at hc2 hf2 hz2) | (go_at_call 118; refine (number_any 119 (wz Tryz.func119 (by kernel_rfl) (by kernel_rfl)) addS add_any x y _ _ _ (H.out.keep qS (by repeat (first | exact Below.refl _ _ | assumption | refine Below.alloc1 ?_ _ | refine Below.drew ?_ | refine qt ?_ | refine Below.setCell ?_ (by first | exact Nat.le_refl _ | (simp; done) | omega | (simp; omega)) _ | refine Below.lift ?_ (by assumption))))).mono ?_; rintro e w3 ⟨rfl, hB3⟩; obtain ⟨hc3, hf3⟩ := jF hB3; have hz3 := hB3.size; try simp only [World.size_alloc, World.size_drew] at hc3 hf3 hz3))
  refine bodyPost_ret (v := .tuple #[.agg #[.int .i64 ((qM addS x y).1).kind, .int .i64 ((qM addS x y).1).n, .string ((qM addS x y).1).s], .int .i64 (qM addS x y).2]) (by simp [results, Tryz.results92, go_sem, ↓IntWalk.iteOmega, hc2, hc3]) rfl ?_
  exact ⟨by rw [hr.out], (by repeat (first | exact Below.refl _ _ | assumption | refine Below.alloc1 ?_ _ | refine Below.drew ?_ | refine qt ?_ | refine Below.setCell ?_ (by first | exact Nat.le_refl _ | (simp; done) | omega | (simp; omega)) _ | refine Below.lift ?_ (by assumption)))⟩
theorem call_sub (x y : Val) (A : Option Addr) (c : Nat) (w : World) (h : SlAt rVal 3 w A [x, y]) (hm : mayS 9 [x, y] = true) :
    Calls Tryz.prog 92 #[.int .i64 9, .slice A 2 c] w (jK 9 [x, y] w) := by
  have H := hide h
  have hr : Hid (qN 9 [x, y] = qM subS x y) := by show _ = _; simp [qN, hm]
  clear h
  go_enter Tryz.func92, Tryz.ntmps92
  go_wp2_with (first | (go_at_call 116; refine (wY 9 [x, y] _ _ _ (by simp [reachBytes]) (H.out.keep qS (by repeat (first | exact Below.refl _ _ | assumption | refine Below.alloc1 ?_ _ | refine Below.drew ?_ | refine qt ?_ | refine Below.setCell ?_ (by first | exact Nat.le_refl _ | (simp; done) | omega | (simp; omega)) _ | refine Below.lift ?_ (by assumption))))).mono ?_; rintro e w2 ⟨rfl, hB2⟩; obtain ⟨hc2, hf2⟩ := jF hB2; have hz2 := hB2.size; try simp only [World.size_alloc, World.size_drew] at hc2 hf2 hz2) | (go_at_call 118; refine (number_any 120 (wz Tryz.func120 (by kernel_rfl) (by kernel_rfl)) subS sub_any x y _ _ _ (H.out.keep qS (by repeat (first | exact Below.refl _ _ | assumption | refine Below.alloc1 ?_ _ | refine Below.drew ?_ | refine qt ?_ | refine Below.setCell ?_ (by first | exact Nat.le_refl _ | (simp; done) | omega | (simp; omega)) _ | refine Below.lift ?_ (by assumption))))).mono ?_; rintro e w3 ⟨rfl, hB3⟩; obtain ⟨hc3, hf3⟩ := jF hB3; have hz3 := hB3.size; try simp only [World.size_alloc, World.size_drew] at hc3 hf3 hz3))
  refine bodyPost_ret (v := .tuple #[.agg #[.int .i64 ((qM subS x y).1).kind, .int .i64 ((qM subS x y).1).n, .string ((qM subS x y).1).s], .int .i64 (qM subS x y).2]) (by simp [results, Tryz.results92, go_sem, ↓IntWalk.iteOmega, hc2, hc3]) rfl ?_
  exact ⟨by rw [hr.out], (by repeat (first | exact Below.refl _ _ | assumption | refine Below.alloc1 ?_ _ | refine Below.drew ?_ | refine qt ?_ | refine Below.setCell ?_ (by first | exact Nat.le_refl _ | (simp; done) | omega | (simp; omega)) _ | refine Below.lift ?_ (by assumption)))⟩
theorem call_mul (x y : Val) (A : Option Addr) (c : Nat) (w : World) (h : SlAt rVal 3 w A [x, y]) (hm : mayS 10 [x, y] = true) :
    Calls Tryz.prog 92 #[.int .i64 10, .slice A 2 c] w (jK 10 [x, y] w) := by
  have H := hide h
  have hr : Hid (qN 10 [x, y] = qM mulS x y) := by show _ = _; simp [qN, hm]
  clear h
  go_enter Tryz.func92, Tryz.ntmps92
  go_wp2_with (first | (go_at_call 116; refine (wY 10 [x, y] _ _ _ (by simp [reachBytes]) (H.out.keep qS (by repeat (first | exact Below.refl _ _ | assumption | refine Below.alloc1 ?_ _ | refine Below.drew ?_ | refine qt ?_ | refine Below.setCell ?_ (by first | exact Nat.le_refl _ | (simp; done) | omega | (simp; omega)) _ | refine Below.lift ?_ (by assumption))))).mono ?_; rintro e w2 ⟨rfl, hB2⟩; obtain ⟨hc2, hf2⟩ := jF hB2; have hz2 := hB2.size; try simp only [World.size_alloc, World.size_drew] at hc2 hf2 hz2) | (go_at_call 118; refine (number_any 121 (wz Tryz.func121 (by kernel_rfl) (by kernel_rfl)) mulS mul_any x y _ _ _ (H.out.keep qS (by repeat (first | exact Below.refl _ _ | assumption | refine Below.alloc1 ?_ _ | refine Below.drew ?_ | refine qt ?_ | refine Below.setCell ?_ (by first | exact Nat.le_refl _ | (simp; done) | omega | (simp; omega)) _ | refine Below.lift ?_ (by assumption))))).mono ?_; rintro e w3 ⟨rfl, hB3⟩; obtain ⟨hc3, hf3⟩ := jF hB3; have hz3 := hB3.size; try simp only [World.size_alloc, World.size_drew] at hc3 hf3 hz3))
  refine bodyPost_ret (v := .tuple #[.agg #[.int .i64 ((qM mulS x y).1).kind, .int .i64 ((qM mulS x y).1).n, .string ((qM mulS x y).1).s], .int .i64 (qM mulS x y).2]) (by simp [results, Tryz.results92, go_sem, ↓IntWalk.iteOmega, hc2, hc3]) rfl ?_
  exact ⟨by rw [hr.out], (by repeat (first | exact Below.refl _ _ | assumption | refine Below.alloc1 ?_ _ | refine Below.drew ?_ | refine qt ?_ | refine Below.setCell ?_ (by first | exact Nat.le_refl _ | (simp; done) | omega | (simp; omega)) _ | refine Below.lift ?_ (by assumption)))⟩
end Go.Proofs.YtppfcacnofjmdaaGreatDoor
namespace Go.Proofs.YtppfcacnofjmdaaGreatDoor
open Go.RowKit
set_option linter.unusedSimpArgs false
set_option linter.unusedVariables false
attribute [local go_sem] ext_cell wi
attribute [local go_sem low] we jp
attribute [local go_sem ↓] eql_val
theorem call_not (x : Val) (A : Option Addr) (c : Nat) (w : World) (h : SlAt rVal 3 w A [x]) (hm : mayS 11 [x] = true) :
    Calls Tryz.prog 92 #[.int .i64 11, .slice A 1 c] w (jK 11 [x] w) := by
  have H := hide h
  have hr : Hid (qN 11 [x] = if allS 1 [x] then (jo (x.n == 0), 0) else (noVal, 2)) := by show _ = _; simp [qN, hm]; cases allS 1 _ <;> rfl
  obtain ⟨b, o, rfl, hb, ⟨c0, c1, c2⟩, hx⟩ := h.lone
  clear h
  go_enter Tryz.func92, Tryz.ntmps92
  go_wp2_with (first | (go_at_call 116; refine (wY 11 [x] _ _ _ (by simp [reachBytes]) (H.out.keep qS (by repeat (first | exact Below.refl _ _ | assumption | refine Below.alloc1 ?_ _ | refine Below.drew ?_ | refine qt ?_ | refine Below.setCell ?_ (by first | exact Nat.le_refl _ | (simp; done) | omega | (simp; omega)) _ | refine Below.lift ?_ (by assumption))))).mono ?_; rintro e w2 ⟨rfl, hB2⟩; obtain ⟨hc2, hf2⟩ := jF hB2; have hz2 := hB2.size; try simp only [World.size_alloc, World.size_drew] at hc2 hf2 hz2) | (go_at_call 122; refine (all_any 1 [x] _ _ _ (by simp [reachBytes]) (H.out.keep qS (by repeat (first | exact Below.refl _ _ | assumption | refine Below.alloc1 ?_ _ | refine Below.drew ?_ | refine qt ?_ | refine Below.setCell ?_ (by first | exact Nat.le_refl _ | (simp; done) | omega | (simp; omega)) _ | refine Below.lift ?_ (by assumption))))).mono ?_; rintro e w4 ⟨rfl, hB4⟩; obtain ⟨hc4, hf4⟩ := jF hB4; have hz4 := hB4.size; try simp only [World.size_alloc, World.size_drew] at hc4 hf4 hz4) | (go_at_call 117; refine (truth_any _ _).mono ?_; rintro e w3 ⟨rfl, hB3⟩; obtain ⟨hc3, hf3⟩ := jF hB3; have hz3 := hB3.size; try simp only [World.size_alloc, World.size_drew] at hc3 hf3 hz3))
  · refine bodyPost_ret (v := .tuple #[.agg #[.int .i64 0, .int .i64 0, .string ⟨#[]⟩], .int .i64 2]) (by simp [results, Tryz.results92, go_sem, ↓IntWalk.iteOmega, hc2, hc4]) rfl ?_
    refine ⟨?_, (by repeat (first | exact Below.refl _ _ | assumption | refine Below.alloc1 ?_ _ | refine Below.drew ?_ | refine qt ?_ | refine Below.setCell ?_ (by first | exact Nat.le_refl _ | (simp; done) | omega | (simp; omega)) _ | refine Below.lift ?_ (by assumption)))⟩
    rw [hr.out, if_neg (by go_light; simp_all)]; rfl
  · refine bodyPost_ret (v := .tuple #[.agg #[.int .i64 1, .int .i64 (bitI (x.n == 0)), .string ⟨#[]⟩], .int .i64 0]) (by simp [results, Tryz.results92, go_sem, ↓IntWalk.iteOmega, hc2, hc4, hc3]) rfl ?_
    refine ⟨?_, (by repeat (first | exact Below.refl _ _ | assumption | refine Below.alloc1 ?_ _ | refine Below.drew ?_ | refine qt ?_ | refine Below.setCell ?_ (by first | exact Nat.le_refl _ | (simp; done) | omega | (simp; omega)) _ | refine Below.lift ?_ (by assumption)))⟩
    rw [hr.out, if_pos (by go_light; simp_all)]; rfl
theorem call_and (x y : Val) (A : Option Addr) (c : Nat) (w : World) (h : SlAt rVal 3 w A [x, y]) (hm : mayS 12 [x, y] = true) :
    Calls Tryz.prog 92 #[.int .i64 12, .slice A 2 c] w (jK 12 [x, y] w) := by
  have H := hide h
  have hr : Hid (qN 12 [x, y] = if allS 1 [x, y] then (jo (x.n == 1 && y.n == 1), 0) else (noVal, 2)) := by show _ = _; simp [qN, hm]; cases allS 1 _ <;> rfl
  obtain ⟨b, o, rfl, hb, ⟨c0, c1, c2⟩, ⟨d0, d1, d2⟩, hx, hy⟩ := h.pair
  clear h
  go_enter Tryz.func92, Tryz.ntmps92
  go_upto_region 25 with (first | (go_at_call 116; refine (wY 12 [x, y] _ _ _ (by simp [reachBytes]) (H.out.keep qS (by repeat (first | exact Below.refl _ _ | assumption | refine Below.alloc1 ?_ _ | refine Below.drew ?_ | refine qt ?_ | refine Below.setCell ?_ (by first | exact Nat.le_refl _ | (simp; done) | omega | (simp; omega)) _ | refine Below.lift ?_ (by assumption))))).mono ?_; rintro e w2 ⟨rfl, hB2⟩; obtain ⟨hc2, hf2⟩ := jF hB2; have hz2 := hB2.size; try simp only [World.size_alloc, World.size_drew] at hc2 hf2 hz2) | (go_at_call 122; refine (all_any 1 [x, y] _ _ _ (by simp [reachBytes]) (H.out.keep qS (by repeat (first | exact Below.refl _ _ | assumption | refine Below.alloc1 ?_ _ | refine Below.drew ?_ | refine qt ?_ | refine Below.setCell ?_ (by first | exact Nat.le_refl _ | (simp; done) | omega | (simp; omega)) _ | refine Below.lift ?_ (by assumption))))).mono ?_; rintro e w4 ⟨rfl, hB4⟩; obtain ⟨hc4, hf4⟩ := jF hB4; have hz4 := hB4.size; try simp only [World.size_alloc, World.size_drew] at hc4 hf4 hz4))
  · refine bodyPost_ret (v := .tuple #[.agg #[.int .i64 0, .int .i64 0, .string ⟨#[]⟩], .int .i64 2]) (by simp [results, Tryz.results92, go_sem, ↓IntWalk.iteOmega, hc2, hc4]) rfl ?_
    refine ⟨?_, (by repeat (first | exact Below.refl _ _ | assumption | refine Below.alloc1 ?_ _ | refine Below.drew ?_ | refine qt ?_ | refine Below.setCell ?_ (by first | exact Nat.le_refl _ | (simp; done) | omega | (simp; omega)) _ | refine Below.lift ?_ (by assumption)))⟩
    rw [hr.out, if_neg (by go_light; simp_all)]; rfl
  · skip
    refine wp_spec_tail 13 (by kernel_rfl) ?_
    simp only [List.take_succ_cons, List.take_zero, List.drop_succ_cons, List.drop_zero]
    repeat (refine qH ?_; intro K hK; go_big_quiet_op; go_big_quiet_on)
    refine qH ?_; intro K hK; go_big_quiet_op
    refine ⟨_, fun _ => wQ (truth_any _ _), ?_⟩
    go_big_quiet_on
    repeat (refine qH ?_; intro K hK; go_big_quiet_op; go_big_quiet_on)
    refine zx ?_
    intro us w25 hB25
    simp only [junk, Act.put, List.setIfInBounds_toArray, List.set_cons_zero, List.set_cons_succ]
    obtain ⟨hc25, hf25⟩ := jF hB25; have hz25 := hB25.size; try simp only [World.size_alloc, World.size_drew] at hc25 hf25 hz25
    go_wp2
    refine bodyPost_ret (v := .tuple #[.agg #[.int .i64 1, .int .i64 (bitI (x.n == 1 && y.n == 1)), .string ⟨#[]⟩], .int .i64 0]) (by simp [results, Tryz.results92, go_sem, ↓IntWalk.iteOmega, hc2, hc4, hc25]) rfl ?_
    refine ⟨?_, (by repeat (first | exact Below.refl _ _ | assumption | refine Below.alloc1 ?_ _ | refine Below.drew ?_ | refine qt ?_ | refine Below.setCell ?_ (by first | exact Nat.le_refl _ | (simp; done) | omega | (simp; omega)) _ | refine Below.lift ?_ (by assumption)))⟩
    rw [hr.out, if_pos (by go_light; simp_all)]; rfl
theorem call_or (x y : Val) (A : Option Addr) (c : Nat) (w : World) (h : SlAt rVal 3 w A [x, y]) (hm : mayS 13 [x, y] = true) :
    Calls Tryz.prog 92 #[.int .i64 13, .slice A 2 c] w (jK 13 [x, y] w) := by
  have H := hide h
  have hr : Hid (qN 13 [x, y] = if allS 1 [x, y] then (jo (x.n == 1 || y.n == 1), 0) else (noVal, 2)) := by show _ = _; simp [qN, hm]; cases allS 1 _ <;> rfl
  obtain ⟨b, o, rfl, hb, ⟨c0, c1, c2⟩, ⟨d0, d1, d2⟩, hx, hy⟩ := h.pair
  clear h
  go_enter Tryz.func92, Tryz.ntmps92
  go_upto_region 26 with (first | (go_at_call 116; refine (wY 13 [x, y] _ _ _ (by simp [reachBytes]) (H.out.keep qS (by repeat (first | exact Below.refl _ _ | assumption | refine Below.alloc1 ?_ _ | refine Below.drew ?_ | refine qt ?_ | refine Below.setCell ?_ (by first | exact Nat.le_refl _ | (simp; done) | omega | (simp; omega)) _ | refine Below.lift ?_ (by assumption))))).mono ?_; rintro e w2 ⟨rfl, hB2⟩; obtain ⟨hc2, hf2⟩ := jF hB2; have hz2 := hB2.size; try simp only [World.size_alloc, World.size_drew] at hc2 hf2 hz2) | (go_at_call 122; refine (all_any 1 [x, y] _ _ _ (by simp [reachBytes]) (H.out.keep qS (by repeat (first | exact Below.refl _ _ | assumption | refine Below.alloc1 ?_ _ | refine Below.drew ?_ | refine qt ?_ | refine Below.setCell ?_ (by first | exact Nat.le_refl _ | (simp; done) | omega | (simp; omega)) _ | refine Below.lift ?_ (by assumption))))).mono ?_; rintro e w4 ⟨rfl, hB4⟩; obtain ⟨hc4, hf4⟩ := jF hB4; have hz4 := hB4.size; try simp only [World.size_alloc, World.size_drew] at hc4 hf4 hz4))
  · refine bodyPost_ret (v := .tuple #[.agg #[.int .i64 0, .int .i64 0, .string ⟨#[]⟩], .int .i64 2]) (by simp [results, Tryz.results92, go_sem, ↓IntWalk.iteOmega, hc2, hc4]) rfl ?_
    refine ⟨?_, (by repeat (first | exact Below.refl _ _ | assumption | refine Below.alloc1 ?_ _ | refine Below.drew ?_ | refine qt ?_ | refine Below.setCell ?_ (by first | exact Nat.le_refl _ | (simp; done) | omega | (simp; omega)) _ | refine Below.lift ?_ (by assumption)))⟩
    rw [hr.out, if_neg (by go_light; simp_all)]; rfl
  · skip
    refine wp_spec_tail 13 (by kernel_rfl) ?_
    simp only [List.take_succ_cons, List.take_zero, List.drop_succ_cons, List.drop_zero]
    repeat (refine qH ?_; intro K hK; go_big_quiet_op; go_big_quiet_on)
    refine qH ?_; intro K hK; go_big_quiet_op
    refine ⟨_, fun _ => wQ (truth_any _ _), ?_⟩
    go_big_quiet_on
    repeat (refine qH ?_; intro K hK; go_big_quiet_op; go_big_quiet_on)
    refine zx ?_
    intro us w26 hB26
    simp only [junk, Act.put, List.setIfInBounds_toArray, List.set_cons_zero, List.set_cons_succ]
    obtain ⟨hc26, hf26⟩ := jF hB26; have hz26 := hB26.size; try simp only [World.size_alloc, World.size_drew] at hc26 hf26 hz26
    go_wp2
    refine bodyPost_ret (v := .tuple #[.agg #[.int .i64 1, .int .i64 (bitI (x.n == 1 || y.n == 1)), .string ⟨#[]⟩], .int .i64 0]) (by simp [results, Tryz.results92, go_sem, ↓IntWalk.iteOmega, hc2, hc4, hc26]) rfl ?_
    refine ⟨?_, (by repeat (first | exact Below.refl _ _ | assumption | refine Below.alloc1 ?_ _ | refine Below.drew ?_ | refine qt ?_ | refine Below.setCell ?_ (by first | exact Nat.le_refl _ | (simp; done) | omega | (simp; omega)) _ | refine Below.lift ?_ (by assumption)))⟩
    rw [hr.out, if_pos (by go_light; simp_all)]; rfl
theorem call_any (op : Int) (l : List Val) (A : Option Addr) (c : Nat) (w : World) (hn : l.length ≤ reachBytes) (h : SlAt rVal 3 w A l) :
    Calls Tryz.prog 92 #[.int .i64 op, .slice A l.length c] w (jK op l w) := by
  cases hm : mayS op l with
  | false => exact call_no op l A c w hn h hm
  | true =>
    have hm' := hm
    simp only [mayS, Bool.and_eq_true, decide_eq_true_eq] at hm'
    obtain ⟨⟨⟨h1, h2⟩, h3⟩, _⟩ := hm'
    rcases (show op = 6 ∨ op = 7 ∨ op = 8 ∨ op = 9 ∨ op = 10 ∨ op = 11 ∨ op = 12 ∨ op = 13 by omega) with rfl | rfl | rfl | rfl | rfl | rfl | rfl | rfl
    all_goals
      simp only [Int.reduceEq, if_true, if_false] at h3
      match l, h3 with
      | [x], h3 => first | exact call_not x A c w h hm | (simp at h3)
      | [x, y], h3 => first | exact call_eq x y A c w h hm | exact call_less x y A c w h hm | exact call_add x y A c w h hm | exact call_sub x y A c w h hm | exact call_mul x y A c w h hm | exact call_and x y A c w h hm | exact call_or x y A c w h hm | (simp at h3)
      | [], h3 => simp at h3
      | _ :: _ :: _ :: _, h3 => simp at h3; omega
end Go.Proofs.YtppfcacnofjmdaaGreatDoor
namespace Go.Proofs.YtppfcacnofjmdaaGreatDoor
set_option linter.unusedVariables false
set_option linter.unusedSimpArgs false
open Go.RowKit
structure Itm.Fit (x : Itm) : Prop where
  bag : ∀ v ∈ x.bag, v.Fit
  v : x.v.Fit
  len : x.bag.length ≤ 1000000
theorem jR : noVal.Fit := ⟨⟨by decide, by decide⟩, ⟨by decide, by decide⟩, by decide⟩
theorem truthS_fit (b : Bool) : (jo b).Fit := by cases b <;> exact ⟨⟨by decide, by decide⟩, ⟨by decide, by decide⟩, by decide⟩
theorem num_fit {n : Int} (h : R64 n) : (⟨2, n, ⟨#[]⟩⟩ : Val).Fit := ⟨⟨by show _ ≤ (2 : Int); omega, by show (2 : Int) ≤ _; omega⟩, h, by show (⟨#[]⟩ : ByteArray).size ≤ reachBytes; decide⟩
theorem inI_r64 {n : Int} (h : inI n = true) : R64 n := by
  simp only [inI, Bool.and_eq_true, decide_eq_true_eq] at h
  exact ⟨by omega, by omega⟩
theorem number_fit {f : Int → Int → Int × Int} (hf : ∀ a b, (f a b).2 = 0 → R64 (f a b).1) (x y : Val) : (qM f x y).1.Fit := by
  unfold qM
  split
  · exact jR
  · split
    · exact jR
    · rename_i h
      exact num_fit (hf _ _ (Classical.byContradiction h))
theorem add_fit (a b : Int) : (addS a b).2 = 0 → R64 (addS a b).1 := by
  unfold addS
  split
  · rename_i h; exact fun _ => inI_r64 h
  · intro h; cases h
theorem sub_fit (a b : Int) : (subS a b).2 = 0 → R64 (subS a b).1 := by
  unfold subS
  split
  · rename_i h; exact fun _ => inI_r64 h
  · intro h; cases h
theorem mul_fit (a b : Int) : (mulS a b).2 = 0 → R64 (mulS a b).1 := by
  unfold mulS
  split
  · rename_i h; exact fun _ => inI_r64 h
  · intro h; cases h
theorem callS_fit (op : Int) (l : List Val) : (qN op l).1.Fit := by
  unfold qN
  split
  · exact jR
  · simp only
    repeat' split
    all_goals first | exact jR | exact truthS_fit _ | exact number_fit add_fit _ _ | exact number_fit sub_fit _ _ | exact number_fit mul_fit _ _
theorem bagS_mem {cat : Int} {name : ByteArray} {g : List Giv} {Q : List Val → Prop} (h0 : Q []) (h : ∀ x ∈ g, Q x.bag) : Q (bagS cat name g) := by
  rcases place_cases cat name g with ⟨_, hb, _⟩ | ⟨k, hk, _, hb, _⟩
  · rw [hb]; exact h0
  · rw [hb]; exact h _ (List.getElem_mem hk)
theorem getS_mem {a : Atr} {g : List Giv} {Q : List Val → Prop} (h0 : Q []) (h : ∀ x ∈ g, Q x.bag) : Q (getS a g).1 := by
  unfold getS
  split
  · exact h0
  · exact bagS_mem h0 h
theorem nodeS_fit {n : Nod} (hn : n.Fit) {l : List Itm} (hl : ∀ x ∈ l, x.Fit) {g : List Giv} (hg : ∀ x ∈ g, x.Fit) (hb : ∀ x ∈ g, x.bag.length ≤ 1000000) : (zc n l g).Fit := by
  have e0 : ∀ v ∈ ([] : List Val), v.Fit := fun v hv => by simp at hv
  have d0 : (l.getD 0 noItm).Fit := by
    cases l with
    | nil => exact ⟨e0, jR, Nat.zero_le _⟩
    | cons x r => exact hl x (by simp)
  have sz : ∀ {v : Val}, v.Fit → (Itm.mk [] v 0).Fit := fun h => ⟨e0, h, Nat.zero_le _⟩
  have sz' : ∀ {v : Val} (e : Int), v.Fit → (Itm.mk [] v e).Fit := fun _ h => ⟨e0, h, Nat.zero_le _⟩
  unfold zc
  split
  · exact sz hn.val
  · split
    · exact ⟨getS_mem (Q := fun b => ∀ v ∈ b, v.Fit) e0 fun x hx => (hg x hx).bag, jR, getS_mem (Q := fun b => b.length ≤ 1000000) (Nat.zero_le _) hb⟩
    · split
      · exact sz (truthS_fit _)
      · split
        · exact sz' _ jR
        · unfold lastS
          repeat' split
          · refine sz ?_
            rename_i h1
            match hb : (l.getD 0 noItm).bag, h1 with
            | [v], _ => exact d0.bag v (by rw [hb]; simp)
          · exact sz' _ jR
          · have := d0.len
            exact sz (num_fit ⟨by omega, by omega⟩)
          · exact sz (truthS_fit _)
          · exact sz' _ (callS_fit _ _)
theorem rel_val {ok : Nat → Prop} {w : World} (x : Val) : RelP ok w (.agg x.pv) x.v := by
  refine .agg rfl fun i s u hs hu => ?_
  match i, hs, hu with
  | 0, hs, hu => cases hs; cases hu; exact .v rfl
  | 1, hs, hu => cases hs; cases hu; exact .v rfl
  | 2, hs, hu => cases hs; cases hu; exact .v rfl
theorem rel_two {ok : Nat → Prop} {H : Nat → Option Value} {w : World} {p q : PV} {u v : Value} (h : RelP ok w p u) (k : RelP ok w q v) : RelS ok H w (.tup [.p p, .p q]) (.tuple #[u, v]) := by
  refine .tup rfl fun i s x hs hx => ?_
  match i, hs, hx with
  | 0, hs, hx => cases hs; cases hx; exact .p h
  | 1, hs, hx => cases hs; cases hx; exact .p k
theorem call_h (op : Int) (l : List Val) (hf : ∀ x ∈ l, x.Fit) : Holds Tryz.prog 92 [pI op, valsP l] (.tup [.p (.agg (qN op l).1.pv), .p (pI (qN op l).2)]) [] :=
  .of_calls Tryz.func92 (by kernel_rfl) rfl (fun w vs hl hr => by
    obtain ⟨u, v, rfl⟩ : ∃ u v, vs = [u, v] := by
      match vs, hl with
      | [u, v], _ => exact ⟨u, v, rfl⟩
    have h := zX (hr 0 _ u rfl rfl) rfl
    subst h
    obtain ⟨A, c, rfl, h1, h2, h3⟩ := vals_typed (hr 1 _ v rfl rfl) hf
    exact call_any op l A c w h2.1 h3) rfl fun w => rel_two (rel_val _) (.v rfl)
end Go.Proofs.YtppfcacnofjmdaaGreatDoor
