/-
  Layer 8 (policy): the stack of an expression, by shades.
-/
import Derived.Test.YtjpcchipejmocaaSh
import Derived.Test.YtjpcchipejmocaaPolH
namespace Go.Proofs.Ytjpcchipejmocaa
set_option linter.unusedVariables false
set_option linter.unusedSimpArgs false
open Go.RowKit
set_option maxHeartbeats 1000000

def stepR : Option (List Bool) → SV
  | some _ => .tup [.row 0, .p (pB true)]
  | none => .tup [.p (.v (.slice none 0 0)), .p (pB false)]
def stepO : Option (List Bool) → List (Nat × Box)
  | some l => [(0, .row 4 1 (bools l))]
  | none => []
theorem step_h (l : List Bool) (hl : l.length ≤ 1000000) (n : Nod) (hn : n.Fit) : HoldsW Try.prog 47 [.row 1000000, .p (.agg n.pv)] [(1000000, .row 4 1 (bools l))] (stepR (stepS l n)) (stepO (stepS l n)) := by
  have H1 := wants_h n.op
  cases hw : wantsS n.op with
  | none =>
    rw [hw] at H1
    simp only [Option.getD_none, Option.isSome_none] at H1
    have e : stepS l n = none := by simp [stepS, hw]
    rw [e]
    refine holdsW_of (ts := [4,5]) Try.func47 (by kernel_rfl) rfl rfl rfl ?_
    (repeat refine sw_seq ?_); refine sw_region ?_
    repeat (first | refine sR (h := ?_) | refine sK (h := ?_) | refine sT (h := aM (h := ?_)) | refine sT (h := aB (h := ?_)) | refine sT (h := aA (h := ?_)) | refine sT (h := aS (h := ?_)) | refine sT (h := aL (h := ?_)))
    refine swt_nil ?_
    (repeat refine sw_seq ?_); refine sw_region ?_
    repeat (first | refine sR (h := ?_) | refine sK (h := ?_) | refine sT (h := aM (h := ?_)) | refine sT (h := aB (h := ?_)) | refine sT (h := aA (h := ?_)) | refine sT (h := aS (h := ?_)) | refine sT (h := aL (h := ?_)))
    refine swt_act rfl (act_call rfl rfl rfl rfl (H1) rfl rfl rfl ?_)
    repeat (first | refine sR (h := ?_) | refine sK (h := ?_) | refine sT (h := aM (h := ?_)) | refine sT (h := aB (h := ?_)) | refine sT (h := aA (h := ?_)) | refine sT (h := aS (h := ?_)) | refine sT (h := aL (h := ?_)))
    refine swt_nil ?_
    (repeat refine sw_seq ?_); refine sw_region_spec (by kernel_rfl) ?_
    repeat (refine sws_read ttab_ok rfl (by exact True.intro) rfl ?_)
    refine sws_call rfl rfl rfl rfl (fields_h n hn) rfl rfl ?_
    repeat (refine sws_read ttab_ok rfl (by exact True.intro) rfl ?_)
    refine sws_nil ?_
    (repeat refine sw_seq ?_); refine sw_cond rfl (fun h => ?_) (fun h => ?_)
    · (repeat refine sw_seq ?_); refine sw_region ?_
      repeat (first | refine sR (h := ?_) | refine sK (h := ?_) | refine sT (h := aM (h := ?_)) | refine sT (h := aB (h := ?_)) | refine sT (h := aA (h := ?_)) | refine sT (h := aS (h := ?_)) | refine sT (h := aL (h := ?_)))
      refine swt_nil ?_
      (repeat refine sw_seq ?_); refine sw_ret ?_
      exact ⟨Or.inr rfl, _, _, [], Wk.refl _, rfl, rfl, rfl, rfl⟩
    · simp at h
  | some w =>
    rw [hw] at H1
    simp only [Option.getD_some, Option.isSome_some] at H1
    have hwl : w.length ≤ 2 := by
      unfold wantsS at hw
      repeat' split at hw
      all_goals (cases hw; try simp)
    refine holdsW_of (ts := [4,5]) Try.func47 (by kernel_rfl) rfl rfl rfl ?_
    (repeat refine sw_seq ?_); refine sw_region ?_
    repeat (first | refine sR (h := ?_) | refine sK (h := ?_) | refine sT (h := aM (h := ?_)) | refine sT (h := aB (h := ?_)) | refine sT (h := aA (h := ?_)) | refine sT (h := aS (h := ?_)) | refine sT (h := aL (h := ?_)))
    refine swt_nil ?_
    (repeat refine sw_seq ?_); refine sw_region ?_
    repeat (first | refine sR (h := ?_) | refine sK (h := ?_) | refine sT (h := aM (h := ?_)) | refine sT (h := aB (h := ?_)) | refine sT (h := aA (h := ?_)) | refine sT (h := aS (h := ?_)) | refine sT (h := aL (h := ?_)))
    refine swt_act rfl (act_call rfl rfl rfl rfl (H1) rfl rfl rfl ?_)
    repeat (first | refine sR (h := ?_) | refine sK (h := ?_) | refine sT (h := aM (h := ?_)) | refine sT (h := aB (h := ?_)) | refine sT (h := aA (h := ?_)) | refine sT (h := aS (h := ?_)) | refine sT (h := aL (h := ?_)))
    refine swt_nil ?_
    (repeat refine sw_seq ?_); refine sw_region_spec (by kernel_rfl) ?_
    repeat (refine sws_read ttab_ok rfl (by exact True.intro) rfl ?_)
    refine sws_call rfl rfl rfl rfl (fields_h n hn) rfl rfl ?_
    repeat (refine sws_read ttab_ok rfl (by exact True.intro) rfl ?_)
    refine sws_nil ?_
    have ll : (bools l).length = l.length := by simp [bools]
    have lw : (bools w).length = w.length := by simp [bools]
    (repeat refine sw_seq ?_); refine sw_cond rfl (fun h => ?_) (fun h => ?_)
    · have e : stepS l n = none := by
        simp only [stepS, hw]
        rw [if_neg]
        intro ⟨h1, h2, _⟩
        simp [h1, ll, lw] at h
        omega
      rw [e]
      (repeat refine sw_seq ?_); refine sw_region ?_
      repeat (first | refine sR (h := ?_) | refine sK (h := ?_) | refine sT (h := aM (h := ?_)) | refine sT (h := aB (h := ?_)) | refine sT (h := aA (h := ?_)) | refine sT (h := aS (h := ?_)) | refine sT (h := aL (h := ?_)))
      refine swt_nil ?_
      (repeat refine sw_seq ?_); refine sw_ret ?_
      exact ⟨Or.inr rfl, _, _, [], Wk.refl _, rfl, rfl, rfl, rfl⟩
    · have hf : fieldsS n = true := by
        cases hq : fieldsS n with
        | true => rfl
        | false => simp [hq] at h
      have hle : w.length ≤ l.length := by
        simp [hf, ll, lw] at h
        omega
      obtain ⟨left, hleft⟩ : ∃ left : Nat, left = l.length - w.length := ⟨_, rfl⟩
      refine sw_skip ?_
      (repeat refine sw_seq ?_); refine sw_region ?_
      repeat (first | refine sR (h := ?_) | refine sK (h := ?_) | refine sT (h := aM (h := ?_)) | refine sT (h := aB (h := ?_)) | refine sT (h := aA (h := ?_)) | refine sT (h := aS (h := ?_)) | refine sT (h := aL (h := ?_)))
      refine swt_nil ?_
      (repeat refine sw_seq ?_); refine sw_region ?_
      repeat (first | refine sR (h := ?_) | refine sK (h := ?_) | refine sT (h := aM (h := ?_)) | refine sT (h := aB (h := ?_)) | refine sT (h := aA (h := ?_)) | refine sT (h := aS (h := ?_)) | refine sT (h := aL (h := ?_)))
      refine swt_nil ?_
      (repeat refine sw_seq ?_); refine sw_block ?_
      refine SW.wk (wk_only [0, 3, 8, 36, 37, 38] [(1000000, 1000000), (3, 3)] rfl rfl) ?_
      refine sw_loop (fun m s => ∃ (k : Nat) (kk L : Int), k ≤ w.length ∧ m = w.length - k ∧ kk = k ∧ L = left ∧ (l.drop left).take k = w.take k ∧ s = ⟨60, [(0, .row 1000000), (3, .ptr 3 0), (8, .p (pI L)), (36, .p (.sl 1 (bools w))), (37, .p (pI (bools w).length)), (38, .p (pI kk))], [(1000000, .row 4 1 (bools l)), (3, .cells (n.pv.map .p))]⟩) w.length ⟨0, 0, _, Nat.zero_le _, rfl, rfl, ?_, by simp, rfl⟩ ?_
      · show IntKind.i64.wrap (((bools l).length : Int) - (bools w).length) = _
        rw [ll, lw, IntWalk.i64_in _ (by omega)]; omega
      rintro m s ⟨k, _, _, hk, rfl, rfl, rfl, ha, rfl⟩
      (repeat refine sw_seq ?_); refine sw_region ?_
      repeat (first | refine sR (h := ?_) | refine sK (h := ?_) | refine sT (h := aM (h := ?_)) | refine sT (h := aB (h := ?_)) | refine sT (h := aA (h := ?_)) | refine sT (h := aS (h := ?_)) | refine sT (h := aL (h := ?_)))
      refine swt_nil ?_
      (repeat refine sw_seq ?_); refine sw_cond rfl (fun hlt => ?_) (fun hlt => ?_)
      · refine sw_skip ?_
        rw [lw] at hlt
        simp only [decide_eq_true_eq] at hlt
        have hlt' : k < w.length := by omega
        have hk2 : left + k < l.length := by omega
        (repeat refine sw_seq ?_); refine sw_block ?_
        (repeat refine sw_seq ?_); refine sw_region ?_
        repeat (first | refine sR (h := ?_) | refine sK (h := ?_) | refine sT (h := aM (h := ?_)) | refine sT (h := aB (h := ?_)) | refine sT (h := aA (h := ?_)) | refine sT (h := aS (h := ?_)) | refine sT (h := aL (h := ?_)))
        refine swt_read ttab_ok rfl rfl (by rw [lw]; omega) rfl ?_
        rw [show (bools w).getD (Int.toNat (k : Int)) [] = [pB w[k]] from getD_map hlt']
        repeat (first | refine sR (h := ?_) | refine sK (h := ?_) | refine sT (h := aM (h := ?_)) | refine sT (h := aB (h := ?_)) | refine sT (h := aA (h := ?_)) | refine sT (h := aS (h := ?_)) | refine sT (h := aL (h := ?_)))
        refine swt_nil ?_
        (repeat refine sw_seq ?_); refine sw_region ?_
        repeat (first | refine sR (h := ?_) | refine sK (h := ?_) | refine sT (h := aM (h := ?_)) | refine sT (h := aB (h := ?_)) | refine sT (h := aA (h := ?_)) | refine sT (h := aS (h := ?_)) | refine sT (h := aL (h := ?_)))
        have ew : IntKind.i64.wrap ((left : Int) + k) = ((left + k : Nat) : Int) := by rw [IntWalk.i64_in _ (by omega)]; omega
        rw [ew]
        refine swt_read ttab_ok rfl rfl (by rw [ll]; omega) rfl ?_
        repeat (first | refine sR (h := ?_) | refine sK (h := ?_) | refine sT (h := aM (h := ?_)) | refine sT (h := aB (h := ?_)) | refine sT (h := aA (h := ?_)) | refine sT (h := aS (h := ?_)) | refine sT (h := aL (h := ?_)))
        refine swt_read ttab_ok rfl (opR_elem rfl rfl rfl rfl rfl (show (bools l).getD (Int.toNat ((left + k : Nat) : Int)) [] = [pB l[left + k]] from getD_map hk2) rfl) (by rw [ll]; simp; omega) rfl ?_
        repeat (first | refine sR (h := ?_) | refine sK (h := ?_) | refine sT (h := aM (h := ?_)) | refine sT (h := aB (h := ?_)) | refine sT (h := aA (h := ?_)) | refine sT (h := aS (h := ?_)) | refine sT (h := aL (h := ?_)))
        refine swt_nil ?_
        (repeat refine sw_seq ?_); refine sw_cond rfl (fun hp => ?_) (fun hp => ?_)
        · have e : stepS l n = none := by
            simp only [stepS, hw]
            rw [if_neg]
            intro ⟨_, _, h3⟩
            rw [← hleft] at h3
            have h4 : w[k] = l[left + k] := by
              have := congrArg (fun x => x[k]?) h3
              simp only [List.getElem?_drop] at this
              rw [List.getElem?_eq_getElem hk2, List.getElem?_eq_getElem hlt'] at this
              exact (Option.some.inj this).symm
            rw [h4] at hp
            simp at hp
          rw [e]
          (repeat refine sw_seq ?_); refine sw_region ?_
          repeat (first | refine sR (h := ?_) | refine sK (h := ?_) | refine sT (h := aM (h := ?_)) | refine sT (h := aB (h := ?_)) | refine sT (h := aA (h := ?_)) | refine sT (h := aS (h := ?_)) | refine sT (h := aL (h := ?_)))
          refine swt_nil ?_
          (repeat refine sw_seq ?_); refine sw_ret ?_
          exact ⟨Or.inr rfl, _, _, [], Wk.refl _, rfl, rfl, rfl, rfl⟩
        · refine sw_skip ?_
          (repeat refine sw_seq ?_); refine sw_region ?_
          repeat (first | refine sR (h := ?_) | refine sK (h := ?_) | refine sT (h := aM (h := ?_)) | refine sT (h := aB (h := ?_)) | refine sT (h := aA (h := ?_)) | refine sT (h := aS (h := ?_)) | refine sT (h := aL (h := ?_)))
          refine swt_nil ?_
          refine ⟨_, _, ?_, wk_only [0, 3, 8, 36, 37, 38] [(1000000, 1000000), (3, 3)] rfl rfl, k + 1, _, _, hlt', rfl, wrap_succ hlt' (by omega), rfl, ?_, rfl⟩
          · omega
          · have h4 : l[left + k] = w[k] := by simpa using hp
            rw [List.take_succ_eq_append_getElem hlt', List.take_succ_eq_append_getElem (by simp; omega), ha, List.getElem_drop, h4]
      · refine sw_exit ?_
        rw [lw] at hlt
        simp only [decide_eq_false_iff_not] at hlt
        have hkk : k = w.length := by omega
        subst hkk
        have hd : l.drop left = w := by
          rw [List.take_length] at ha
          rw [← ha, List.take_of_length_le (by simp; omega)]
        have e : stepS l n = some (l.take left ++ [decide (n.op = 2)]) := by
          simp only [stepS, hw]
          rw [if_pos ⟨hf, hle, by rw [← hleft]; exact hd⟩, hleft]
        rw [e]
        (repeat refine sw_seq ?_); refine sw_region_draw [1000000] [(0, true), (1, true), (2, true), (3, true), (4, true), (5, true), (6, false), (7, false), (8, true), (9, true)] (by kernel_rfl) (by kernel_rfl) (by kernel_rfl) ?_
        repeat (first | refine mR (h := ?_) | refine mK (h := ?_) | refine mT (h := aM (h := ?_)) | refine mT (h := aB (h := ?_)) | refine mT (h := aA (h := ?_)) | refine mT (h := aS (h := ?_)) | refine mT (h := aL (h := ?_)))
        refine swm_read ttab_ok rfl rfl rfl (by rw [ll]; omega) rfl ?_
        repeat (first | refine mR (h := ?_) | refine mK (h := ?_) | refine mT (h := aM (h := ?_)) | refine mT (h := aB (h := ?_)) | refine mT (h := aA (h := ?_)) | refine mT (h := aS (h := ?_)) | refine mT (h := aL (h := ?_)))
        refine swm_act rfl rfl rfl (ActOk.shrink 54 999 rfl rfl rfl rfl (act_append_row ttab_ok rfl rfl rfl rfl rfl rfl rfl rfl rfl rfl rfl rfl rfl rfl rfl rfl (by simp [reachBytes, bools]; omega) (by simp [bools]; omega) ?_))
        repeat (first | refine mR (h := ?_) | refine mK (h := ?_) | refine mT (h := aM (h := ?_)) | refine mT (h := aB (h := ?_)) | refine mT (h := aA (h := ?_)) | refine mT (h := aS (h := ?_)) | refine mT (h := aL (h := ?_)))
        refine swm_nil ?_
        (repeat refine sw_seq ?_); refine sw_ret ?_
        have e2 : List.take (Int.toNat (left : Int)) (bools l) ++ [[pB (n.op == 2)]] = bools (l.take left ++ [decide (n.op = 2)]) := by
          have : (n.op == 2) = decide (n.op = 2) := by rw [Bool.eq_iff_iff]; simp
          rw [this]
          simp [bools, List.map_take]
        refine ⟨Or.inr rfl, _, _, [(59, 0)], Wk.refl _, rfl, rfl, ?_, rfl⟩
        show some [(0, Box.row 4 1 (List.take (Int.toNat (left : Int)) (bools l) ++ [[pB (n.op == 2)]]))] = _
        rw [e2]; rfl
theorem stepsS_some : ∀ {l : List Nod} {a m : List Bool} {k : Nat} (hk : k < l.length), stepsS a (l.take k) = some m → stepsS a (l.take (k + 1)) = stepS m l[k]
  | n :: r, a, m, 0, _, h => by
    simp [stepsS] at h
    subst h
    simp only [Nat.zero_add, List.take_succ_cons, List.take_zero, stepsS, List.getElem_cons_zero]
    cases stepS a n <;> rfl
  | n :: r, a, m, k + 1, hk, h => by
    rw [List.take_succ_cons, stepsS] at h ⊢
    cases hs : stepS a n with
    | none => rw [hs] at h; cases h
    | some b =>
      rw [hs] at h
      simp only at h ⊢
      rw [stepsS_some (by simpa using hk) h]; rfl
theorem stepsS_none : ∀ {l : List Nod} {a : List Bool} (k : Nat), stepsS a (l.take k) = none → stepsS a l = none
  | [], a, k, h => by simp [stepsS] at h
  | n :: r, a, 0, h => by simp [stepsS] at h
  | n :: r, a, k + 1, h => by
    rw [List.take_succ_cons, stepsS] at h
    rw [stepsS]
    cases hs : stepS a n with
    | none => rfl
    | some b => rw [hs] at h; simp only at h ⊢; exact stepsS_none k h
theorem stepS_len {l l' : List Bool} {n : Nod} (h : stepS l n = some l') : l'.length ≤ l.length + 1 := by
  unfold stepS at h
  split at h
  · cases h
  · split at h
    · cases h; simp
    · cases h
theorem expr_h (l : List Nod) (hf : ∀ x ∈ l, x.Fit) : Holds Try.prog 20 [nodsP l] (.p (pI (exprS l))) [] := by
  refine holds_of (ts := [2]) Try.func20 (by kernel_rfl) rfl rfl rfl ?_
  refine sw_len (t := 0) (z := 7) (l := l.map Nod.pv) rfl fun hlen => ?_
  rw [List.length_map] at hlen
  unfold reachBytes at hlen
  have lm : (l.map Nod.pv).length = l.length := by simp
  (repeat refine sw_seq ?_); refine sw_region ?_
  repeat (first | refine sR (h := ?_) | refine sK (h := ?_) | refine sT (h := aM (h := ?_)) | refine sT (h := aB (h := ?_)) | refine sT (h := aA (h := ?_)) | refine sT (h := aS (h := ?_)) | refine sT (h := aL (h := ?_)))
  refine swt_nil ?_
  (repeat refine sw_seq ?_); refine sw_region ?_
  repeat (first | refine sR (h := ?_) | refine sK (h := ?_) | refine sT (h := aM (h := ?_)) | refine sT (h := aB (h := ?_)) | refine sT (h := aA (h := ?_)) | refine sT (h := aS (h := ?_)) | refine sT (h := aL (h := ?_)))
  refine swt_nil ?_
  rw [lm]
  (repeat refine sw_seq ?_); refine sw_cond rfl (fun h => ?_) (fun h => ?_)
  · (repeat refine sw_seq ?_); refine sw_region ?_
    repeat (first | refine sR (h := ?_) | refine sK (h := ?_) | refine sT (h := aM (h := ?_)) | refine sT (h := aB (h := ?_)) | refine sT (h := aA (h := ?_)) | refine sT (h := aS (h := ?_)) | refine sT (h := aL (h := ?_)))
    refine swt_nil ?_
    (repeat refine sw_seq ?_); refine sw_ret ?_
    refine fin_i rfl ?_
    have h0 : 32 < l.length := by simp at h; omega
    simp [exprS, h0]
  · have h0 : ¬ 32 < l.length := by simp at h; omega
    refine sw_skip ?_
    (repeat refine sw_seq ?_); refine sw_region ?_
    repeat (first | refine sR (h := ?_) | refine sK (h := ?_) | refine sT (h := aM (h := ?_)) | refine sT (h := aB (h := ?_)) | refine sT (h := aA (h := ?_)) | refine sT (h := aS (h := ?_)) | refine sT (h := aL (h := ?_)))
    refine swt_nil ?_
    (repeat refine sw_seq ?_); refine sw_region ?_
    repeat (first | refine sR (h := ?_) | refine sK (h := ?_) | refine sT (h := aM (h := ?_)) | refine sT (h := aB (h := ?_)) | refine sT (h := aA (h := ?_)) | refine sT (h := aS (h := ?_)) | refine sT (h := aL (h := ?_)))
    refine swt_nil ?_
    (repeat refine sw_seq ?_); refine sw_region ?_
    repeat (first | refine sR (h := ?_) | refine sK (h := ?_) | refine sT (h := aM (h := ?_)) | refine sT (h := aB (h := ?_)) | refine sT (h := aA (h := ?_)) | refine sT (h := aS (h := ?_)) | refine sT (h := aL (h := ?_)))
    refine swt_nil ?_
    (repeat refine sw_seq ?_); refine sw_block ?_
    refine SW.wk (wk_nil 3 900 4 1 rfl rfl) ?_
    refine SW.wk (wk_only [0, 3, 10, 11, 12] [(900, 0)] rfl rfl) ?_
    refine sw_loop (fun m s => ∃ (k : Nat) (kk : Int) (made : List Bool), k ≤ l.length ∧ m = l.length - k ∧ kk = k ∧ stepsS [] (l.take k) = some made ∧ made.length ≤ k ∧ s = ⟨38, [(0, .p (nodsP l)), (3, .row 0), (10, .p (nodsP l)), (11, .p (pI l.length)), (12, .p (pI kk))], [(0, .row 4 1 (bools made))]⟩) l.length ⟨0, 0, [], Nat.zero_le _, rfl, rfl, by simp [stepsS], Nat.le_refl _, by rw [← lm]; rfl⟩ ?_
    rintro m s ⟨k, _, made, hk, rfl, rfl, ha, hml, rfl⟩
    (repeat refine sw_seq ?_); refine sw_region ?_
    repeat (first | refine sR (h := ?_) | refine sK (h := ?_) | refine sT (h := aM (h := ?_)) | refine sT (h := aB (h := ?_)) | refine sT (h := aA (h := ?_)) | refine sT (h := aS (h := ?_)) | refine sT (h := aL (h := ?_)))
    refine swt_nil ?_
    (repeat refine sw_seq ?_); refine sw_cond rfl (fun hlt => ?_) (fun hlt => ?_)
    · refine sw_skip ?_
      simp only [decide_eq_true_eq] at hlt
      have hlt' : k < l.length := by omega
      have hst := stepsS_some hlt' ha
      (repeat refine sw_seq ?_); refine sw_block ?_
      (repeat refine sw_seq ?_); refine sw_region ?_
      repeat (first | refine sR (h := ?_) | refine sK (h := ?_) | refine sT (h := aM (h := ?_)) | refine sT (h := aB (h := ?_)) | refine sT (h := aA (h := ?_)) | refine sT (h := aS (h := ?_)) | refine sT (h := aL (h := ?_)))
      refine swt_read ttab_ok rfl rfl (by rw [lm]; omega) rfl ?_
      rw [getD_map hlt']
      repeat (first | refine sR (h := ?_) | refine sK (h := ?_) | refine sT (h := aM (h := ?_)) | refine sT (h := aB (h := ?_)) | refine sT (h := aA (h := ?_)) | refine sT (h := aS (h := ?_)) | refine sT (h := aL (h := ?_)))
      refine swt_nil ?_
      have H := step_h made (by omega) l[k] (hf _ (List.getElem_mem hlt'))
      cases hs : stepS made l[k] with
      | none =>
        rw [hs] at H
        (repeat refine sw_seq ?_); refine sw_region ?_
        repeat (first | refine sR (h := ?_) | refine sK (h := ?_) | refine sT (h := aM (h := ?_)) | refine sT (h := aB (h := ?_)) | refine sT (h := aA (h := ?_)) | refine sT (h := aS (h := ?_)) | refine sT (h := aL (h := ?_)))
        refine swt_act rfl (act_call_W [(0, 1000000)] rfl rfl rfl rfl rfl rfl (H) rfl rfl rfl ?_)
        repeat (first | refine sR (h := ?_) | refine sK (h := ?_) | refine sT (h := aM (h := ?_)) | refine sT (h := aB (h := ?_)) | refine sT (h := aA (h := ?_)) | refine sT (h := aS (h := ?_)) | refine sT (h := aL (h := ?_)))
        refine swt_nil ?_
        (repeat refine sw_seq ?_); refine sw_region ?_
        repeat (first | refine sR (h := ?_) | refine sK (h := ?_) | refine sT (h := aM (h := ?_)) | refine sT (h := aB (h := ?_)) | refine sT (h := aA (h := ?_)) | refine sT (h := aS (h := ?_)) | refine sT (h := aL (h := ?_)))
        refine swt_nil ?_
        (repeat refine sw_seq ?_); refine sw_cond rfl (fun h => ?_) (fun h => ?_)
        · (repeat refine sw_seq ?_); refine sw_region ?_
          repeat (first | refine sR (h := ?_) | refine sK (h := ?_) | refine sT (h := aM (h := ?_)) | refine sT (h := aB (h := ?_)) | refine sT (h := aA (h := ?_)) | refine sT (h := aS (h := ?_)) | refine sT (h := aL (h := ?_)))
          refine swt_nil ?_
          (repeat refine sw_seq ?_); refine sw_ret ?_
          refine fin_i rfl ?_
          rw [exprS, if_neg h0, stepsS_none (k + 1) (by rw [hst, hs])]
        · cases h
      | some l' =>
        rw [hs] at H
        (repeat refine sw_seq ?_); refine sw_region ?_
        repeat (first | refine sR (h := ?_) | refine sK (h := ?_) | refine sT (h := aM (h := ?_)) | refine sT (h := aB (h := ?_)) | refine sT (h := aA (h := ?_)) | refine sT (h := aS (h := ?_)) | refine sT (h := aL (h := ?_)))
        refine swt_act rfl (act_call_W [(0, 1000000)] rfl rfl rfl rfl rfl rfl (H) rfl rfl rfl ?_)
        repeat (first | refine sR (h := ?_) | refine sK (h := ?_) | refine sT (h := aM (h := ?_)) | refine sT (h := aB (h := ?_)) | refine sT (h := aA (h := ?_)) | refine sT (h := aS (h := ?_)) | refine sT (h := aL (h := ?_)))
        refine swt_nil ?_
        (repeat refine sw_seq ?_); refine sw_region ?_
        repeat (first | refine sR (h := ?_) | refine sK (h := ?_) | refine sT (h := aM (h := ?_)) | refine sT (h := aB (h := ?_)) | refine sT (h := aA (h := ?_)) | refine sT (h := aS (h := ?_)) | refine sT (h := aL (h := ?_)))
        refine swt_nil ?_
        (repeat refine sw_seq ?_); refine sw_cond rfl (fun h => ?_) (fun h => ?_)
        · cases h
        · refine sw_skip ?_
          (repeat refine sw_seq ?_); refine sw_region ?_
          repeat (first | refine sR (h := ?_) | refine sK (h := ?_) | refine sT (h := aM (h := ?_)) | refine sT (h := aB (h := ?_)) | refine sT (h := aA (h := ?_)) | refine sT (h := aS (h := ?_)) | refine sT (h := aL (h := ?_)))
          refine swt_nil ?_
          refine ⟨_, _, ?_, wk_only [0, 3, 10, 11, 12] [(20000, 0)] rfl rfl, k + 1, _, l', hlt', rfl, wrap_succ hlt' (by omega), by rw [hst, hs], ?_, rfl⟩
          · omega
          · have := stepS_len hs; omega
    · refine sw_exit ?_
      simp only [decide_eq_false_iff_not] at hlt
      have hkk : k = l.length := by omega
      subst hkk
      rw [List.take_length] at ha
      have ex : exprS l = if l = [] ∨ made = [false] then 0 else 1 := by rw [exprS, if_neg h0, ha]
      cases l with
      | nil =>
        (repeat refine sw_seq ?_); refine sw_region ?_
        repeat (first | refine sR (h := ?_) | refine sK (h := ?_) | refine sT (h := aM (h := ?_)) | refine sT (h := aB (h := ?_)) | refine sT (h := aA (h := ?_)) | refine sT (h := aS (h := ?_)) | refine sT (h := aL (h := ?_)))
        refine swt_nil ?_
        (repeat refine sw_seq ?_); refine sw_cond rfl (fun h => ?_) (fun h => ?_)
        · cases h
        · refine sw_skip ?_
          (repeat refine sw_seq ?_); refine sw_region ?_
          repeat (first | refine sR (h := ?_) | refine sK (h := ?_) | refine sT (h := aM (h := ?_)) | refine sT (h := aB (h := ?_)) | refine sT (h := aA (h := ?_)) | refine sT (h := aS (h := ?_)) | refine sT (h := aL (h := ?_)))
          refine swt_nil ?_
          (repeat refine sw_seq ?_); refine sw_ret ?_
          exact fin_i rfl (by rw [ex]; rfl)
      | cons n r =>
        (repeat refine sw_seq ?_); refine sw_region ?_
        repeat (first | refine sR (h := ?_) | refine sK (h := ?_) | refine sT (h := aM (h := ?_)) | refine sT (h := aB (h := ?_)) | refine sT (h := aA (h := ?_)) | refine sT (h := aS (h := ?_)) | refine sT (h := aL (h := ?_)))
        rw [show decide ((((n :: r).map Nod.pv).length : Int) > 0) = true by simp]
        repeat (first | refine sR (h := ?_) | refine sK (h := ?_) | refine sT (h := aM (h := ?_)) | refine sT (h := aB (h := ?_)) | refine sT (h := aA (h := ?_)) | refine sT (h := aS (h := ?_)) | refine sT (h := aL (h := ?_)))
        by_cases h1 : made.length = 1
        · obtain ⟨b, rfl⟩ : ∃ b, made = [b] := List.length_eq_one_iff.1 h1
          repeat (first | refine sR (h := ?_) | refine sK (h := ?_) | refine sT (h := aM (h := ?_)) | refine sT (h := aB (h := ?_)) | refine sT (h := aA (h := ?_)) | refine sT (h := aS (h := ?_)) | refine sT (h := aL (h := ?_)))
          refine swt_read ttab_ok rfl rfl (by simp [bools]) rfl ?_
          repeat (first | refine sR (h := ?_) | refine sK (h := ?_) | refine sT (h := aM (h := ?_)) | refine sT (h := aB (h := ?_)) | refine sT (h := aA (h := ?_)) | refine sT (h := aS (h := ?_)) | refine sT (h := aL (h := ?_)))
          refine swt_read ttab_ok rfl rfl (by simp [bools]) rfl ?_
          repeat (first | refine sR (h := ?_) | refine sK (h := ?_) | refine sT (h := aM (h := ?_)) | refine sT (h := aB (h := ?_)) | refine sT (h := aA (h := ?_)) | refine sT (h := aS (h := ?_)) | refine sT (h := aL (h := ?_)))
          refine swt_nil ?_
          (repeat refine sw_seq ?_); refine sw_cond rfl (fun h => ?_) (fun h => ?_)
          · have hb : b = true := by simpa [bools] using h
            (repeat refine sw_seq ?_); refine sw_region ?_
            repeat (first | refine sR (h := ?_) | refine sK (h := ?_) | refine sT (h := aM (h := ?_)) | refine sT (h := aB (h := ?_)) | refine sT (h := aA (h := ?_)) | refine sT (h := aS (h := ?_)) | refine sT (h := aL (h := ?_)))
            refine swt_nil ?_
            (repeat refine sw_seq ?_); refine sw_ret ?_
            exact fin_i rfl (by rw [ex, hb]; rfl)
          · have hb : b = false := by simpa [bools] using h
            refine sw_skip ?_
            (repeat refine sw_seq ?_); refine sw_region ?_
            repeat (first | refine sR (h := ?_) | refine sK (h := ?_) | refine sT (h := aM (h := ?_)) | refine sT (h := aB (h := ?_)) | refine sT (h := aA (h := ?_)) | refine sT (h := aS (h := ?_)) | refine sT (h := aL (h := ?_)))
            refine swt_nil ?_
            (repeat refine sw_seq ?_); refine sw_ret ?_
            exact fin_i rfl (by rw [ex, hb]; rfl)
        · rw [show (((bools made).length : Int) != 1) = true by simp [bools]; omega]
          repeat (first | refine sR (h := ?_) | refine sK (h := ?_) | refine sT (h := aM (h := ?_)) | refine sT (h := aB (h := ?_)) | refine sT (h := aA (h := ?_)) | refine sT (h := aS (h := ?_)) | refine sT (h := aL (h := ?_)))
          refine swt_nil ?_
          (repeat refine sw_seq ?_); refine sw_cond rfl (fun h => ?_) (fun h => ?_)
          · (repeat refine sw_seq ?_); refine sw_region ?_
            repeat (first | refine sR (h := ?_) | refine sK (h := ?_) | refine sT (h := aM (h := ?_)) | refine sT (h := aB (h := ?_)) | refine sT (h := aA (h := ?_)) | refine sT (h := aS (h := ?_)) | refine sT (h := aL (h := ?_)))
            refine swt_nil ?_
            (repeat refine sw_seq ?_); refine sw_ret ?_
            exact fin_i rfl (by rw [ex, if_neg (by rintro (h | rfl); cases h; exact h1 rfl)])
          · cases h
end Go.Proofs.Ytjpcchipejmocaa
