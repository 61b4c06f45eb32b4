/-
  What the statement leans on, part 3: PolW, Cvt, PolRuns, PolDeepP, Within, ShMake, LexS, PackP, Bits, Pend, Eval, EvalOk, ByteH, Fork, PolDeep, LawKit0, LawKit, Data0.
-/
import Derived.Laws.MakeOwn
import Derived.Laws.CopyRow
import Derived.Scope
import Derived.Laws.BytesString
import Derived.Test.YtlmgamnpfdgdeaaRows
import Derived.Test.YtlmgamnpfdgdeaaPk1
import Derived.Test.YtlmgamnpfdgdeaaPk2
namespace Go.Proofs.Ytlmgamnpfdgdeaa
set_option linter.unusedVariables false
set_option linter.unusedSimpArgs false
open Go.RowKit
set_option maxHeartbeats 2000000
def ents (m : List ByteArray) : List (Value × PV) := m.map fun s => (.string s, .agg [])
def wlkO (w : Wlk) : List (Nat × Box) := [(1000000, .cells [.row 1000001, .p (pI w.rules)]), (1000001, .mp (ents w.met))]
abbrev wlkR : List (Nat × Nat) := [(1000000, 1000000), (1000001, 1000001)]
theorem ents_ok : ∀ m : List ByteArray, (ents m).all (fun x => kdOk .str x.1) = true
  | [] => rfl
  | s :: m => by
    have := ents_ok m
    simp only [ents, List.map_cons, List.all_cons, Bool.and_eq_true] at this ⊢
    exact ⟨rfl, this⟩
theorem mfind_ents (s : ByteArray) : ∀ m : List ByteArray, mfind (.string s) (ents m) = if hasS m s then some (.agg []) else none
  | [] => rfl
  | t :: m => by
    have ih := mfind_ents s m
    show (bif keyEq (.string s) (.string t) then some (PV.agg []) else mfind (.string s) (ents m)) = _
    rw [ih]
    by_cases e : s = t
    · subst e; simp [keyEq, hasS]
    · have e' : ∀ i : Decidable (s = t), @decide (s = t) i = false := fun i => by
        cases i with
        | isTrue h => exact absurd h e
        | isFalse h => rfl
      rw [show keyEq (.string s) (.string t) = false from e' _]
      unfold hasS
      rw [List.any_cons, e', cond_false, Bool.false_or]
theorem ents_snoc (m : List ByteArray) (s : ByteArray) : ents m ++ [(.string s, .agg [])] = ents (m ++ [s]) := by simp [ents]
theorem wname_h (m : List ByteArray) (n : Int) (s : ByteArray) (hs : s.size ≤ reachBytes) : HoldsW Try.prog 13 [.ptr 1000000 0, .p (pS s)] (wlkO ⟨m, n⟩) (.p (pB (nameOk m s))) (wlkO ⟨nameM m s, n⟩) := by
  by_cases hm : hasS m s = true
  · have e1 : nameOk m s = false := by simp [nameOk, hm]
    have e2 : nameM m s = m := by simp [nameM, e1]
    rw [e1, e2]
    refine qH (ts := [4]) Try.func13 (by kernel_rfl) rfl rfl rfl ?_
    refine uA ?_
    refine uR ?_
    refine qp qa rfl rfl (ents_ok m) rfl ?_
    rw [mfind_ents, if_pos hm]
    refine uS ?_
    refine qh ?_
    (repeat refine qw ?_); refine qk (by kernel_rfl) ?_
    repeat (refine qm qa rfl (by exact True.intro) rfl ?_)
    refine qT rfl rfl rfl rfl (name_h s hs) rfl rfl ?_
    repeat (refine qm qa rfl (by exact True.intro) rfl ?_)
    refine qJ ?_
    refine uC (fun h => ?_) (fun h => ?_)
    · refine uA ?_
      refine uQ ?_
      exact ⟨Or.inr rfl, _, _, wlkR, Wk.refl _, rfl, rfl, rfl, rfl⟩
    · cases h
  · refine qH (ts := [4]) Try.func13 (by kernel_rfl) rfl rfl rfl ?_
    refine uA ?_
    refine uR ?_
    refine qp qa rfl rfl (ents_ok m) rfl ?_
    rw [mfind_ents, if_neg hm]
    refine uS ?_
    refine qh ?_
    (repeat refine qw ?_); refine qk (by kernel_rfl) ?_
    repeat (refine qm qa rfl (by exact True.intro) rfl ?_)
    refine qT rfl rfl rfl rfl (name_h s hs) rfl rfl ?_
    repeat (refine qm qa rfl (by exact True.intro) rfl ?_)
    refine qJ ?_
    refine uC (fun h => ?_) (fun h => ?_)
    · have e0 : nameS s = false := by simpa using h
      have e1 : nameOk m s = false := by simp [nameOk, e0]
      have e2 : nameM m s = m := by simp [nameM, e1]
      rw [e1, e2]
      refine uA ?_
      refine uQ ?_
      exact ⟨Or.inr rfl, _, _, wlkR, Wk.refl _, rfl, rfl, rfl, rfl⟩
    · have e0 : nameS s = true := by simpa using h
      have e1 : nameOk m s = true := by simp [nameOk, e0, hm]
      have e2 : nameM m s = m ++ [s] := by simp [nameM, e1]
      rw [e1, e2]
      refine qj ?_
      refine uR ?_
      refine swt_act rfl (act_mapUpdate qa rfl rfl rfl rfl rfl rfl rfl rfl rfl (ents_ok m) (by rw [mfind_ents, if_neg hm]) rfl ?_)
      rw [ents_snoc]
      refine uS ?_
      refine qh ?_
      refine uA ?_
      refine uQ ?_
      exact ⟨Or.inr rfl, _, _, wlkR, Wk.refl _, rfl, rfl, rfl, rfl⟩
def TarFit (t : Tar) : Prop := ∀ x ∈ t, ∀ y ∈ x, ∀ m ∈ y, m.Fit
structure RulFit (r : Rul) : Prop where
  id : r.id.size ≤ reachBytes
  tgt : TarFit r.target
  cond : ∀ n ∈ r.cond, n.Fit
  obls : ∀ o ∈ r.obls, o.Fit
theorem wrule_h (w : Wlk) (hw : 0 ≤ w.rules ∧ w.rules ≤ 64) (r : Rul) (hr : RulFit r) : HoldsW Try.prog 11 [.ptr 1000000 0, .p (.agg (ruleP r))] (wlkO w) (.p (pI (zE w r).1)) (wlkO (zE w r).2) := by
  have H := wname_h w.met w.rules r.id hr.id
  cases hn : nameOk w.met r.id with
  | false =>
    have e : zE w r = (1, w) := by simp [zE, hn]
    have e2 : nameM w.met r.id = w.met := by simp [nameM, hn]
    rw [hn, e2] at H
    rw [e]
    refine qH (ts := [4]) Try.func11 (by kernel_rfl) rfl rfl rfl ?_
    refine uA ?_
    refine uR ?_
    refine uW wlkR H ?_
    refine qh ?_
    refine uC (fun h => ?_) (fun h => ?_)
    · refine uA ?_
      refine uQ ?_
      exact ⟨Or.inr rfl, _, _, wlkR, Wk.refl _, rfl, rfl, rfl, rfl⟩
    · cases h
  | true =>
    have e2 : nameM w.met r.id = w.met ++ [r.id] := by simp [nameM, hn]
    rw [hn, e2] at H
    have e : zE w r = (if 64 < w.rules + 1 then 6 else ruleE r, ⟨w.met ++ [r.id], w.rules + 1⟩) := by simp [zE, hn]
    rw [e]
    refine qH (ts := [4]) Try.func11 (by kernel_rfl) rfl rfl rfl ?_
    refine uA ?_
    refine uR ?_
    refine uW wlkR H ?_
    refine qh ?_
    refine uC (fun h => ?_) (fun h => ?_)
    · cases h
    · refine qj ?_
      refine uA ?_
      rw [show IntKind.i64.wrap (w.rules + 1) = w.rules + 1 from IntWalk.i64_in _ (by omega)]
      refine uA ?_
      refine uC (fun h => ?_) (fun h => ?_)
      · have h1 : 64 < w.rules + 1 := by simp at h; omega
        rw [if_pos h1]
        refine uA ?_
        refine uQ ?_
        exact ⟨Or.inr rfl, _, _, wlkR, Wk.refl _, rfl, rfl, rfl, rfl⟩
      · have h1 : ¬ 64 < w.rules + 1 := by simp at h; omega
        rw [if_neg h1]
        unfold ruleE
        refine qj ?_
        refine uR ?_
        refine uK (target_h r.target hr.tgt) ?_
        refine qh ?_
        refine uA ?_
        refine uC (fun h => ?_) (fun h => ?_)
        · have h2 : ¬ za r.target = 0 := by simpa using h
          rw [if_neg h2]
          refine uA ?_
          refine uQ ?_
          exact ⟨Or.inr rfl, _, _, wlkR, Wk.refl _, rfl, rfl, rfl, rfl⟩
        · have h2 : za r.target = 0 := by simpa using h
          rw [if_pos h2]
          refine qj ?_
          refine uR ?_
          refine uK (expr_h r.cond hr.cond) ?_
          refine qh ?_
          refine uA ?_
          refine uC (fun h => ?_) (fun h => ?_)
          · have h3 : ¬ exprS r.cond = 0 := by simpa using h
            rw [if_neg h3]
            refine uA ?_
            refine uQ ?_
            exact ⟨Or.inr rfl, _, _, wlkR, Wk.refl _, rfl, rfl, rfl, rfl⟩
          · have h3 : exprS r.cond = 0 := by simpa using h
            rw [if_pos h3]
            refine qj ?_
            refine uR ?_
            refine uK (obls_h r.obls hr.obls) ?_
            refine qh ?_
            refine uQ ?_
            exact ⟨Or.inr rfl, _, _, wlkR, Wk.refl _, rfl, rfl, rfl, rfl⟩
mutual
def polP : Pol → List PV
  | .mk id set alg target rules kids obls => [pS id, pB set, pI alg, tgtP target, .sl 5 (rules.map ruleP), .sl 7 (polPs kids), oblsP obls]
def polPs : List Pol → List (List PV)
  | [] => []
  | k :: r => polP k :: polPs r
end
theorem polPs_eq : ∀ l : List Pol, polPs l = l.map polP
  | [] => rfl
  | k :: r => by rw [polPs, polPs_eq r]; rfl
theorem polP_eq (p : Pol) : polP p = [pS p.id, pB p.set, pI p.alg, tgtP p.target, .sl 5 (p.rules.map ruleP), .sl 7 (p.kids.map polP), oblsP p.obls] := by
  cases p
  rw [polP, polPs_eq]; rfl
structure HeadFit (p : Pol) : Prop where
  id : p.id.size ≤ reachBytes
  tgt : TarFit p.target
  rules : ∀ r ∈ p.rules, RulFit r
  obls : ∀ o ∈ p.obls, o.Fit
  nr : p.rules.length ≤ reachBytes
  nk : p.kids.length ≤ reachBytes
theorem whead_h (w : Wlk) (p : Pol) (hp : HeadFit p) : HoldsW Try.prog 10 [.ptr 1000000 0, .p (.agg (polP p))] (wlkO w) (.p (pI (headS w p).1)) (wlkO (headS w p).2) := by
  have H := wname_h w.met w.rules p.id hp.id
  have l1 : ((p.rules.map ruleP).length) = p.rules.length := by simp
  have l2 : ((p.kids.map polP).length) = p.kids.length := by simp
  rw [polP_eq]
  unfold headS
  cases hn : nameOk w.met p.id with
  | false =>
    rw [hn] at H
    simp only [Bool.false_and, Bool.false_eq_true, if_false]
    refine qH (ts := [4]) Try.func10 (by kernel_rfl) rfl rfl rfl ?_
    refine uA ?_
    refine uR ?_
    refine uW wlkR H ?_
    refine qh ?_
    refine uC (fun h => ?_) (fun h => ?_)
    · refine uA ?_
      refine uQ ?_
      exact ⟨Or.inr rfl, _, _, wlkR, Wk.refl _, rfl, rfl, rfl, rfl⟩
    · cases h
  | true =>
    rw [hn] at H
    refine qH (ts := [4]) Try.func10 (by kernel_rfl) rfl rfl rfl ?_
    refine uA ?_
    refine uR ?_
    refine uW wlkR H ?_
    by_cases h1 : p.alg < 1
    · rw [show decide (p.alg < 1) = true from decide_eq_true h1]
      refine uS ?_
      refine qh ?_
      refine uC (fun h => ?_) (fun h => ?_)
      · rw [if_neg (by simp; omega)]
        refine uA ?_
        refine uQ ?_
        exact ⟨Or.inr rfl, _, _, wlkR, Wk.refl _, rfl, rfl, rfl, rfl⟩
      · cases h
    · rw [show decide (p.alg < 1) = false from decide_eq_false h1]
      refine uS ?_
      refine qh ?_
      refine uC (fun h => ?_) (fun h => ?_)
      · have h2 : 6 < p.alg := by simpa using h
        rw [if_neg (by simp; omega)]
        refine uA ?_
        refine uQ ?_
        exact ⟨Or.inr rfl, _, _, wlkR, Wk.refl _, rfl, rfl, rfl, rfl⟩
      · have h2 : ¬ 6 < p.alg := by simpa using h
        rw [if_pos (by simp; omega)]
        unfold headE
        refine qj ?_
        (repeat refine qw ?_); refine qk (by kernel_rfl) ?_
        repeat (refine qm qa rfl (by exact True.intro) rfl ?_)
        refine qJ ?_
        rw [l1, l2]
        refine uC (fun h => ?_) (fun h => ?_)
        · rw [if_pos (by revert h; cases p.set <;> simp)]
          refine uA ?_
          refine uQ ?_
          exact ⟨Or.inr rfl, _, _, wlkR, Wk.refl _, rfl, rfl, rfl, rfl⟩
        · rw [if_neg (by revert h; cases p.set <;> simp)]
          refine qj ?_
          refine uR ?_
          refine uK (target_h p.target hp.tgt) ?_
          refine qh ?_
          refine uA ?_
          refine uC (fun h => ?_) (fun h => ?_)
          · have h3 : ¬ za p.target = 0 := by simpa using h
            rw [if_neg h3]
            refine uA ?_
            refine uQ ?_
            exact ⟨Or.inr rfl, _, _, wlkR, Wk.refl _, rfl, rfl, rfl, rfl⟩
          · have h3 : za p.target = 0 := by simpa using h
            rw [if_pos h3]
            refine qj ?_
            refine uR ?_
            refine uK (obls_h p.obls hp.obls) ?_
            refine qh ?_
            refine uA ?_
            refine uC (fun h => ?_) (fun h => ?_)
            · have h4 : ¬ oblsS p.obls = 0 := by simpa using h
              rw [if_neg h4]
              refine uA ?_
              refine uQ ?_
              exact ⟨Or.inr rfl, _, _, wlkR, Wk.refl _, rfl, rfl, rfl, rfl⟩
            · have h4 : oblsS p.obls = 0 := by simpa using h
              rw [if_pos h4]
              refine qj ?_
              (repeat refine qw ?_); refine qk (by kernel_rfl) ?_
              repeat (refine qm qa rfl (by exact True.intro) rfl ?_)
              refine qJ ?_
              rw [l1, l2]
              refine uC (fun h => ?_) (fun h => ?_)
              · rw [if_pos (by simp at h; omega)]
                refine uA ?_
                refine uQ ?_
                exact ⟨Or.inr rfl, _, _, wlkR, Wk.refl _, rfl, rfl, rfl, rfl⟩
              · rw [if_neg (by simp at h; omega)]
                refine qj ?_
                refine uA ?_
                refine uQ ?_
                exact ⟨Or.inr rfl, _, _, wlkR, Wk.refl _, rfl, rfl, rfl, rfl⟩
def PolFit : Nat → Pol → Prop
  | 0, _ => True
  | n + 1, p => HeadFit p ∧ ∀ k ∈ p.kids, PolFit n k
theorem wpol_h : ∀ (n : Nat) (hn : n ≤ 4) (w : Wlk) (p : Pol), lim w → PolFit n p → HoldsW Try.prog 8 [.ptr 1000000 0, .p (.agg (polP p)), .p (pI (5 - n))] (wlkO w) (.p (pI (polS n w p).1)) (wlkO (polS n w p).2)
  | 0, _, w, p, _, _ => by
    rw [polP_eq]
    refine qH (ts := [6]) Try.func8 (by kernel_rfl) rfl rfl rfl ?_
    refine uA ?_
    refine uA ?_
    refine uC (fun h => ?_) (fun h => ?_)
    · refine uA ?_
      refine uQ ?_
      exact ⟨Or.inr rfl, _, _, wlkR, Wk.refl _, rfl, rfl, rfl, rfl⟩
    · cases h
  | n + 1, hn, w, p, hw, hf => by
    have H := whead_h w p hf.1
    have IH := fun w k hw hk => wpol_h n (by omega) w k hw hk
    have l1 : ((p.rules.map ruleP).length) = p.rules.length := by simp
    have l2 : ((p.kids.map polP).length) = p.kids.length := by simp
    rw [polP_eq] at H ⊢
    rw [polS]
    have hlen := hf.1.nr
    have hlen2 := hf.1.nk
    unfold reachBytes at hlen hlen2
    refine qH (ts := [6]) Try.func8 (by kernel_rfl) rfl rfl rfl ?_
    refine uA ?_
    refine uA ?_
    refine uC (fun h => ?_) (fun h => ?_)
    · exfalso
      simp at h
      omega
    · refine qj ?_
      refine uR ?_
      refine uW wlkR H ?_
      refine qh ?_
      refine uA ?_
      refine uC (fun h => ?_) (fun h => ?_)
      · have h1 : ¬ (headS w p).1 = 0 := by simpa using h
        rw [if_neg h1]
        refine uA ?_
        refine uQ ?_
        exact ⟨Or.inr rfl, _, _, wlkR, Wk.refl _, rfl, rfl, rfl, rfl⟩
      · have h1 : (headS w p).1 = 0 := by simpa using h
        rw [if_pos h1]
        have hw1 : lim (headS w p).2 := hw
        generalize (headS w p).2 = w1 at *
        refine qj ?_
        refine uA ?_
        refine uB ?_
        refine uZ [0, 2, 4, 23, 24, 25] [(1000000, 1000000), (1000001, 1000001), (4, 4)] ?_
        refine qY (fun m s => ∃ (k : Nat) (kk : Int) (wk : Wlk), k ≤ p.rules.length ∧ m = p.rules.length - k ∧ kk = k ∧ (seqS zE w1 (p.rules.take k)).1 = 0 ∧ wk = (seqS zE w1 (p.rules.take k)).2 ∧
          s = ⟨52, [(0, .ptr 1000000 0), (2, .p (pI (5 - (n + 1 : Nat)))), (4, .ptr 4 0), (23, .p (.sl 5 (p.rules.map ruleP))), (24, .p (pI p.rules.length)), (25, .p (pI kk))], wlkO wk ++ [(4, .cells ([pS p.id, pB p.set, pI p.alg, tgtP p.target, .sl 5 (p.rules.map ruleP), .sl 7 (p.kids.map polP), oblsP p.obls].map .p))]⟩) p.rules.length ⟨0, 0, w1, Nat.zero_le _, rfl, rfl, rfl, rfl, by rw [← l1]; rfl⟩ ?_
        rintro m s ⟨k, _, wk, hk, rfl, rfl, ha, hwk, rfl⟩
        have hlk : lim wk := by rw [hwk]; exact seqS_lim (P := lim) (fun w x hw h => ruleS_lim hw h) hw1 ha
        refine uA ?_
        refine uC (fun hlt => ?_) (fun hlt => ?_)
        · refine qj ?_
          simp only [decide_eq_true_eq] at hlt
          have hlt' : k < p.rules.length := by omega
          have hst := seqS_some hlt' ha
          rw [← hwk] at hst
          refine uB ?_
          refine uR ?_
          refine qp qa rfl rfl (by rw [l1]; omega) rfl ?_
          rw [ze hlt']
          refine uS ?_
          refine qh ?_
          have H2 := wrule_h wk hlk p.rules[k] (hf.1.rules _ (List.getElem_mem hlt'))
          refine uR ?_
          refine uW wlkR H2 ?_
          refine qh ?_
          refine uA ?_
          refine uC (fun h => ?_) (fun h => ?_)
          · have h2 : ¬ (zE wk p.rules[k]).1 = 0 := by simpa using h
            have e : seqS zE w1 p.rules = zE wk p.rules[k] := by rw [seqS_stop (k + 1) (by rw [hst]; exact h2), hst]
            rw [e, if_neg h2]
            refine uA ?_
            refine uQ ?_
            exact ⟨Or.inr rfl, _, _, wlkR, Wk.refl _, rfl, rfl, rfl, rfl⟩
          · have h2 : (zE wk p.rules[k]).1 = 0 := by simpa using h
            refine qj ?_
            refine uA ?_
            refine ⟨_, _, ?_, qq [0, 2, 4, 23, 24, 25] [(1000000, 1000000), (1000001, 1000001), (4, 4)] rfl rfl, k + 1, _, _, hlt', rfl, qy hlt' (by omega), by rw [hst]; exact h2, by rw [hst], rfl⟩
            omega
        · refine qR ?_
          simp only [decide_eq_false_iff_not] at hlt
          have hkk : k = p.rules.length := by omega
          subst hkk
          rw [List.take_length] at ha hwk
          rw [if_pos ha, ← hwk]
          clear hwk
          refine uA ?_
          refine uB ?_
          refine uZ [0, 2, 37, 38, 39] [(1000000, 1000000), (1000001, 1000001)] ?_
          refine qY (fun m s => ∃ (k : Nat) (kk : Int) (w2 : Wlk), k ≤ p.kids.length ∧ m = p.kids.length - k ∧ kk = k ∧ (seqS (polS n) wk (p.kids.take k)).1 = 0 ∧ w2 = (seqS (polS n) wk (p.kids.take k)).2 ∧
            s = ⟨52, [(0, .ptr 1000000 0), (2, .p (pI (5 - (n + 1 : Nat)))), (37, .p (.sl 7 (p.kids.map polP))), (38, .p (pI p.kids.length)), (39, .p (pI kk))], wlkO w2⟩) p.kids.length ⟨0, 0, wk, Nat.zero_le _, rfl, rfl, rfl, rfl, by rw [← l2]; rfl⟩ ?_
          rintro m s ⟨k, _, w2, hk, rfl, rfl, ha, hwk, rfl⟩
          have hl2 : lim w2 := by rw [hwk]; exact seqS_lim (P := lim) (fun w x hw h => polS_lim n w x hw h) hlk ha
          refine uA ?_
          refine uC (fun hlt => ?_) (fun hlt => ?_)
          · refine qj ?_
            simp only [decide_eq_true_eq] at hlt
            have hlt' : k < p.kids.length := by omega
            have hst := seqS_some hlt' ha
            rw [← hwk] at hst
            refine uB ?_
            refine uR ?_
            refine qp qa rfl rfl (by rw [l2]; omega) rfl ?_
            rw [ze hlt', polP_eq]
            refine uS ?_
            refine qh ?_
            have H2 := IH w2 p.kids[k] hl2 (hf.2 _ (List.getElem_mem hlt'))
            rw [polP_eq] at H2
            refine uR ?_
            rw [show IntKind.i64.wrap ((5 : Int) - (n + 1 : Nat) + 1) = 5 - (n : Int) by rw [IntWalk.i64_in _ (by omega)]; omega]
            refine uW wlkR H2 ?_
            refine qh ?_
            refine uA ?_
            refine uC (fun h => ?_) (fun h => ?_)
            · have h2 : ¬ (polS n w2 p.kids[k]).1 = 0 := by simpa using h
              have e : seqS (polS n) wk p.kids = polS n w2 p.kids[k] := by rw [seqS_stop (k + 1) (by rw [hst]; exact h2), hst]
              rw [e]
              refine uA ?_
              refine uQ ?_
              exact ⟨Or.inr rfl, _, _, wlkR, Wk.refl _, rfl, rfl, rfl, rfl⟩
            · have h2 : (polS n w2 p.kids[k]).1 = 0 := by simpa using h
              refine qj ?_
              refine uA ?_
              refine ⟨_, _, ?_, qq [0, 2, 37, 38, 39] [(1000000, 1000000), (1000001, 1000001)] rfl rfl, k + 1, _, _, hlt', rfl, qy hlt' (by omega), by rw [hst]; exact h2, by rw [hst], rfl⟩
              omega
          · refine qR ?_
            simp only [decide_eq_false_iff_not] at hlt
            have hkk : k = p.kids.length := by omega
            subst hkk
            rw [List.take_length] at ha hwk
            rw [ha, ← hwk]
            refine uA ?_
            refine uQ ?_
            exact ⟨Or.inr rfl, _, _, wlkR, Wk.refl _, rfl, rfl, rfl, rfl⟩
theorem right_h (p : Pol) (hf : PolFit 4 p) : Holds Try.prog 6 [.agg (polP p)] (.p (pI (rightS p))) [] := by
  have H := wpol_h 4 (Nat.le_refl _) ⟨[], 0⟩ p ⟨Int.le_refl _, by decide⟩ hf
  rw [polP_eq] at H ⊢
  refine qA (ts := [2]) Try.func6 (by kernel_rfl) rfl rfl rfl ?_
  refine uA ?_
  refine uA ?_
  refine uR ?_
  refine uW [(6, 1000000), (4, 1000001)] H ?_
  refine qh ?_
  refine uQ ?_
  exact uF []
end Go.Proofs.Ytlmgamnpfdgdeaa
namespace Go.Proofs.Ytlmgamnpfdgdeaa
set_option linter.unusedVariables false
set_option linter.unusedSimpArgs false
open Go.RowKit
abbrev nilV : PV := .v (.slice none 0 0)
inductive Cv : PV → PV → Prop
  | refl (p : PV) : Cv p p
  | nil (z : Nat) : Cv (.v (.slice none 0 0)) (.sl z [])
  | agg {cs ds : List PV} (hl : cs.length = ds.length) (h : ∀ (i : Nat) (c d : PV), cs[i]? = some c → ds[i]? = some d → Cv c d) : Cv (.agg cs) (.agg ds)
  | sl {z : Nat} {l m : List (List PV)} (hl : l.length = m.length) (he : ∀ (i : Nat) (e f : List PV), l[i]? = some e → m[i]? = some f → e.length = f.length) (h : ∀ (i j : Nat) (e f : List PV) (c d : PV), l[i]? = some e → m[i]? = some f → e[j]? = some c → f[j]? = some d → Cv c d) : Cv (.sl z l) (.sl z m)
def CvL (cs ds : List PV) : Prop := cs.length = ds.length ∧ ∀ (i : Nat) (c d : PV), cs[i]? = some c → ds[i]? = some d → Cv c d
theorem CvL.nil : CvL [] [] := ⟨rfl, fun i c d h => by simp at h⟩
theorem CvL.cons {c d : PV} {cs ds : List PV} (h : Cv c d) (t : CvL cs ds) : CvL (c :: cs) (d :: ds) := ⟨by simp [t.1], fun i x y hx hy => by
  cases i with
  | zero => simp at hx hy; subst hx; subst hy; exact h
  | succ i => exact t.2 i x y (by simpa using hx) (by simpa using hy)⟩
theorem CvL.refl (l : List PV) : CvL l l := ⟨rfl, fun i c d h1 h2 => by rw [h1] at h2; cases h2; exact .refl _⟩
theorem CvL.agg {cs ds : List PV} (h : CvL cs ds) : Cv (.agg cs) (.agg ds) := .agg h.1 h.2
def CvM (l m : List (List PV)) : Prop := l.length = m.length ∧ ∀ (i : Nat) (e f : List PV), l[i]? = some e → m[i]? = some f → CvL e f
theorem CvM.nil : CvM [] [] := ⟨rfl, fun i c d h => by simp at h⟩
theorem CvM.cons {c d : List PV} {cs ds : List (List PV)} (h : CvL c d) (t : CvM cs ds) : CvM (c :: cs) (d :: ds) := ⟨by simp [t.1], fun i x y hx hy => by
  cases i with
  | zero => simp at hx hy; subst hx; subst hy; exact h
  | succ i => exact t.2 i x y (by simpa using hx) (by simpa using hy)⟩
theorem CvM.sl {z : Nat} {l m : List (List PV)} (h : CvM l m) : Cv (.sl z l) (.sl z m) := .sl h.1 (fun i e f h1 h2 => (h.2 i e f h1 h2).1) fun i j e f c d h1 h2 h3 h4 => (h.2 i e f h1 h2).2 j c d h3 h4
theorem Cv.one {p q : PV} (h : Cv p q) : oneP q = oneP p := by
  cases h <;> rfl
theorem RelP.cv {ok : Nat → Prop} {w : World} {p q : PV} (hc : Cv p q) : ∀ {u : Value}, RelP ok w p u → RelP ok w q u := by
  induction hc with
  | refl => exact fun h => h
  | nil z =>
    intro u h
    cases h
    exact .sl (l := []) (Nat.zero_le _) ⟨Nat.zero_le _, Nat.zero_le _⟩ (by simp) (fun h => absurd h (by simp)) (fun b o i j h => by cases h) (fun b o i j e s u h => by cases h)
  | agg hl h ih =>
    intro u hr
    cases hr with
    | @agg _ us hl2 hr =>
      refine .agg (by omega) fun i s u hs hu => ?_
      have hi : i < us.length := (List.getElem?_eq_some_iff.1 hu).1
      exact ih i _ s (List.getElem?_eq_getElem (by omega)) hs (hr i _ u (List.getElem?_eq_getElem (by omega)) hu)
  | @sl z l m hl he h ih =>
    intro u hr
    cases hr with
    | @sl _ _ A c hc hm hle hA hx hr =>
      rw [hl] at hc hm ⊢
      refine .sl hc hm (fun e hem => ?_) (fun h => hA (by omega)) (fun b o i j hAb hi hj => hx b o i j hAb (by omega) hj) (fun b o i j e s u hAb hi hj hu => ?_)
      · obtain ⟨i, hi, rfl⟩ := List.mem_iff_getElem.1 hem
        have hl0 : l[i]? = some (l[i]'(by omega)) := List.getElem?_eq_getElem (by omega)
        have hm0 : m[i]? = some m[i] := List.getElem?_eq_getElem hi
        obtain ⟨q1, q2⟩ := hle _ (List.getElem_mem (show i < l.length by omega))
        have q3 := he i _ _ hl0 hm0
        refine ⟨by omega, fun s hs => ?_⟩
        obtain ⟨j, hj, rfl⟩ := List.mem_iff_getElem.1 hs
        have := (h i j _ _ _ _ hl0 hm0 (List.getElem?_eq_getElem (by omega)) (List.getElem?_eq_getElem hj)).one
        rw [this]
        exact q2 _ (List.getElem_mem _)
      · have hi' : i < m.length := (List.getElem?_eq_some_iff.1 hi).1
        have hl0 : l[i]? = some (l[i]'(by omega)) := List.getElem?_eq_getElem (by omega)
        have q3 := he i _ _ hl0 hi
        have hj' : j < e.length := (List.getElem?_eq_some_iff.1 hj).1
        exact ih i j _ _ _ _ hl0 hi (List.getElem?_eq_getElem (by omega)) hj (hr b o i j _ _ u hAb hl0 (List.getElem?_eq_getElem (by omega)) hu)
theorem Holds.cv {P : Program} {f : FuncId} {args args' : List PV} {r : SV} {own : List (Nat × Box)} (h : Holds P f args r own) (hc : CvL args' args) : Holds P f args' r own :=
  ⟨h.1, fun w Sx vs hSx hl hr => h.2 w Sx vs hSx (by rw [hl, hc.1]) fun i s u hs hu => by
    have hi : i < args.length := (List.getElem?_eq_some_iff.1 hs).1
    have h0 : args'[i]? = some (args'[i]'(by rw [hc.1]; exact hi)) := List.getElem?_eq_getElem _
    exact (hr i _ u h0 hu).cv (hc.2 i _ s h0 hs)⟩
theorem Holds.res {P : Program} {f : FuncId} {args : List PV} {r r' : SV} {own : List (Nat × Box)} (h : Holds P f args r own) (e : r = r') : Holds P f args r' own := e ▸ h
end Go.Proofs.Ytlmgamnpfdgdeaa
namespace Go.Proofs.Ytlmgamnpfdgdeaa
set_option linter.unusedVariables false
set_option linter.unusedSimpArgs false
open Go.RowKit
set_option maxHeartbeats 2000000
def nOwner : Nod := ⟨2, ⟨0, 0, ⟨#[]⟩⟩, ⟨3, ⟨#[111, 119, 110, 101, 114]⟩, false⟩⟩
def nId : Nod := ⟨2, ⟨0, 0, ⟨#[]⟩⟩, ⟨1, ⟨#[105, 100]⟩, false⟩⟩
def nOp (n : Int) : Nod := ⟨n, ⟨0, 0, ⟨#[]⟩⟩, ⟨0, ⟨#[]⟩, false⟩⟩
def nNum : Nod := ⟨1, ⟨2, 1, ⟨#[]⟩⟩, ⟨0, ⟨#[]⟩, false⟩⟩
def pP : Pol := .mk ⟨#[112]⟩ false 1 [] [] [] []
def pS0 : Pol := .mk ⟨#[115]⟩ true 4 [] [] [pP, pP] []
theorem nod_fit (op k n : Int) (s : ByteArray) (c : Int) (a : ByteArray) (b : Bool) (h1 : R64 op) (h2 : R64 k) (h3 : R64 n) (h4 : s.size ≤ reachBytes) (h5 : R64 c) (h6 : a.size ≤ reachBytes) : (⟨op, ⟨k, n, s⟩, ⟨c, a, b⟩⟩ : Nod).Fit := ⟨h1, ⟨h2, h3, h4⟩, ⟨h5, h6⟩⟩
theorem runs_fit : ∀ x ∈ [nOwner, nId, nOp 3, nOp 6, nNum], x.Fit := by
  intro x hx
  simp only [List.mem_cons, List.not_mem_nil, or_false] at hx
  rcases hx with rfl | rfl | rfl | rfl | rfl <;> refine nod_fit _ _ _ _ _ _ _ ⟨by decide, by decide⟩ ⟨by decide, by decide⟩ ⟨by decide, by decide⟩ (by decide) ⟨by decide, by decide⟩ (by decide)
theorem pol0_fit (id : ByteArray) (s : Bool) (a : Int) (kids : List Pol) (h : id.size ≤ 100) (hk : kids.length ≤ 100) : HeadFit (.mk id s a [] [] kids []) :=
  ⟨by show id.size ≤ _; unfold reachBytes; omega, (fun x hx => by cases hx), (fun x hx => by cases hx), (fun x hx => by cases hx), by show 0 ≤ _; omega, by show kids.length ≤ _; unfold reachBytes; omega⟩
theorem pP_fit : ∀ n, PolFit n pP
  | 0 => True.intro
  | n + 1 => ⟨pol0_fit _ _ _ _ (by decide) (by decide), fun k hk => by cases hk⟩
theorem pS0_fit : ∀ n, PolFit n pS0
  | 0 => True.intro
  | n + 1 => ⟨pol0_fit _ _ _ _ (by decide) (by decide), fun k hk => by
    have : k = pP := by
      have hk' : k ∈ [pP, pP] := hk
      simpa using hk'
    rw [this]; exact pP_fit n⟩
def pPv : List PV := [pS ⟨#[112]⟩, pB false, pI 1, nilV, nilV, nilV, nilV]
theorem cv_nils (a b c : PV) : CvL [a, b, c, nilV, nilV, nilV, nilV] [a, b, c, tgtP [], .sl 5 [], .sl 7 [], oblsP []] :=
  .cons (.refl _) (.cons (.refl _) (.cons (.refl _) (.cons (.nil _) (.cons (.nil _) (.cons (.nil _) (.cons (.nil _) .nil))))))
theorem polRuns_h : Holds Try.prog 7 [] (.p (pB true)) [] := by
  have F := runs_fit
  have H1 := (expr_h [nOwner, nOp 3, nId, nOp 3, nOp 6] (fun x hx => F x (by simp at hx ⊢; rcases hx with rfl | rfl | rfl | rfl | rfl <;> simp))).res (r' := .p (pI 0)) (by rw [show exprS [nOwner, nOp 3, nId, nOp 3, nOp 6] = 0 by kernel_rfl])
  have H2 := (expr_h [nOwner, nNum, nOp 6] (fun x hx => F x (by simp at hx ⊢; rcases hx with rfl | rfl | rfl <;> simp))).res (r' := .p (pI 1)) (by rw [show exprS [nOwner, nNum, nOp 6] = 1 by kernel_rfl])
  have H3 := ((expr_h [] (fun x hx => by cases hx)).res (r' := .p (pI 0)) (by rw [show exprS [] = 0 by kernel_rfl])).cv (args' := [nilV]) (.cons (.nil 7) .nil)
  have H4 := ((right_h pP (pP_fit 4)).res (r' := .p (pI 0)) (by rw [show rightS pP = 0 by kernel_rfl])).cv (args' := [.agg pPv]) (.cons (cv_nils _ _ _).agg .nil)
  have H5 := ((right_h pS0 (pS0_fit 4)).res (r' := .p (pI 1)) (by rw [show rightS pS0 = 1 by kernel_rfl])).cv (args' := [.agg [pS ⟨#[115]⟩, pB true, pI 4, nilV, nilV, .sl 7 [pPv, pPv], nilV]])
    (.cons (CvL.agg (.cons (.refl _) (.cons (.refl _) (.cons (.refl _) (.cons (.nil _) (.cons (.nil _) (.cons (CvM.sl (.cons (cv_nils _ _ _) (.cons (cv_nils _ _ _) .nil))) (.cons (.nil _) .nil)))))))) .nil)
  refine qA (ts := [0]) Try.func7 (by kernel_rfl) rfl rfl rfl ?_
  refine uA ?_
  refine uA ?_
  refine uA ?_
  refine uA ?_
  refine uA ?_
  refine uA ?_
  refine uA ?_
  refine SW.wk (zq (k := 19) rfl) ?_
  refine uR ?_
  refine uK H1 ?_
  refine uK H2 ?_
  refine uK H3 ?_
  refine uK H4 ?_
  refine uK H5 ?_
  refine qh ?_
  refine uQ ?_
  exact fin_b rfl rfl
end Go.Proofs.Ytlmgamnpfdgdeaa
namespace Go.Proofs.Ytlmgamnpfdgdeaa
set_option linter.unusedVariables false
set_option linter.unusedSimpArgs false
open Go.RowKit
def nmL (i : Nat) : List UInt8 := [112, UInt8.ofNat (97 + i / 26), UInt8.ofNat (97 + i % 26)]
def rulR (s : List UInt8) : Rul := ⟨⟨⟨s⟩⟩, false, [], [], []⟩
def rulesR (a n : Nat) : List Rul := (List.range' a n).map fun i => rulR (114 :: nmL i)
def kidR (j n : Nat) : Pol := .mk ⟨⟨107 :: nmL (16 * j)⟩⟩ false 3 [] (rulesR (16 * j) n) [] []
def kidsR (m : Nat) : List Pol := if m = 0 then [] else (List.range ((m - 1) / 16)).map (kidR · 16) ++ [kidR ((m - 1) / 16) ((m - 1) % 16 + 1)]
def deepR (m : Nat) : Pol := .mk ⟨#[115]⟩ true 4 [] [] (kidsR m) []
def nestR : Nat → Pol
  | 0 => .mk ⟨#[108, 101, 97, 102]⟩ false 3 [] [] [] []
  | k + 1 => .mk ⟨⟨nmL k⟩⟩ true 4 [] [] [nestR k] []
def fullR (n : Nat) : Pol := .mk ⟨#[113]⟩ false 3 [] ((List.range' 0 n).map fun i => rulR (nmL i)) [] []
theorem nest_all : ((List.range 7).all fun k => decide (rightS (nestR k) = if 4 ≤ k then 6 else 0)) = true := by kernel_rfl
theorem full_two : rightS (fullR 17) = 6 ∧ rightS (fullR 16) = 0 := ⟨by kernel_rfl, by kernel_rfl⟩
theorem deep_all : ((List.range 81).all fun m => decide (rightS (deepR m) = if m ≤ 64 then 0 else 6)) = true := by kernel_rfl
end Go.Proofs.Ytlmgamnpfdgdeaa
namespace Go.Proofs.Ytlmgamnpfdgdeaa
set_option linter.unusedVariables false
set_option linter.unusedSimpArgs false
open Go.RowKit
set_option maxHeartbeats 1000000
theorem within_h (n lo hi : Int) (hn : R64 n) (h1 : 0 ≤ lo) (h2 : lo ≤ hi) (h3 : hi ≤ 4611686018427387904) : Holds Try.prog 5 [pI n, pI lo, pI hi] (.p (pI (lo + n % (hi - lo + 1)))) [] := by
  obtain ⟨hn, hn'⟩ := hn
  have r0 := Int.emod_nonneg n (show hi - lo + 1 ≠ 0 by omega)
  have r1 := Int.emod_lt_of_pos n (show 0 < hi - lo + 1 by omega)
  have e : (n.tmod (hi - lo + 1) = n % (hi - lo + 1) ∧ 0 ≤ n % (hi - lo + 1)) ∨ (n.tmod (hi - lo + 1) = n % (hi - lo + 1) - (hi - lo + 1) ∧ n % (hi - lo + 1) - (hi - lo + 1) < 0) := by
    rw [Int.tmod_eq_emod]
    have hab : ((hi - lo + 1).natAbs : Int) = hi - lo + 1 := by omega
    split
    · left; omega
    · right; omega
  generalize hr : n % (hi - lo + 1) = r at *
  have w1 : IntKind.i64.wrap (IntKind.i64.wrap (hi - lo) + 1) = hi - lo + 1 := by
    rw [IntWalk.i64_in (hi - lo) (by omega), IntWalk.i64_in _ (by omega)]
  refine qA (ts := [6]) Try.func5 (by kernel_rfl) rfl rfl rfl ?_
  refine uA ?_
  refine uR ?_
  rw [w1]
  refine qp qa rfl rfl (by omega) rfl ?_
  refine uS ?_
  refine qh ?_
  refine uA ?_
  refine uC (fun h => ?_) (fun h => ?_)
  · rcases e with ⟨e, hneg⟩ | ⟨e, hneg⟩
    · rw [e] at h; simp at h; omega
    · refine uA ?_
      refine uA ?_
      refine uQ ?_
      refine zi rfl ?_
      rw [e, IntWalk.i64_in (r - (hi - lo + 1) + hi) (by omega), IntWalk.i64_in (r - (hi - lo + 1) + hi - lo) (by omega), IntWalk.i64_in (r - (hi - lo + 1) + hi - lo + 1) (by omega), IntWalk.i64_in _ (by omega)]
      omega
  · rcases e with ⟨e, hneg⟩ | ⟨e, hneg⟩
    · refine qj ?_
      refine uA ?_
      refine uQ ?_
      refine zi rfl ?_
      rw [e, IntWalk.i64_in _ (by omega)]
    · rw [e] at h; simp at h; omega
end Go.Proofs.Ytlmgamnpfdgdeaa
namespace Go.Proofs.Ytlmgamnpfdgdeaa
set_option linter.unusedVariables false
set_option linter.unusedSimpArgs false
open Go.RowKit
section
variable {P : Program} {T : TT} (hT : qx P T) {st : St}
include hT
end
section
variable {P : Program} {T : TT} (hT : qx P T) {st : St}
include hT
end
end Go.Proofs.Ytlmgamnpfdgdeaa
namespace Go.Proofs.Ytlmgamnpfdgdeaa
set_option linter.unusedVariables false
set_option linter.unusedSimpArgs false
abbrev Bs := List UInt8
structure TokP where
  kind : Int
  n : Int
  s : Bs
  len : Nat
  deriving DecidableEq
structure Tok where
  kind : Int
  at_ : Nat
  n : Int
  s : Bs
  deriving DecidableEq
def TokP.at_ (t : TokP) (k : Nat) : Tok := ⟨t.kind, k, t.n, t.s⟩
def Tok.shift (d : Nat) (t : Tok) : Tok := ⟨t.kind, t.at_ + d, t.n, t.s⟩
end Go.Proofs.Ytlmgamnpfdgdeaa
namespace Go.Proofs.Ytlmgamnpfdgdeaa
set_option linter.unusedVariables false
set_option linter.unusedSimpArgs false
end Go.Proofs.Ytlmgamnpfdgdeaa
namespace Go.Proofs.Ytlmgamnpfdgdeaa
set_option linter.unusedVariables false
set_option linter.unusedSimpArgs false
end Go.Proofs.Ytlmgamnpfdgdeaa
namespace Go.Proofs.Ytlmgamnpfdgdeaa
set_option linter.unusedVariables false
set_option linter.unusedSimpArgs false
open Go.RowKit
def waitsO (o : Oper) (p : Nat) : Bool := o.after.toList.any fun e => Region.binds .any e && Nat.beq e.on p
section
variable {P : Program} {ops : Array Oper} {Q : Exit → Act → World → Prop}
abbrev Pend := List (Nat × (World → Prop))
def alive (ops : Array Oper) (i : Nat) (pd : Pend) : Pend := match ops[i]? with
  | some o => pd.filter fun p => !waitsO o p.1
  | none => pd
def wpAnyP (P : Program) (ops : Array Oper) (Q : Exit → Act → World → Prop) : Nat → Pend → Array Bool → Act → World → Prop
  | 0, _, listed, a, w => Region.ready .any ops listed = [] ∧ Q .normal a w
  | fuel + 1, pd, listed, a, w => (Region.ready .any ops listed = [] → Q .normal a w) ∧
      ∀ i ∈ Region.ready .any ops listed, wpOp P ops Q i (fun a' w' => (∀ p ∈ alive ops i pd, p.2 w') ∧ wpAnyP P ops Q fuel (alive ops i pd) (listed.setIfInBounds i true) a' w') a w
theorem wpAny_of_pend : ∀ (fuel : Nat) (pd : Pend) (listed : Array Bool) (a : Act) (w : World), wpAnyP P ops Q fuel pd listed a w → wpAny P .any ops Q fuel listed a w
  | 0, _, _, _, _, h => h
  | fuel + 1, _, _, _, _, h => ⟨h.1, fun i hi => wpOp_mono (fun a' w' h' => wpAny_of_pend fuel _ _ a' w' h'.2) (h.2 i hi)⟩
def Covers (pd pd' : Pend) : Prop := ∀ p ∈ pd, (∀ x, p.2 x) ∨ ∃ p' ∈ pd', p'.1 = p.1 ∧ ∀ x, p'.2 x → p.2 x
theorem Covers.refl (pd : Pend) : Covers pd pd := fun p hp => .inr ⟨p, hp, rfl, fun _ h => h⟩
theorem mem_alive {i : Nat} {pd : Pend} {p : Nat × (World → Prop)} : p ∈ alive ops i pd ↔ p ∈ pd ∧ (∀ o, ops[i]? = some o → waitsO o p.1 = false) := by
  unfold alive
  cases h : ops[i]? with
  | none => simp
  | some o => simp [List.mem_filter]
theorem Covers.alive {pd pd' : Pend} (h : Covers pd pd') (i : Nat) : Covers (alive ops i pd) (Go.Proofs.Ytlmgamnpfdgdeaa.alive ops i pd') := fun p hp => by
  obtain ⟨h1, h2⟩ := mem_alive.1 hp
  rcases h p h1 with h | ⟨p', h3, h4, h5⟩
  · exact .inl h
  · exact .inr ⟨p', mem_alive.2 ⟨h3, fun o ho => by rw [h4]; exact h2 o ho⟩, h4, h5⟩
theorem Covers.at {pd pd' : Pend} (h : Covers pd pd') {w : World} (hw : ∀ p ∈ pd', p.2 w) : ∀ p ∈ pd, p.2 w := fun p hp => by
  rcases h p hp with h | ⟨p', h3, h4, h5⟩
  · exact h w
  · exact h5 w (hw p' h3)
theorem wpAnyP_weak : ∀ (f : Nat) {pd pd' : Pend} (_ : Covers pd pd') (ls : Array Bool) (a : Act) (w : World), wpAnyP P ops Q f pd' ls a w → wpAnyP P ops Q f pd ls a w
  | 0, _, _, _, _, _, _, h => h
  | f + 1, _, _, hc, ls, a, w, h => ⟨h.1, fun i hi => wpOp_mono (fun a' w' h' => ⟨(hc.alive i).at h'.1, wpAnyP_weak f (hc.alive i) _ a' w' h'.2⟩) (h.2 i hi)⟩
theorem wpAnyP_first {i : Nat} {oi : Oper} {v : Value} (hi : ops[i]? = some oi) (hsel : ∀ (j : Nat) (o : Oper) cs b, ops[j]? = some o → o.op ≠ .select cs b)
    (hQ : ∀ c a w, Q (.panic c) (a.put oi.dst v) w → Q (.panic c) a w) {S : World → Prop} :
    ∀ (fuel : Nat) (pd : Pend) (listed : Array Bool) (a : Act) (w : World),
      (∀ j oj, ops[j]? = some oj → j ≠ i → listed.getD j true = false → (∀ e ∈ oj.after, Region.binds .any e = true → e.on ≠ i) → oi.apart ops oj = true) →
      i ∈ Region.ready .any ops listed → YieldsIf P ops S oi v a → S w → (∀ p ∈ pd, p.2 w) →
      wpAnyP P ops Q fuel ((i, S) :: pd) (listed.setIfInBounds i true) (a.put oi.dst v) w → wpAnyP P ops Q (fuel + 1) pd listed a w := by
  have drop : ∀ (pd : Pend), Covers (Go.Proofs.Ytlmgamnpfdgdeaa.alive ops i pd) ((i, S) :: pd) := fun pd p hp => .inr ⟨p, List.mem_cons_of_mem _ (mem_alive.1 hp).1, rfl, fun _ h => h⟩
  intro fuel
  induction fuel with
  | zero =>
    intro pd listed a w _ hr hy hS hpd H
    refine ⟨fun h => (by rw [h] at hr; cases hr), fun j hj => ?_⟩
    by_cases hji : j = i
    · subst hji; exact hy.wpOp hi hS ⟨fun p hp => hpd p (mem_alive.1 hp).1, H⟩
    · have := ready_mono hj hji
      rw [H.1] at this
      cases this
  | succ fuel ih =>
    intro pd listed a w hfree hr hy hS hpd H
    refine ⟨fun h => (by rw [h] at hr; cases hr), fun j hj => ?_⟩
    by_cases hji : j = i
    · subst hji; exact hy.wpOp hi hS ⟨fun p hp => hpd p (mem_alive.1 hp).1, wpAnyP_weak _ (drop pd) _ _ _ H⟩
    · have h1 := H.2 j (ready_mono hj hji)
      obtain ⟨hjun, oj, hoj, hall⟩ := mem_ready.1 hj
      have hnot : ∀ e ∈ oj.after, Region.binds .any e = true → e.on ≠ i := fun e he hb heq => by
        have h1 := hall e he hb
        have h0 := (mem_ready.1 hr).1
        rw [heq] at h1
        rcases Nat.lt_or_ge i listed.size with h' | h'
        · simp [h'] at h0 h1; rw [h0] at h1; cases h1
        · simp [Array.getElem?_eq_none h'] at h1
      have hwait : waitsO oj i = false := by
        unfold waitsO
        rw [List.any_eq_false]
        intro e he h
        rw [Bool.and_eq_true] at h
        exact hnot e (by simpa using he) h.1 (Nat.eq_of_beq_eq_true h.2)
      have hal : Go.Proofs.Ytlmgamnpfdgdeaa.alive ops j ((i, S) :: pd) = (i, S) :: Go.Proofs.Ytlmgamnpfdgdeaa.alive ops j pd := by
        unfold Go.Proofs.Ytlmgamnpfdgdeaa.alive
        rw [hoj]
        simp [List.filter_cons, hwait]
      have h2 := wpOp_putIf hoj (hfree j oj hoj hji hjun hnot) (fun cs b => hsel i oi cs b hi) (fun cs b => hsel j oj cs b hoj) hQ hy h1
      have hfree' : ∀ k ok, ops[k]? = some ok → k ≠ i → (listed.setIfInBounds j true).getD k true = false →
          (∀ e ∈ ok.after, Region.binds .any e = true → e.on ≠ i) → oi.apart ops ok = true := fun k ok hk hki hun hno => by
        refine hfree k ok hk hki ?_ hno
        by_cases hjk : j = k
        · subst hjk; exact hjun
        · rw [getD_set_ne true hjk] at hun; exact hun
      refine wpOp_mono (fun a' w' h3 => ?_) h2
      obtain ⟨h31, h32, h33⟩ := h3
      rw [hal] at h32 h33
      have hpd' : ∀ p ∈ Go.Proofs.Ytlmgamnpfdgdeaa.alive ops j pd, p.2 w' := fun p hp => h32 p (List.mem_cons_of_mem _ hp)
      refine ⟨hpd', ih _ (listed.setIfInBounds j true) a' w' hfree' (ready_mono hr (Ne.symm hji)) h31 (h32 _ (List.mem_cons_self ..)) hpd' ?_⟩
      rw [Array.setIfInBounds_comm _ _ hji]
      exact h33
end
section
variable {P : Program} {ops : Array Oper} {Q : Exit → Act → World → Prop}
end
abbrev Kap := List (Nat × List Nat)
def pendOf (γ : Nat → Value) (own : List (Nat × Box)) (w : World) (κ : Kap) : Pend := κ.map fun p => (p.1, fun x => SameOn (vis p.2 γ own) w x)
theorem pendOf_at {γ : Nat → Value} {own : List (Nat × Box)} {w : World} {κ : Kap} : ∀ p ∈ pendOf γ own w κ, p.2 w := fun p hp => by
  obtain ⟨q, _, rfl⟩ := List.mem_map.1 hp
  exact SameOn.refl _ _
def kapB (o : Oper) (κ : Kap) : Kap := κ.filter fun p => !waitsO o p.1
section
variable {P : Program} {ops : List Oper} {κ : Kap} {st : St} {Q : St → Prop} {i : Nat} {r : List (Nat × Bool)} {o : Oper}
end
end Go.Proofs.Ytlmgamnpfdgdeaa
namespace Go.Proofs.Ytlmgamnpfdgdeaa
set_option linter.unusedVariables false
set_option linter.unusedSimpArgs false
open Go.RowKit
section
variable {α : Type}
def fNat (n : Nat) (k : Nat → α) : α := match n with
  | 0 => k 0
  | .succ m => k (.succ m)
theorem fNat_eq (n : Nat) (k : Nat → α) : fNat n k = k n := by cases n <;> rfl
def fInt (n : Int) (k : Int → α) : α := match n with
  | .ofNat a => fNat a fun a => k (.ofNat a)
  | .negSucc a => fNat a fun a => k (.negSucc a)
theorem fInt_eq (n : Int) (k : Int → α) : fInt n k = k n := by cases n <;> simp [fInt, fNat_eq]
def fBool (b : Bool) (k : Bool → α) : α := match b with
  | true => k true
  | false => k false
theorem fBool_eq (b : Bool) (k : Bool → α) : fBool b k = k b := by cases b <;> rfl
def fList {β : Type} : List β → (List β → α) → α
  | [], k => k []
  | x :: r, k => fList r fun r => k (x :: r)
theorem fList_eq {β : Type} : ∀ (l : List β) (k : List β → α), fList l k = k l
  | [], k => rfl
  | x :: r, k => by rw [fList, fList_eq r]
def fStr (s : ByteArray) (k : ByteArray → α) : α := match s with
  | ⟨⟨l⟩⟩ => fList l fun l => k ⟨⟨l⟩⟩
theorem fStr_eq (s : ByteArray) (k : ByteArray → α) : fStr s k = k s := by
  obtain ⟨⟨l⟩⟩ := s; simp [fStr, fList_eq]
def fVal (v : Value) (k : Value → α) : α := match v with
  | .int q n => fInt n fun n => k (.int q n)
  | .bool b => fBool b fun b => k (.bool b)
  | .string s => fStr s fun s => k (.string s)
  | v => k v
theorem fVal_eq (v : Value) (k : Value → α) : fVal v k = k v := by
  cases v <;> simp [fVal, fInt_eq, fBool_eq, fStr_eq]
def fLeaf (p : PV) (k : PV → α) : α := match p with
  | .v x => fVal x fun x => k (.v x)
  | p => k p
theorem fLeaf_eq (p : PV) (k : PV → α) : fLeaf p k = k p := by cases p <;> simp [fLeaf, fVal_eq]
def fLeafs : List PV → (List PV → α) → α
  | [], k => k []
  | p :: r, k => fLeaf p fun p => fLeafs r fun r => k (p :: r)
theorem fLeafs_eq : ∀ (l : List PV) (k : List PV → α), fLeafs l k = k l
  | [], k => rfl
  | p :: r, k => by rw [fLeafs, fLeaf_eq, fLeafs_eq r]
def fPV (p : PV) (k : PV → α) : α := match p with
  | .v x => fVal x fun x => k (.v x)
  | .agg cs => fLeafs cs fun cs => k (.agg cs)
  | .rp cs => fLeafs cs fun cs => k (.rp cs)
  | .sl z l => fList l fun l => k (.sl z l)
  | p => k p
theorem fPV_eq (p : PV) (k : PV → α) : fPV p k = k p := by cases p <;> simp [fPV, fVal_eq, fLeafs_eq, fList_eq]
def fOne (s : SV) (k : SV → α) : α := match s with
  | .p x => fPV x fun x => k (.p x)
  | .ptr i o => fNat i fun i => fNat o fun o => k (.ptr i o)
  | .eptr i z x o => fNat x fun x => fNat o fun o => k (.eptr i z x o)
  | .view i z lo hi => fNat lo fun lo => fNat hi fun hi => k (.view i z lo hi)
  | s => k s
theorem fOne_eq (s : SV) (k : SV → α) : fOne s k = k s := by cases s <;> simp [fOne, fPV_eq, fNat_eq]
def fOnes : List SV → (List SV → α) → α
  | [], k => k []
  | s :: r, k => fOne s fun s => fOnes r fun r => k (s :: r)
theorem fOnes_eq : ∀ (l : List SV) (k : List SV → α), fOnes l k = k l
  | [], k => rfl
  | s :: r, k => by rw [fOnes, fOne_eq, fOnes_eq r]
def fMid (s : SV) (k : SV → α) : α := match s with
  | .agg cs => fOnes cs fun cs => k (.agg cs)
  | .fn f cs => fOnes cs fun cs => k (.fn f cs)
  | s => fOne s k
theorem fMid_eq (s : SV) (k : SV → α) : fMid s k = k s := by cases s <;> simp [fMid, fOne_eq, fOnes_eq]
def fMids : List SV → (List SV → α) → α
  | [], k => k []
  | s :: r, k => fMid s fun s => fMids r fun r => k (s :: r)
theorem fMids_eq : ∀ (l : List SV) (k : List SV → α), fMids l k = k l
  | [], k => rfl
  | s :: r, k => by rw [fMids, fMid_eq, fMids_eq r]
def fSV (s : SV) (k : SV → α) : α := match s with
  | .tup cs => fMids cs fun cs => k (.tup cs)
  | s => fMid s k
theorem fSV_eq (s : SV) (k : SV → α) : fSV s k = k s := by cases s <;> simp [fSV, fMid_eq, fMids_eq]
end
noncomputable def lkF {α : Type} (t : Nat) (l : List (Nat × α)) : Option α := @List.rec (Nat × α) (fun _ => Option α) none (fun p _ ih => @Prod.rec Nat α (fun _ => Option α) (fun u s => @Bool.rec (fun _ => Option α) ih (some s) (Nat.beq t u)) p) l
theorem lkF_eq {α : Type} (t : Nat) : ∀ l : List (Nat × α), lkF t l = lk t l
  | [] => rfl
  | (u, s) :: r => by
    have ih := lkF_eq t r
    unfold lkF at ih ⊢
    rw [lk]
    show @Bool.rec (fun _ => Option α) _ _ _ = _
    cases h : Nat.beq t u <;> simp [ih]
noncomputable section
section
variable {β : Type}
def goF (r : Option (Prop × SV)) (c : Bool) (k : SV → Option β) : Option β := match r with
  | some (_, s) => bif c then fSV s k else none
  | none => none
def byteOf : List PV → Option UInt8
  | [.v (.int .u8 n)] => some (UInt8.ofNat n.toNat)
  | _ => none
def zC : List (List PV) → Option (List UInt8)
  | [] => some []
  | c :: r => match byteOf c with
    | some b => match zC r with
      | some l => some (b :: l)
      | none => none
    | none => none
def eText (T : TT) (s d : TypeId) (l : List (List PV)) (k : SV → Option β) : Option β := match lkF s T, lkF d T with
  | some ⟨_, _, .sl e, _, _⟩, some ⟨_, _, .str, _, _⟩ => (match lkF e T, zC l with
    | some ⟨_, _, .int .u8, _, _⟩, some bs => fList bs fun bs => k (.p (.v (.string ⟨⟨bs⟩⟩)))
    | _, _ => none)
  | _, _ => none
def eConv (T : TT) (K : List Nat) (st : St) (s d : TypeId) (a : Option SV) (k : SV → Option β) : Option β := match a with
  | some (.p (.sl _ l)) => eText T s d l k
  | some (.p (.v (.slice none 0 0))) => eText T s d [] k
  | some (.row j) => bif K.contains j then none else (match lkF j st.own with
    | some (.row _ _ l) => eText T s d l k
    | _ => none)
  | a => goF (rConv T s d a) true k
end
def mem (i : Nat) : List Nat → Bool
  | [] => false
  | j :: r => bif Nat.beq i j then true else mem i r
mutual
def refs : SV → List Nat
  | .p _ => []
  | .junk => []
  | .row i => [i]
  | .ptr i _ => [i]
  | .eptr i _ _ _ => [i]
  | .view i _ _ _ => [i]
  | .agg cs => refss cs
  | .tup cs => refss cs
  | .fn _ cs => refss cs
def refss : List SV → List Nat
  | [] => []
  | s :: r => refs s ++ refss r
end
section
variable {α : Type}
end
section
variable {β : Type}
structure FnI where
  n : Nat
  c : Code
  ts : List ResultVar
  ords : List (Nat × List (Nat × Bool))
structure Cx where
  T : TT
  F : List (FuncId × FnI)
  C : FuncId → List PV → Option SV
abbrev Ret := Option (SV × List (Nat × Box))
end
def lent : List (Nat × Box) → List Nat
  | [] => []
  | (i, _) :: r => bif Nat.ble 1000000 i then i :: lent r else lent r
def chkR (ords : List (Nat × List (Nat × Bool))) (id : Nat) (ops : Array Oper) : Bool := match lk id ords with
  | some od => Region.noSelect ops && (orderB .any ops od (Array.replicate ops.size false) && od.length == ops.size)
  | none => true
def chkC (ords : List (Nat × List (Nat × Bool))) : Code → Bool
  | .region id ops true => chkR ords id ops
  | .seq a b => chkC ords a && chkC ords b
  | .cond _ a b => chkC ords a && chkC ords b
  | .block _ b => chkC ords b
  | .loop b => chkC ords b
  | .scope b => chkC ords b
  | _ => true
end
end Go.Proofs.Ytlmgamnpfdgdeaa
namespace Go.Proofs.Ytlmgamnpfdgdeaa
set_option linter.unusedVariables false
set_option linter.unusedSimpArgs false
open Go.RowKit
def RdO (P : Program) (K : List Nat) (st : St) (o : Oper) (s : SV) : Prop := ∀ (w0 : Base) (Sx : Nat → Prop) (γ : Nat → Value) (a : Act) (w : World), Sim w0 Sx γ st a w →
  ∃ v, RelS (okO Sx γ st.own) (hp γ st.own) w s v ∧ ∀ x, SameOn (vis K γ st.own) w x → (execOp a.eval o).run P x = .ok (.value v) x
section
variable {P : Program} {T : TT} (hT : qx P T) {K : List Nat} {st : St} {o : Oper} {β : Type} {k : SV → Option β} {b : β}
theorem RdO.of_sem {s : SV} {sem : Act → Sem Value} (he : ∀ a : Act, execOp a.eval o = (do pure (.value (← sem a)) : Sem Next)) (h : ∀ (w0 : Base) (Sx : Nat → Prop) (γ : Nat → Value) (a : Act) (w : World), Sim w0 Sx γ st a w → Rd P K Sx γ st w (sem a) s) : RdO P K st o s := fun w0 Sx γ a w hI => by
  obtain ⟨v, h1, h2⟩ := h w0 Sx γ a w hI
  exact ⟨v, h1, fun x hx => by rw [he]; exact run_v (h2 x hx)⟩
theorem qu {s : SV} {Q : St → Prop} (h : RdO P K st o s) (hd : zg st o.dst = true) (hQ : Q (st.put o.dst s)) : ActOk P [] o st Q := by
  intro w0 Sx γ a w QQ hI
  obtain ⟨v, h1, h2⟩ := h w0 Sx γ a w hI
  unfold Oper.wp
  rw [h2 w (SameOn.refl _ _)]
  refine ⟨γ, _, hQ, hI.put hd h1, SameOn.refl _ _, fun K _ b _ hv => ?_⟩
  rw [put_own]; exact hv
include hT in
theorem qc {s : SV} {c : Prop} (h : opR T K st o.op = some (c, s)) (hc : c) : RdO P K st o s := fun _ _ _ _ _ hI => opR_ok hT hI h hc
theorem goF_ok {r : Option (Prop × SV)} {c : Bool} (h : goF r c k = some b) : ∃ p s, r = some (p, s) ∧ c = true ∧ k s = some b := by
  unfold goF at h
  split at h
  · rename_i p s
    cases c with
    | false => cases h
    | true => rw [cond_true, fSV_eq] at h; exact ⟨p, s, rfl, rfl, h⟩
  · cases h
theorem bytesOf_get : ∀ {l : List (List PV)} {bs : List UInt8}, zC l = some bs → bs.length = l.length ∧ ∀ i : Nat, i < l.length → ∃ n : Int, l[i]? = some [.v (.int .u8 n)] ∧ bs[i]? = some (UInt8.ofNat n.toNat)
  | [], bs, h => by simp only [zC, Option.some.injEq] at h; subst h; exact ⟨rfl, fun i hi => by simp at hi⟩
  | c :: r, bs, h => by
    unfold zC at h
    split at h
    · rename_i b hb
      split at h
      · rename_i l hl
        simp only [Option.some.injEq] at h
        subst h
        obtain ⟨h1, h2⟩ := bytesOf_get hl
        refine ⟨by simp [h1], fun i hi => ?_⟩
        cases i with
        | zero =>
          unfold byteOf at hb
          split at hb
          · rename_i n
            cases hb; exact ⟨n, rfl, rfl⟩
          · cases hb
        | succ i =>
          obtain ⟨n, g1, g2⟩ := h2 i (by simpa using hi)
          exact ⟨n, by simpa using g1, by simpa using g2⟩
      · cases h
    · cases h
theorem push_fold : ∀ (ns : List Int) (s : ByteArray), ns.foldl (fun r n => r.push (UInt8.ofNat n.toNat)) s = ⟨⟨s.data.toList ++ ns.map fun n => UInt8.ofNat n.toNat⟩⟩
  | [], s => by
    apply ByteArray.ext
    apply Array.toList_inj.1
    simp
  | n :: ns, s => by
    rw [List.foldl_cons, push_fold ns]
    apply ByteArray.ext
    apply Array.toList_inj.1
    simp [ByteArray.push]
theorem run_text {sT dT e : TypeId} {A : Option Addr} {c : Nat} {l : List (List PV)} {bs : List UInt8} {x : World} (hs : P.underlying sT = some (.slice e)) (he : P.underlying e = some (.int .u8)) (hd : P.underlying dT = some .string) (hl : zC l = some bs)
    (h : 0 < l.length → ∃ b o, A = some ⟨b, o, none⟩ ∧ ∀ i n, l[i]? = some [.v (.int .u8 n)] → x.cell? ⟨b, o + i, none⟩ = some (.int .u8 n)) :
    (convert sT dT (.slice A l.length c)).run P x = .ok (.string ⟨⟨bs⟩⟩) x := by
  rw [run_convert_bytes_string x sT dT e A l.length c hs he hd]
  obtain ⟨g1, g2⟩ := bytesOf_get hl
  cases A with
  | none =>
    have : l = [] := by
      rcases Nat.eq_zero_or_pos l.length with h0 | h0
      · exact List.eq_nil_of_length_eq_zero h0
      · obtain ⟨b, o, hA, _⟩ := h h0; cases hA
    subst this
    have : bs = [] := List.eq_nil_of_length_eq_zero g1
    subst this
    simp [Conv.bytesToString]; rfl
  | some ad =>
    have hex : ∀ i : Nat, ∃ n : Int, i < l.length → l[i]? = some [.v (.int .u8 n)] ∧ bs[i]? = some (UInt8.ofNat n.toNat) := fun i => by
      by_cases hi : i < l.length
      · obtain ⟨n, h1⟩ := g2 i hi; exact ⟨n, fun _ => h1⟩
      · exact ⟨0, fun h => absurd h hi⟩
    obtain ⟨f, hf⟩ := Classical.axiomOfChoice hex
    have hbs : bs = ((List.range l.length).map f).map fun n => UInt8.ofNat n.toNat := by
      refine List.ext_getElem? fun i => ?_
      by_cases hi : i < l.length
      · rw [(hf i hi).2]; simp [hi]
      · rw [List.getElem?_eq_none (by omega), List.getElem?_eq_none (by simp; omega)]
    have hcells : ∀ j v, (((List.range l.length).map f).map (Value.int .u8))[j]? = some v → x.cell? (ad.add j) = some v := fun j v hv => by
      have hj : j < l.length := by have := (List.getElem?_eq_some_iff.1 hv).1; simpa using this
      obtain ⟨b, o, hA, hx⟩ := h (by omega)
      cases hA
      rw [qL]
      simp [hj] at hv
      rw [← hv]
      exact hx j _ (hf j hj).1
    have h1 := run_loadCells_list (P := P) x ad _ hcells
    rw [List.length_map, List.length_map, List.length_range] at h1
    rw [run_bytesToString x ad l.length c _ h1, push_fold, hbs]
    rfl
include hT in
theorem eConv_ok {sT dT : TypeId} {x : Operand} (ho : o.op = .convert sT dT x) (h : eConv T K st sT dT (evS st x) k = some b) : ∃ s, RdO P K st o s ∧ k s = some b := by
  have put : ∀ {l : List (List PV)}, eText T sT dT l k = some b → (∀ (w0 : Base) (Sx : Nat → Prop) (γ : Nat → Value) (a : Act) (w : World), Sim w0 Sx γ st a w → ∃ A c, a.eval x = .slice A l.length c ∧ ∀ z, SameOn (vis K γ st.own) w z → 0 < l.length → ∃ b o, A = some ⟨b, o, none⟩ ∧ ∀ i n, l[i]? = some [.v (.int .u8 n)] → z.cell? ⟨b, o + i, none⟩ = some (.int .u8 n)) →
      ∃ s, RdO P K st o s ∧ k s = some b := fun {l} h hx => by
    unfold eText at h
    rw [lkF_eq, lkF_eq] at h
    split at h
    · rename_i e _ _ _ _ _ _ hs hd
      rw [lkF_eq] at h
      split at h
      · rename_i bs he hbs
        rw [fList_eq] at h
        have us := (hT sT _ hs).und
        have ud := (hT dT _ hd).und
        have ue := (hT e _ he).und
        simp only [qZ] at us ud ue
        refine ⟨_, RdO.of_sem (sem := fun a => convert sT dT (a.eval x)) (fun a => by simp only [execOp, ho]) fun w0 Sx γ a w hI => ?_, h⟩
        obtain ⟨A, c, ha, hc⟩ := hx w0 Sx γ a w hI
        exact ⟨_, .p (.v rfl), fun z hz => by rw [ha]; exact run_text us ue ud hbs (hc z hz)⟩
      · cases h
    · cases h
  unfold eConv at h
  split at h
  · rename_i zz l hx
    refine put h fun w0 Sx γ a w hI => ?_
    have hr := (qe hI hx).p_inv
    obtain ⟨A, c, hv, _⟩ := hr.slat
    refine ⟨A, c, hv, fun z hz hl => ?_⟩
    have hrz : RelP (okO Sx γ st.own) z (.sl zz l) (a.eval x) := hr.keep (hz.weak fun b _ hok => okO_vis hok)
    obtain ⟨A2, c2, hv2, _, _, he, hsl⟩ := hrz.slat
    rw [hv] at hv2
    cases hv2
    obtain ⟨b, o, hA, _, _, hc⟩ := hsl hl
    refine ⟨b, o, hA, fun i n hi => ?_⟩
    have hil : i < l.length := (List.getElem?_eq_some_iff.1 hi).1
    have hz1 : zz = 1 := by have := (he _ (List.mem_of_getElem? hi)).1; simpa using this.symm
    obtain ⟨cs, q1, q2, q3⟩ := hc i hil
    have hli : l[i] = [.v (.int .u8 n)] := by rw [List.getElem?_eq_getElem hil] at hi; exact Option.some.inj hi
    rw [hli] at q3
    have hcl : cs.length = 1 := q3.1
    have hcs : ∃ u, cs = [u] := by
      match cs, hcl with
      | [u], _ => exact ⟨u, rfl⟩
    obtain ⟨u, rfl⟩ := hcs
    have hu := valP_ok (q3.2 0 _ u rfl rfl) rfl
    subst hu
    have := q2 0 _ rfl
    rw [hz1, Nat.mul_one, Nat.add_zero] at this
    exact this
  · rename_i hx
    refine put h fun w0 Sx γ a w hI => ⟨none, 0, (qe hI hx).v_inv, fun z _ hl => by simp at hl⟩
  · rename_i j hx
    cases hK : K.contains j with
    | true => rw [hK] at h; cases h
    | false =>
      rw [hK, cond_false, lkF_eq] at h
      split at h
      · rename_i e zz l hj
        refine put h fun w0 Sx γ a w hI => ?_
        have hr := qe hI hx
        obtain ⟨A, c, g1, g2, g3, g4, g5⟩ := row_slat hI.heap hj
        have ha : a.eval x = γ j := by
          generalize a.eval x = u at hr
          cases hr with
          | row hg => rw [qo hj] at hg; cases hg; rfl
        refine ⟨A, c, by rw [ha, g1], fun z hz hl => ?_⟩
        obtain ⟨b, o, hA, hlt, hc⟩ := g5 hl
        refine ⟨b, o, hA, fun i n hi => ?_⟩
        have hil : i < l.length := (List.getElem?_eq_some_iff.1 hi).1
        have hz1 : zz = 1 := by have := (g4 _ (List.mem_of_getElem? hi)).1; simpa using this.symm
        obtain ⟨cs, q1, q2, q3, q4⟩ := hc i hil
        have hli : l[i] = [.v (.int .u8 n)] := by rw [List.getElem?_eq_getElem hil] at hi; exact Option.some.inj hi
        rw [hli] at q4
        have hcs : ∃ u, cs = [u] := by
          match cs, (q4.1 : cs.length = 1) with
          | [u], _ => exact ⟨u, rfl⟩
        obtain ⟨u, rfl⟩ := hcs
        have hu := valP_ok (q4.2 0 _ u rfl rfl) rfl
        subst hu
        have := q2 0 _ rfl
        rw [hz1, Nat.mul_one, Nat.add_zero] at this
        have hbj : qr (γ j) = some b := by rw [g1, hA]; rfl
        rw [World.cell?_of_block (w := w) (a := ⟨b, o + i, none⟩) (hz.block b hlt fun i2 bx h1 h2 h3 => ?_)]
        · exact this
        · have := hI.heap.inj i2 j _ _ b h1 hj h3 hbj
          subst this
          rw [hK] at h2; cases h2
      · cases h
  · obtain ⟨p, s, h1, _, h3⟩ := goF_ok h
    refine ⟨s, qc hT (by rw [ho]; exact h1) ?_, h3⟩
    unfold rConv at h1
    repeat' split at h1
    all_goals first | (cases h1; done) | (cases h1; exact trivial)
end
section
variable {P : Program} {T : TT} (hT : qx P T) {st : St} {o : Oper} {β : Type} {k : List Nat → St → Option β} {b : β}
theorem ActOk.frz {Ws : List Nat} {Q : St → Prop} {i : Nat} {e : TypeId} {z : Nat} {l : List (List PV)} (hk : lk i st.own = some (.row e z l)) (h : ActOk P Ws o (st.frz i z l) Q) : ActOk P Ws o st Q := by
  intro w0 Sx γ a w QQ hI
  have old : ∀ {j bx}, lk j (st.frz i z l).own = some bx → ∃ b0, lk j st.own = some b0 := fun {j bx} hj => by
    have hj : lk j ((del i st.own).map fun p => (p.1, p.2.frz i z l)) = some bx := hj
    rw [lk_map, lk_del] at hj
    split at hj
    · cases hj
    · obtain ⟨b0, h1, _⟩ := Option.map_eq_some_iff.1 hj
      exact ⟨b0, h1⟩
  have hv : ∀ K b, vis K γ st.own b → vis K γ (st.frz i z l).own b := fun K b hv j bx hj hK hb => by
    obtain ⟨b0, h1⟩ := old hj
    exact hv j b0 h1 hK hb
  refine Oper.wp_mono (fun a' w' hq => ?_) (h w0 Sx γ a w QQ (sim_frz hk hI))
  obtain ⟨γ', st', h1, h2, h3, h4⟩ := hq
  exact ⟨γ', st', h1, h2, ⟨h3.size, fun b hb hv' => h3.block b hb (hv _ b hv')⟩, fun K hK b hb hv' => h4 K hK b hb (hv K b hv')⟩
section
variable {sx xx : Operand} {t e : TypeId} {cl : Call} (ho : o.op = .call cl) (hcl : cl.callee = .builtin .append) (hargs : cl.args.toList = [sx, xx]) (hts : cl.argTypes.toList = [t, t]) {d : Nat} (hdst : o.dst = some d)
  {ti ei : TyI} (ht : lk t T = some ti) (hte : ti.d = .sl e) (he : lk e T = some ei) (hsz : Nat.blt 0 ei.size = true) (hz : Nat.beq ei.zero.length ei.size = true)
include hT ho hcl hargs hts hdst ht hte he hsz hz
end
def EvOk (P : Program) (cx : Cx) (ev : FuncId → FnI → List SV → List (Nat × Box) → Ret) : Prop := ∀ f fi args own r own', lk f cx.F = some fi → ev f fi args own = some (r, own') → HoldsW P f args own r own'
def TabOk (P : Program) (cx : Cx) : Prop := ∀ f ps r, cx.C f ps = some r → Holds P f ps r []
end
theorem ActOk.mono {P : Program} {Ws : List Nat} {o : Oper} {st : St} {Q Q' : St → Prop} (h : ActOk P Ws o st Q) (hq : ∀ s, Q s → Q' s) : ActOk P Ws o st Q' := fun w0 Sx γ a w QQ hI => by
  refine Oper.wp_mono (fun a' w' h' => ?_) (h w0 Sx γ a w QQ hI)
  obtain ⟨γ', st', h1, h2⟩ := h'
  exact ⟨γ', st', hq _ h1, h2⟩
section
variable {P : Program} {cx : Cx} (hT : qx P cx.T) (hC : TabOk P cx) {ev : FuncId → FnI → List SV → List (Nat × Box) → Ret} (hev : EvOk P cx ev)
section
variable {st : St} {o : Oper} {β : Type} {k : List Nat → St → Option β} {b : β}
end
end
section
variable {P : Program} {T : TT} (hT : qx P T)
end
def FOk (P : Program) (cx : Cx) : Prop := ∀ f fi, lk f cx.F = some fi → ∃ fn, P.funcs[f]? = some fn ∧ (fn.name == "runtime.NumGoroutine") = false ∧ fn.body = some fi.c ∧ fn.results = fi.ts.toArray ∧ fn.ntmps = fi.n ∧ Nat.ble fi.n 900 = true ∧ chkC fi.ords fi.c = true
section
variable {P : Program} {cx : Cx} (hT : qx P cx.T) (hC : TabOk P cx) (hF : FOk P cx) (hm : P.follows .mixedOrders = true)
end
end Go.Proofs.Ytlmgamnpfdgdeaa
namespace Go.Proofs.Ytlmgamnpfdgdeaa
set_option linter.unusedVariables false
set_option linter.unusedSimpArgs false
open Go.RowKit
set_option maxHeartbeats 4000000
abbrev pU (c : UInt8) : PV := .v (.int .u8 (c.toNat : Int))
abbrev pL (l : Bs) : PV := pS ⟨⟨l⟩⟩
def bR (l : Bs) : List (List PV) := l.map fun c => [pU c]
theorem fin_s {ts : List Tmp} {st : St} {b b' : ByteArray} (h : resS st ts = some (.p (.v (.string b)))) (hb : b = b') : Fin ts (.p (.v (.string b'))) [] .ret st := by
  subst hb; exact ⟨Or.inr rfl, st, _, [], Wk.refl _, h, rfl, rfl, rfl⟩
theorem u8_in {n : Int} (h : 0 ≤ n ∧ n < 256) : IntKind.u8.wrap n = n := by
  simp [IntKind.wrap, IntKind.bits, IntKind.signed]; omega
theorem bytesOf_bR : ∀ b : Bs, zC (bR b) = some b
  | [] => rfl
  | c :: b => by
    have h : byteOf [pU c] = some c := by
      show some (UInt8.ofNat (c.toNat : Int).toNat) = some c
      rw [Int.toNat_natCast, UInt8.ofNat_toNat]
    show zC ([pU c] :: bR b) = _
    rw [zC, h, bytesOf_bR b]
section
variable {P : Program} {T : TT} (hT : qx P T) {st : St} {K : List Nat}
include hT
theorem act_textR {o : Oper} {sT dT e : TypeId} {x : Operand} {j z : Nat} {e0 : TypeId} {b : Bs} {s1 s2 d1 d2 e1 e2 : Nat} {s3 d3 e3 : List Value} {s4 d4 e4 : Bool} (ho : o.op = .convert sT dT x) (hx : evS st x = some (.row j)) (hj : lk j st.own = some (.row e0 z (bR b)))
    (hs : lk sT T = some ⟨s1, s2, .sl e, s3, s4⟩) (hd : lk dT T = some ⟨d1, d2, .str, d3, d4⟩) (he : lk e T = some ⟨e1, e2, .int .u8, e3, e4⟩) (hdst : zg st o.dst = true) {Q : St → Prop} (h : Q (st.put o.dst (.p (pL b)))) : ActOk P [] o st Q := by
  have hE : eConv T [] st sT dT (evS st x) some = some (.p (pL b)) := by
    rw [hx]
    unfold eConv eText
    simp only [lkF_eq, hj, hs, hd, he, bytesOf_bR, fList_eq]
    rfl
  obtain ⟨s, h1, h2⟩ := eConv_ok hT ho hE
  cases h2
  exact qu h1 hdst h
end
theorem SWT.mono {P : Program} {ops l : List Oper} {Q Q' : St → Prop} {st : St} (h : SWT P ops l Q' st) (hm : ∀ s, Q' s → Q s) : SWT P ops l Q st := fun w0 Sx γ a w QQ hI hQ =>
  h w0 Sx γ a w QQ hI fun st' γ' a' w' hI' hq => hQ st' γ' a' w' hI' (hm st' hq)
end Go.Proofs.Ytlmgamnpfdgdeaa
namespace Go.Proofs.Ytlmgamnpfdgdeaa
set_option linter.unusedVariables false
set_option linter.unusedSimpArgs false
open Go.RowKit
def SWB (P : Program) (ops : List Oper) (κ : Kap) (ls : Array Bool) (fuel : Nat) (Q : St → Prop) (st : St) : Prop := ∀ (w0 : Base) (Sx : Nat → Prop) (γ : Nat → Value) (a : Act) (w : World) (QQ : Exit → Act → World → Prop), Sim w0 Sx γ st a w →
  (∀ st' γ' a' w', Sim w0 Sx γ' st' a' w' → Q st' → QQ .normal a' w') → wpAnyP P ops.toArray (NoPanic QQ) fuel (pendOf γ st.own w κ) ls a w
def SWBo (P : Program) (ops : List Oper) (κ : Kap) (ls : Array Bool) (fuel : Nat) (Q : St → Prop) (st : St) (i : Nat) : Prop := ∀ (w0 : Base) (Sx : Nat → Prop) (γ : Nat → Value) (a : Act) (w : World) (QQ : Exit → Act → World → Prop), Sim w0 Sx γ st a w →
  (∀ st' γ' a' w', Sim w0 Sx γ' st' a' w' → Q st' → QQ .normal a' w') → wpOp P ops.toArray (NoPanic QQ) i (fun a' w' => (∀ p ∈ alive ops.toArray i (pendOf γ st.own w κ), p.2 w') ∧ wpAnyP P ops.toArray (NoPanic QQ) fuel (alive ops.toArray i (pendOf γ st.own w κ)) (ls.setIfInBounds i true) a' w') a w
section
variable {P : Program} {ops : List Oper} {κ : Kap} {ls : Array Bool} {fuel : Nat} {st : St} {Q : St → Prop} {i j : Nat} {o : Oper}
theorem qE (hr : Region.ready .any ops.toArray ls = []) (h : Q st) : SWB P ops κ ls fuel Q st := fun _ _ γ a w _ hI hQ => by
  cases fuel with
  | zero => exact ⟨hr, hQ st γ a w hI h⟩
  | succ f => exact ⟨fun _ => hQ st γ a w hI h, fun i hi => by rw [hr] at hi; cases hi⟩
theorem qf (i : Nat) (hr : Region.ready .any ops.toArray ls = [i]) (h : SWBo P ops κ ls fuel Q st i) : SWB P ops κ ls (fuel + 1) Q st := fun w0 Sx γ a w QQ hI hQ =>
  ⟨fun h0 => (by rw [hr] at h0; cases h0), fun k hk => by
    rw [hr] at hk
    obtain rfl : k = i := by simpa using hk
    exact h w0 Sx γ a w QQ hI hQ⟩
theorem swb_fork2 (i j : Nat) (hr : Region.ready .any ops.toArray ls = [i, j]) (h : SWBo P ops κ ls fuel Q st i) (h2 : SWBo P ops κ ls fuel Q st j) : SWB P ops κ ls (fuel + 1) Q st := fun w0 Sx γ a w QQ hI hQ =>
  ⟨fun h0 => (by rw [hr] at h0; cases h0), fun k hk => by
    rw [hr] at hk
    have hk : k = i ∨ k = j := by simpa using hk
    rcases hk with rfl | rfl
    · exact h w0 Sx γ a w QQ hI hQ
    · exact h2 w0 Sx γ a w QQ hI hQ⟩
theorem qg {K : List Nat} {s : SV} (hB : (Region.free .any ops.toArray ls i && (Region.ready .any ops.toArray ls).contains i) = true) (hs : Region.noSelect ops.toArray = true) (hi : nthO ops i = some o) (hw : qO ops st o = some true) (hr : RdO P K st o s) (hd : zg st o.dst = true)
    (h : SWB P ops ((i, K) :: κ) (ls.setIfInBounds i true) fuel Q (st.put o.dst s)) : SWB P ops κ ls (fuel + 1) Q st := fun w0 Sx γ a w QQ hI hQ => by
  obtain ⟨v, h1, h2⟩ := hr w0 Sx γ a w hI
  have hrest := h w0 Sx γ _ w QQ (hI.put (dst := o.dst) hd h1) hQ
  simp only [put_own] at hrest
  rw [Bool.and_eq_true] at hB
  have hio := (zc ops i).trans hi
  exact wpAnyP_first hio (Region.noSelect_spec hs) (fun _ _ _ h => h) fuel _ ls a w (Region.free_spec hio hB.1) (by simpa using hB.2) (Or.inl ⟨qS hI hw, h2⟩) (SameOn.refl _ _) pendOf_at hrest
theorem qb {Ws : List Nat} (hi : nthO ops i = some o) (hw : qO ops st o = some true) (hK : (kapB o κ).all (fun p => Ws.all fun j => p.2.contains j) = true) (h : ActOk P Ws o st (SWB P ops (kapB o κ) (ls.setIfInBounds i true) fuel Q)) : SWBo P ops κ ls fuel Q st i := fun w0 Sx γ a w QQ hI hQ => by
  have hsub : ∀ p ∈ kapB o κ, ∀ j ∈ Ws, j ∈ p.2 := fun p hp j hj => by simpa using List.all_eq_true.1 (List.all_eq_true.1 hK p hp) j hj
  have hio := (zc ops i).trans hi
  unfold wpOp
  rw [hio]
  simp only [qS hI hw, if_true]
  refine Or.inl ?_
  have := h w0 Sx γ a w (NoPanic QQ) hI
  have mono : ∀ {a' w'}, (∃ γ' st', SWB P ops (kapB o κ) (ls.setIfInBounds i true) fuel Q st' ∧ Sim w0 Sx γ' st' a' w' ∧ SameOn (vis Ws γ st.own) w w' ∧ ∀ K : List Nat, (∀ i ∈ Ws, i ∈ K) → ∀ b, b < w.heap.size → vis K γ st.own b → vis K γ' st'.own b) →
      (∀ p ∈ alive ops.toArray i (pendOf γ st.own w κ), p.2 w') ∧ wpAnyP P ops.toArray (NoPanic QQ) fuel (alive ops.toArray i (pendOf γ st.own w κ)) (ls.setIfInBounds i true) a' w' := fun {a' w'} ⟨γ', st', h1, h2, h3, h4⟩ => by
    have hc : Covers (alive ops.toArray i (pendOf γ st.own w κ)) (pendOf γ' st'.own w' (kapB o κ)) := fun p hp => by
      obtain ⟨hp1, hp2⟩ := mem_alive.1 hp
      obtain ⟨q, hq, rfl⟩ := List.mem_map.1 hp1
      have hq' : q ∈ kapB o κ := List.mem_filter.2 ⟨hq, by rw [hp2 o hio]; rfl⟩
      have hs := hsub q hq'
      refine .inr ⟨_, List.mem_map.2 ⟨q, hq', rfl⟩, rfl, fun x hx => ⟨Nat.le_trans h3.size hx.size, fun b hb hv => ?_⟩⟩
      have e1 := h3.block b hb (fun j bx hj hjW hjb => hv j bx hj (by simpa using hs j (by simpa using hjW)) hjb)
      have e2 := hx.block b (Nat.lt_of_lt_of_le hb h3.size) (h4 q.2 hs b hb hv)
      exact e2.trans e1
    exact ⟨hc.at pendOf_at, wpAnyP_weak _ hc _ _ _ (h1 w0 Sx γ' a' w' QQ h2 hQ)⟩
  unfold Oper.wp at this ⊢
  generalize (execOp a.eval o).run P w = res at *
  cases res with
  | ok n w' =>
    cases n <;> simp only [Oper.upon] at this ⊢ <;> first
      | exact mono this
      | exact this
      | exact Calls.mono this (fun e w'' he => by cases e <;> first | exact mono he | exact he)
      | exact Rows.mono this (fun _ _ he => mono he)
  | halt x w' => cases x <;> simp only [Oper.upon] at this ⊢ <;> exact this
theorem qs {id : Nat} {l : List Oper} {QS : SEx → St → Prop} (n : Nat) (hn : l.length = n) (hm : P.follows .mixedOrders = true) (h : SWB P l [] (Array.replicate n false) n (QS .normal) st) : SW P (.region id l.toArray true) QS st := fun w0 Sx γ a w QQ hI hQ => by
  refine wp_region_noPanic (wp_region_any hm (wpAny_of_pend _ [] _ _ _ ?_))
  have h1 := h w0 Sx γ a w.drew QQ hI.drew fun s' γ' a' w' hI' hq => hQ .normal s' γ' a' w' hI' hq
  have e : l.toArray.size = n := by simpa using hn
  rw [e]
  exact h1
end
end Go.Proofs.Ytlmgamnpfdgdeaa
namespace Go.Proofs.Ytlmgamnpfdgdeaa
set_option linter.unusedVariables false
set_option linter.unusedSimpArgs false
open Go.RowKit
set_option maxHeartbeats 4000000
theorem u8_ofN {n : Nat} (h : n < 256) : IntKind.u8.wrap (n : Int) = ((UInt8.ofNat n).toNat : Int) := by
  rw [u8_in (by omega), UInt8.toNat_ofNat']; omega
theorem nm_h (i : Nat) (hi : i < 100) : Holds Try.prog 4 [pI (i : Int)] (.p (pL (nmL i))) [] := by
  refine qA (ts := [2]) Try.func4 (by kernel_rfl) rfl rfl rfl ?_
  refine uA ?_
  refine uR ?_
  refine qp qa rfl rfl (by omega) rfl ?_
  rw [show ((i : Int).tdiv 26) = ((i / 26 : Nat) : Int) from (Int.tdiv_eq_ediv_of_nonneg (by omega)).trans (by omega), IntWalk.i64_in ((i / 26 : Nat) : Int) (by omega)]
  refine uS ?_
  rw [show IntKind.i64.wrap (97 + ((i / 26 : Nat) : Int)) = ((97 + i / 26 : Nat) : Int) from IntWalk.i64_in _ (by omega)]
  refine uS ?_
  rw [u8_ofN (show 97 + i / 26 < 256 by omega)]
  refine qp qa rfl rfl (by omega) rfl ?_
  rw [show ((i : Int).tmod 26) = ((i % 26 : Nat) : Int) from (Int.tmod_eq_emod_of_nonneg (by omega)).trans (by omega)]
  refine uS ?_
  rw [show IntKind.i64.wrap (97 + ((i % 26 : Nat) : Int)) = ((97 + i % 26 : Nat) : Int) from IntWalk.i64_in _ (by omega)]
  refine uS ?_
  rw [u8_ofN (show 97 + i % 26 < 256 by omega)]
  refine uS ?_
  refine swt_act rfl (act_textR qa (b := [UInt8.ofNat (97 + i / 26), UInt8.ofNat (97 + i % 26)]) rfl rfl rfl rfl rfl rfl rfl ?_)
  refine uS ?_
  refine qp qa rfl rfl (by show ((1 + 2 : Nat) : Int) ≤ 9223372036854775807; omega) rfl ?_
  refine uS ?_
  refine qh ?_
  refine uQ ?_
  refine fin_s rfl ?_
  show (⟨⟨[112]⟩⟩ : ByteArray) ++ ⟨⟨[UInt8.ofNat (97 + i / 26), UInt8.ofNat (97 + i % 26)]⟩⟩ = ⟨⟨nmL i⟩⟩
  have h : ((⟨⟨[112]⟩⟩ : ByteArray) ++ ⟨⟨[UInt8.ofNat (97 + i / 26), UInt8.ofNat (97 + i % 26)]⟩⟩).data.toList = nmL i := by
    rw [ByteArray.data_append]; simp [nmL]
  rw [← h]
def nestN : Nat → List PV
  | 0 => [pS ⟨#[108, 101, 97, 102]⟩, pB false, pI 3, nilV, nilV, nilV, nilV]
  | k + 1 => [pL (nmL k), pB true, pI 4, nilV, nilV, .sl 7 [nestN k], nilV]
theorem cv_nest : ∀ k, CvL (nestN k) (polP (nestR k))
  | 0 => .cons (.refl _) (.cons (.refl _) (.cons (.refl _) (.cons (.nil _) (.cons (.nil _) (.cons (.nil _) (.cons (.nil _) .nil))))))
  | k + 1 => .cons (.refl _) (.cons (.refl _) (.cons (.refl _) (.cons (.nil _) (.cons (.nil _) (.cons (CvM.sl (.cons (cv_nest k) .nil)) (.cons (.nil _) .nil))))))
theorem nest_fit : ∀ n k, PolFit n (nestR k)
  | 0, _ => True.intro
  | n + 1, 0 => ⟨pol0_fit _ _ _ _ (by decide) (by decide), fun k hk => by cases hk⟩
  | n + 1, k + 1 => ⟨pol0_fit _ _ _ _ (by show 3 ≤ 100; omega) (by show 1 ≤ 100; omega), fun x hx => by
    have hx' : x ∈ [nestR k] := hx
    rw [List.mem_singleton] at hx'
    subst hx'
    exact nest_fit n k⟩
def rulN (s : List UInt8) : List PV := [pL s, pB false, nilV, nilV, nilV]
def zb (a n : Nat) : List (List PV) := (List.range' a n).map fun i => rulN (114 :: nmL i)
def kidN (j t : Nat) : List PV := [pL (107 :: nmL (16 * j)), pB false, pI 3, nilV, .sl 5 (zb (16 * j) t), nilV, nilV]
def kid0 (j : Nat) : List PV := [pL (107 :: nmL (16 * j)), pB false, pI 3, nilV, nilV, nilV, nilV]
def kidsN (q : Nat) : List (List PV) := (List.range q).map (kidN · 16)
def kidC (q : Nat) (r : SV) : List SV := [.p (pL (107 :: nmL (16 * q))), .p (pB false), .p (pI 3), .p nilV, r, .p nilV, .p nilV]
def sC (k : SV) : List SV := [.p (pS ⟨#[115]⟩), .p (pB true), .p (pI 4), .p nilV, .p nilV, k, .p nilV]
theorem qz (q : Nat) : (kidsN q).length = q := by simp [kidsN]
theorem kidN_one (j t : Nat) : (kidN j t).length = 7 ∧ ∀ s ∈ kidN j t, oneP s = true := by
  refine ⟨rfl, fun s hs => ?_⟩
  simp only [kidN, List.mem_cons, List.not_mem_nil, or_false] at hs
  rcases hs with rfl | rfl | rfl | rfl | rfl | rfl | rfl <;> rfl
theorem kidsN_one (q : Nat) : ∀ x ∈ kidsN q, x.length = 7 ∧ ∀ s ∈ x, oneP s = true := fun x hx => by
  obtain ⟨j, _, rfl⟩ := List.mem_map.1 hx
  refine ⟨rfl, fun s hs => ?_⟩
  simp only [kidN, List.mem_cons, List.not_mem_nil, or_false] at hs
  rcases hs with rfl | rfl | rfl | rfl | rfl | rfl | rfl <;> rfl
theorem lenK (q : Nat) (r : SV) : (kidsN q).length + ((kidC q r).length / 7 + ([] : List (List PV)).length) = q + 1 := by rw [qz, show (kidC q r).length = 7 from rfl]; rfl
theorem kidsN_succ (q : Nat) : kidsN q ++ ([kidN q 16] ++ []) = kidsN (q + 1) := by
  unfold kidsN; rw [List.range_succ, List.map_append]; rfl
theorem app1 (c : UInt8) (l : List UInt8) : (⟨⟨[c]⟩⟩ : ByteArray) ++ ⟨⟨l⟩⟩ = ⟨⟨c :: l⟩⟩ := by
  have h : ((⟨⟨[c]⟩⟩ : ByteArray) ++ ⟨⟨l⟩⟩).data.toList = c :: l := by rw [ByteArray.data_append]; simp
  rw [← h]
theorem rulesN_succ (a n : Nat) : zb a (n + 1) = zb a n ++ [rulN (114 :: nmL (a + n))] := by
  unfold zb
  rw [List.range'_concat, List.map_append]
  simp
theorem CvM.app {a b c d : List (List PV)} (h : CvM a b) (k : CvM c d) : CvM (a ++ c) (b ++ d) := by
  refine ⟨by simp [h.1, k.1], fun i x y hx hy => ?_⟩
  by_cases hi : i < a.length
  · rw [List.getElem?_append_left hi] at hx
    rw [List.getElem?_append_left (by rw [← h.1]; exact hi)] at hy
    exact h.2 i x y hx hy
  · rw [List.getElem?_append_right (by omega)] at hx
    rw [List.getElem?_append_right (by rw [← h.1]; omega), ← h.1] at hy
    exact k.2 _ x y hx hy
theorem CvM.mapped {α : Type} {f g : α → List PV} (h : ∀ x, CvL (f x) (g x)) (l : List α) : CvM (l.map f) (l.map g) := by
  induction l with
  | nil => exact .nil
  | cons x l ih => exact .cons (h x) ih
theorem cv_rul (s : List UInt8) : CvL (rulN s) (ruleP (rulR s)) := .cons (.refl _) (.cons (.refl _) (.cons (.nil _) (.cons (.nil _) (.cons (.nil _) .nil))))
theorem cv_rules (a n : Nat) : CvM (zb a n) ((rulesR a n).map ruleP) := by
  unfold zb rulesR
  rw [List.map_map]
  exact CvM.mapped (fun i => cv_rul _) _
theorem cv_kid (j t : Nat) : CvL (kidN j t) (polP (kidR j t)) := .cons (.refl _) (.cons (.refl _) (.cons (.refl _) (.cons (.nil _) (.cons (cv_rules _ _).sl (.cons (.nil _) (.cons (.nil _) .nil))))))
def sN (m : Nat) : List PV := [pS ⟨#[115]⟩, pB true, pI 4, nilV, nilV, if m = 0 then nilV else .sl 7 (kidsN ((m - 1) / 16) ++ [kidN ((m - 1) / 16) ((m - 1) % 16 + 1)]), nilV]
theorem cv_s (m : Nat) : CvL (sN m) (polP (deepR m)) := by
  refine .cons (.refl _) (.cons (.refl _) (.cons (.refl _) (.cons (.nil _) (.cons (.nil _) (.cons ?_ (.cons (.nil _) .nil))))))
  rw [polPs_eq]
  unfold kidsR
  by_cases h : m = 0
  · rw [if_pos h, if_pos h]; exact .nil _
  · rw [if_neg h, if_neg h]
    refine CvM.sl ?_
    rw [List.map_append, List.map_map]
    have h1 := CvM.mapped (f := (kidN · 16)) (g := polP ∘ (kidR · 16)) (fun j => cv_kid j 16) (List.range ((m - 1) / 16))
    exact CvM.app h1 (.cons (cv_kid _ _) .nil)
def fullC (r : SV) : List SV := [.p (pS ⟨#[113]⟩), .p (pB false), .p (pI 3), .p nilV, r, .p nilV, .p nilV]
def qQ (n : Nat) : List (List PV) := (List.range' 0 n).map fun i => rulN (nmL i)
theorem rulsF_succ (n : Nat) : qQ (n + 1) = qQ n ++ [rulN (nmL n)] := by
  unfold qQ
  rw [List.range'_concat, List.map_append]
  simp
theorem cv_full (n : Nat) : CvL [pS ⟨#[113]⟩, pB false, pI 3, nilV, .sl 5 (qQ n), nilV, nilV] (polP (fullR n)) := by
  refine .cons (.refl _) (.cons (.refl _) (.cons (.refl _) (.cons (.nil _) (.cons (CvM.sl ?_) (.cons (.nil _) (.cons (.nil _) .nil))))))
  unfold qQ
  rw [List.map_map]
  exact CvM.mapped (fun i => cv_rul _) _
theorem rul_fit (s : List UInt8) (h : s.length ≤ 100) : RulFit (rulR s) := ⟨by show s.length ≤ _; unfold reachBytes; omega, (fun x hx => by cases hx), (fun x hx => by cases hx), (fun x hx => by cases hx)⟩
theorem flat_fit (id : List UInt8) (hid : id.length ≤ 100) (a : Int) (l : List Rul) (hl : l.length ≤ 100) (h : ∀ r ∈ l, RulFit r) : ∀ n, PolFit n (.mk ⟨⟨id⟩⟩ false a [] l [] [])
  | 0 => True.intro
  | n + 1 => ⟨⟨by show id.length ≤ _; unfold reachBytes; omega, (fun x hx => by cases hx), h, (fun x hx => by cases hx), by show l.length ≤ _; unfold reachBytes; omega, by show 0 ≤ _; omega⟩, fun k hk => by cases hk⟩
theorem kid_fit (n j t : Nat) (ht : t ≤ 16) : PolFit n (kidR j t) := flat_fit _ (by show 4 ≤ 100; omega) _ _ (by simp [rulesR]; omega) (fun r hr => by
  obtain ⟨i, _, rfl⟩ := List.mem_map.1 hr
  exact rul_fit _ (by show 4 ≤ 100; omega)) n
theorem deep_fit (m : Nat) (hm : m ≤ 80) : PolFit 4 (deepR m) := by
  have hk : ∀ k ∈ kidsR m, PolFit 3 k := fun k hk => by
    unfold kidsR at hk
    split at hk
    · cases hk
    · rcases List.mem_append.1 hk with hk | hk
      · obtain ⟨j, _, rfl⟩ := List.mem_map.1 hk; exact kid_fit 3 j 16 (by omega)
      · rw [List.mem_singleton] at hk; subst hk; exact kid_fit 3 _ _ (by omega)
  have hl : (kidsR m).length ≤ 100 := by
    unfold kidsR
    split <;> simp
    omega
  exact ⟨pol0_fit _ _ _ _ (by decide) hl, hk⟩
theorem full_fit (n : Nat) (hn : n ≤ 20) : PolFit 4 (fullR n) := flat_fit [113] (by decide) _ _ (by simp; omega) (fun r hr => by
  obtain ⟨i, _, rfl⟩ := List.mem_map.1 hr
  exact rul_fit _ (by show 3 ≤ 100; omega)) 4
theorem polDeep_h (n many : Int) (hn : R64 n) (hm : R64 many) : Holds Try.prog 3 [pI n, pI many] (.p (pB true)) [] := by
  have W1 := within_h n 0 6 hn (by omega) (by omega) (by omega)
  have W2 := within_h many 0 80 hm (by omega) (by omega) (by omega)
  obtain ⟨K, hK⟩ : ∃ K : Nat, 0 + n % (6 - 0 + 1) = K := ⟨(n % 7).toNat, by omega⟩
  obtain ⟨M, hM⟩ : ∃ M : Nat, 0 + many % (80 - 0 + 1) = M := ⟨(many % 81).toNat, by omega⟩
  have hK6 : K ≤ 6 := by omega
  have HSm : ∀ m, m ≤ 80 → Holds Try.prog 6 [.agg (sN m)] (.p (pI (if m ≤ 64 then 0 else 6))) [] := fun m hm => ((right_h (deepR m) (deep_fit m hm)).res (r' := .p (pI (if m ≤ 64 then 0 else 6))) (by
    have := List.all_eq_true.1 deep_all m (by simp; omega)
    rw [of_decide_eq_true this])).cv (.cons (cv_s m).agg .nil)
  have hM8 : M ≤ 80 := by omega
  rw [hK] at W1
  rw [hM] at W2
  refine qA (ts := [4]) Try.func3 (by kernel_rfl) rfl rfl rfl ?_
  refine uA ?_
  refine uA ?_
  refine uR ?_
  refine uK W1 ?_
  refine qh ?_
  refine uA ?_
  refine uA ?_
  refine uB ?_
  refine uZ [1, 5, 6, 7, 8] [(7, 7)] ?_
  refine qY (fun m s => ∃ (i : Nat) (ii : Int), i ≤ K ∧ m = K - i ∧ ii = i ∧ s = ⟨126, [(1, .p (pI many)), (5, .p (.fn 4 [])), (6, .p (pI (K : Int))), (7, .ptr 7 0), (8, .p (pI ii))], [(7, .cells ((nestN i).map .p))]⟩) K ⟨0, 0, Nat.zero_le _, rfl, rfl, rfl⟩ ?_
  rintro m s ⟨i, _, hi, rfl, rfl, rfl⟩
  refine uA ?_
  refine uC (fun hlt => ?_) (fun hlt => ?_)
  · refine qj ?_
    have hlt' : i < K := by have := of_decide_eq_true hlt; omega
    cases i with
    | zero =>
      refine uB ?_
      (repeat refine qw ?_); refine qs 7 rfl (by kernel_rfl) ?_
      refine qg (i := 0) (K := [7]) (by kernel_rfl) (by kernel_rfl) rfl rfl (qc qa rfl (by exact True.intro)) rfl ?_
      refine qg (i := 1) (K := [7]) (by kernel_rfl) (by kernel_rfl) rfl rfl (qc qa rfl (by exact True.intro)) rfl ?_
      refine qg (i := 3) (K := []) (by kernel_rfl) (by kernel_rfl) rfl rfl (qc qa rfl (by exact True.intro)) rfl ?_
      refine swb_fork2 2 4 (by kernel_rfl) ?_ ?_
      refine qb rfl rfl rfl (qn rfl rfl rfl rfl (nm_h 0 (by omega)) rfl rfl ?_)
      refine qf 4 (by kernel_rfl) ?_
      first | refine qb rfl rfl rfl (aM (h := ?_)) | refine qb rfl rfl rfl (aB (h := ?_)) | refine qb rfl rfl rfl (aA (h := ?_)) | refine qb rfl rfl rfl (aS (h := ?_)) | refine qb rfl rfl rfl (aL (h := ?_)) | refine qb rfl rfl rfl (qu (K := []) (qc qa rfl (by exact True.intro)) rfl ?_)
      refine qg (i := 5) (K := [7]) (by kernel_rfl) (by kernel_rfl) rfl rfl (qc qa rfl (by exact True.intro)) rfl ?_
      refine qf 6 (by kernel_rfl) ?_
      first | refine qb rfl rfl rfl (aM (h := ?_)) | refine qb rfl rfl rfl (aB (h := ?_)) | refine qb rfl rfl rfl (aA (h := ?_)) | refine qb rfl rfl rfl (aS (h := ?_)) | refine qb rfl rfl rfl (aL (h := ?_)) | refine qb rfl rfl rfl (qu (K := []) (qc qa rfl (by exact True.intro)) rfl ?_)
      refine qE (by kernel_rfl) ?_
      refine SW.wk (qq [1, 5, 6, 7, 8] [(7, 7), (29, 29)] rfl rfl) ?_
      refine ?fk7_188
      rotate_left
      first | refine qb rfl rfl rfl (aM (h := ?_)) | refine qb rfl rfl rfl (aB (h := ?_)) | refine qb rfl rfl rfl (aA (h := ?_)) | refine qb rfl rfl rfl (aS (h := ?_)) | refine qb rfl rfl rfl (aL (h := ?_)) | refine qb rfl rfl rfl (qu (K := []) (qc qa rfl (by exact True.intro)) rfl ?_)
      refine qf 2 (by kernel_rfl) ?_
      refine qb rfl rfl rfl (qn rfl rfl rfl rfl (nm_h 0 (by omega)) rfl rfl ?_)
      refine qg (i := 5) (K := [7]) (by kernel_rfl) (by kernel_rfl) rfl rfl (qc qa rfl (by exact True.intro)) rfl ?_
      refine qf 6 (by kernel_rfl) ?_
      first | refine qb rfl rfl rfl (aM (h := ?_)) | refine qb rfl rfl rfl (aB (h := ?_)) | refine qb rfl rfl rfl (aA (h := ?_)) | refine qb rfl rfl rfl (aS (h := ?_)) | refine qb rfl rfl rfl (aL (h := ?_)) | refine qb rfl rfl rfl (qu (K := []) (qc qa rfl (by exact True.intro)) rfl ?_)
      refine qE (by kernel_rfl) ?_
      refine SW.wk (qq [1, 5, 6, 7, 8] [(7, 7), (29, 29)] rfl rfl) ?_
      exact ?fk7_188
      refine SW.wk (zq (k := 29) rfl) ?_
      refine uA ?_
      refine ⟨_, _, ?_, qq [1, 5, 6, 7, 8] [(7, 7)] rfl rfl, 0 + 1, _, hlt', rfl, qy hlt' (by omega), rfl⟩
      omega
    | succ j =>
      refine uB ?_
      (repeat refine qw ?_); refine qs 7 rfl (by kernel_rfl) ?_
      refine qg (i := 0) (K := [7]) (by kernel_rfl) (by kernel_rfl) rfl rfl (qc qa rfl (by exact True.intro)) rfl ?_
      refine qg (i := 1) (K := [7]) (by kernel_rfl) (by kernel_rfl) rfl rfl (qc qa rfl (by exact True.intro)) rfl ?_
      refine qg (i := 3) (K := []) (by kernel_rfl) (by kernel_rfl) rfl rfl (qc qa rfl (by exact True.intro)) rfl ?_
      refine swb_fork2 2 4 (by kernel_rfl) ?_ ?_
      refine qb rfl rfl rfl (qn rfl rfl rfl rfl (nm_h (j + 1) (by omega)) rfl rfl ?_)
      refine qf 4 (by kernel_rfl) ?_
      first | refine qb rfl rfl rfl (aM (h := ?_)) | refine qb rfl rfl rfl (aB (h := ?_)) | refine qb rfl rfl rfl (aA (h := ?_)) | refine qb rfl rfl rfl (aS (h := ?_)) | refine qb rfl rfl rfl (aL (h := ?_)) | refine qb rfl rfl rfl (qu (K := []) (qc qa rfl (by exact True.intro)) rfl ?_)
      refine qg (i := 5) (K := [7]) (by kernel_rfl) (by kernel_rfl) rfl rfl (qc qa rfl (by exact True.intro)) rfl ?_
      refine qf 6 (by kernel_rfl) ?_
      first | refine qb rfl rfl rfl (aM (h := ?_)) | refine qb rfl rfl rfl (aB (h := ?_)) | refine qb rfl rfl rfl (aA (h := ?_)) | refine qb rfl rfl rfl (aS (h := ?_)) | refine qb rfl rfl rfl (aL (h := ?_)) | refine qb rfl rfl rfl (qu (K := []) (qc qa rfl (by exact True.intro)) rfl ?_)
      refine qE (by kernel_rfl) ?_
      refine SW.wk (qq [1, 5, 6, 7, 8] [(7, 7), (29, 29)] rfl rfl) ?_
      refine ?fk7_218
      rotate_left
      first | refine qb rfl rfl rfl (aM (h := ?_)) | refine qb rfl rfl rfl (aB (h := ?_)) | refine qb rfl rfl rfl (aA (h := ?_)) | refine qb rfl rfl rfl (aS (h := ?_)) | refine qb rfl rfl rfl (aL (h := ?_)) | refine qb rfl rfl rfl (qu (K := []) (qc qa rfl (by exact True.intro)) rfl ?_)
      refine qf 2 (by kernel_rfl) ?_
      refine qb rfl rfl rfl (qn rfl rfl rfl rfl (nm_h (j + 1) (by omega)) rfl rfl ?_)
      refine qg (i := 5) (K := [7]) (by kernel_rfl) (by kernel_rfl) rfl rfl (qc qa rfl (by exact True.intro)) rfl ?_
      refine qf 6 (by kernel_rfl) ?_
      first | refine qb rfl rfl rfl (aM (h := ?_)) | refine qb rfl rfl rfl (aB (h := ?_)) | refine qb rfl rfl rfl (aA (h := ?_)) | refine qb rfl rfl rfl (aS (h := ?_)) | refine qb rfl rfl rfl (aL (h := ?_)) | refine qb rfl rfl rfl (qu (K := []) (qc qa rfl (by exact True.intro)) rfl ?_)
      refine qE (by kernel_rfl) ?_
      refine SW.wk (qq [1, 5, 6, 7, 8] [(7, 7), (29, 29)] rfl rfl) ?_
      exact ?fk7_218
      refine SW.wk (zq (k := 29) rfl) ?_
      refine uA ?_
      refine ⟨_, _, ?_, qq [1, 5, 6, 7, 8] [(7, 7)] rfl rfl, (j + 1) + 1, _, hlt', rfl, qy hlt' (by omega), rfl⟩
      omega
  refine qR ?_
  have hik : i = K := by have := of_decide_eq_false hlt; omega
  subst hik
  clear hlt hi
  have HR : Holds Try.prog 6 [.agg (nestN i)] (.p (pI (if 4 ≤ i then 6 else 0))) [] := ((right_h (nestR i) (nest_fit 4 i)).res (r' := .p (pI (if 4 ≤ i then 6 else 0))) (by
    have := List.all_eq_true.1 nest_all i (by simp; omega)
    rw [of_decide_eq_true this])).cv (.cons (cv_nest i).agg .nil)
  refine uA ?_
  refine uA ?_
  (repeat refine qw ?_)
  refine SW.mono (Q := fun e s => e = .normal ∧ Wk s ⟨126, [(1, .p (pI many)), (5, .p (.fn 4 [])), (7, .ptr 7 0), (9, .p (pI (if 4 ≤ i then 6 else 0)))], [(7, .cells ((nestN i).map .p))]⟩) ?_ ?_
  · refine uC (fun hc => ?_) (fun hc => ?_)
    · rw [if_pos (show 4 ≤ i by have := of_decide_eq_true hc; omega)]
      refine uA ?_
      exact ⟨rfl, wk_fr [1, 5, 7, 9] rfl⟩
    · rw [if_neg (show ¬ 4 ≤ i by have := of_decide_eq_false hc; omega)]
      refine qj ?_
      exact ⟨rfl, wk_fr [1, 5, 7, 9] rfl⟩
  rintro e s ⟨rfl, hw⟩
  refine SW.wk hw ?_
  generalize (if 4 ≤ i then (6 : Int) else 0) = x0 at *
  (repeat refine qw ?_)
  refine SW.mono (Q := fun e s => e = .normal ∧ Wk s ⟨126, [(1, .p (pI many)), (5, .p (.fn 4 [])), (36, .p (pB false))], []⟩) ?_ ?_
  · cases i with
    | zero =>
      refine uR ?_
      refine uK HR ?_
      rw [show (x0 != x0) = false by simp]
      refine qh ?_
      exact ⟨rfl, qq [1, 5, 36] [] rfl rfl⟩
    | succ i =>
      refine uR ?_
      refine uK HR ?_
      rw [show (x0 != x0) = false by simp]
      refine qh ?_
      exact ⟨rfl, qq [1, 5, 36] [] rfl rfl⟩
  rintro e s ⟨rfl, hw⟩
  refine SW.wk hw ?_
  clear HR W1
  refine uC (fun hc => ?_) (fun hc => ?_)
  · cases hc
  refine qj ?_
  refine uR ?_
  refine uK W2 ?_
  refine qh ?_
  refine uA ?_
  refine uA ?_
  refine uB ?_
  refine uZ [5, 10, 11, 12] [(11, 11)] ?_
  refine qY (fun m s => ∃ (i : Nat) (ii : Int), i ≤ M ∧ m = M - i ∧ ii = i ∧ ((i = 0 ∧ s = ⟨126, [(5, .p (.fn 4 [])), (10, .p (pI (M : Int))), (11, .ptr 11 0), (12, .p (pI ii))], [(11, .cells (sC (.p nilV)))]⟩) ∨
    ∃ q t, i = 16 * q + t ∧ 1 ≤ t ∧ t ≤ 16 ∧ s = ⟨126, [(5, .p (.fn 4 [])), (10, .p (pI (M : Int))), (11, .ptr 11 0), (12, .p (pI ii))], [(11, .cells (sC (.row 1))), (1, .rws 31 7 (kidsN q) (kidC q (.row 2)) []), (2, .row 37 5 (zb (16 * q) t))]⟩)) M ⟨0, 0, Nat.zero_le _, rfl, rfl, .inl ⟨rfl, rfl⟩⟩ ?_
  rintro m s ⟨i, _, hi, rfl, rfl, hst⟩
  rcases hst with ⟨rfl, rfl⟩ | ⟨q, t, rfl, ht1, ht2, rfl⟩
  · refine uA ?_
    refine uC (fun hlt => ?_) (fun hlt => ?_)
    rotate_left
    · refine qR ?_
      have hM0 : M = 0 := by have := of_decide_eq_false hlt; omega
      have HS := HSm M hM8
      rw [show sN M = [pS ⟨#[115]⟩, pB true, pI 4, nilV, nilV, nilV, nilV] by unfold sN; rw [if_pos hM0]] at HS
      have HF : Holds Try.prog 6 [.agg [pS ⟨#[113]⟩, pB false, pI 3, nilV, .sl 5 (qQ 17), nilV, nilV]] (.p (pI 6)) [] := ((right_h (fullR 17) (full_fit 17 (by omega))).res (r' := .p (pI 6)) (by rw [full_two.1])).cv (.cons (cv_full 17).agg .nil)
      have HW : Holds Try.prog 6 [.agg [pS ⟨#[113]⟩, pB false, pI 3, nilV, .sl 5 (qQ 16), nilV, nilV]] (.p (pI 0)) [] := ((right_h (fullR 16) (full_fit 16 (by omega))).res (r' := .p (pI 0)) (by rw [full_two.2])).cv (.cons (cv_full 16).agg .nil)
      refine uA ?_
      refine uA ?_
      refine uB ?_
      refine uZ [5, 10, 11, 14, 15] [(11, 11), (14, 14)] ?_
      refine qY (fun m s => ∃ (i : Nat) (ii : Int), i ≤ 17 ∧ m = 17 - i ∧ ii = i ∧ ((i = 0 ∧ s = ⟨126, [(5, .p (.fn 4 [])), (10, .p (pI (M : Nat))), (11, .ptr 11 0), (14, .ptr 14 0), (15, .p (pI ii))], [(11, .cells (sC (.p nilV))), (14, .cells (fullC (.p nilV)))]⟩) ∨
        (0 < i ∧ s = ⟨126, [(5, .p (.fn 4 [])), (10, .p (pI (M : Nat))), (11, .ptr 11 0), (14, .ptr 14 0), (15, .p (pI ii))], [(11, .cells (sC (.p nilV))), (14, .cells (fullC (.row 2))), (2, .row 37 5 (qQ i))]⟩))) 17 ⟨0, 0, by omega, rfl, rfl, .inl ⟨rfl, rfl⟩⟩ ?_
      rintro m s ⟨i, _, hi17, rfl, rfl, hst⟩
      rcases hst with ⟨rfl, rfl⟩ | ⟨hi0, rfl⟩
      · refine uA ?_
        refine uC (fun hl3 => ?_) (fun hl3 => ?_)
        rotate_left
        · cases hl3
        refine qj ?_
        refine uB ?_
        (repeat refine qw ?_); refine qs 10 rfl (by kernel_rfl) ?_
        refine qg (i := 0) (K := [14]) (by kernel_rfl) (by kernel_rfl) rfl rfl (qc qa rfl (by exact True.intro)) rfl ?_
        refine qg (i := 1) (K := []) (by kernel_rfl) (by kernel_rfl) rfl rfl (qc qa rfl (by exact True.intro)) rfl ?_
        refine qg (i := 2) (K := [14]) (by kernel_rfl) (by kernel_rfl) rfl rfl (qc qa rfl (by exact True.intro)) rfl ?_
        refine qg (i := 3) (K := [14]) (by kernel_rfl) (by kernel_rfl) rfl rfl (qc qa rfl (by exact True.intro)) rfl ?_
        refine qf 4 (by kernel_rfl) ?_
        refine qb rfl rfl rfl (qn rfl rfl rfl rfl (nm_h 0 (by omega)) rfl rfl ?_)
        refine qg (i := 5) (K := [14]) (by kernel_rfl) (by kernel_rfl) rfl rfl (qc qa rfl (by exact True.intro)) rfl ?_
        refine qf 6 (by kernel_rfl) ?_
        first | refine qb rfl rfl rfl (aM (h := ?_)) | refine qb rfl rfl rfl (aB (h := ?_)) | refine qb rfl rfl rfl (aA (h := ?_)) | refine qb rfl rfl rfl (aS (h := ?_)) | refine qb rfl rfl rfl (aL (h := ?_)) | refine qb rfl rfl rfl (qu (K := []) (qc qa rfl (by exact True.intro)) rfl ?_)
        refine qf 7 (by kernel_rfl) ?_
        refine qb rfl rfl rfl (qG qa rfl rfl rfl rfl rfl rfl rfl rfl rfl rfl rfl rfl rfl rfl rfl (by simp only [List.length_cons, List.length_nil]; omega) ?_)
        refine qg (i := 8) (K := [14]) (by kernel_rfl) (by kernel_rfl) rfl rfl (qc qa rfl (by exact True.intro)) rfl ?_
        refine qf 9 (by kernel_rfl) ?_
        first | refine qb rfl rfl rfl (aM (h := ?_)) | refine qb rfl rfl rfl (aB (h := ?_)) | refine qb rfl rfl rfl (aA (h := ?_)) | refine qb rfl rfl rfl (aS (h := ?_)) | refine qb rfl rfl rfl (aL (h := ?_)) | refine qb rfl rfl rfl (qu (K := []) (qc qa rfl (by exact True.intro)) rfl ?_)
        refine qE (by kernel_rfl) ?_
        refine SW.wk (qq [5, 10, 11, 14, 15] [(11, 11), (14, 14), (91, 2)] rfl rfl) ?_
        refine ?fk26_322
        rotate_left
        refine uA ?_
        refine ⟨_, _, ?_, qq [5, 10, 11, 14, 15] [(11, 11), (14, 14), (2, 2)] rfl rfl, 1, _, by omega, rfl, rfl, .inr ⟨by omega, rfl⟩⟩
        omega
      · refine uA ?_
        refine uC (fun hl3 => ?_) (fun hl3 => ?_)
        · have hi16 : i < 17 := by have := of_decide_eq_true hl3; omega
          refine qj ?_
          refine uB ?_
          (repeat refine qw ?_); refine qs 10 rfl (by kernel_rfl) ?_
          refine qg (i := 0) (K := [14, 2]) (by kernel_rfl) (by kernel_rfl) rfl rfl (qc qa rfl (by exact True.intro)) rfl ?_
          refine qg (i := 1) (K := [2]) (by kernel_rfl) (by kernel_rfl) rfl rfl (qc qa rfl (by exact True.intro)) rfl ?_
          refine qg (i := 2) (K := [14, 2]) (by kernel_rfl) (by kernel_rfl) rfl rfl (qc qa rfl (by exact True.intro)) rfl ?_
          refine qg (i := 3) (K := [14, 2]) (by kernel_rfl) (by kernel_rfl) rfl rfl (qc qa rfl (by exact True.intro)) rfl ?_
          refine qf 4 (by kernel_rfl) ?_
          refine qb rfl rfl rfl (qn rfl rfl rfl rfl (nm_h i (by omega)) rfl rfl ?_)
          refine qg (i := 5) (K := [14, 2]) (by kernel_rfl) (by kernel_rfl) rfl rfl (qc qa rfl (by exact True.intro)) rfl ?_
          refine qf 6 (by kernel_rfl) ?_
          first | refine qb rfl rfl rfl (aM (h := ?_)) | refine qb rfl rfl rfl (aB (h := ?_)) | refine qb rfl rfl rfl (aA (h := ?_)) | refine qb rfl rfl rfl (aS (h := ?_)) | refine qb rfl rfl rfl (aL (h := ?_)) | refine qb rfl rfl rfl (qu (K := []) (qc qa rfl (by exact True.intro)) rfl ?_)
          refine qf 7 (by kernel_rfl) ?_
          refine qb rfl rfl rfl (qF qa rfl rfl rfl rfl rfl rfl rfl rfl rfl rfl rfl rfl rfl rfl rfl rfl (by simp only [zb, qQ, qz, List.length_map, List.length_range', List.length_cons, List.length_nil]; unfold reachBytes; omega) (by simp only [zb, qQ, qz, List.length_map, List.length_range', List.length_cons, List.length_nil]; omega) ?_)
          refine qg (i := 8) (K := [14, 2]) (by kernel_rfl) (by kernel_rfl) rfl rfl (qc qa rfl (by exact True.intro)) rfl ?_
          refine qf 9 (by kernel_rfl) ?_
          first | refine qb rfl rfl rfl (aM (h := ?_)) | refine qb rfl rfl rfl (aB (h := ?_)) | refine qb rfl rfl rfl (aA (h := ?_)) | refine qb rfl rfl rfl (aS (h := ?_)) | refine qb rfl rfl rfl (aL (h := ?_)) | refine qb rfl rfl rfl (qu (K := []) (qc qa rfl (by exact True.intro)) rfl ?_)
          refine qE (by kernel_rfl) ?_
          refine SW.wk (qq [5, 10, 11, 14, 15] [(11, 11), (14, 14), (91, 2)] rfl rfl) ?_
          refine ?fk26_349
          rotate_left
          refine uA ?_
          refine ⟨_, _, ?_, qq [5, 10, 11, 14, 15] [(11, 11), (14, 14), (2, 2)] rfl rfl, i + 1, _, by omega, rfl, qy hi16 (by omega), .inr ⟨by omega, ?_⟩⟩
          rotate_left
          · rw [rulsF_succ]; rfl
          omega
        · have h17 : i = 17 := by have := of_decide_eq_false hl3; omega
          subst h17
          refine qR ?_
          refine uZ [10, 11, 14] [(11, 11), (14, 14), (2, 2)] ?_
          refine SW.wk (zq (k := 2) rfl) ?_
          change SW _ _ _ ⟨126, [(10, .p (pI (M : Nat))), (11, .ptr 11 0), (14, .ptr 14 0)], [(11, .cells (sC (.p nilV))), (14, .cells (fullC (.p (.sl 5 (qQ 17)))))]⟩
          refine uA ?_
          refine uR ?_
          refine qp qa rfl rfl (by rw [show (qQ 17).length = 17 from rfl]; omega) rfl ?_
          rw [show ((qQ 17).drop (Int.toNat 0)).take (Int.toNat 16 - Int.toNat 0) = qQ 16 from rfl]
          refine uS ?_
          refine qh ?_
          refine uR ?_
          refine uK HS ?_
          by_cases h64 : (M : Nat) ≤ 64
          · rw [if_pos h64]
            refine uS ?_
            rw [show decide (((M : Nat) : Int) ≤ 64) = true by first | rfl | (simp; omega)]
            refine uS ?_
            rw [show decide (((M : Nat) : Int) ≤ 64) = true by first | rfl | (simp; omega)]
            refine uS ?_
            refine uK HF ?_
            refine uS ?_
            refine uK HW ?_
            refine uS ?_
            refine uK polRuns_h ?_
            refine qh ?_
            refine uQ ?_
            exact fin_b rfl rfl
          · rw [if_neg h64]
            refine uS ?_
            rw [show decide (((M : Nat) : Int) ≤ 64) = false by first | rfl | (simp; omega)]
            refine uS ?_
            rw [show decide (((M : Nat) : Int) ≤ 64) = false by first | rfl | (simp; omega)]
            refine uS ?_
            rw [if_neg h64] at HS
            refine uK HS ?_
            refine uS ?_
            refine uK HF ?_
            refine uS ?_
            refine uK HW ?_
            refine uS ?_
            refine uK polRuns_h ?_
            refine qh ?_
            refine uQ ?_
            exact fin_b rfl rfl
    have hlt' : 0 < M := by have := of_decide_eq_true hlt; omega
    refine qj ?_
    refine uB ?_
    refine uR ?_
    refine qp qa rfl rfl (by omega) rfl ?_
    refine uS ?_
    refine qh ?_
    (repeat refine qw ?_)
    refine uC (fun hx => ?_) (fun hx => ?_)
    rotate_left
    · cases hx
    (repeat refine qw ?_); refine qs 11 rfl (by kernel_rfl) ?_
    refine qg (i := 0) (K := [11]) (by kernel_rfl) (by kernel_rfl) rfl rfl (qc qa rfl (by exact True.intro)) rfl ?_
    refine qg (i := 1) (K := []) (by kernel_rfl) (by kernel_rfl) rfl rfl (qc qa rfl (by exact True.intro)) rfl ?_
    refine qg (i := 2) (K := [11]) (by kernel_rfl) (by kernel_rfl) rfl rfl (qc qa rfl (by exact True.intro)) rfl ?_
    refine qg (i := 3) (K := [11]) (by kernel_rfl) (by kernel_rfl) rfl rfl (qc qa rfl (by exact True.intro)) rfl ?_
    refine qf 4 (by kernel_rfl) ?_
    refine qb rfl rfl rfl (qn rfl rfl rfl rfl (nm_h 0 (by omega)) rfl rfl ?_)
    refine qg (i := 5) (K := [11]) (by kernel_rfl) (by kernel_rfl) rfl rfl (qc qa rfl (by show ((1 + 3 : Nat) : Int) ≤ 9223372036854775807; omega)) rfl ?_
    rw [app1]
    refine qg (i := 6) (K := [11]) (by kernel_rfl) (by kernel_rfl) rfl rfl (qc qa rfl (by exact True.intro)) rfl ?_
    refine qf 7 (by kernel_rfl) ?_
    first | refine qb rfl rfl rfl (aM (h := ?_)) | refine qb rfl rfl rfl (aB (h := ?_)) | refine qb rfl rfl rfl (aA (h := ?_)) | refine qb rfl rfl rfl (aS (h := ?_)) | refine qb rfl rfl rfl (aL (h := ?_)) | refine qb rfl rfl rfl (qu (K := []) (qc qa rfl (by exact True.intro)) rfl ?_)
    refine qf 8 (by kernel_rfl) ?_
    refine qb rfl rfl rfl (qG qa rfl rfl rfl rfl rfl rfl rfl rfl rfl rfl rfl rfl rfl rfl rfl (by simp only [List.length_cons, List.length_nil]; omega) ?_)
    refine qg (i := 9) (K := [11]) (by kernel_rfl) (by kernel_rfl) rfl rfl (qc qa rfl (by exact True.intro)) rfl ?_
    refine qf 10 (by kernel_rfl) ?_
    first | refine qb rfl rfl rfl (aM (h := ?_)) | refine qb rfl rfl rfl (aB (h := ?_)) | refine qb rfl rfl rfl (aA (h := ?_)) | refine qb rfl rfl rfl (aS (h := ?_)) | refine qb rfl rfl rfl (aL (h := ?_)) | refine qb rfl rfl rfl (qu (K := []) (qc qa rfl (by exact True.intro)) rfl ?_)
    refine qE (by kernel_rfl) ?_
    refine SW.wk (qq [5, 10, 11, 12] [(11, 11), (56, 1)] rfl rfl) ?_
    refine ?fk19_430
    rotate_left
    refine SW.wk (wk_rws (k := 1) (kidsN 0) [kid0 0] [] rfl rfl) ?_
    change SW _ _ _ ⟨126, [(5, .p (.fn 4 [])), (10, .p (pI (M : Int))), (11, .ptr 11 0), (12, .p (pI ((0 : Nat) : Int)))], [(11, .cells (sC (.row 1))), (1, .rws 31 7 (kidsN 0) (kidC 0 (.p nilV)) [])]⟩
    refine uR ?_
    rw [lenK, show IntKind.i64.wrap (((0 + 1 : Nat) : Int) - 1) = ((0 : Nat) : Int) by rw [show ((0 + 1 : Nat) : Int) - 1 = ((0 : Nat) : Int) by omega]; exact IntWalk.i64_in _ (by omega)]
    refine uS ?_
    refine qp qa rfl rfl (by rw [lenK]; omega) rfl ?_
    refine uS ?_
    refine qh ?_
    (repeat refine qw ?_); refine qs 15 rfl (by kernel_rfl) ?_
    refine qg (i := 0) (K := [1]) (by kernel_rfl) (by kernel_rfl) rfl rfl (qc qa rfl (by exact True.intro)) rfl ?_
    refine qg (i := 1) (K := [1]) (by kernel_rfl) (by kernel_rfl) rfl rfl (qc qa rfl (by exact True.intro)) rfl ?_
    refine qg (i := 2) (K := [1]) (by kernel_rfl) (by kernel_rfl) rfl rfl (qc qa rfl (by exact True.intro)) rfl ?_
    refine qg (i := 3) (K := [1]) (by kernel_rfl) (by kernel_rfl) rfl rfl (qc qa rfl (by exact True.intro)) rfl ?_
    refine qg (i := 4) (K := []) (by kernel_rfl) (by kernel_rfl) rfl rfl (qc qa (opR_loadM 4 rfl rfl rfl rfl (fun x hx => (kidsN_one _ x hx).1) (by rw [qz, Int.toNat_natCast]) rfl (by show 4 ≤ 7; omega)) True.intro) rfl ?_
    refine qg (i := 5) (K := [1]) (by kernel_rfl) (by kernel_rfl) rfl rfl (qc qa rfl (by exact True.intro)) rfl ?_
    refine qg (i := 6) (K := [1]) (by kernel_rfl) (by kernel_rfl) rfl rfl (qc qa rfl (by exact True.intro)) rfl ?_
    refine qf 7 (by kernel_rfl) ?_
    refine qb rfl rfl rfl (qn rfl rfl rfl rfl (nm_h (0) (by omega)) rfl rfl ?_)
    refine qg (i := 8) (K := [1]) (by kernel_rfl) (by kernel_rfl) rfl rfl (qc qa rfl (by show ((1 + 3 : Nat) : Int) ≤ 9223372036854775807; omega)) rfl ?_
    rw [app1]
    refine qg (i := 9) (K := [1]) (by kernel_rfl) (by kernel_rfl) rfl rfl (qc qa rfl (by exact True.intro)) rfl ?_
    refine qf 10 (by kernel_rfl) ?_
    first | refine qb rfl rfl rfl (aM (h := ?_)) | refine qb rfl rfl rfl (aB (h := ?_)) | refine qb rfl rfl rfl (aA (h := ?_)) | refine qb rfl rfl rfl (aS (h := ?_)) | refine qb rfl rfl rfl (aL (h := ?_)) | refine qb rfl rfl rfl (qu (K := []) (qc qa rfl (by exact True.intro)) rfl ?_)
    refine qf 11 (by kernel_rfl) ?_
    refine qb rfl rfl rfl (qG qa rfl rfl rfl rfl rfl rfl rfl rfl rfl rfl rfl rfl rfl rfl rfl (by simp only [List.length_cons, List.length_nil]; omega) ?_)
    refine qg (i := 12) (K := [1]) (by kernel_rfl) (by kernel_rfl) rfl rfl (qc qa rfl (by exact True.intro)) rfl ?_
    refine qg (i := 13) (K := [1]) (by kernel_rfl) (by kernel_rfl) rfl rfl (qc qa rfl (by exact True.intro)) rfl ?_
    refine qf 14 (by kernel_rfl) ?_
    refine qb rfl rfl rfl (act_storeW qa rfl rfl rfl rfl rfl (k := 4) (by rw [qz, Int.toNat_natCast]) rfl rfl rfl rfl (by show 5 ≤ 7; omega) ?_)
    refine qE (by kernel_rfl) ?_
    refine SW.wk (qq [5, 10, 11, 12] [(11, 11), (1, 1), (76, 2)] rfl rfl) ?_
    refine ?fk21_459
    rotate_left
    refine uA ?_
    refine ⟨_, _, ?_, qq [5, 10, 11, 12] [(11, 11), (1, 1), (2, 2)] rfl rfl, 0 + 1, _, hlt', rfl, qy hlt' (by omega), .inr ⟨0, 1, by omega, by omega, by omega, rfl⟩⟩
    omega
  · refine uA ?_
    refine uC (fun hlt => ?_) (fun hlt => ?_)
    rotate_left
    · refine qR ?_
      have hM1 : 16 * q + t = M := by have := of_decide_eq_false hlt; omega
      subst hM1
      have HS := HSm (16 * q + t) hM8
      rw [show sN (16 * q + t) = [pS ⟨#[115]⟩, pB true, pI 4, nilV, nilV, .sl 7 (kidsN q ++ ([kidN q t] ++ [])), nilV] by
        unfold sN
        rw [if_neg (by omega), show (16 * q + t - 1) / 16 = q by omega, show (16 * q + t - 1) % 16 + 1 = t by omega]
        rfl] at HS
      refine uZ [5, 10, 11] [(11, 11), (1, 1), (2, 2)] ?_
      refine SW.wk (zq (k := 2) rfl) ?_
      refine SW.wk (wk_row (k := 1) [kidN q t] rfl rfl (fun x hx => by rw [List.mem_singleton] at hx; subst hx; exact kidN_one q t)) ?_
      refine SW.wk (zq (k := 1) rfl) ?_
      change SW _ _ _ ⟨126, [(5, .p (.fn 4 [])), (10, .p (pI (16 * q + t : Nat))), (11, .ptr 11 0)], [(11, .cells (sC (.p (.sl 7 (kidsN q ++ ([kidN q t] ++ []))))))]⟩
      generalize hkv : PV.sl 7 (kidsN q ++ ([kidN q t] ++ [])) = kv at *
      have HF : Holds Try.prog 6 [.agg [pS ⟨#[113]⟩, pB false, pI 3, nilV, .sl 5 (qQ 17), nilV, nilV]] (.p (pI 6)) [] := ((right_h (fullR 17) (full_fit 17 (by omega))).res (r' := .p (pI 6)) (by rw [full_two.1])).cv (.cons (cv_full 17).agg .nil)
      have HW : Holds Try.prog 6 [.agg [pS ⟨#[113]⟩, pB false, pI 3, nilV, .sl 5 (qQ 16), nilV, nilV]] (.p (pI 0)) [] := ((right_h (fullR 16) (full_fit 16 (by omega))).res (r' := .p (pI 0)) (by rw [full_two.2])).cv (.cons (cv_full 16).agg .nil)
      refine uA ?_
      refine uA ?_
      refine uB ?_
      refine uZ [5, 10, 11, 14, 15] [(11, 11), (14, 14)] ?_
      refine qY (fun m s => ∃ (i : Nat) (ii : Int), i ≤ 17 ∧ m = 17 - i ∧ ii = i ∧ ((i = 0 ∧ s = ⟨126, [(5, .p (.fn 4 [])), (10, .p (pI (16 * q + t : Nat))), (11, .ptr 11 0), (14, .ptr 14 0), (15, .p (pI ii))], [(11, .cells (sC (.p kv))), (14, .cells (fullC (.p nilV)))]⟩) ∨
        (0 < i ∧ s = ⟨126, [(5, .p (.fn 4 [])), (10, .p (pI (16 * q + t : Nat))), (11, .ptr 11 0), (14, .ptr 14 0), (15, .p (pI ii))], [(11, .cells (sC (.p kv))), (14, .cells (fullC (.row 2))), (2, .row 37 5 (qQ i))]⟩))) 17 ⟨0, 0, by omega, rfl, rfl, .inl ⟨rfl, rfl⟩⟩ ?_
      rintro m s ⟨i, _, hi17, rfl, rfl, hst⟩
      rcases hst with ⟨rfl, rfl⟩ | ⟨hi0, rfl⟩
      · refine uA ?_
        refine uC (fun hl3 => ?_) (fun hl3 => ?_)
        rotate_left
        · cases hl3
        refine qj ?_
        refine uB ?_
        (repeat refine qw ?_); refine qs 10 rfl (by kernel_rfl) ?_
        refine qg (i := 0) (K := [14]) (by kernel_rfl) (by kernel_rfl) rfl rfl (qc qa rfl (by exact True.intro)) rfl ?_
        refine qg (i := 1) (K := []) (by kernel_rfl) (by kernel_rfl) rfl rfl (qc qa rfl (by exact True.intro)) rfl ?_
        refine qg (i := 2) (K := [14]) (by kernel_rfl) (by kernel_rfl) rfl rfl (qc qa rfl (by exact True.intro)) rfl ?_
        refine qg (i := 3) (K := [14]) (by kernel_rfl) (by kernel_rfl) rfl rfl (qc qa rfl (by exact True.intro)) rfl ?_
        refine qf 4 (by kernel_rfl) ?_
        refine qb rfl rfl rfl (qn rfl rfl rfl rfl (nm_h 0 (by omega)) rfl rfl ?_)
        refine qg (i := 5) (K := [14]) (by kernel_rfl) (by kernel_rfl) rfl rfl (qc qa rfl (by exact True.intro)) rfl ?_
        refine qf 6 (by kernel_rfl) ?_
        first | refine qb rfl rfl rfl (aM (h := ?_)) | refine qb rfl rfl rfl (aB (h := ?_)) | refine qb rfl rfl rfl (aA (h := ?_)) | refine qb rfl rfl rfl (aS (h := ?_)) | refine qb rfl rfl rfl (aL (h := ?_)) | refine qb rfl rfl rfl (qu (K := []) (qc qa rfl (by exact True.intro)) rfl ?_)
        refine qf 7 (by kernel_rfl) ?_
        refine qb rfl rfl rfl (qG qa rfl rfl rfl rfl rfl rfl rfl rfl rfl rfl rfl rfl rfl rfl rfl (by simp only [List.length_cons, List.length_nil]; omega) ?_)
        refine qg (i := 8) (K := [14]) (by kernel_rfl) (by kernel_rfl) rfl rfl (qc qa rfl (by exact True.intro)) rfl ?_
        refine qf 9 (by kernel_rfl) ?_
        first | refine qb rfl rfl rfl (aM (h := ?_)) | refine qb rfl rfl rfl (aB (h := ?_)) | refine qb rfl rfl rfl (aA (h := ?_)) | refine qb rfl rfl rfl (aS (h := ?_)) | refine qb rfl rfl rfl (aL (h := ?_)) | refine qb rfl rfl rfl (qu (K := []) (qc qa rfl (by exact True.intro)) rfl ?_)
        refine qE (by kernel_rfl) ?_
        refine SW.wk (qq [5, 10, 11, 14, 15] [(11, 11), (14, 14), (91, 2)] rfl rfl) ?_
        refine ?fk26_520
        rotate_left
        refine uA ?_
        refine ⟨_, _, ?_, qq [5, 10, 11, 14, 15] [(11, 11), (14, 14), (2, 2)] rfl rfl, 1, _, by omega, rfl, rfl, .inr ⟨by omega, rfl⟩⟩
        omega
      · refine uA ?_
        refine uC (fun hl3 => ?_) (fun hl3 => ?_)
        · have hi16 : i < 17 := by have := of_decide_eq_true hl3; omega
          refine qj ?_
          refine uB ?_
          (repeat refine qw ?_); refine qs 10 rfl (by kernel_rfl) ?_
          refine qg (i := 0) (K := [14, 2]) (by kernel_rfl) (by kernel_rfl) rfl rfl (qc qa rfl (by exact True.intro)) rfl ?_
          refine qg (i := 1) (K := [2]) (by kernel_rfl) (by kernel_rfl) rfl rfl (qc qa rfl (by exact True.intro)) rfl ?_
          refine qg (i := 2) (K := [14, 2]) (by kernel_rfl) (by kernel_rfl) rfl rfl (qc qa rfl (by exact True.intro)) rfl ?_
          refine qg (i := 3) (K := [14, 2]) (by kernel_rfl) (by kernel_rfl) rfl rfl (qc qa rfl (by exact True.intro)) rfl ?_
          refine qf 4 (by kernel_rfl) ?_
          refine qb rfl rfl rfl (qn rfl rfl rfl rfl (nm_h i (by omega)) rfl rfl ?_)
          refine qg (i := 5) (K := [14, 2]) (by kernel_rfl) (by kernel_rfl) rfl rfl (qc qa rfl (by exact True.intro)) rfl ?_
          refine qf 6 (by kernel_rfl) ?_
          first | refine qb rfl rfl rfl (aM (h := ?_)) | refine qb rfl rfl rfl (aB (h := ?_)) | refine qb rfl rfl rfl (aA (h := ?_)) | refine qb rfl rfl rfl (aS (h := ?_)) | refine qb rfl rfl rfl (aL (h := ?_)) | refine qb rfl rfl rfl (qu (K := []) (qc qa rfl (by exact True.intro)) rfl ?_)
          refine qf 7 (by kernel_rfl) ?_
          refine qb rfl rfl rfl (qF qa rfl rfl rfl rfl rfl rfl rfl rfl rfl rfl rfl rfl rfl rfl rfl rfl (by simp only [zb, qQ, qz, List.length_map, List.length_range', List.length_cons, List.length_nil]; unfold reachBytes; omega) (by simp only [zb, qQ, qz, List.length_map, List.length_range', List.length_cons, List.length_nil]; omega) ?_)
          refine qg (i := 8) (K := [14, 2]) (by kernel_rfl) (by kernel_rfl) rfl rfl (qc qa rfl (by exact True.intro)) rfl ?_
          refine qf 9 (by kernel_rfl) ?_
          first | refine qb rfl rfl rfl (aM (h := ?_)) | refine qb rfl rfl rfl (aB (h := ?_)) | refine qb rfl rfl rfl (aA (h := ?_)) | refine qb rfl rfl rfl (aS (h := ?_)) | refine qb rfl rfl rfl (aL (h := ?_)) | refine qb rfl rfl rfl (qu (K := []) (qc qa rfl (by exact True.intro)) rfl ?_)
          refine qE (by kernel_rfl) ?_
          refine SW.wk (qq [5, 10, 11, 14, 15] [(11, 11), (14, 14), (91, 2)] rfl rfl) ?_
          refine ?fk26_547
          rotate_left
          refine uA ?_
          refine ⟨_, _, ?_, qq [5, 10, 11, 14, 15] [(11, 11), (14, 14), (2, 2)] rfl rfl, i + 1, _, by omega, rfl, qy hi16 (by omega), .inr ⟨by omega, ?_⟩⟩
          rotate_left
          · rw [rulsF_succ]; rfl
          omega
        · have h17 : i = 17 := by have := of_decide_eq_false hl3; omega
          subst h17
          refine qR ?_
          refine uZ [10, 11, 14] [(11, 11), (14, 14), (2, 2)] ?_
          refine SW.wk (zq (k := 2) rfl) ?_
          change SW _ _ _ ⟨126, [(10, .p (pI (16 * q + t : Nat))), (11, .ptr 11 0), (14, .ptr 14 0)], [(11, .cells (sC (.p kv))), (14, .cells (fullC (.p (.sl 5 (qQ 17)))))]⟩
          refine uA ?_
          refine uR ?_
          refine qp qa rfl rfl (by rw [show (qQ 17).length = 17 from rfl]; omega) rfl ?_
          rw [show ((qQ 17).drop (Int.toNat 0)).take (Int.toNat 16 - Int.toNat 0) = qQ 16 from rfl]
          refine uS ?_
          refine qh ?_
          refine uR ?_
          refine uK HS ?_
          by_cases h64 : (16 * q + t : Nat) ≤ 64
          · rw [if_pos h64]
            refine uS ?_
            rw [show decide (((16 * q + t : Nat) : Int) ≤ 64) = true by first | rfl | (simp; omega)]
            refine uS ?_
            rw [show decide (((16 * q + t : Nat) : Int) ≤ 64) = true by first | rfl | (simp; omega)]
            refine uS ?_
            refine uK HF ?_
            refine uS ?_
            refine uK HW ?_
            refine uS ?_
            refine uK polRuns_h ?_
            refine qh ?_
            refine uQ ?_
            exact fin_b rfl rfl
          · rw [if_neg h64]
            refine uS ?_
            rw [show decide (((16 * q + t : Nat) : Int) ≤ 64) = false by first | rfl | (simp; omega)]
            refine uS ?_
            rw [show decide (((16 * q + t : Nat) : Int) ≤ 64) = false by first | rfl | (simp; omega)]
            refine uS ?_
            rw [if_neg h64] at HS
            refine uK HS ?_
            refine uS ?_
            refine uK HF ?_
            refine uS ?_
            refine uK HW ?_
            refine uS ?_
            refine uK polRuns_h ?_
            refine qh ?_
            refine uQ ?_
            exact fin_b rfl rfl
    have hlt' : 16 * q + t < M := by have := of_decide_eq_true hlt; omega
    by_cases ht : t = 16
    · subst ht
      refine qj ?_
      refine uB ?_
      refine uR ?_
      refine qp qa rfl rfl (by omega) rfl ?_
      rw [show (((16 * q + 16 : Nat) : Int).tmod 16) = 0 from (Int.tmod_eq_emod_of_nonneg (by omega)).trans (by omega)]
      refine uS ?_
      refine qh ?_
      (repeat refine qw ?_)
      refine uC (fun hx => ?_) (fun hx => ?_)
      rotate_left
      · cases hx
      refine uZ [5, 10, 11, 12] [(11, 11), (1, 1), (2, 2)] ?_
      refine SW.wk (zq (k := 2) rfl) ?_
      change SW _ _ _ ⟨126, [(5, .p (.fn 4 [])), (10, .p (pI (M : Int))), (11, .ptr 11 0), (12, .p (pI ((16 * q + 16 : Nat) : Int)))], [(11, .cells (sC (.row 1))), (1, .rws 31 7 (kidsN q) (kidC q (.p (.sl 5 (zb (16 * q) 16)))) [])]⟩
      refine SW.wk (wk_row (k := 1) [kidN q 16] rfl rfl (fun x hx => by rw [List.mem_singleton] at hx; subst hx; exact kidN_one q 16)) ?_
      change SW _ _ _ ⟨126, [(5, .p (.fn 4 [])), (10, .p (pI (M : Int))), (11, .ptr 11 0), (12, .p (pI ((16 * q + 16 : Nat) : Int)))], [(11, .cells (sC (.row 1))), (1, .row 31 7 (kidsN q ++ ([kidN q 16] ++ [])))]⟩
      rw [kidsN_succ]
      (repeat refine qw ?_); refine qs 11 rfl (by kernel_rfl) ?_
      refine qg (i := 0) (K := [11, 1]) (by kernel_rfl) (by kernel_rfl) rfl rfl (qc qa rfl (by exact True.intro)) rfl ?_
      refine qg (i := 1) (K := [1]) (by kernel_rfl) (by kernel_rfl) rfl rfl (qc qa rfl (by exact True.intro)) rfl ?_
      refine qg (i := 2) (K := [11, 1]) (by kernel_rfl) (by kernel_rfl) rfl rfl (qc qa rfl (by exact True.intro)) rfl ?_
      refine qg (i := 3) (K := [11, 1]) (by kernel_rfl) (by kernel_rfl) rfl rfl (qc qa rfl (by exact True.intro)) rfl ?_
      refine qf 4 (by kernel_rfl) ?_
      refine qb rfl rfl rfl (qn rfl rfl rfl rfl (nm_h (16 * q + 16) (by omega)) rfl rfl ?_)
      refine qg (i := 5) (K := [11, 1]) (by kernel_rfl) (by kernel_rfl) rfl rfl (qc qa rfl (by show ((1 + 3 : Nat) : Int) ≤ 9223372036854775807; omega)) rfl ?_
      rw [app1]
      refine qg (i := 6) (K := [11, 1]) (by kernel_rfl) (by kernel_rfl) rfl rfl (qc qa rfl (by exact True.intro)) rfl ?_
      refine qf 7 (by kernel_rfl) ?_
      first | refine qb rfl rfl rfl (aM (h := ?_)) | refine qb rfl rfl rfl (aB (h := ?_)) | refine qb rfl rfl rfl (aA (h := ?_)) | refine qb rfl rfl rfl (aS (h := ?_)) | refine qb rfl rfl rfl (aL (h := ?_)) | refine qb rfl rfl rfl (qu (K := []) (qc qa rfl (by exact True.intro)) rfl ?_)
      refine qf 8 (by kernel_rfl) ?_
      refine qb rfl rfl rfl (qF qa rfl rfl rfl rfl rfl rfl rfl rfl rfl rfl rfl rfl rfl rfl rfl rfl (by simp only [zb, qQ, qz, List.length_map, List.length_range', List.length_cons, List.length_nil]; unfold reachBytes; omega) (by simp only [zb, qQ, qz, List.length_map, List.length_range', List.length_cons, List.length_nil]; omega) ?_)
      refine qg (i := 9) (K := [11, 1]) (by kernel_rfl) (by kernel_rfl) rfl rfl (qc qa rfl (by exact True.intro)) rfl ?_
      refine qf 10 (by kernel_rfl) ?_
      first | refine qb rfl rfl rfl (aM (h := ?_)) | refine qb rfl rfl rfl (aB (h := ?_)) | refine qb rfl rfl rfl (aA (h := ?_)) | refine qb rfl rfl rfl (aS (h := ?_)) | refine qb rfl rfl rfl (aL (h := ?_)) | refine qb rfl rfl rfl (qu (K := []) (qc qa rfl (by exact True.intro)) rfl ?_)
      refine qE (by kernel_rfl) ?_
      refine SW.wk (qq [5, 10, 11, 12] [(11, 11), (56, 1)] rfl rfl) ?_
      refine ?fk19_637
      rotate_left
      refine SW.wk (wk_rws (k := 1) (kidsN (q + 1)) [kid0 (q + 1)] [] rfl rfl) ?_
      change SW _ _ _ ⟨126, [(5, .p (.fn 4 [])), (10, .p (pI (M : Int))), (11, .ptr 11 0), (12, .p (pI ((16 * q + 16 : Nat) : Int)))], [(11, .cells (sC (.row 1))), (1, .rws 31 7 (kidsN (q + 1)) (kidC (q + 1) (.p nilV)) [])]⟩
      refine uR ?_
      rw [lenK, show IntKind.i64.wrap ((((q + 1) + 1 : Nat) : Int) - 1) = (((q + 1) : Nat) : Int) by rw [show (((q + 1) + 1 : Nat) : Int) - 1 = (((q + 1) : Nat) : Int) by omega]; exact IntWalk.i64_in _ (by omega)]
      refine uS ?_
      refine qp qa rfl rfl (by rw [lenK]; omega) rfl ?_
      refine uS ?_
      refine qh ?_
      (repeat refine qw ?_); refine qs 15 rfl (by kernel_rfl) ?_
      refine qg (i := 0) (K := [1]) (by kernel_rfl) (by kernel_rfl) rfl rfl (qc qa rfl (by exact True.intro)) rfl ?_
      refine qg (i := 1) (K := [1]) (by kernel_rfl) (by kernel_rfl) rfl rfl (qc qa rfl (by exact True.intro)) rfl ?_
      refine qg (i := 2) (K := [1]) (by kernel_rfl) (by kernel_rfl) rfl rfl (qc qa rfl (by exact True.intro)) rfl ?_
      refine qg (i := 3) (K := [1]) (by kernel_rfl) (by kernel_rfl) rfl rfl (qc qa rfl (by exact True.intro)) rfl ?_
      refine qg (i := 4) (K := []) (by kernel_rfl) (by kernel_rfl) rfl rfl (qc qa (opR_loadM 4 rfl rfl rfl rfl (fun x hx => (kidsN_one _ x hx).1) (by rw [qz, Int.toNat_natCast]) rfl (by show 4 ≤ 7; omega)) True.intro) rfl ?_
      refine qg (i := 5) (K := [1]) (by kernel_rfl) (by kernel_rfl) rfl rfl (qc qa rfl (by exact True.intro)) rfl ?_
      refine qg (i := 6) (K := [1]) (by kernel_rfl) (by kernel_rfl) rfl rfl (qc qa rfl (by exact True.intro)) rfl ?_
      refine qf 7 (by kernel_rfl) ?_
      refine qb rfl rfl rfl (qn rfl rfl rfl rfl (nm_h (16 * q + 16) (by omega)) rfl rfl ?_)
      refine qg (i := 8) (K := [1]) (by kernel_rfl) (by kernel_rfl) rfl rfl (qc qa rfl (by show ((1 + 3 : Nat) : Int) ≤ 9223372036854775807; omega)) rfl ?_
      rw [app1]
      refine qg (i := 9) (K := [1]) (by kernel_rfl) (by kernel_rfl) rfl rfl (qc qa rfl (by exact True.intro)) rfl ?_
      refine qf 10 (by kernel_rfl) ?_
      first | refine qb rfl rfl rfl (aM (h := ?_)) | refine qb rfl rfl rfl (aB (h := ?_)) | refine qb rfl rfl rfl (aA (h := ?_)) | refine qb rfl rfl rfl (aS (h := ?_)) | refine qb rfl rfl rfl (aL (h := ?_)) | refine qb rfl rfl rfl (qu (K := []) (qc qa rfl (by exact True.intro)) rfl ?_)
      refine qf 11 (by kernel_rfl) ?_
      refine qb rfl rfl rfl (qG qa rfl rfl rfl rfl rfl rfl rfl rfl rfl rfl rfl rfl rfl rfl rfl (by simp only [List.length_cons, List.length_nil]; omega) ?_)
      refine qg (i := 12) (K := [1]) (by kernel_rfl) (by kernel_rfl) rfl rfl (qc qa rfl (by exact True.intro)) rfl ?_
      refine qg (i := 13) (K := [1]) (by kernel_rfl) (by kernel_rfl) rfl rfl (qc qa rfl (by exact True.intro)) rfl ?_
      refine qf 14 (by kernel_rfl) ?_
      refine qb rfl rfl rfl (act_storeW qa rfl rfl rfl rfl rfl (k := 4) (by rw [qz, Int.toNat_natCast]) rfl rfl rfl rfl (by show 5 ≤ 7; omega) ?_)
      refine qE (by kernel_rfl) ?_
      refine SW.wk (qq [5, 10, 11, 12] [(11, 11), (1, 1), (76, 2)] rfl rfl) ?_
      refine ?fk21_666
      rotate_left
      refine uA ?_
      refine ⟨_, _, ?_, qq [5, 10, 11, 12] [(11, 11), (1, 1), (2, 2)] rfl rfl, 16 * q + 16 + 1, _, hlt', rfl, qy hlt' (by omega), .inr ⟨(q + 1), 1, by omega, by omega, by omega, rfl⟩⟩
      omega
    · refine qj ?_
      refine uB ?_
      refine uR ?_
      refine qp qa rfl rfl (by omega) rfl ?_
      rw [show (((16 * q + t : Nat) : Int).tmod 16) = (t : Int) from (Int.tmod_eq_emod_of_nonneg (by omega)).trans (by omega)]
      refine uS ?_
      rw [show ((t : Int) == 0) = false by simp; omega]
      refine qh ?_
      (repeat refine qw ?_)
      refine uC (fun hx => ?_) (fun hx => ?_)
      · cases hx
      refine qj ?_
      refine uR ?_
      rw [lenK, show IntKind.i64.wrap (((q + 1 : Nat) : Int) - 1) = ((q : Nat) : Int) by rw [show ((q + 1 : Nat) : Int) - 1 = ((q : Nat) : Int) by omega]; exact IntWalk.i64_in _ (by omega)]
      refine uS ?_
      refine qp qa rfl rfl (by rw [lenK]; omega) rfl ?_
      refine uS ?_
      refine qh ?_
      (repeat refine qw ?_); refine qs 15 rfl (by kernel_rfl) ?_
      refine qg (i := 0) (K := [1, 2]) (by kernel_rfl) (by kernel_rfl) rfl rfl (qc qa rfl (by exact True.intro)) rfl ?_
      refine qg (i := 1) (K := [1, 2]) (by kernel_rfl) (by kernel_rfl) rfl rfl (qc qa rfl (by exact True.intro)) rfl ?_
      refine qg (i := 2) (K := [1, 2]) (by kernel_rfl) (by kernel_rfl) rfl rfl (qc qa rfl (by exact True.intro)) rfl ?_
      refine qg (i := 3) (K := [1, 2]) (by kernel_rfl) (by kernel_rfl) rfl rfl (qc qa rfl (by exact True.intro)) rfl ?_
      refine qg (i := 4) (K := [2]) (by kernel_rfl) (by kernel_rfl) rfl rfl (qc qa (opR_loadM 4 rfl rfl rfl rfl (fun x hx => (kidsN_one _ x hx).1) (by rw [qz, Int.toNat_natCast]) rfl (by show 4 ≤ 7; omega)) True.intro) rfl ?_
      refine qg (i := 5) (K := [1, 2]) (by kernel_rfl) (by kernel_rfl) rfl rfl (qc qa rfl (by exact True.intro)) rfl ?_
      refine qg (i := 6) (K := [1, 2]) (by kernel_rfl) (by kernel_rfl) rfl rfl (qc qa rfl (by exact True.intro)) rfl ?_
      refine qf 7 (by kernel_rfl) ?_
      refine qb rfl rfl rfl (qn rfl rfl rfl rfl (nm_h (16 * q + t) (by omega)) rfl rfl ?_)
      refine qg (i := 8) (K := [1, 2]) (by kernel_rfl) (by kernel_rfl) rfl rfl (qc qa rfl (by show ((1 + 3 : Nat) : Int) ≤ 9223372036854775807; omega)) rfl ?_
      rw [app1]
      refine qg (i := 9) (K := [1, 2]) (by kernel_rfl) (by kernel_rfl) rfl rfl (qc qa rfl (by exact True.intro)) rfl ?_
      refine qf 10 (by kernel_rfl) ?_
      first | refine qb rfl rfl rfl (aM (h := ?_)) | refine qb rfl rfl rfl (aB (h := ?_)) | refine qb rfl rfl rfl (aA (h := ?_)) | refine qb rfl rfl rfl (aS (h := ?_)) | refine qb rfl rfl rfl (aL (h := ?_)) | refine qb rfl rfl rfl (qu (K := []) (qc qa rfl (by exact True.intro)) rfl ?_)
      refine qf 11 (by kernel_rfl) ?_
      refine qb rfl rfl rfl (qF qa rfl rfl rfl rfl rfl rfl rfl rfl rfl rfl rfl rfl rfl rfl rfl rfl (by simp only [zb, qQ, qz, List.length_map, List.length_range', List.length_cons, List.length_nil]; unfold reachBytes; omega) (by simp only [zb, qQ, qz, List.length_map, List.length_range', List.length_cons, List.length_nil]; omega) ?_)
      refine qg (i := 12) (K := [1, 2]) (by kernel_rfl) (by kernel_rfl) rfl rfl (qc qa rfl (by exact True.intro)) rfl ?_
      refine qg (i := 13) (K := [1, 2]) (by kernel_rfl) (by kernel_rfl) rfl rfl (qc qa rfl (by exact True.intro)) rfl ?_
      refine qf 14 (by kernel_rfl) ?_
      refine qb rfl rfl rfl (act_storeW qa rfl rfl rfl rfl rfl (k := 4) (by rw [qz, Int.toNat_natCast]) rfl rfl rfl rfl (by show 5 ≤ 7; omega) ?_)
      refine qE (by kernel_rfl) ?_
      refine SW.wk (qq [5, 10, 11, 12] [(11, 11), (1, 1), (76, 2)] rfl rfl) ?_
      refine ?fk21_712
      rotate_left
      refine uA ?_
      refine ⟨_, _, ?_, qq [5, 10, 11, 12] [(11, 11), (1, 1), (2, 2)] rfl rfl, 16 * q + t + 1, _, hlt', rfl, qy hlt' (by omega), .inr ⟨q, t + 1, by omega, by omega, by omega, ?_⟩⟩
      rotate_left
      · rw [rulesN_succ]; rfl
      omega
end Go.Proofs.Ytlmgamnpfdgdeaa
namespace Go.Proofs.Ytlmgamnpfdgdeaa
set_option linter.unusedVariables false
set_option linter.unusedSimpArgs false
open Go.RowKit
inductive RelsP (w : World) : List PV → List Value → Prop
  | nil : RelsP w [] []
  | cons {x : PV} {u : Value} {xs : List PV} {us : List Value} (h : RelP (fun _ => True) w x u) (r : RelsP w xs us) : RelsP w (x :: xs) (u :: us)
theorem RelsP.get {w : World} {xs : List PV} {us : List Value} (h : RelsP w xs us) : us.length = xs.length ∧ ∀ (i : Nat) (s : PV) (u : Value), xs[i]? = some s → us[i]? = some u → RelP (fun _ => True) w s u := by
  induction h with
  | nil => exact ⟨rfl, fun i s u h => by simp at h⟩
  | cons h r ih =>
    refine ⟨by simp [ih.1], fun i s u hs hu => ?_⟩
    cases i with
    | zero => simp at hs hu; subst hs; subst hu; exact h
    | succ i => exact ih.2 i s u (by simpa using hs) (by simpa using hu)
theorem law_callsG {P : Program} {f : FuncId} {args : List PV} {us : List Value} {W : World} (hg : GlOk (entry W) fun _ => False) (H : Holds P f args (.p (.v (.bool true))) []) (hr : RelsP W args us) : Calls P f us.toArray W fun e w' => e = .returned (.bool true) ∧ Below W.heap.size W w' := by
  obtain ⟨h1, h2⟩ := hr.get
  refine (H.2 W (fun _ => False) us ⟨fun _ h => h.elim, hg⟩ h1 fun i s u hs hu => (h2 i s u hs hu).weak fun _ _ _ => fun h => h).mono fun e w' ⟨v, γ, he, hb, _, hv⟩ => ?_
  have := hv.v_inv
  subst this
  exact ⟨he, hb⟩
theorem rel_int {w : World} (k : IntKind) (n : Int) : RelP (fun _ => True) w (.v (.int k n)) (.int k n) := .v rfl
end Go.Proofs.Ytlmgamnpfdgdeaa
namespace Go.Proofs.Ytlmgamnpfdgdeaa
set_option linter.unusedVariables false
set_option linter.unusedSimpArgs false
open Go.RowKit
theorem law_calls {P : Program} {f : FuncId} {args : List PV} {us : List Value} {W : World} (H : Holds P f args (.p (pB true)) []) (hr : RelsP W args us) : Calls P f us.toArray W fun e w' => e = .returned (.bool true) ∧ Below W.heap.size W w' :=
  law_callsG ⟨fun g us h => by simp [GTab, lk] at h, fun g h => by simp [ETab] at h⟩ H hr
end Go.Proofs.Ytlmgamnpfdgdeaa
namespace Go.Proofs.Ytlmgamnpfdgdeaa
set_option linter.unusedVariables false
set_option linter.unusedSimpArgs false
open Go.RowKit
end Go.Proofs.Ytlmgamnpfdgdeaa
