/-
  Layer 8's law PolicyCounts: the walk, by shades.
-/
import Derived.Test.YtjpcchipejmocaaSh
import Derived.Test.YtjpcchipejmocaaSmallH
import Derived.Test.YtjpcchipejmocaaPolM
import Derived.Test.YtjpcchipejmocaaPolRuns
namespace Go.Proofs.Ytjpcchipejmocaa
set_option linter.unusedVariables false
set_option linter.unusedSimpArgs false
open Go.RowKit
set_option maxHeartbeats 4000000
mutual
/-- how many rules -/
def Pol.nr : Pol → Nat
  | .mk _ _ _ _ rs ks _ => rs.length + Pol.nrs ks
def Pol.nrs : List Pol → Nat
  | [] => 0
  | k :: ks => k.nr + Pol.nrs ks
end
theorem Pol.nrs_eq : ∀ l : List Pol, Pol.nrs l = sumBy Pol.nr l
  | [] => rfl
  | k :: ks => by simp [Pol.nrs, sumBy, Pol.nrs_eq ks]
theorem Pol.nr_eq (p : Pol) : p.nr = p.rules.length + sumBy Pol.nr p.kids := by
  cases p; rw [← Pol.nrs_eq]; rfl
theorem seqS_count {α : Type} {f : Wlk → α → Int × Wlk} {c : α → Nat} (hf : ∀ w x, (f w x).1 = 0 → (f w x).2.rules = w.rules + c x) : ∀ {l : List α} {w : Wlk}, (seqS f w l).1 = 0 → (seqS f w l).2.rules = w.rules + sumBy c l
  | [], w, _ => by simp [seqS, sumBy]
  | x :: r, w, h => by
    rw [seqS] at h ⊢
    by_cases h0 : (f w x).1 = 0
    · rw [if_pos h0] at h ⊢
      rw [seqS_count hf h, hf w x h0]
      simp [sumBy]; omega
    · rw [if_neg h0] at h; exact absurd h h0
theorem ruleS_count (w : Wlk) (r : Rul) (h : (ruleS w r).1 = 0) : (ruleS w r).2.rules = w.rules + (1 : Nat) := by
  unfold ruleS at h ⊢
  split at h
  · rename_i hn; rw [if_pos hn]; rfl
  · cases h
theorem sumBy_one {α : Type} : ∀ l : List α, sumBy (fun _ => 1) l = l.length
  | [] => rfl
  | x :: r => by have := sumBy_one r; unfold sumBy at this ⊢; simp; omega
theorem sumBy_take {α : Type} (f : α → Nat) (l : List α) (k : Nat) : sumBy f (l.take k) ≤ sumBy f l := by
  have h : sumBy f (l.take k ++ l.drop k) = sumBy f (l.take k) + sumBy f (l.drop k) := by simp only [sumBy, List.map_append, List.sum_append]
  rw [List.take_append_drop] at h
  omega
theorem polS_count : ∀ (n : Nat) (w : Wlk) (p : Pol), (polS n w p).1 = 0 → (polS n w p).2.rules = w.rules + p.nr
  | 0, w, p, h => by cases h
  | n + 1, w, p, h => by
    have h1 : (headS w p).2.rules = w.rules := rfl
    rw [polS] at h ⊢
    rw [Pol.nr_eq]
    split at h
    · rename_i h2
      rw [if_pos h2]
      split at h
      · rename_i h3
        rw [if_pos h3, seqS_count (c := Pol.nr) (fun w x h => polS_count n w x h) h, seqS_count (c := fun _ => 1) ruleS_count h3, h1, sumBy_one]
        omega
      · rename_i h3; exact absurd h h3
    · rename_i h2; exact absurd h h2
/-- no more than so many levels -/
def Dp : Nat → Pol → Prop
  | 0, _ => False
  | n + 1, p => ∀ k ∈ p.kids, Dp n k
theorem polS_kids {n : Nat} {w : Wlk} {p : Pol} (h : (polS (n + 1) w p).1 = 0) : (headS w p).1 = 0 ∧ (seqS ruleS (headS w p).2 p.rules).1 = 0 ∧ (seqS (polS n) (seqS ruleS (headS w p).2 p.rules).2 p.kids).1 = 0 := by
  rw [polS] at h
  split at h
  · rename_i h2
    split at h
    · rename_i h3; exact ⟨h2, h3, h⟩
    · rename_i h3; exact absurd h h3
  · rename_i h2; exact absurd h h2
theorem polS_dp : ∀ (n : Nat) {w : Wlk} {p : Pol}, (polS n w p).1 = 0 → Dp n p
  | 0, w, p, h => by cases h
  | n + 1, w, p, h => seqS_each (fun w x h => polS_dp n h) (polS_kids h).2.2
theorem seqS_eachP {α : Type} {f : Wlk → α → Int × Wlk} {P : Wlk → Prop} {Q : α → Prop} (hf : ∀ w x, P w → (f w x).1 = 0 → P (f w x).2 ∧ Q x) : ∀ {l : List α} {w : Wlk}, P w → (seqS f w l).1 = 0 → ∀ x ∈ l, Q x
  | [], w, _, _, x, hx => by simp at hx
  | y :: r, w, hw, h0, x, hx => by
    rw [seqS] at h0
    by_cases hy : (f w y).1 = 0
    · rw [if_pos hy] at h0
      rcases List.mem_cons.1 hx with rfl | hx
      · exact (hf w _ hw hy).2
      · exact seqS_eachP hf (hf w y hw hy).1 h0 x hx
    · rw [if_neg hy] at h0; exact absurd h0 hy
theorem right_kids {p : Pol} (h : rightS p = 0) : ∀ k ∈ p.kids, rightS k = 0 := by
  obtain ⟨h1, h2, h3⟩ := polS_kids h
  have l1 : lim (headS ⟨[], 0⟩ p).2 := ⟨by show (0 : Int) ≤ 0; omega, by show (0 : Int) ≤ 64; omega⟩
  have l2 := seqS_lim (P := lim) (fun w x hw h => ruleS_lim hw h) l1 h2
  exact seqS_eachP (P := lim) (Q := fun k => rightS k = 0) (fun w x hw h => ⟨polS_lim 3 w x hw h, (polS_le (n := 3) (m := 4) (by omega) (le_start w hw.1) h).1⟩) l2 h3
theorem right_nr {p : Pol} (h : rightS p = 0) : p.nr ≤ 64 := by
  have h1 := polS_count 4 ⟨[], 0⟩ p h
  have h2 := polS_lim 4 ⟨[], 0⟩ p ⟨Int.le_refl _, by decide⟩ h
  have := h2.2
  rw [h1] at this
  simp only [Int.zero_add] at this
  omega
theorem nr_kid {p k : Pol} (h : k ∈ p.kids) : k.nr ≤ p.nr := by
  rw [Pol.nr_eq p]
  have := sumBy_le (f := Pol.nr) h
  omega
theorem rules_h : ∀ (n : Nat) (p : Pol), Dp n p → PolFit n p → p.nr ≤ 1000000 → Holds Try.prog 33 [.agg (polP p)] (.p (pI p.nr)) []
  | n + 1, p, hd, hf, hb => by
    have IH := fun k (hk : k ∈ p.kids) => rules_h n k (hd k hk) (hf.2 k hk) (Nat.le_trans (nr_kid hk) hb)
    have l1 : ((p.rules.map ruleP).length) = p.rules.length := by simp
    have l2 : ((p.kids.map polP).length) = p.kids.length := by simp
    have hlen2 := hf.1.nk
    unfold reachBytes at hlen2
    have hb' := hb
    rw [Pol.nr_eq] at hb' ⊢
    rw [polP_eq]
    refine holds_of (ts := [2]) Try.func33 (by kernel_rfl) rfl rfl rfl ?_
    (repeat refine sw_seq ?_); refine sw_region ?_
    repeat (first | refine sR (h := ?_) | refine sK (h := ?_) | refine sT (h := aM (h := ?_)) | refine sT (h := aB (h := ?_)) | refine sT (h := aA (h := ?_)) | refine sT (h := aS (h := ?_)) | refine sT (h := aL (h := ?_)))
    refine swt_nil ?_
    (repeat refine sw_seq ?_); refine sw_region ?_
    repeat (first | refine sR (h := ?_) | refine sK (h := ?_) | refine sT (h := aM (h := ?_)) | refine sT (h := aB (h := ?_)) | refine sT (h := aA (h := ?_)) | refine sT (h := aS (h := ?_)) | refine sT (h := aL (h := ?_)))
    refine swt_nil ?_
    rw [l1]
    (repeat refine sw_seq ?_); refine sw_region ?_
    repeat (first | refine sR (h := ?_) | refine sK (h := ?_) | refine sT (h := aM (h := ?_)) | refine sT (h := aB (h := ?_)) | refine sT (h := aA (h := ?_)) | refine sT (h := aS (h := ?_)) | refine sT (h := aL (h := ?_)))
    refine swt_nil ?_
    (repeat refine sw_seq ?_); refine sw_block ?_
    refine SW.wk (wk_only [3, 10, 11, 12] [] rfl rfl) ?_
    refine sw_loop (fun m s => ∃ (k : Nat) (kk : Int) (c : Int), k ≤ p.kids.length ∧ m = p.kids.length - k ∧ kk = k ∧ c = ((p.rules.length + sumBy Pol.nr (p.kids.take k) : Nat) : Int) ∧ s = ⟨22, [(3, .p (pI c)), (10, .p (.sl 7 (p.kids.map polP))), (11, .p (pI p.kids.length)), (12, .p (pI kk))], []⟩) p.kids.length ⟨0, 0, _, Nat.zero_le _, rfl, rfl, by simp [sumBy]; rfl, by rw [← l2]; rfl⟩ ?_
    rintro m s ⟨k, _, _, hk, rfl, rfl, rfl, rfl⟩
    (repeat refine sw_seq ?_); refine sw_region ?_
    repeat (first | refine sR (h := ?_) | refine sK (h := ?_) | refine sT (h := aM (h := ?_)) | refine sT (h := aB (h := ?_)) | refine sT (h := aA (h := ?_)) | refine sT (h := aS (h := ?_)) | refine sT (h := aL (h := ?_)))
    refine swt_nil ?_
    (repeat refine sw_seq ?_); refine sw_cond rfl (fun hlt => ?_) (fun hlt => ?_)
    · refine sw_skip ?_
      simp only [decide_eq_true_eq] at hlt
      have hlt' : k < p.kids.length := by omega
      have hs := sumBy_step (f := Pol.nr) hlt'
      have hm := sumBy_take Pol.nr p.kids (k + 1)
      (repeat refine sw_seq ?_); refine sw_block ?_
      (repeat refine sw_seq ?_); refine sw_region ?_
      repeat (first | refine sR (h := ?_) | refine sK (h := ?_) | refine sT (h := aM (h := ?_)) | refine sT (h := aB (h := ?_)) | refine sT (h := aA (h := ?_)) | refine sT (h := aS (h := ?_)) | refine sT (h := aL (h := ?_)))
      refine swt_read ttab_ok rfl rfl (by rw [l2]; omega) rfl ?_
      rw [getD_map hlt', polP_eq]
      repeat (first | refine sR (h := ?_) | refine sK (h := ?_) | refine sT (h := aM (h := ?_)) | refine sT (h := aB (h := ?_)) | refine sT (h := aA (h := ?_)) | refine sT (h := aS (h := ?_)) | refine sT (h := aL (h := ?_)))
      refine swt_nil ?_
      have H2 := IH _ (List.getElem_mem hlt')
      rw [polP_eq] at H2
      (repeat refine sw_seq ?_); refine sw_region ?_
      repeat (first | refine sR (h := ?_) | refine sK (h := ?_) | refine sT (h := aM (h := ?_)) | refine sT (h := aB (h := ?_)) | refine sT (h := aA (h := ?_)) | refine sT (h := aS (h := ?_)) | refine sT (h := aL (h := ?_)))
      refine swt_act rfl (act_call_flat rfl rfl rfl rfl (H2) rfl rfl ?_)
      repeat (first | refine sR (h := ?_) | refine sK (h := ?_) | refine sT (h := aM (h := ?_)) | refine sT (h := aB (h := ?_)) | refine sT (h := aA (h := ?_)) | refine sT (h := aS (h := ?_)) | refine sT (h := aL (h := ?_)))
      rw [show IntKind.i64.wrap (((p.rules.length + sumBy Pol.nr (p.kids.take k) : Nat) : Int) + (p.kids[k].nr : Int)) = ((p.rules.length + sumBy Pol.nr (p.kids.take (k + 1)) : Nat) : Int) by rw [IntWalk.i64_in _ (by omega)]; omega]
      refine swt_nil ?_
      (repeat refine sw_seq ?_); refine sw_region ?_
      repeat (first | refine sR (h := ?_) | refine sK (h := ?_) | refine sT (h := aM (h := ?_)) | refine sT (h := aB (h := ?_)) | refine sT (h := aA (h := ?_)) | refine sT (h := aS (h := ?_)) | refine sT (h := aL (h := ?_)))
      refine swt_nil ?_
      refine ⟨_, _, ?_, wk_only [3, 10, 11, 12] [] rfl rfl, k + 1, _, _, hlt', rfl, wrap_succ hlt' (by omega), rfl, rfl⟩
      omega
    · refine sw_exit ?_
      simp only [decide_eq_false_iff_not] at hlt
      have hkk : k = p.kids.length := by omega
      subst hkk
      rw [List.take_length]
      (repeat refine sw_seq ?_); refine sw_region ?_
      repeat (first | refine sR (h := ?_) | refine sK (h := ?_) | refine sT (h := aM (h := ?_)) | refine sT (h := aB (h := ?_)) | refine sT (h := aA (h := ?_)) | refine sT (h := aS (h := ?_)) | refine sT (h := aL (h := ?_)))
      refine swt_nil ?_
      (repeat refine sw_seq ?_); refine sw_ret ?_
      exact fin_i rfl rfl
theorem polCounts_h {n : Nat} (p : Pol) (hf : PolF n p) : Holds Try.prog 9 [.agg (polP p)] (.p (pB true)) [] := by
  have hS := small_h p hf
  have hR := right_h p (polF_fit 4 hf)
  have hf4 := polF_fit 4 hf
  have hf3 := polF_fit 5 hf
  have l1 : ((p.rules.map ruleP).length) = p.rules.length := by simp
  have l2 : ((p.kids.map polP).length) = p.kids.length := by simp
  have hlen2 := hf4.1.nk
  unfold reachBytes at hlen2
  have hX : rightS p = 0 → Holds Try.prog 33 [.agg (polP p)] (.p (pI p.nr)) [] := fun h => rules_h 4 p (polS_dp 4 h) hf4 (by have := right_nr h; omega)
  have hne := Pol.nr_eq p
  have hf0 := hf4.1.nr
  generalize hpe : polP p = P at *
  rw [polP_eq] at hpe
  subst hpe
  refine holds_of (ts := [2]) Try.func9 (by kernel_rfl) rfl rfl rfl ?_
  (repeat refine sw_seq ?_); refine sw_region ?_
  repeat (first | refine sR (h := ?_) | refine sK (h := ?_) | refine sT (h := aM (h := ?_)) | refine sT (h := aB (h := ?_)) | refine sT (h := aA (h := ?_)) | refine sT (h := aS (h := ?_)) | refine sT (h := aL (h := ?_)))
  refine swt_nil ?_
  (repeat refine sw_seq ?_); refine sw_region ?_
  repeat (first | refine sR (h := ?_) | refine sK (h := ?_) | refine sT (h := aM (h := ?_)) | refine sT (h := aB (h := ?_)) | refine sT (h := aA (h := ?_)) | refine sT (h := aS (h := ?_)) | refine sT (h := aL (h := ?_)))
  refine swt_act rfl (act_call_E rfl rfl rfl rfl (hS) rfl ?_)
  rintro _ ⟨b1, rfl, h1⟩
  cases b1 with
  | false =>
    repeat (first | refine sR (h := ?_) | refine sK (h := ?_) | refine sT (h := aM (h := ?_)) | refine sT (h := aB (h := ?_)) | refine sT (h := aA (h := ?_)) | refine sT (h := aS (h := ?_)) | refine sT (h := aL (h := ?_)))
    refine swt_nil ?_
    (repeat refine sw_seq ?_); refine sw_cond rfl (fun hc => ?_) (fun hc => ?_)
    · (repeat refine sw_seq ?_); refine sw_region ?_
      repeat (first | refine sR (h := ?_) | refine sK (h := ?_) | refine sT (h := aM (h := ?_)) | refine sT (h := aB (h := ?_)) | refine sT (h := aA (h := ?_)) | refine sT (h := aS (h := ?_)) | refine sT (h := aL (h := ?_)))
      refine swt_act rfl (act_call_flat rfl rfl rfl rfl (polRuns_h) rfl rfl ?_)
      repeat (first | refine sR (h := ?_) | refine sK (h := ?_) | refine sT (h := aM (h := ?_)) | refine sT (h := aB (h := ?_)) | refine sT (h := aA (h := ?_)) | refine sT (h := aS (h := ?_)) | refine sT (h := aL (h := ?_)))
      refine swt_nil ?_
      (repeat refine sw_seq ?_); refine sw_ret ?_
      exact fin_b rfl rfl
    · cases hc
  | true =>
    repeat (first | refine sR (h := ?_) | refine sK (h := ?_) | refine sT (h := aM (h := ?_)) | refine sT (h := aB (h := ?_)) | refine sT (h := aA (h := ?_)) | refine sT (h := aS (h := ?_)) | refine sT (h := aL (h := ?_)))
    refine swt_act rfl (act_call_flat rfl rfl rfl rfl (hR) rfl rfl ?_)
    repeat (first | refine sR (h := ?_) | refine sK (h := ?_) | refine sT (h := aM (h := ?_)) | refine sT (h := aB (h := ?_)) | refine sT (h := aA (h := ?_)) | refine sT (h := aS (h := ?_)) | refine sT (h := aL (h := ?_)))
    by_cases h0 : rightS p = 0
    rotate_left
    · rw [show (rightS p != 0) = true by simpa using h0]
      repeat (first | refine sR (h := ?_) | refine sK (h := ?_) | refine sT (h := aM (h := ?_)) | refine sT (h := aB (h := ?_)) | refine sT (h := aA (h := ?_)) | refine sT (h := aS (h := ?_)) | refine sT (h := aL (h := ?_)))
      refine swt_nil ?_
      (repeat refine sw_seq ?_); refine sw_cond rfl (fun hc => ?_) (fun hc => ?_)
      · (repeat refine sw_seq ?_); refine sw_region ?_
        repeat (first | refine sR (h := ?_) | refine sK (h := ?_) | refine sT (h := aM (h := ?_)) | refine sT (h := aB (h := ?_)) | refine sT (h := aA (h := ?_)) | refine sT (h := aS (h := ?_)) | refine sT (h := aL (h := ?_)))
        refine swt_act rfl (act_call_flat rfl rfl rfl rfl (polRuns_h) rfl rfl ?_)
        repeat (first | refine sR (h := ?_) | refine sK (h := ?_) | refine sT (h := aM (h := ?_)) | refine sT (h := aB (h := ?_)) | refine sT (h := aA (h := ?_)) | refine sT (h := aS (h := ?_)) | refine sT (h := aL (h := ?_)))
        refine swt_nil ?_
        (repeat refine sw_seq ?_); refine sw_ret ?_
        exact fin_b rfl rfl
      · cases hc
    rw [show (rightS p != 0) = false by simpa using h0]
    repeat (first | refine sR (h := ?_) | refine sK (h := ?_) | refine sT (h := aM (h := ?_)) | refine sT (h := aB (h := ?_)) | refine sT (h := aA (h := ?_)) | refine sT (h := aS (h := ?_)) | refine sT (h := aL (h := ?_)))
    refine swt_nil ?_
    (repeat refine sw_seq ?_); refine sw_cond rfl (fun hc => ?_) (fun hc => ?_)
    · cases hc
    refine sw_skip ?_
    have hrk := right_kids h0
    have hnr := right_nr h0
    have IH := fun k (hk : k ∈ p.kids) => rules_h 4 k (polS_dp 4 (hrk k hk)) (hf3.2 k hk) (by have := right_nr (hrk k hk); omega)
    have RH := fun k (hk : k ∈ p.kids) => right_h k (hf3.2 k hk)
    refine SW.wk (wk_only [1] [(1, 1)] rfl rfl) ?_
    (repeat refine sw_seq ?_); refine sw_region ?_
    repeat (first | refine sR (h := ?_) | refine sK (h := ?_) | refine sT (h := aM (h := ?_)) | refine sT (h := aB (h := ?_)) | refine sT (h := aA (h := ?_)) | refine sT (h := aS (h := ?_)) | refine sT (h := aL (h := ?_)))
    refine swt_nil ?_
    rw [l1]
    (repeat refine sw_seq ?_); refine sw_region ?_
    repeat (first | refine sR (h := ?_) | refine sK (h := ?_) | refine sT (h := aM (h := ?_)) | refine sT (h := aB (h := ?_)) | refine sT (h := aA (h := ?_)) | refine sT (h := aS (h := ?_)) | refine sT (h := aL (h := ?_)))
    refine swt_nil ?_
    (repeat refine sw_seq ?_); refine sw_block ?_
    refine SW.wk (wk_only [1, 3, 19, 20, 21] [(1, 1)] rfl rfl) ?_
    refine sw_loop (fun m s => ∃ (k : Nat) (kk : Int) (c : Int), k ≤ p.kids.length ∧ m = p.kids.length - k ∧ kk = k ∧ c = ((p.rules.length + sumBy Pol.nr (p.kids.take k) : Nat) : Int) ∧ s = ⟨44, [(1, .ptr 1 0), (3, .p (pI c)), (19, .p (.sl 7 (p.kids.map polP))), (20, .p (pI p.kids.length)), (21, .p (pI kk))], [(1, .cells ([pS p.id, pB p.set, pI p.alg, tgtP p.target, .sl 5 (p.rules.map ruleP), .sl 7 (p.kids.map polP), oblsP p.obls].map .p))]⟩) p.kids.length ⟨0, 0, _, Nat.zero_le _, rfl, rfl, by simp [sumBy]; rfl, by rw [← l2]; rfl⟩ ?_
    rintro m s ⟨k, _, _, hk, rfl, rfl, rfl, rfl⟩
    (repeat refine sw_seq ?_); refine sw_region ?_
    repeat (first | refine sR (h := ?_) | refine sK (h := ?_) | refine sT (h := aM (h := ?_)) | refine sT (h := aB (h := ?_)) | refine sT (h := aA (h := ?_)) | refine sT (h := aS (h := ?_)) | refine sT (h := aL (h := ?_)))
    refine swt_nil ?_
    (repeat refine sw_seq ?_); refine sw_cond rfl (fun hlt => ?_) (fun hlt => ?_)
    · refine sw_skip ?_
      simp only [decide_eq_true_eq] at hlt
      have hlt' : k < p.kids.length := by omega
      have hs := sumBy_step (f := Pol.nr) hlt'
      have hm := sumBy_take Pol.nr p.kids (k + 1)
      have hmem := List.getElem_mem hlt'
      (repeat refine sw_seq ?_); refine sw_block ?_
      (repeat refine sw_seq ?_); refine sw_region ?_
      repeat (first | refine sR (h := ?_) | refine sK (h := ?_) | refine sT (h := aM (h := ?_)) | refine sT (h := aB (h := ?_)) | refine sT (h := aA (h := ?_)) | refine sT (h := aS (h := ?_)) | refine sT (h := aL (h := ?_)))
      refine swt_read ttab_ok rfl rfl (by rw [l2]; omega) rfl ?_
      rw [getD_map hlt', polP_eq]
      repeat (first | refine sR (h := ?_) | refine sK (h := ?_) | refine sT (h := aM (h := ?_)) | refine sT (h := aB (h := ?_)) | refine sT (h := aA (h := ?_)) | refine sT (h := aS (h := ?_)) | refine sT (h := aL (h := ?_)))
      refine swt_nil ?_
      have H2 := RH _ hmem
      have H3 := IH _ hmem
      rw [polP_eq] at H2 H3
      (repeat refine sw_seq ?_); refine sw_region ?_
      repeat (first | refine sR (h := ?_) | refine sK (h := ?_) | refine sT (h := aM (h := ?_)) | refine sT (h := aB (h := ?_)) | refine sT (h := aA (h := ?_)) | refine sT (h := aS (h := ?_)) | refine sT (h := aL (h := ?_)))
      refine swt_act rfl (act_call_flat rfl rfl rfl rfl (H2) rfl rfl ?_)
      repeat (first | refine sR (h := ?_) | refine sK (h := ?_) | refine sT (h := aM (h := ?_)) | refine sT (h := aB (h := ?_)) | refine sT (h := aA (h := ?_)) | refine sT (h := aS (h := ?_)) | refine sT (h := aL (h := ?_)))
      rw [hrk _ hmem]
      repeat (first | refine sR (h := ?_) | refine sK (h := ?_) | refine sT (h := aM (h := ?_)) | refine sT (h := aB (h := ?_)) | refine sT (h := aA (h := ?_)) | refine sT (h := aS (h := ?_)) | refine sT (h := aL (h := ?_)))
      refine swt_nil ?_
      (repeat refine sw_seq ?_); refine sw_cond rfl (fun hq => ?_) (fun hq => ?_)
      · cases hq
      refine sw_skip ?_
      (repeat refine sw_seq ?_); refine sw_region ?_
      repeat (first | refine sR (h := ?_) | refine sK (h := ?_) | refine sT (h := aM (h := ?_)) | refine sT (h := aB (h := ?_)) | refine sT (h := aA (h := ?_)) | refine sT (h := aS (h := ?_)) | refine sT (h := aL (h := ?_)))
      refine swt_act rfl (act_call_flat rfl rfl rfl rfl (H3) rfl rfl ?_)
      repeat (first | refine sR (h := ?_) | refine sK (h := ?_) | refine sT (h := aM (h := ?_)) | refine sT (h := aB (h := ?_)) | refine sT (h := aA (h := ?_)) | refine sT (h := aS (h := ?_)) | refine sT (h := aL (h := ?_)))
      rw [show IntKind.i64.wrap (((p.rules.length + sumBy Pol.nr (p.kids.take k) : Nat) : Int) + (p.kids[k].nr : Int)) = ((p.rules.length + sumBy Pol.nr (p.kids.take (k + 1)) : Nat) : Int) by rw [IntWalk.i64_in _ (by omega)]; omega]
      refine swt_nil ?_
      (repeat refine sw_seq ?_); refine sw_region ?_
      repeat (first | refine sR (h := ?_) | refine sK (h := ?_) | refine sT (h := aM (h := ?_)) | refine sT (h := aB (h := ?_)) | refine sT (h := aA (h := ?_)) | refine sT (h := aS (h := ?_)) | refine sT (h := aL (h := ?_)))
      refine swt_nil ?_
      refine ⟨_, _, ?_, wk_only [1, 3, 19, 20, 21] [(1, 1)] rfl rfl, k + 1, _, _, hlt', rfl, wrap_succ hlt' (by omega), rfl, rfl⟩
      omega
    · refine sw_exit ?_
      simp only [decide_eq_false_iff_not] at hlt
      have hkk : k = p.kids.length := by omega
      subst hkk
      rw [List.take_length, ← hne]
      (repeat refine sw_seq ?_); refine sw_region ?_
      repeat (first | refine sR (h := ?_) | refine sK (h := ?_) | refine sT (h := aM (h := ?_)) | refine sT (h := aB (h := ?_)) | refine sT (h := aA (h := ?_)) | refine sT (h := aS (h := ?_)) | refine sT (h := aL (h := ?_)))
      refine swt_act rfl (act_call_flat rfl rfl rfl rfl (hX h0) rfl rfl ?_)
      repeat (first | refine sR (h := ?_) | refine sK (h := ?_) | refine sT (h := aM (h := ?_)) | refine sT (h := aB (h := ?_)) | refine sT (h := aA (h := ?_)) | refine sT (h := aS (h := ?_)) | refine sT (h := aL (h := ?_)))
      rw [show ((p.nr : Int) == (p.nr : Int)) = true by simp]
      repeat (first | refine sR (h := ?_) | refine sK (h := ?_) | refine sT (h := aM (h := ?_)) | refine sT (h := aB (h := ?_)) | refine sT (h := aA (h := ?_)) | refine sT (h := aS (h := ?_)) | refine sT (h := aL (h := ?_)))
      rw [show decide ((p.nr : Int) ≤ 64) = true by simp; omega]
      repeat (first | refine sR (h := ?_) | refine sK (h := ?_) | refine sT (h := aM (h := ?_)) | refine sT (h := aB (h := ?_)) | refine sT (h := aA (h := ?_)) | refine sT (h := aS (h := ?_)) | refine sT (h := aL (h := ?_)))
      refine swt_act rfl (act_call_flat rfl rfl rfl rfl (polRuns_h) rfl rfl ?_)
      repeat (first | refine sR (h := ?_) | refine sK (h := ?_) | refine sT (h := aM (h := ?_)) | refine sT (h := aB (h := ?_)) | refine sT (h := aA (h := ?_)) | refine sT (h := aS (h := ?_)) | refine sT (h := aL (h := ?_)))
      refine swt_nil ?_
      (repeat refine sw_seq ?_); refine sw_ret ?_
      exact fin_b rfl rfl
end Go.Proofs.Ytjpcchipejmocaa
