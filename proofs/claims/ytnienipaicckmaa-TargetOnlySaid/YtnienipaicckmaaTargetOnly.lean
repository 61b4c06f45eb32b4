/-
  TargetOnly: the walk, by shades.
-/
import Derived.Test.YtnienipaicckmaaH13
import Derived.Test.YtnienipaicckmaaWithH
namespace Go.Proofs.Ytnienipaicckmaa
open Go.RowKit
set_option maxHeartbeats 2000000
theorem take_all_step {α : Type} {P : α → Prop} {l : List α} {k : Nat} (hk : k < l.length) (h : ∀ x ∈ l.take k, P x) (h1 : P l[k]) : ∀ x ∈ l.take (k + 1), P x := by
  intro x hx
  rw [List.take_succ_eq_append_getElem hk, List.mem_append, List.mem_singleton] at hx
  rcases hx with hx | rfl
  · exact h x hx
  · exact h1
/-- a match names another attribute than g's -/
def farM (g : Giv) (m : Mat) : Prop := isG m.attr.cat m.attr.name g = false
theorem targetOnly_h (t : Tar) (l : List Giv) (g : Giv) (hT : ∀ x ∈ t, ∀ l ∈ x, ∀ m ∈ l, m.Fit) (hL : ∀ x ∈ l, x.Fit) (hG : g.Fit) : Holds Try.prog 14 [tgtP t, givsP l, .agg g.pv] (.p (pB true)) [] := by
  have hG1 : ∀ x ∈ [g], x.Fit := by simpa using hG
  refine holds_of (ts := [6]) Try.func14 (by kernel_rfl) rfl rfl rfl ?_
  (repeat refine sw_seq ?_); refine sw_region ?_
  repeat (first | (refine swt_read ttab_ok rfl rfl (by exact True.intro) rfl ?_) | (refine swt_skip rfl rfl ?_) | (refine swt_act rfl (act_box rfl rfl rfl rfl rfl rfl rfl ?_)) | (refine swt_act rfl (act_alloc ttab_ok rfl rfl rfl rfl rfl rfl ?_)) | (refine swt_act rfl (act_store ttab_ok rfl rfl rfl rfl rfl rfl rfl rfl rfl rfl ?_)) | (refine swt_act rfl (act_buildSlice ttab_ok rfl rfl rfl rfl rfl rfl rfl rfl rfl rfl rfl rfl ?_)))
  refine swt_nil ?_
  (repeat refine sw_seq ?_); refine sw_region ?_
  repeat (first | (refine swt_read ttab_ok rfl rfl (by exact True.intro) rfl ?_) | (refine swt_skip rfl rfl ?_) | (refine swt_act rfl (act_box rfl rfl rfl rfl rfl rfl rfl ?_)) | (refine swt_act rfl (act_alloc ttab_ok rfl rfl rfl rfl rfl rfl ?_)) | (refine swt_act rfl (act_store ttab_ok rfl rfl rfl rfl rfl rfl rfl rfl rfl rfl ?_)) | (refine swt_act rfl (act_buildSlice ttab_ok rfl rfl rfl rfl rfl rfl rfl rfl rfl rfl rfl rfl ?_)))
  refine swt_act rfl (act_call_E rfl rfl rfl rfl (small13_h t hT) rfl ?_)
  rintro _ ⟨b1, rfl, h1⟩
  cases b1
  · repeat (first | (refine swt_read ttab_ok rfl rfl (by exact True.intro) rfl ?_) | (refine swt_skip rfl rfl ?_) | (refine swt_act rfl (act_box rfl rfl rfl rfl rfl rfl rfl ?_)) | (refine swt_act rfl (act_alloc ttab_ok rfl rfl rfl rfl rfl rfl ?_)) | (refine swt_act rfl (act_store ttab_ok rfl rfl rfl rfl rfl rfl rfl rfl rfl rfl ?_)) | (refine swt_act rfl (act_buildSlice ttab_ok rfl rfl rfl rfl rfl rfl rfl rfl rfl rfl rfl rfl ?_)))
    refine swt_nil ?_
    (repeat refine sw_seq ?_); refine sw_cond rfl (fun hc => ?_) (fun hc => ?_)
    · (repeat refine sw_seq ?_); refine sw_region ?_
      repeat (first | (refine swt_read ttab_ok rfl rfl (by exact True.intro) rfl ?_) | (refine swt_skip rfl rfl ?_) | (refine swt_act rfl (act_box rfl rfl rfl rfl rfl rfl rfl ?_)) | (refine swt_act rfl (act_alloc ttab_ok rfl rfl rfl rfl rfl rfl ?_)) | (refine swt_act rfl (act_store ttab_ok rfl rfl rfl rfl rfl rfl rfl rfl rfl rfl ?_)) | (refine swt_act rfl (act_buildSlice ttab_ok rfl rfl rfl rfl rfl rfl rfl rfl rfl rfl rfl rfl ?_)))
      refine swt_act rfl (act_call_flat rfl rfl rfl rfl (targetRuns_h) rfl rfl ?_)
      repeat (first | (refine swt_read ttab_ok rfl rfl (by exact True.intro) rfl ?_) | (refine swt_skip rfl rfl ?_) | (refine swt_act rfl (act_box rfl rfl rfl rfl rfl rfl rfl ?_)) | (refine swt_act rfl (act_alloc ttab_ok rfl rfl rfl rfl rfl rfl ?_)) | (refine swt_act rfl (act_store ttab_ok rfl rfl rfl rfl rfl rfl rfl rfl rfl rfl ?_)) | (refine swt_act rfl (act_buildSlice ttab_ok rfl rfl rfl rfl rfl rfl rfl rfl rfl rfl rfl rfl ?_)))
      refine swt_nil ?_
      (repeat refine sw_seq ?_); refine sw_ret ?_
      exact fin_b rfl rfl
    · cases hc
  repeat (first | (refine swt_read ttab_ok rfl rfl (by exact True.intro) rfl ?_) | (refine swt_skip rfl rfl ?_) | (refine swt_act rfl (act_box rfl rfl rfl rfl rfl rfl rfl ?_)) | (refine swt_act rfl (act_alloc ttab_ok rfl rfl rfl rfl rfl rfl ?_)) | (refine swt_act rfl (act_store ttab_ok rfl rfl rfl rfl rfl rfl rfl rfl rfl rfl ?_)) | (refine swt_act rfl (act_buildSlice ttab_ok rfl rfl rfl rfl rfl rfl rfl rfl rfl rfl rfl rfl ?_)))
  refine swt_act rfl (act_call_E rfl rfl rfl rfl (few_h l hL) rfl ?_)
  rintro _ ⟨b2, rfl, h2⟩
  cases b2
  · repeat (first | (refine swt_read ttab_ok rfl rfl (by exact True.intro) rfl ?_) | (refine swt_skip rfl rfl ?_) | (refine swt_act rfl (act_box rfl rfl rfl rfl rfl rfl rfl ?_)) | (refine swt_act rfl (act_alloc ttab_ok rfl rfl rfl rfl rfl rfl ?_)) | (refine swt_act rfl (act_store ttab_ok rfl rfl rfl rfl rfl rfl rfl rfl rfl rfl ?_)) | (refine swt_act rfl (act_buildSlice ttab_ok rfl rfl rfl rfl rfl rfl rfl rfl rfl rfl rfl rfl ?_)))
    refine swt_nil ?_
    (repeat refine sw_seq ?_); refine sw_cond rfl (fun hc => ?_) (fun hc => ?_)
    · (repeat refine sw_seq ?_); refine sw_region ?_
      repeat (first | (refine swt_read ttab_ok rfl rfl (by exact True.intro) rfl ?_) | (refine swt_skip rfl rfl ?_) | (refine swt_act rfl (act_box rfl rfl rfl rfl rfl rfl rfl ?_)) | (refine swt_act rfl (act_alloc ttab_ok rfl rfl rfl rfl rfl rfl ?_)) | (refine swt_act rfl (act_store ttab_ok rfl rfl rfl rfl rfl rfl rfl rfl rfl rfl ?_)) | (refine swt_act rfl (act_buildSlice ttab_ok rfl rfl rfl rfl rfl rfl rfl rfl rfl rfl rfl rfl ?_)))
      refine swt_act rfl (act_call_flat rfl rfl rfl rfl (targetRuns_h) rfl rfl ?_)
      repeat (first | (refine swt_read ttab_ok rfl rfl (by exact True.intro) rfl ?_) | (refine swt_skip rfl rfl ?_) | (refine swt_act rfl (act_box rfl rfl rfl rfl rfl rfl rfl ?_)) | (refine swt_act rfl (act_alloc ttab_ok rfl rfl rfl rfl rfl rfl ?_)) | (refine swt_act rfl (act_store ttab_ok rfl rfl rfl rfl rfl rfl rfl rfl rfl rfl ?_)) | (refine swt_act rfl (act_buildSlice ttab_ok rfl rfl rfl rfl rfl rfl rfl rfl rfl rfl rfl rfl ?_)))
      refine swt_nil ?_
      (repeat refine sw_seq ?_); refine sw_ret ?_
      exact fin_b rfl rfl
    · cases hc
  repeat (first | (refine swt_read ttab_ok rfl rfl (by exact True.intro) rfl ?_) | (refine swt_skip rfl rfl ?_) | (refine swt_act rfl (act_box rfl rfl rfl rfl rfl rfl rfl ?_)) | (refine swt_act rfl (act_alloc ttab_ok rfl rfl rfl rfl rfl rfl ?_)) | (refine swt_act rfl (act_store ttab_ok rfl rfl rfl rfl rfl rfl rfl rfl rfl rfl ?_)) | (refine swt_act rfl (act_buildSlice ttab_ok rfl rfl rfl rfl rfl rfl rfl rfl rfl rfl rfl rfl ?_)))
  refine swt_act rfl (act_call_E rfl rfl rfl rfl (few_h [g] hG1) rfl ?_)
  rintro _ ⟨b3, rfl, h3⟩
  cases b3
  · repeat (first | (refine swt_read ttab_ok rfl rfl (by exact True.intro) rfl ?_) | (refine swt_skip rfl rfl ?_) | (refine swt_act rfl (act_box rfl rfl rfl rfl rfl rfl rfl ?_)) | (refine swt_act rfl (act_alloc ttab_ok rfl rfl rfl rfl rfl rfl ?_)) | (refine swt_act rfl (act_store ttab_ok rfl rfl rfl rfl rfl rfl rfl rfl rfl rfl ?_)) | (refine swt_act rfl (act_buildSlice ttab_ok rfl rfl rfl rfl rfl rfl rfl rfl rfl rfl rfl rfl ?_)))
    refine swt_nil ?_
    (repeat refine sw_seq ?_); refine sw_cond rfl (fun hc => ?_) (fun hc => ?_)
    · (repeat refine sw_seq ?_); refine sw_region ?_
      repeat (first | (refine swt_read ttab_ok rfl rfl (by exact True.intro) rfl ?_) | (refine swt_skip rfl rfl ?_) | (refine swt_act rfl (act_box rfl rfl rfl rfl rfl rfl rfl ?_)) | (refine swt_act rfl (act_alloc ttab_ok rfl rfl rfl rfl rfl rfl ?_)) | (refine swt_act rfl (act_store ttab_ok rfl rfl rfl rfl rfl rfl rfl rfl rfl rfl ?_)) | (refine swt_act rfl (act_buildSlice ttab_ok rfl rfl rfl rfl rfl rfl rfl rfl rfl rfl rfl rfl ?_)))
      refine swt_act rfl (act_call_flat rfl rfl rfl rfl (targetRuns_h) rfl rfl ?_)
      repeat (first | (refine swt_read ttab_ok rfl rfl (by exact True.intro) rfl ?_) | (refine swt_skip rfl rfl ?_) | (refine swt_act rfl (act_box rfl rfl rfl rfl rfl rfl rfl ?_)) | (refine swt_act rfl (act_alloc ttab_ok rfl rfl rfl rfl rfl rfl ?_)) | (refine swt_act rfl (act_store ttab_ok rfl rfl rfl rfl rfl rfl rfl rfl rfl rfl ?_)) | (refine swt_act rfl (act_buildSlice ttab_ok rfl rfl rfl rfl rfl rfl rfl rfl rfl rfl rfl rfl ?_)))
      refine swt_nil ?_
      (repeat refine sw_seq ?_); refine sw_ret ?_
      exact fin_b rfl rfl
    · cases hc
  repeat (first | (refine swt_read ttab_ok rfl rfl (by exact True.intro) rfl ?_) | (refine swt_skip rfl rfl ?_) | (refine swt_act rfl (act_box rfl rfl rfl rfl rfl rfl rfl ?_)) | (refine swt_act rfl (act_alloc ttab_ok rfl rfl rfl rfl rfl rfl ?_)) | (refine swt_act rfl (act_store ttab_ok rfl rfl rfl rfl rfl rfl rfl rfl rfl rfl ?_)) | (refine swt_act rfl (act_buildSlice ttab_ok rfl rfl rfl rfl rfl rfl rfl rfl rfl rfl rfl rfl ?_)))
  refine swt_act rfl (act_call_E rfl rfl rfl rfl (askRight_h l hL) rfl ?_)
  rintro _ ⟨n1, rfl⟩
  by_cases hn1 : n1 = 0
  rotate_left
  · have hne : (n1 != 0) = true := by simpa using hn1
    repeat (first | (refine swt_read ttab_ok rfl rfl (by exact True.intro) rfl ?_) | (refine swt_skip rfl rfl ?_) | (refine swt_act rfl (act_box rfl rfl rfl rfl rfl rfl rfl ?_)) | (refine swt_act rfl (act_alloc ttab_ok rfl rfl rfl rfl rfl rfl ?_)) | (refine swt_act rfl (act_store ttab_ok rfl rfl rfl rfl rfl rfl rfl rfl rfl rfl ?_)) | (refine swt_act rfl (act_buildSlice ttab_ok rfl rfl rfl rfl rfl rfl rfl rfl rfl rfl rfl rfl ?_)))
    rw [hne]
    repeat (first | (refine swt_read ttab_ok rfl rfl (by exact True.intro) rfl ?_) | (refine swt_skip rfl rfl ?_) | (refine swt_act rfl (act_box rfl rfl rfl rfl rfl rfl rfl ?_)) | (refine swt_act rfl (act_alloc ttab_ok rfl rfl rfl rfl rfl rfl ?_)) | (refine swt_act rfl (act_store ttab_ok rfl rfl rfl rfl rfl rfl rfl rfl rfl rfl ?_)) | (refine swt_act rfl (act_buildSlice ttab_ok rfl rfl rfl rfl rfl rfl rfl rfl rfl rfl rfl rfl ?_)))
    refine swt_nil ?_
    (repeat refine sw_seq ?_); refine sw_cond rfl (fun hc => ?_) (fun hc => ?_)
    · (repeat refine sw_seq ?_); refine sw_region ?_
      repeat (first | (refine swt_read ttab_ok rfl rfl (by exact True.intro) rfl ?_) | (refine swt_skip rfl rfl ?_) | (refine swt_act rfl (act_box rfl rfl rfl rfl rfl rfl rfl ?_)) | (refine swt_act rfl (act_alloc ttab_ok rfl rfl rfl rfl rfl rfl ?_)) | (refine swt_act rfl (act_store ttab_ok rfl rfl rfl rfl rfl rfl rfl rfl rfl rfl ?_)) | (refine swt_act rfl (act_buildSlice ttab_ok rfl rfl rfl rfl rfl rfl rfl rfl rfl rfl rfl rfl ?_)))
      refine swt_act rfl (act_call_flat rfl rfl rfl rfl (targetRuns_h) rfl rfl ?_)
      repeat (first | (refine swt_read ttab_ok rfl rfl (by exact True.intro) rfl ?_) | (refine swt_skip rfl rfl ?_) | (refine swt_act rfl (act_box rfl rfl rfl rfl rfl rfl rfl ?_)) | (refine swt_act rfl (act_alloc ttab_ok rfl rfl rfl rfl rfl rfl ?_)) | (refine swt_act rfl (act_store ttab_ok rfl rfl rfl rfl rfl rfl rfl rfl rfl rfl ?_)) | (refine swt_act rfl (act_buildSlice ttab_ok rfl rfl rfl rfl rfl rfl rfl rfl rfl rfl rfl rfl ?_)))
      refine swt_nil ?_
      (repeat refine sw_seq ?_); refine sw_ret ?_
      exact fin_b rfl rfl
    · cases hc
  subst hn1
  repeat (first | (refine swt_read ttab_ok rfl rfl (by exact True.intro) rfl ?_) | (refine swt_skip rfl rfl ?_) | (refine swt_act rfl (act_box rfl rfl rfl rfl rfl rfl rfl ?_)) | (refine swt_act rfl (act_alloc ttab_ok rfl rfl rfl rfl rfl rfl ?_)) | (refine swt_act rfl (act_store ttab_ok rfl rfl rfl rfl rfl rfl rfl rfl rfl rfl ?_)) | (refine swt_act rfl (act_buildSlice ttab_ok rfl rfl rfl rfl rfl rfl rfl rfl rfl rfl rfl rfl ?_)))
  refine swt_act rfl (act_call_E rfl rfl rfl rfl (askRight_h [g] hG1) rfl ?_)
  rintro _ ⟨n2, rfl⟩
  by_cases hn2 : n2 = 0
  rotate_left
  · have hne : (n2 != 0) = true := by simpa using hn2
    repeat (first | (refine swt_read ttab_ok rfl rfl (by exact True.intro) rfl ?_) | (refine swt_skip rfl rfl ?_) | (refine swt_act rfl (act_box rfl rfl rfl rfl rfl rfl rfl ?_)) | (refine swt_act rfl (act_alloc ttab_ok rfl rfl rfl rfl rfl rfl ?_)) | (refine swt_act rfl (act_store ttab_ok rfl rfl rfl rfl rfl rfl rfl rfl rfl rfl ?_)) | (refine swt_act rfl (act_buildSlice ttab_ok rfl rfl rfl rfl rfl rfl rfl rfl rfl rfl rfl rfl ?_)))
    rw [hne]
    refine swt_nil ?_
    (repeat refine sw_seq ?_); refine sw_cond rfl (fun hc => ?_) (fun hc => ?_)
    · (repeat refine sw_seq ?_); refine sw_region ?_
      repeat (first | (refine swt_read ttab_ok rfl rfl (by exact True.intro) rfl ?_) | (refine swt_skip rfl rfl ?_) | (refine swt_act rfl (act_box rfl rfl rfl rfl rfl rfl rfl ?_)) | (refine swt_act rfl (act_alloc ttab_ok rfl rfl rfl rfl rfl rfl ?_)) | (refine swt_act rfl (act_store ttab_ok rfl rfl rfl rfl rfl rfl rfl rfl rfl rfl ?_)) | (refine swt_act rfl (act_buildSlice ttab_ok rfl rfl rfl rfl rfl rfl rfl rfl rfl rfl rfl rfl ?_)))
      refine swt_act rfl (act_call_flat rfl rfl rfl rfl (targetRuns_h) rfl rfl ?_)
      repeat (first | (refine swt_read ttab_ok rfl rfl (by exact True.intro) rfl ?_) | (refine swt_skip rfl rfl ?_) | (refine swt_act rfl (act_box rfl rfl rfl rfl rfl rfl rfl ?_)) | (refine swt_act rfl (act_alloc ttab_ok rfl rfl rfl rfl rfl rfl ?_)) | (refine swt_act rfl (act_store ttab_ok rfl rfl rfl rfl rfl rfl rfl rfl rfl rfl ?_)) | (refine swt_act rfl (act_buildSlice ttab_ok rfl rfl rfl rfl rfl rfl rfl rfl rfl rfl rfl rfl ?_)))
      refine swt_nil ?_
      (repeat refine sw_seq ?_); refine sw_ret ?_
      exact fin_b rfl rfl
    · cases hc
  subst hn2
  repeat (first | (refine swt_read ttab_ok rfl rfl (by exact True.intro) rfl ?_) | (refine swt_skip rfl rfl ?_) | (refine swt_act rfl (act_box rfl rfl rfl rfl rfl rfl rfl ?_)) | (refine swt_act rfl (act_alloc ttab_ok rfl rfl rfl rfl rfl rfl ?_)) | (refine swt_act rfl (act_store ttab_ok rfl rfl rfl rfl rfl rfl rfl rfl rfl rfl ?_)) | (refine swt_act rfl (act_buildSlice ttab_ok rfl rfl rfl rfl rfl rfl rfl rfl rfl rfl rfl rfl ?_)))
  refine swt_nil ?_
  (repeat refine sw_seq ?_); refine sw_cond rfl (fun hc => ?_) (fun hc => ?_)
  · cases hc
  refine sw_skip ?_
  have g1 := h1 rfl
  have g2 := h2 rfl
  have g3 := h3 rfl
  clear h1 h2 h3 hc
  have hs := tSmall_of g1
  have hs0 := hs
  obtain ⟨hs1, hs2⟩ := hs0
  obtain ⟨f1, f2⟩ := few_len g2
  have f3 := (few_len g3).2 g (by simp)
  replace f2 : ∀ g ∈ l, g.bag.length ≤ 1000000 := fun g hg => Nat.le_trans (f2 g hg) (by omega)
  replace f1 : l.length ≤ 100000 := by omega
  (repeat refine sw_seq ?_); refine sw_region ?_
  repeat (first | (refine swt_read ttab_ok rfl rfl (by exact True.intro) rfl ?_) | (refine swt_skip rfl rfl ?_) | (refine swt_act rfl (act_box rfl rfl rfl rfl rfl rfl rfl ?_)) | (refine swt_act rfl (act_alloc ttab_ok rfl rfl rfl rfl rfl rfl ?_)) | (refine swt_act rfl (act_store ttab_ok rfl rfl rfl rfl rfl rfl rfl rfl rfl rfl ?_)) | (refine swt_act rfl (act_buildSlice ttab_ok rfl rfl rfl rfl rfl rfl rfl rfl rfl rfl rfl rfl ?_)))
  refine swt_nil ?_
  (repeat refine sw_seq ?_); refine sw_block ?_
  refine SW.wk (wk_only [0, 1, 5, 39, 40, 41] [(5, 5)] rfl rfl) ?_
  refine sw_loop (fun n s => ∃ (k : Nat) (kk : Int), k ≤ t.length ∧ n = t.length - k ∧ kk = k ∧ (∀ x ∈ t.take k, ∀ y ∈ x, ∀ m ∈ y, farM g m) ∧ s = ⟨87, [(0, .p (tgtP t)), (1, .p (givsP l)), (5, .ptr 5 0), (39, .p (tgtP t)), (40, .p (pI (t.map fun x => [anyP x]).length)), (41, .p (pI kk))], [(5, .cells (g.pv.map .p))]⟩) t.length ⟨0, 0, Nat.zero_le _, rfl, rfl, by simp, rfl⟩ ?_
  rintro n s ⟨k, _, hk, rfl, rfl, ha, rfl⟩
  (repeat refine sw_seq ?_); refine sw_region ?_
  repeat (first | (refine swt_read ttab_ok rfl rfl (by exact True.intro) rfl ?_) | (refine swt_skip rfl rfl ?_) | (refine swt_act rfl (act_box rfl rfl rfl rfl rfl rfl rfl ?_)) | (refine swt_act rfl (act_alloc ttab_ok rfl rfl rfl rfl rfl rfl ?_)) | (refine swt_act rfl (act_store ttab_ok rfl rfl rfl rfl rfl rfl rfl rfl rfl rfl ?_)) | (refine swt_act rfl (act_buildSlice ttab_ok rfl rfl rfl rfl rfl rfl rfl rfl rfl rfl rfl rfl ?_)))
  refine swt_nil ?_
  (repeat refine sw_seq ?_); refine sw_cond rfl (fun hlt => ?_) (fun hlt => ?_)
  rotate_left
  · refine sw_exit ?_
    simp only [List.length_map, decide_eq_false_iff_not] at hlt
    have hkk : k = t.length := by omega
    subst hkk
    rw [List.take_length] at ha
    have hm : metS t (withS l g) = metS t l := metS_with t l g ha
    have hw1 : (withS l g).length ≤ 1000000 := by unfold withS; split <;> simp <;> omega
    have hw2 : ∀ x ∈ withS l g, x = g ∨ x ∈ l := fun x hx => by
      unfold withS at hx
      split at hx
      · rcases List.mem_or_eq_of_mem_set hx with h | h
        · exact Or.inr h
        · exact Or.inl h
      · rcases List.mem_append.1 hx with h | h
        · exact Or.inr h
        · exact Or.inl (by simpa using h)
    have H2 := met_h t (withS l g) hs hT hw1 (fun x hx => by rcases hw2 x hx with rfl | h; exact (by omega); exact f2 x h) (fun x hx => by rcases hw2 x hx with rfl | h; exact hG; exact hL x h)
    rw [hm] at H2
    (repeat refine sw_seq ?_); refine sw_region_draw [] [(0, true), (1, true), (3, true), (4, true), (5, true), (2, false), (6, false), (7, false), (8, true), (9, true), (10, false), (11, true), (12, true)] (by kernel_rfl) (by kernel_rfl) (by kernel_rfl) ?_
    repeat (first | (refine swm_read ttab_ok rfl rfl rfl (by exact True.intro) rfl ?_) | (refine swm_skip rfl rfl rfl ?_) | (refine swm_act rfl rfl rfl (act_box rfl rfl rfl rfl rfl rfl rfl ?_)) | (refine swm_act rfl rfl rfl (act_alloc ttab_ok rfl rfl rfl rfl rfl rfl ?_)) | (refine swm_act rfl rfl rfl (act_store ttab_ok rfl rfl rfl rfl rfl rfl rfl rfl rfl rfl ?_)) | (refine swm_act rfl rfl rfl (act_buildSlice ttab_ok rfl rfl rfl rfl rfl rfl rfl rfl rfl rfl rfl rfl ?_)))
    refine swm_act rfl rfl rfl (act_call_flat rfl rfl rfl rfl (met_h t l hs hT (by omega) f2 hL) rfl rfl ?_)
    repeat (first | (refine swm_read ttab_ok rfl rfl rfl (by exact True.intro) rfl ?_) | (refine swm_skip rfl rfl rfl ?_) | (refine swm_act rfl rfl rfl (act_box rfl rfl rfl rfl rfl rfl rfl ?_)) | (refine swm_act rfl rfl rfl (act_alloc ttab_ok rfl rfl rfl rfl rfl rfl ?_)) | (refine swm_act rfl rfl rfl (act_store ttab_ok rfl rfl rfl rfl rfl rfl rfl rfl rfl rfl ?_)) | (refine swm_act rfl rfl rfl (act_buildSlice ttab_ok rfl rfl rfl rfl rfl rfl rfl rfl rfl rfl rfl rfl ?_)))
    refine swm_act rfl rfl rfl (act_call rfl rfl rfl rfl (with_h l g (by omega) f2 (by omega)) rfl rfl rfl ?_)
    repeat (first | (refine swm_read ttab_ok rfl rfl rfl (by exact True.intro) rfl ?_) | (refine swm_skip rfl rfl rfl ?_) | (refine swm_act rfl rfl rfl (act_box rfl rfl rfl rfl rfl rfl rfl ?_)) | (refine swm_act rfl rfl rfl (act_alloc ttab_ok rfl rfl rfl rfl rfl rfl ?_)) | (refine swm_act rfl rfl rfl (act_store ttab_ok rfl rfl rfl rfl rfl rfl rfl rfl rfl rfl ?_)) | (refine swm_act rfl rfl rfl (act_buildSlice ttab_ok rfl rfl rfl rfl rfl rfl rfl rfl rfl rfl rfl rfl ?_)))
    refine swm_act rfl rfl rfl (act_call_flat rfl rfl rfl rfl (H2) rfl rfl ?_)
    repeat (first | (refine swm_read ttab_ok rfl rfl rfl (by exact True.intro) rfl ?_) | (refine swm_skip rfl rfl rfl ?_) | (refine swm_act rfl rfl rfl (act_box rfl rfl rfl rfl rfl rfl rfl ?_)) | (refine swm_act rfl rfl rfl (act_alloc ttab_ok rfl rfl rfl rfl rfl rfl ?_)) | (refine swm_act rfl rfl rfl (act_store ttab_ok rfl rfl rfl rfl rfl rfl rfl rfl rfl rfl ?_)) | (refine swm_act rfl rfl rfl (act_buildSlice ttab_ok rfl rfl rfl rfl rfl rfl rfl rfl rfl rfl rfl rfl ?_)))
    rw [show (metS t l == metS t l) = true from by simp]
    repeat (first | (refine swm_read ttab_ok rfl rfl rfl (by exact True.intro) rfl ?_) | (refine swm_skip rfl rfl rfl ?_) | (refine swm_act rfl rfl rfl (act_box rfl rfl rfl rfl rfl rfl rfl ?_)) | (refine swm_act rfl rfl rfl (act_alloc ttab_ok rfl rfl rfl rfl rfl rfl ?_)) | (refine swm_act rfl rfl rfl (act_store ttab_ok rfl rfl rfl rfl rfl rfl rfl rfl rfl rfl ?_)) | (refine swm_act rfl rfl rfl (act_buildSlice ttab_ok rfl rfl rfl rfl rfl rfl rfl rfl rfl rfl rfl rfl ?_)))
    refine swm_act rfl rfl rfl (act_call_flat rfl rfl rfl rfl (targetRuns_h) rfl rfl ?_)
    repeat (first | (refine swm_read ttab_ok rfl rfl rfl (by exact True.intro) rfl ?_) | (refine swm_skip rfl rfl rfl ?_) | (refine swm_act rfl rfl rfl (act_box rfl rfl rfl rfl rfl rfl rfl ?_)) | (refine swm_act rfl rfl rfl (act_alloc ttab_ok rfl rfl rfl rfl rfl rfl ?_)) | (refine swm_act rfl rfl rfl (act_store ttab_ok rfl rfl rfl rfl rfl rfl rfl rfl rfl rfl ?_)) | (refine swm_act rfl rfl rfl (act_buildSlice ttab_ok rfl rfl rfl rfl rfl rfl rfl rfl rfl rfl rfl rfl ?_)))
    refine swm_nil ?_
    (repeat refine sw_seq ?_); refine sw_ret ?_
    exact fin_b rfl rfl
  refine sw_skip ?_
  simp only [List.length_map, decide_eq_true_eq] at hlt
  have hlt' : k < t.length := by omega
  have b1 := (hs2 _ (List.getElem_mem hlt')).1
  (repeat refine sw_seq ?_); refine sw_block ?_
  (repeat refine sw_seq ?_); refine sw_region ?_
  repeat (first | (refine swt_read ttab_ok rfl rfl (by exact True.intro) rfl ?_) | (refine swt_skip rfl rfl ?_) | (refine swt_act rfl (act_box rfl rfl rfl rfl rfl rfl rfl ?_)) | (refine swt_act rfl (act_alloc ttab_ok rfl rfl rfl rfl rfl rfl ?_)) | (refine swt_act rfl (act_store ttab_ok rfl rfl rfl rfl rfl rfl rfl rfl rfl rfl ?_)) | (refine swt_act rfl (act_buildSlice ttab_ok rfl rfl rfl rfl rfl rfl rfl rfl rfl rfl rfl rfl ?_)))
  refine swt_read ttab_ok rfl rfl (by simp only [List.length_map]; omega) rfl ?_
  rw [getD_map hlt']
  repeat (first | (refine swt_read ttab_ok rfl rfl (by exact True.intro) rfl ?_) | (refine swt_skip rfl rfl ?_) | (refine swt_act rfl (act_box rfl rfl rfl rfl rfl rfl rfl ?_)) | (refine swt_act rfl (act_alloc ttab_ok rfl rfl rfl rfl rfl rfl ?_)) | (refine swt_act rfl (act_store ttab_ok rfl rfl rfl rfl rfl rfl rfl rfl rfl rfl ?_)) | (refine swt_act rfl (act_buildSlice ttab_ok rfl rfl rfl rfl rfl rfl rfl rfl rfl rfl rfl rfl ?_)))
  refine swt_nil ?_
  (repeat refine sw_seq ?_); refine sw_region ?_
  repeat (first | (refine swt_read ttab_ok rfl rfl (by exact True.intro) rfl ?_) | (refine swt_skip rfl rfl ?_) | (refine swt_act rfl (act_box rfl rfl rfl rfl rfl rfl rfl ?_)) | (refine swt_act rfl (act_alloc ttab_ok rfl rfl rfl rfl rfl rfl ?_)) | (refine swt_act rfl (act_store ttab_ok rfl rfl rfl rfl rfl rfl rfl rfl rfl rfl ?_)) | (refine swt_act rfl (act_buildSlice ttab_ok rfl rfl rfl rfl rfl rfl rfl rfl rfl rfl rfl rfl ?_)))
  refine swt_nil ?_
  (repeat refine sw_seq ?_); refine sw_block ?_
  refine SW.wk (wk_only [0, 1, 5, 39, 40, 41, 45, 46, 47] [(5, 5)] rfl rfl) ?_
  refine sw_loop (fun n s => ∃ (j : Nat) (jj : Int), j ≤ t[k].length ∧ n = t[k].length - j ∧ jj = j ∧ (∀ y ∈ t[k].take j, ∀ m ∈ y, farM g m) ∧ s = ⟨87, [(0, .p (tgtP t)), (1, .p (givsP l)), (5, .ptr 5 0), (39, .p (tgtP t)), (40, .p (pI (t.map fun x => [anyP x]).length)), (41, .p (pI k)), (45, .p (anyP t[k])), (46, .p (pI (t[k].map fun x => [matsP x]).length)), (47, .p (pI jj))], [(5, .cells (g.pv.map .p))]⟩) t[k].length ⟨0, 0, Nat.zero_le _, rfl, rfl, by simp, rfl⟩ ?_
  rintro n s ⟨j, _, hj, rfl, rfl, hb, rfl⟩
  (repeat refine sw_seq ?_); refine sw_region ?_
  repeat (first | (refine swt_read ttab_ok rfl rfl (by exact True.intro) rfl ?_) | (refine swt_skip rfl rfl ?_) | (refine swt_act rfl (act_box rfl rfl rfl rfl rfl rfl rfl ?_)) | (refine swt_act rfl (act_alloc ttab_ok rfl rfl rfl rfl rfl rfl ?_)) | (refine swt_act rfl (act_store ttab_ok rfl rfl rfl rfl rfl rfl rfl rfl rfl rfl ?_)) | (refine swt_act rfl (act_buildSlice ttab_ok rfl rfl rfl rfl rfl rfl rfl rfl rfl rfl rfl rfl ?_)))
  refine swt_nil ?_
  (repeat refine sw_seq ?_); refine sw_cond rfl (fun hlt2 => ?_) (fun hlt2 => ?_)
  rotate_left
  · refine sw_exit ?_
    simp only [List.length_map, decide_eq_false_iff_not] at hlt2
    have hjj : j = t[k].length := by omega
    subst hjj
    rw [List.take_length] at hb
    (repeat refine sw_seq ?_); refine sw_region ?_
    repeat (first | (refine swt_read ttab_ok rfl rfl (by exact True.intro) rfl ?_) | (refine swt_skip rfl rfl ?_) | (refine swt_act rfl (act_box rfl rfl rfl rfl rfl rfl rfl ?_)) | (refine swt_act rfl (act_alloc ttab_ok rfl rfl rfl rfl rfl rfl ?_)) | (refine swt_act rfl (act_store ttab_ok rfl rfl rfl rfl rfl rfl rfl rfl rfl rfl ?_)) | (refine swt_act rfl (act_buildSlice ttab_ok rfl rfl rfl rfl rfl rfl rfl rfl rfl rfl rfl rfl ?_)))
    refine swt_nil ?_
    refine ⟨_, _, ?_, wk_only [0, 1, 5, 39, 40, 41] [(5, 5)] rfl rfl, k + 1, _, hlt', rfl, wrap_succ hlt' (by omega), take_all_step hlt' ha hb, rfl⟩
    omega
  refine sw_skip ?_
  simp only [List.length_map, decide_eq_true_eq] at hlt2
  have hlt2' : j < t[k].length := by omega
  have b2 := (hs2 _ (List.getElem_mem hlt')).2 _ (List.getElem_mem hlt2')
  (repeat refine sw_seq ?_); refine sw_block ?_
  (repeat refine sw_seq ?_); refine sw_region ?_
  repeat (first | (refine swt_read ttab_ok rfl rfl (by exact True.intro) rfl ?_) | (refine swt_skip rfl rfl ?_) | (refine swt_act rfl (act_box rfl rfl rfl rfl rfl rfl rfl ?_)) | (refine swt_act rfl (act_alloc ttab_ok rfl rfl rfl rfl rfl rfl ?_)) | (refine swt_act rfl (act_store ttab_ok rfl rfl rfl rfl rfl rfl rfl rfl rfl rfl ?_)) | (refine swt_act rfl (act_buildSlice ttab_ok rfl rfl rfl rfl rfl rfl rfl rfl rfl rfl rfl rfl ?_)))
  refine swt_read ttab_ok rfl rfl (by simp only [List.length_map]; omega) rfl ?_
  rw [getD_map hlt2']
  repeat (first | (refine swt_read ttab_ok rfl rfl (by exact True.intro) rfl ?_) | (refine swt_skip rfl rfl ?_) | (refine swt_act rfl (act_box rfl rfl rfl rfl rfl rfl rfl ?_)) | (refine swt_act rfl (act_alloc ttab_ok rfl rfl rfl rfl rfl rfl ?_)) | (refine swt_act rfl (act_store ttab_ok rfl rfl rfl rfl rfl rfl rfl rfl rfl rfl ?_)) | (refine swt_act rfl (act_buildSlice ttab_ok rfl rfl rfl rfl rfl rfl rfl rfl rfl rfl rfl rfl ?_)))
  refine swt_nil ?_
  (repeat refine sw_seq ?_); refine sw_region ?_
  repeat (first | (refine swt_read ttab_ok rfl rfl (by exact True.intro) rfl ?_) | (refine swt_skip rfl rfl ?_) | (refine swt_act rfl (act_box rfl rfl rfl rfl rfl rfl rfl ?_)) | (refine swt_act rfl (act_alloc ttab_ok rfl rfl rfl rfl rfl rfl ?_)) | (refine swt_act rfl (act_store ttab_ok rfl rfl rfl rfl rfl rfl rfl rfl rfl rfl ?_)) | (refine swt_act rfl (act_buildSlice ttab_ok rfl rfl rfl rfl rfl rfl rfl rfl rfl rfl rfl rfl ?_)))
  refine swt_nil ?_
  (repeat refine sw_seq ?_); refine sw_block ?_
  refine SW.wk (wk_only [0, 1, 5, 39, 40, 41, 45, 46, 47, 51, 52, 53] [(5, 5)] rfl rfl) ?_
  refine sw_loop (fun n s => ∃ (i : Nat) (ii : Int), i ≤ t[k][j].length ∧ n = t[k][j].length - i ∧ ii = i ∧ (∀ m ∈ t[k][j].take i, farM g m) ∧ s = ⟨87, [(0, .p (tgtP t)), (1, .p (givsP l)), (5, .ptr 5 0), (39, .p (tgtP t)), (40, .p (pI (t.map fun x => [anyP x]).length)), (41, .p (pI k)), (45, .p (anyP t[k])), (46, .p (pI (t[k].map fun x => [matsP x]).length)), (47, .p (pI j)), (51, .p (matsP t[k][j])), (52, .p (pI (t[k][j].map Mat.pv).length)), (53, .p (pI ii))], [(5, .cells (g.pv.map .p))]⟩) t[k][j].length ⟨0, 0, Nat.zero_le _, rfl, rfl, by simp, rfl⟩ ?_
  rintro n s ⟨i, _, hi, rfl, rfl, hd, rfl⟩
  (repeat refine sw_seq ?_); refine sw_region ?_
  repeat (first | (refine swt_read ttab_ok rfl rfl (by exact True.intro) rfl ?_) | (refine swt_skip rfl rfl ?_) | (refine swt_act rfl (act_box rfl rfl rfl rfl rfl rfl rfl ?_)) | (refine swt_act rfl (act_alloc ttab_ok rfl rfl rfl rfl rfl rfl ?_)) | (refine swt_act rfl (act_store ttab_ok rfl rfl rfl rfl rfl rfl rfl rfl rfl rfl ?_)) | (refine swt_act rfl (act_buildSlice ttab_ok rfl rfl rfl rfl rfl rfl rfl rfl rfl rfl rfl rfl ?_)))
  refine swt_nil ?_
  (repeat refine sw_seq ?_); refine sw_cond rfl (fun hlt3 => ?_) (fun hlt3 => ?_)
  rotate_left
  · refine sw_exit ?_
    simp only [List.length_map, decide_eq_false_iff_not] at hlt3
    have hii : i = t[k][j].length := by omega
    subst hii
    rw [List.take_length] at hd
    (repeat refine sw_seq ?_); refine sw_region ?_
    repeat (first | (refine swt_read ttab_ok rfl rfl (by exact True.intro) rfl ?_) | (refine swt_skip rfl rfl ?_) | (refine swt_act rfl (act_box rfl rfl rfl rfl rfl rfl rfl ?_)) | (refine swt_act rfl (act_alloc ttab_ok rfl rfl rfl rfl rfl rfl ?_)) | (refine swt_act rfl (act_store ttab_ok rfl rfl rfl rfl rfl rfl rfl rfl rfl rfl ?_)) | (refine swt_act rfl (act_buildSlice ttab_ok rfl rfl rfl rfl rfl rfl rfl rfl rfl rfl rfl rfl ?_)))
    refine swt_nil ?_
    refine ⟨_, _, ?_, wk_only [0, 1, 5, 39, 40, 41, 45, 46, 47] [(5, 5)] rfl rfl, j + 1, _, hlt2', rfl, wrap_succ hlt2' (by omega), take_all_step hlt2' hb hd, rfl⟩
    omega
  refine sw_skip ?_
  simp only [List.length_map, decide_eq_true_eq] at hlt3
  have hlt3' : i < t[k][j].length := by omega
  (repeat refine sw_seq ?_); refine sw_block ?_
  (repeat refine sw_seq ?_); refine sw_region ?_
  repeat (first | (refine swt_read ttab_ok rfl rfl (by exact True.intro) rfl ?_) | (refine swt_skip rfl rfl ?_) | (refine swt_act rfl (act_box rfl rfl rfl rfl rfl rfl rfl ?_)) | (refine swt_act rfl (act_alloc ttab_ok rfl rfl rfl rfl rfl rfl ?_)) | (refine swt_act rfl (act_store ttab_ok rfl rfl rfl rfl rfl rfl rfl rfl rfl rfl ?_)) | (refine swt_act rfl (act_buildSlice ttab_ok rfl rfl rfl rfl rfl rfl rfl rfl rfl rfl rfl rfl ?_)))
  refine swt_read ttab_ok rfl rfl (by simp only [List.length_map]; omega) rfl ?_
  rw [getD_map hlt3']
  repeat (first | (refine swt_read ttab_ok rfl rfl (by exact True.intro) rfl ?_) | (refine swt_skip rfl rfl ?_) | (refine swt_act rfl (act_box rfl rfl rfl rfl rfl rfl rfl ?_)) | (refine swt_act rfl (act_alloc ttab_ok rfl rfl rfl rfl rfl rfl ?_)) | (refine swt_act rfl (act_store ttab_ok rfl rfl rfl rfl rfl rfl rfl rfl rfl rfl ?_)) | (refine swt_act rfl (act_buildSlice ttab_ok rfl rfl rfl rfl rfl rfl rfl rfl rfl rfl rfl rfl ?_)))
  refine swt_nil ?_
  (repeat refine sw_seq ?_); refine sw_region_spec (by kernel_rfl) ?_
  repeat (refine sws_read ttab_ok rfl (by exact True.intro) rfl ?_)
  refine sws_nil ?_
  (repeat refine sw_seq ?_); refine sw_cond rfl (fun hc => ?_) (fun hc => ?_)
  · (repeat refine sw_seq ?_); refine sw_region ?_
    repeat (first | (refine swt_read ttab_ok rfl rfl (by exact True.intro) rfl ?_) | (refine swt_skip rfl rfl ?_) | (refine swt_act rfl (act_box rfl rfl rfl rfl rfl rfl rfl ?_)) | (refine swt_act rfl (act_alloc ttab_ok rfl rfl rfl rfl rfl rfl ?_)) | (refine swt_act rfl (act_store ttab_ok rfl rfl rfl rfl rfl rfl rfl rfl rfl rfl ?_)) | (refine swt_act rfl (act_buildSlice ttab_ok rfl rfl rfl rfl rfl rfl rfl rfl rfl rfl rfl rfl ?_)))
    refine swt_act rfl (act_call_flat rfl rfl rfl rfl (targetRuns_h) rfl rfl ?_)
    repeat (first | (refine swt_read ttab_ok rfl rfl (by exact True.intro) rfl ?_) | (refine swt_skip rfl rfl ?_) | (refine swt_act rfl (act_box rfl rfl rfl rfl rfl rfl rfl ?_)) | (refine swt_act rfl (act_alloc ttab_ok rfl rfl rfl rfl rfl rfl ?_)) | (refine swt_act rfl (act_store ttab_ok rfl rfl rfl rfl rfl rfl rfl rfl rfl rfl ?_)) | (refine swt_act rfl (act_buildSlice ttab_ok rfl rfl rfl rfl rfl rfl rfl rfl rfl rfl rfl rfl ?_)))
    refine swt_nil ?_
    (repeat refine sw_seq ?_); refine sw_ret ?_
    exact fin_b rfl rfl
  · refine sw_skip ?_
    (repeat refine sw_seq ?_); refine sw_region ?_
    repeat (first | (refine swt_read ttab_ok rfl rfl (by exact True.intro) rfl ?_) | (refine swt_skip rfl rfl ?_) | (refine swt_act rfl (act_box rfl rfl rfl rfl rfl rfl rfl ?_)) | (refine swt_act rfl (act_alloc ttab_ok rfl rfl rfl rfl rfl rfl ?_)) | (refine swt_act rfl (act_store ttab_ok rfl rfl rfl rfl rfl rfl rfl rfl rfl rfl ?_)) | (refine swt_act rfl (act_buildSlice ttab_ok rfl rfl rfl rfl rfl rfl rfl rfl rfl rfl rfl rfl ?_)))
    refine swt_nil ?_
    refine ⟨_, _, ?_, wk_only [0, 1, 5, 39, 40, 41, 45, 46, 47, 51, 52, 53] [(5, 5)] rfl rfl, i + 1, _, hlt3', rfl, wrap_succ hlt3' (by omega), take_all_step hlt3' hd ?_, rfl⟩
    · omega
    · unfold farM isG
      rw [beq_bytes] at hc
      cases h1 : (t[k][j][i].attr.cat == g.cat) <;> cases h2 : decide (t[k][j][i].attr.name = g.name) <;> simp_all
      all_goals (intro h; exact absurd h.symm (by assumption))
end Go.Proofs.Ytnienipaicckmaa
