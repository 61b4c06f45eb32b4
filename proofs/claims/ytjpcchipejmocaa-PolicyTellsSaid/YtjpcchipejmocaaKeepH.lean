/-
  Held against itself a target, obligations, nodes, and a policy are the same: bailiffbook.Same, bailiffkeep.Targets, bailiffkeep.Policies, by shades.
-/
import Derived.Test.YtjpcchipejmocaaSh
import Derived.Test.YtjpcchipejmocaaRefPol
namespace Go.Proofs.Ytjpcchipejmocaa
set_option linter.unusedVariables false
set_option linter.unusedSimpArgs false
open Go.RowKit
set_option maxHeartbeats 4000000
theorem sameMat_h (l : List Mat) (hn : l.length ≤ 1000000) : Holds Try.prog 83 [matsP l, matsP l] (.p (pB true)) [] := by
    refine holds_of (ts := [4]) Try.func83 (by kernel_rfl) rfl rfl rfl ?_
    (repeat refine sw_seq ?_); refine sw_region ?_
    repeat (first | refine sR (h := ?_) | refine sK (h := ?_) | refine sT (h := aM (h := ?_)) | refine sT (h := aB (h := ?_)) | refine sT (h := aA (h := ?_)) | refine sT (h := aS (h := ?_)) | refine sT (h := aL (h := ?_)))
    refine swt_nil ?_
    (repeat refine sw_seq ?_); refine sw_region ?_
    repeat (first | refine sR (h := ?_) | refine sK (h := ?_) | refine sT (h := aM (h := ?_)) | refine sT (h := aB (h := ?_)) | refine sT (h := aA (h := ?_)) | refine sT (h := aS (h := ?_)) | refine sT (h := aL (h := ?_)))
    refine swt_nil ?_
    (repeat refine sw_seq ?_); refine sw_cond rfl (fun h0 => ?_) (fun h0 => ?_)
    · exfalso
      simp at h0
    refine sw_skip ?_
    (repeat refine sw_seq ?_); refine sw_region ?_
    repeat (first | refine sR (h := ?_) | refine sK (h := ?_) | refine sT (h := aM (h := ?_)) | refine sT (h := aB (h := ?_)) | refine sT (h := aA (h := ?_)) | refine sT (h := aS (h := ?_)) | refine sT (h := aL (h := ?_)))
    refine swt_nil ?_
    (repeat refine sw_seq ?_); refine sw_block ?_
    refine SW.wk (wk_only [0, 1, 4, 5] [] rfl rfl) ?_
    refine sw_loop (fun m s => ∃ (k : Nat) (kk : Int), k ≤ l.length ∧ m = l.length - k ∧ kk = k ∧ s = ⟨26, [(0, .p (matsP l)), (1, .p (matsP l)), (4, .p (pB false)), (5, .p (pI kk))], []⟩) l.length ⟨0, 0, Nat.zero_le _, rfl, rfl, rfl⟩ ?_
    rintro m s ⟨k, _, hk, rfl, rfl, rfl⟩
    (repeat refine sw_seq ?_); refine sw_region ?_
    repeat (first | refine sR (h := ?_) | refine sK (h := ?_) | refine sT (h := aM (h := ?_)) | refine sT (h := aB (h := ?_)) | refine sT (h := aA (h := ?_)) | refine sT (h := aS (h := ?_)) | refine sT (h := aL (h := ?_)))
    refine swt_nil ?_
    (repeat refine sw_seq ?_); refine sw_cond rfl (fun hlt => ?_) (fun hlt => ?_)
    · refine sw_skip ?_
      simp only [List.length_map, decide_eq_true_eq] at hlt
      have hlt' : k < l.length := by omega
      obtain ⟨x, hx⟩ : ∃ x, x = l[k] := ⟨_, rfl⟩
      (repeat refine sw_seq ?_); refine sw_block ?_
      (repeat refine sw_seq ?_); refine sw_region_draw [] [(0, true), (1, true), (2, true), (3, true), (4, true), (5, true), (6, true), (7, true), (8, true)] (by kernel_rfl) (by kernel_rfl) (by kernel_rfl) ?_
      repeat (first | refine mR (h := ?_) | refine mK (h := ?_) | refine mT (h := aM (h := ?_)) | refine mT (h := aB (h := ?_)) | refine mT (h := aA (h := ?_)) | refine mT (h := aS (h := ?_)) | refine mT (h := aL (h := ?_)))
      refine swm_read ttab_ok rfl rfl rfl (by simp only [List.length_map]; omega) rfl ?_
      rw [getD_map hlt', ← hx]
      repeat (first | refine mR (h := ?_) | refine mK (h := ?_) | refine mT (h := aM (h := ?_)) | refine mT (h := aB (h := ?_)) | refine mT (h := aA (h := ?_)) | refine mT (h := aS (h := ?_)) | refine mT (h := aL (h := ?_)))
      refine swm_read ttab_ok rfl rfl rfl (by simp only [List.length_map]; omega) rfl ?_
      rw [getD_map hlt', ← hx]
      repeat (first | refine mR (h := ?_) | refine mK (h := ?_) | refine mT (h := aM (h := ?_)) | refine mT (h := aB (h := ?_)) | refine mT (h := aA (h := ?_)) | refine mT (h := aS (h := ?_)) | refine mT (h := aL (h := ?_)))
      refine swm_read ttab_ok rfl rfl rfl (rfl) rfl ?_
      repeat (first | refine mR (h := ?_) | refine mK (h := ?_) | refine mT (h := aM (h := ?_)) | refine mT (h := aB (h := ?_)) | refine mT (h := aA (h := ?_)) | refine mT (h := aS (h := ?_)) | refine mT (h := aL (h := ?_)))
      refine swm_nil ?_
      (repeat refine sw_seq ?_); refine sw_cond rfl (fun hp => ?_) (fun hp => ?_)
      · exfalso
        simp at hp
      refine sw_skip ?_
      (repeat refine sw_seq ?_); refine sw_region ?_
      repeat (first | refine sR (h := ?_) | refine sK (h := ?_) | refine sT (h := aM (h := ?_)) | refine sT (h := aB (h := ?_)) | refine sT (h := aA (h := ?_)) | refine sT (h := aS (h := ?_)) | refine sT (h := aL (h := ?_)))
      refine swt_nil ?_
      refine ⟨_, _, ?_, wk_only [0, 1, 4, 5] [] rfl rfl, k + 1, _, hlt', rfl, wrap_succ hlt' (by omega), rfl⟩
      omega
    · refine sw_exit ?_
      (repeat refine sw_seq ?_); refine sw_region ?_
      repeat (first | refine sR (h := ?_) | refine sK (h := ?_) | refine sT (h := aM (h := ?_)) | refine sT (h := aB (h := ?_)) | refine sT (h := aA (h := ?_)) | refine sT (h := aS (h := ?_)) | refine sT (h := aL (h := ?_)))
      refine swt_nil ?_
      (repeat refine sw_seq ?_); refine sw_ret ?_
      exact fin_b rfl rfl
theorem sameObl_h (l : List Obli) (hn : l.length ≤ 1000000) : Holds Try.prog 65 [oblsP l, oblsP l] (.p (pB true)) [] := by
    refine holds_of (ts := [4]) Try.func65 (by kernel_rfl) rfl rfl rfl ?_
    (repeat refine sw_seq ?_); refine sw_region ?_
    repeat (first | refine sR (h := ?_) | refine sK (h := ?_) | refine sT (h := aM (h := ?_)) | refine sT (h := aB (h := ?_)) | refine sT (h := aA (h := ?_)) | refine sT (h := aS (h := ?_)) | refine sT (h := aL (h := ?_)))
    refine swt_nil ?_
    (repeat refine sw_seq ?_); refine sw_region ?_
    repeat (first | refine sR (h := ?_) | refine sK (h := ?_) | refine sT (h := aM (h := ?_)) | refine sT (h := aB (h := ?_)) | refine sT (h := aA (h := ?_)) | refine sT (h := aS (h := ?_)) | refine sT (h := aL (h := ?_)))
    refine swt_nil ?_
    (repeat refine sw_seq ?_); refine sw_cond rfl (fun h0 => ?_) (fun h0 => ?_)
    · exfalso
      simp at h0
    refine sw_skip ?_
    (repeat refine sw_seq ?_); refine sw_region ?_
    repeat (first | refine sR (h := ?_) | refine sK (h := ?_) | refine sT (h := aM (h := ?_)) | refine sT (h := aB (h := ?_)) | refine sT (h := aA (h := ?_)) | refine sT (h := aS (h := ?_)) | refine sT (h := aL (h := ?_)))
    refine swt_nil ?_
    (repeat refine sw_seq ?_); refine sw_block ?_
    refine SW.wk (wk_only [0, 1, 4, 5] [] rfl rfl) ?_
    refine sw_loop (fun m s => ∃ (k : Nat) (kk : Int), k ≤ l.length ∧ m = l.length - k ∧ kk = k ∧ s = ⟨26, [(0, .p (oblsP l)), (1, .p (oblsP l)), (4, .p (pB false)), (5, .p (pI kk))], []⟩) l.length ⟨0, 0, Nat.zero_le _, rfl, rfl, rfl⟩ ?_
    rintro m s ⟨k, _, hk, rfl, rfl, rfl⟩
    (repeat refine sw_seq ?_); refine sw_region ?_
    repeat (first | refine sR (h := ?_) | refine sK (h := ?_) | refine sT (h := aM (h := ?_)) | refine sT (h := aB (h := ?_)) | refine sT (h := aA (h := ?_)) | refine sT (h := aS (h := ?_)) | refine sT (h := aL (h := ?_)))
    refine swt_nil ?_
    (repeat refine sw_seq ?_); refine sw_cond rfl (fun hlt => ?_) (fun hlt => ?_)
    · refine sw_skip ?_
      simp only [List.length_map, decide_eq_true_eq] at hlt
      have hlt' : k < l.length := by omega
      obtain ⟨x, hx⟩ : ∃ x, x = l[k] := ⟨_, rfl⟩
      (repeat refine sw_seq ?_); refine sw_block ?_
      (repeat refine sw_seq ?_); refine sw_region_draw [] [(0, true), (1, true), (2, true), (3, true), (4, true), (5, true), (6, true), (7, true), (8, true)] (by kernel_rfl) (by kernel_rfl) (by kernel_rfl) ?_
      repeat (first | refine mR (h := ?_) | refine mK (h := ?_) | refine mT (h := aM (h := ?_)) | refine mT (h := aB (h := ?_)) | refine mT (h := aA (h := ?_)) | refine mT (h := aS (h := ?_)) | refine mT (h := aL (h := ?_)))
      refine swm_read ttab_ok rfl rfl rfl (by simp only [List.length_map]; omega) rfl ?_
      rw [getD_map hlt', ← hx]
      repeat (first | refine mR (h := ?_) | refine mK (h := ?_) | refine mT (h := aM (h := ?_)) | refine mT (h := aB (h := ?_)) | refine mT (h := aA (h := ?_)) | refine mT (h := aS (h := ?_)) | refine mT (h := aL (h := ?_)))
      refine swm_read ttab_ok rfl rfl rfl (by simp only [List.length_map]; omega) rfl ?_
      rw [getD_map hlt', ← hx]
      repeat (first | refine mR (h := ?_) | refine mK (h := ?_) | refine mT (h := aM (h := ?_)) | refine mT (h := aB (h := ?_)) | refine mT (h := aA (h := ?_)) | refine mT (h := aS (h := ?_)) | refine mT (h := aL (h := ?_)))
      refine swm_read ttab_ok rfl rfl rfl (rfl) rfl ?_
      repeat (first | refine mR (h := ?_) | refine mK (h := ?_) | refine mT (h := aM (h := ?_)) | refine mT (h := aB (h := ?_)) | refine mT (h := aA (h := ?_)) | refine mT (h := aS (h := ?_)) | refine mT (h := aL (h := ?_)))
      refine swm_nil ?_
      (repeat refine sw_seq ?_); refine sw_cond rfl (fun hp => ?_) (fun hp => ?_)
      · exfalso
        simp at hp
      refine sw_skip ?_
      (repeat refine sw_seq ?_); refine sw_region ?_
      repeat (first | refine sR (h := ?_) | refine sK (h := ?_) | refine sT (h := aM (h := ?_)) | refine sT (h := aB (h := ?_)) | refine sT (h := aA (h := ?_)) | refine sT (h := aS (h := ?_)) | refine sT (h := aL (h := ?_)))
      refine swt_nil ?_
      refine ⟨_, _, ?_, wk_only [0, 1, 4, 5] [] rfl rfl, k + 1, _, hlt', rfl, wrap_succ hlt' (by omega), rfl⟩
      omega
    · refine sw_exit ?_
      (repeat refine sw_seq ?_); refine sw_region ?_
      repeat (first | refine sR (h := ?_) | refine sK (h := ?_) | refine sT (h := aM (h := ?_)) | refine sT (h := aB (h := ?_)) | refine sT (h := aA (h := ?_)) | refine sT (h := aS (h := ?_)) | refine sT (h := aL (h := ?_)))
      refine swt_nil ?_
      (repeat refine sw_seq ?_); refine sw_ret ?_
      exact fin_b rfl rfl
theorem sameNod_h (l : List Nod) (hn : l.length ≤ 1000000) : Holds Try.prog 66 [nodsP l, nodsP l] (.p (pB true)) [] := by
    refine holds_of (ts := [4]) Try.func66 (by kernel_rfl) rfl rfl rfl ?_
    (repeat refine sw_seq ?_); refine sw_region ?_
    repeat (first | refine sR (h := ?_) | refine sK (h := ?_) | refine sT (h := aM (h := ?_)) | refine sT (h := aB (h := ?_)) | refine sT (h := aA (h := ?_)) | refine sT (h := aS (h := ?_)) | refine sT (h := aL (h := ?_)))
    refine swt_nil ?_
    (repeat refine sw_seq ?_); refine sw_region ?_
    repeat (first | refine sR (h := ?_) | refine sK (h := ?_) | refine sT (h := aM (h := ?_)) | refine sT (h := aB (h := ?_)) | refine sT (h := aA (h := ?_)) | refine sT (h := aS (h := ?_)) | refine sT (h := aL (h := ?_)))
    refine swt_nil ?_
    (repeat refine sw_seq ?_); refine sw_cond rfl (fun h0 => ?_) (fun h0 => ?_)
    · exfalso
      simp at h0
    refine sw_skip ?_
    (repeat refine sw_seq ?_); refine sw_region ?_
    repeat (first | refine sR (h := ?_) | refine sK (h := ?_) | refine sT (h := aM (h := ?_)) | refine sT (h := aB (h := ?_)) | refine sT (h := aA (h := ?_)) | refine sT (h := aS (h := ?_)) | refine sT (h := aL (h := ?_)))
    refine swt_nil ?_
    (repeat refine sw_seq ?_); refine sw_block ?_
    refine SW.wk (wk_only [0, 1, 4, 5] [] rfl rfl) ?_
    refine sw_loop (fun m s => ∃ (k : Nat) (kk : Int), k ≤ l.length ∧ m = l.length - k ∧ kk = k ∧ s = ⟨26, [(0, .p (nodsP l)), (1, .p (nodsP l)), (4, .p (pB false)), (5, .p (pI kk))], []⟩) l.length ⟨0, 0, Nat.zero_le _, rfl, rfl, rfl⟩ ?_
    rintro m s ⟨k, _, hk, rfl, rfl, rfl⟩
    (repeat refine sw_seq ?_); refine sw_region ?_
    repeat (first | refine sR (h := ?_) | refine sK (h := ?_) | refine sT (h := aM (h := ?_)) | refine sT (h := aB (h := ?_)) | refine sT (h := aA (h := ?_)) | refine sT (h := aS (h := ?_)) | refine sT (h := aL (h := ?_)))
    refine swt_nil ?_
    (repeat refine sw_seq ?_); refine sw_cond rfl (fun hlt => ?_) (fun hlt => ?_)
    · refine sw_skip ?_
      simp only [List.length_map, decide_eq_true_eq] at hlt
      have hlt' : k < l.length := by omega
      obtain ⟨x, hx⟩ : ∃ x, x = l[k] := ⟨_, rfl⟩
      (repeat refine sw_seq ?_); refine sw_block ?_
      (repeat refine sw_seq ?_); refine sw_region_draw [] [(0, true), (1, true), (2, true), (3, true), (4, true), (5, true), (6, true), (7, true), (8, true)] (by kernel_rfl) (by kernel_rfl) (by kernel_rfl) ?_
      repeat (first | refine mR (h := ?_) | refine mK (h := ?_) | refine mT (h := aM (h := ?_)) | refine mT (h := aB (h := ?_)) | refine mT (h := aA (h := ?_)) | refine mT (h := aS (h := ?_)) | refine mT (h := aL (h := ?_)))
      refine swm_read ttab_ok rfl rfl rfl (by simp only [List.length_map]; omega) rfl ?_
      rw [getD_map hlt', ← hx]
      repeat (first | refine mR (h := ?_) | refine mK (h := ?_) | refine mT (h := aM (h := ?_)) | refine mT (h := aB (h := ?_)) | refine mT (h := aA (h := ?_)) | refine mT (h := aS (h := ?_)) | refine mT (h := aL (h := ?_)))
      refine swm_read ttab_ok rfl rfl rfl (by simp only [List.length_map]; omega) rfl ?_
      rw [getD_map hlt', ← hx]
      repeat (first | refine mR (h := ?_) | refine mK (h := ?_) | refine mT (h := aM (h := ?_)) | refine mT (h := aB (h := ?_)) | refine mT (h := aA (h := ?_)) | refine mT (h := aS (h := ?_)) | refine mT (h := aL (h := ?_)))
      refine swm_read ttab_ok rfl rfl rfl (rfl) rfl ?_
      repeat (first | refine mR (h := ?_) | refine mK (h := ?_) | refine mT (h := aM (h := ?_)) | refine mT (h := aB (h := ?_)) | refine mT (h := aA (h := ?_)) | refine mT (h := aS (h := ?_)) | refine mT (h := aL (h := ?_)))
      refine swm_nil ?_
      (repeat refine sw_seq ?_); refine sw_cond rfl (fun hp => ?_) (fun hp => ?_)
      · exfalso
        simp at hp
      refine sw_skip ?_
      (repeat refine sw_seq ?_); refine sw_region ?_
      repeat (first | refine sR (h := ?_) | refine sK (h := ?_) | refine sT (h := aM (h := ?_)) | refine sT (h := aB (h := ?_)) | refine sT (h := aA (h := ?_)) | refine sT (h := aS (h := ?_)) | refine sT (h := aL (h := ?_)))
      refine swt_nil ?_
      refine ⟨_, _, ?_, wk_only [0, 1, 4, 5] [] rfl rfl, k + 1, _, hlt', rfl, wrap_succ hlt' (by omega), rfl⟩
      omega
    · refine sw_exit ?_
      (repeat refine sw_seq ?_); refine sw_region ?_
      repeat (first | refine sR (h := ?_) | refine sK (h := ?_) | refine sT (h := aM (h := ?_)) | refine sT (h := aB (h := ?_)) | refine sT (h := aA (h := ?_)) | refine sT (h := aS (h := ?_)) | refine sT (h := aL (h := ?_)))
      refine swt_nil ?_
      (repeat refine sw_seq ?_); refine sw_ret ?_
      exact fin_b rfl rfl
theorem sameTgt_h (t : Tar) (hl0 : t.length ≤ 1000000) (hl : ∀ x ∈ t, x.length ≤ 1000000 ∧ ∀ y ∈ x, y.length ≤ 1000000) : Holds Try.prog 64 [tgtP t, tgtP t] (.p (pB true)) [] := by
  have lt : (t.map fun x => [anyP x]).length = t.length := by simp
  refine holds_of (ts := [4]) Try.func64 (by kernel_rfl) rfl rfl rfl ?_
  (repeat refine sw_seq ?_); refine sw_region ?_
  repeat (first | refine sR (h := ?_) | refine sK (h := ?_) | refine sT (h := aM (h := ?_)) | refine sT (h := aB (h := ?_)) | refine sT (h := aA (h := ?_)) | refine sT (h := aS (h := ?_)) | refine sT (h := aL (h := ?_)))
  refine swt_nil ?_
  (repeat refine sw_seq ?_); refine sw_region ?_
  repeat (first | refine sR (h := ?_) | refine sK (h := ?_) | refine sT (h := aM (h := ?_)) | refine sT (h := aB (h := ?_)) | refine sT (h := aA (h := ?_)) | refine sT (h := aS (h := ?_)) | refine sT (h := aL (h := ?_)))
  refine swt_nil ?_
  (repeat refine sw_seq ?_); refine sw_cond rfl (fun h0 => ?_) (fun h0 => ?_)
  · exfalso
    simp at h0
  refine sw_skip ?_
  (repeat refine sw_seq ?_); refine sw_region ?_
  repeat (first | refine sR (h := ?_) | refine sK (h := ?_) | refine sT (h := aM (h := ?_)) | refine sT (h := aB (h := ?_)) | refine sT (h := aA (h := ?_)) | refine sT (h := aS (h := ?_)) | refine sT (h := aL (h := ?_)))
  refine swt_nil ?_
  (repeat refine sw_seq ?_); refine sw_block ?_
  refine SW.wk (wk_only [0, 1, 4, 13, 14] [] rfl rfl) ?_
  refine sw_loop (fun m s => ∃ (k : Nat) (kk : Int), k ≤ t.length ∧ m = t.length - k ∧ kk = k ∧ s = ⟨54, [(0, .p (tgtP t)), (1, .p (tgtP t)), (4, .p (pB false)), (13, .p (pI (t.map fun x => [anyP x]).length)), (14, .p (pI kk))], []⟩) t.length ⟨0, 0, Nat.zero_le _, rfl, rfl, rfl⟩ ?_
  rintro m s ⟨k, _, hk, rfl, rfl, rfl⟩
  (repeat refine sw_seq ?_); refine sw_region ?_
  repeat (first | refine sR (h := ?_) | refine sK (h := ?_) | refine sT (h := aM (h := ?_)) | refine sT (h := aB (h := ?_)) | refine sT (h := aA (h := ?_)) | refine sT (h := aS (h := ?_)) | refine sT (h := aL (h := ?_)))
  refine swt_nil ?_
  (repeat refine sw_seq ?_); refine sw_cond rfl (fun hlt => ?_) (fun hlt => ?_)
  · refine sw_skip ?_
    rw [lt] at hlt
    simp only [decide_eq_true_eq] at hlt
    have hlt' : k < t.length := by omega
    obtain ⟨x, hx⟩ : ∃ x, x = t[k] := ⟨_, rfl⟩
    have hxl := hl _ (List.getElem_mem hlt')
    rw [← hx] at hxl
    have lx : (x.map fun y => [matsP y]).length = x.length := by simp
    (repeat refine sw_seq ?_); refine sw_block ?_
    (repeat refine sw_seq ?_); refine sw_region ?_
    repeat (first | refine sR (h := ?_) | refine sK (h := ?_) | refine sT (h := aM (h := ?_)) | refine sT (h := aB (h := ?_)) | refine sT (h := aA (h := ?_)) | refine sT (h := aS (h := ?_)) | refine sT (h := aL (h := ?_)))
    refine swt_nil ?_
    (repeat refine sw_seq ?_); refine sw_region_draw [] [(0, true), (1, true), (2, true), (3, true), (4, true), (5, true), (6, true), (7, true), (8, true), (9, true), (10, true)] (by kernel_rfl) (by kernel_rfl) (by kernel_rfl) ?_
    repeat (first | refine mR (h := ?_) | refine mK (h := ?_) | refine mT (h := aM (h := ?_)) | refine mT (h := aB (h := ?_)) | refine mT (h := aA (h := ?_)) | refine mT (h := aS (h := ?_)) | refine mT (h := aL (h := ?_)))
    refine swm_read ttab_ok rfl rfl rfl (by rw [lt]; omega) rfl ?_
    rw [getD_map hlt', ← hx]
    repeat (first | refine mR (h := ?_) | refine mK (h := ?_) | refine mT (h := aM (h := ?_)) | refine mT (h := aB (h := ?_)) | refine mT (h := aA (h := ?_)) | refine mT (h := aS (h := ?_)) | refine mT (h := aL (h := ?_)))
    refine swm_read ttab_ok rfl rfl rfl (by rw [lt]; omega) rfl ?_
    rw [getD_map hlt', ← hx]
    repeat (first | refine mR (h := ?_) | refine mK (h := ?_) | refine mT (h := aM (h := ?_)) | refine mT (h := aB (h := ?_)) | refine mT (h := aA (h := ?_)) | refine mT (h := aS (h := ?_)) | refine mT (h := aL (h := ?_)))
    refine swm_nil ?_
    (repeat refine sw_seq ?_); refine sw_cond rfl (fun h1 => ?_) (fun h1 => ?_)
    · exfalso
      simp at h1
    refine sw_skip ?_
    (repeat refine sw_seq ?_); refine sw_region ?_
    repeat (first | refine sR (h := ?_) | refine sK (h := ?_) | refine sT (h := aM (h := ?_)) | refine sT (h := aB (h := ?_)) | refine sT (h := aA (h := ?_)) | refine sT (h := aS (h := ?_)) | refine sT (h := aL (h := ?_)))
    refine swt_read ttab_ok rfl rfl (by rw [lt]; omega) rfl ?_
    rw [getD_map hlt', ← hx]
    repeat (first | refine sR (h := ?_) | refine sK (h := ?_) | refine sT (h := aM (h := ?_)) | refine sT (h := aB (h := ?_)) | refine sT (h := aA (h := ?_)) | refine sT (h := aS (h := ?_)) | refine sT (h := aL (h := ?_)))
    refine swt_nil ?_
    (repeat refine sw_seq ?_); refine sw_block ?_
    refine SW.wk (wk_only [0, 1, 4, 5, 13, 14, 32, 33] [] rfl rfl) ?_
    refine sw_loop (fun m s => ∃ (j : Nat) (jj : Int), j ≤ x.length ∧ m = x.length - j ∧ jj = j ∧ s = ⟨54, [(0, .p (tgtP t)), (1, .p (tgtP t)), (4, .p (pB false)), (5, .p (pI k)), (13, .p (pI (t.map fun x => [anyP x]).length)), (14, .p (pI k)), (32, .p (pI (x.map fun y => [matsP y]).length)), (33, .p (pI jj))], []⟩) x.length ⟨0, 0, Nat.zero_le _, rfl, rfl, rfl⟩ ?_
    rintro m s ⟨j, _, hj, rfl, rfl, rfl⟩
    (repeat refine sw_seq ?_); refine sw_region ?_
    repeat (first | refine sR (h := ?_) | refine sK (h := ?_) | refine sT (h := aM (h := ?_)) | refine sT (h := aB (h := ?_)) | refine sT (h := aA (h := ?_)) | refine sT (h := aS (h := ?_)) | refine sT (h := aL (h := ?_)))
    refine swt_nil ?_
    (repeat refine sw_seq ?_); refine sw_cond rfl (fun hlj => ?_) (fun hlj => ?_)
    · refine sw_skip ?_
      rw [lx] at hlj
      simp only [decide_eq_true_eq] at hlj
      have hlj' : j < x.length := by omega
      obtain ⟨y, hy⟩ : ∃ y, y = x[j] := ⟨_, rfl⟩
      have hyl := hxl.2 _ (List.getElem_mem hlj')
      rw [← hy] at hyl
      (repeat refine sw_seq ?_); refine sw_block ?_
      (repeat refine sw_seq ?_); refine sw_region ?_
      repeat (first | refine sR (h := ?_) | refine sK (h := ?_) | refine sT (h := aM (h := ?_)) | refine sT (h := aB (h := ?_)) | refine sT (h := aA (h := ?_)) | refine sT (h := aS (h := ?_)) | refine sT (h := aL (h := ?_)))
      refine swt_nil ?_
      (repeat refine sw_seq ?_); refine sw_region_draw [] [(0, true), (1, true), (2, true), (3, true), (4, true), (5, true), (6, true), (7, true), (8, true), (9, true), (10, true), (11, true), (12, true), (13, true), (14, false), (15, true)] (by kernel_rfl) (by kernel_rfl) (by kernel_rfl) ?_
      repeat (first | refine mR (h := ?_) | refine mK (h := ?_) | refine mT (h := aM (h := ?_)) | refine mT (h := aB (h := ?_)) | refine mT (h := aA (h := ?_)) | refine mT (h := aS (h := ?_)) | refine mT (h := aL (h := ?_)))
      refine swm_read ttab_ok rfl rfl rfl (by rw [lt]; omega) rfl ?_
      rw [getD_map hlt', ← hx]
      repeat (first | refine mR (h := ?_) | refine mK (h := ?_) | refine mT (h := aM (h := ?_)) | refine mT (h := aB (h := ?_)) | refine mT (h := aA (h := ?_)) | refine mT (h := aS (h := ?_)) | refine mT (h := aL (h := ?_)))
      refine swm_read ttab_ok rfl rfl rfl (by rw [lx]; omega) rfl ?_
      rw [getD_map hlj', ← hy]
      repeat (first | refine mR (h := ?_) | refine mK (h := ?_) | refine mT (h := aM (h := ?_)) | refine mT (h := aB (h := ?_)) | refine mT (h := aA (h := ?_)) | refine mT (h := aS (h := ?_)) | refine mT (h := aL (h := ?_)))
      refine swm_read ttab_ok rfl rfl rfl (by rw [lt]; omega) rfl ?_
      rw [getD_map hlt', ← hx]
      repeat (first | refine mR (h := ?_) | refine mK (h := ?_) | refine mT (h := aM (h := ?_)) | refine mT (h := aB (h := ?_)) | refine mT (h := aA (h := ?_)) | refine mT (h := aS (h := ?_)) | refine mT (h := aL (h := ?_)))
      refine swm_read ttab_ok rfl rfl rfl (by rw [lx]; omega) rfl ?_
      rw [getD_map hlj', ← hy]
      repeat (first | refine mR (h := ?_) | refine mK (h := ?_) | refine mT (h := aM (h := ?_)) | refine mT (h := aB (h := ?_)) | refine mT (h := aA (h := ?_)) | refine mT (h := aS (h := ?_)) | refine mT (h := aL (h := ?_)))
      refine swm_act rfl rfl rfl (act_call_flat rfl rfl rfl rfl (sameMat_h y hyl) rfl rfl ?_)
      repeat (first | refine mR (h := ?_) | refine mK (h := ?_) | refine mT (h := aM (h := ?_)) | refine mT (h := aB (h := ?_)) | refine mT (h := aA (h := ?_)) | refine mT (h := aS (h := ?_)) | refine mT (h := aL (h := ?_)))
      refine swm_nil ?_
      (repeat refine sw_seq ?_); refine sw_cond rfl (fun h2 => ?_) (fun h2 => ?_)
      · exfalso
        cases h2
      refine sw_skip ?_
      (repeat refine sw_seq ?_); refine sw_region ?_
      repeat (first | refine sR (h := ?_) | refine sK (h := ?_) | refine sT (h := aM (h := ?_)) | refine sT (h := aB (h := ?_)) | refine sT (h := aA (h := ?_)) | refine sT (h := aS (h := ?_)) | refine sT (h := aL (h := ?_)))
      refine swt_nil ?_
      refine ⟨_, _, ?_, wk_only [0, 1, 4, 5, 13, 14, 32, 33] [] rfl rfl, j + 1, _, hlj', rfl, wrap_succ hlj' (by omega), rfl⟩
      omega
    · refine sw_exit ?_
      (repeat refine sw_seq ?_); refine sw_region ?_
      repeat (first | refine sR (h := ?_) | refine sK (h := ?_) | refine sT (h := aM (h := ?_)) | refine sT (h := aB (h := ?_)) | refine sT (h := aA (h := ?_)) | refine sT (h := aS (h := ?_)) | refine sT (h := aL (h := ?_)))
      refine swt_nil ?_
      refine ⟨_, _, ?_, wk_only [0, 1, 4, 13, 14] [] rfl rfl, k + 1, _, hlt', rfl, wrap_succ hlt' (by omega), rfl⟩
      omega
  · refine sw_exit ?_
    (repeat refine sw_seq ?_); refine sw_region ?_
    repeat (first | refine sR (h := ?_) | refine sK (h := ?_) | refine sT (h := aM (h := ?_)) | refine sT (h := aB (h := ?_)) | refine sT (h := aA (h := ?_)) | refine sT (h := aS (h := ?_)) | refine sT (h := aL (h := ?_)))
    refine swt_nil ?_
    (repeat refine sw_seq ?_); refine sw_ret ?_
    exact fin_b rfl rfl
theorem tarL_mil {t : Tar} (h : TarL t) : ∀ x ∈ t, x.length ≤ 1000000 ∧ ∀ y ∈ x, y.length ≤ 1000000 := fun x hx => by
  have h1 := h.2 x hx
  exact ⟨by omega, fun y hy => by have := h1.2 y hy; omega⟩
theorem tarL_len {t : Tar} (h : TarL t) : t.length ≤ 1000000 := by have := h.1; omega
def SamePolOk (n : Nat) : Prop := ∀ (p : Pol), PolF n p → p.sz ≤ 3000 → Holds Try.prog 43 [.agg (polP p), .agg (polP p)] (.p (pB true)) []
theorem samePol_step (n : Nat) (IH : SamePolOk n) : SamePolOk (n + 1) := by
  rintro ⟨id, set, alg, tg, rules, kids, obls⟩ hf hsz
  obtain ⟨ht, hr, hk, ho, hru, hks⟩ := sz_facts hsz (Nat.le_refl _)
  simp only [Pol.target, Pol.rules, Pol.kids, Pol.obls] at ht hr hk ho hru hks
  have hfk : ∀ k ∈ kids, PolF n k := hf.2.2
  have T := sameTgt_h tg (tarL_len ht) (tarL_mil ht)
  have O := sameObl_h obls (by omega)
  have l1 : ((rules.map ruleP).length) = rules.length := by simp
  have l2 : ((kids.map polP).length) = kids.length := by simp
  rw [polP_eq]
  simp only [Pol.id, Pol.set, Pol.alg, Pol.target, Pol.rules, Pol.kids, Pol.obls]
  refine holds_of (ts := [4]) Try.func43 (by kernel_rfl) rfl rfl rfl ?_
  (repeat refine sw_seq ?_); refine sw_region ?_
  repeat (first | refine sR (h := ?_) | refine sK (h := ?_) | refine sT (h := aM (h := ?_)) | refine sT (h := aB (h := ?_)) | refine sT (h := aA (h := ?_)) | refine sT (h := aS (h := ?_)) | refine sT (h := aL (h := ?_)))
  refine swt_nil ?_
  (repeat refine sw_seq ?_); refine sw_region_spec (by kernel_rfl) ?_
  repeat (refine sws_read ttab_ok rfl (by exact True.intro) rfl ?_)
  rw [show (id.toList == id.toList) = true by simp]
  repeat (refine sws_read ttab_ok rfl (by exact True.intro) rfl ?_)
  rw [show (set == set) = true by simp]
  repeat (refine sws_read ttab_ok rfl (by exact True.intro) rfl ?_)
  rw [show (alg != alg) = false by simp]
  repeat (refine sws_read ttab_ok rfl (by exact True.intro) rfl ?_)
  refine sws_call rfl rfl rfl rfl (T) rfl rfl ?_
  repeat (refine sws_read ttab_ok rfl (by exact True.intro) rfl ?_)
  refine sws_call rfl rfl rfl rfl (O) rfl rfl ?_
  repeat (refine sws_read ttab_ok rfl (by exact True.intro) rfl ?_)
  rw [l1, l2, show ((rules.length : Int) != rules.length) = false by simp]
  repeat (refine sws_read ttab_ok rfl (by exact True.intro) rfl ?_)
  rw [show ((kids.length : Int) != kids.length) = false by simp]
  repeat (refine sws_read ttab_ok rfl (by exact True.intro) rfl ?_)
  refine sws_nil ?_
  (repeat refine sw_seq ?_); refine sw_cond rfl (fun h0 => ?_) (fun h0 => ?_)
  · cases h0
  refine sw_skip ?_
  (repeat refine sw_seq ?_); refine sw_region ?_
  repeat (first | refine sR (h := ?_) | refine sK (h := ?_) | refine sT (h := aM (h := ?_)) | refine sT (h := aB (h := ?_)) | refine sT (h := aA (h := ?_)) | refine sT (h := aS (h := ?_)) | refine sT (h := aL (h := ?_)))
  refine swt_nil ?_
  (repeat refine sw_seq ?_); refine sw_block ?_
  refine SW.wk (wk_only [2, 3, 64, 65] [(2, 2), (3, 3)] rfl rfl) ?_
  refine sw_loop (fun m s => ∃ (k : Nat) (kk : Int), k ≤ rules.length ∧ m = rules.length - k ∧ kk = k ∧ s = ⟨134, [(2, .ptr 2 0), (3, .ptr 3 0), (64, .p (pI (rules.map ruleP).length)), (65, .p (pI kk))], [(2, .cells [.p (pS id), .p (pB set), .p (pI alg), .p (tgtP tg), .p (.sl 5 (rules.map ruleP)), .p (.sl 7 (kids.map polP)), .p (oblsP obls)]), (3, .cells [.p (pS id), .p (pB set), .p (pI alg), .p (tgtP tg), .p (.sl 5 (rules.map ruleP)), .p (.sl 7 (kids.map polP)), .p (oblsP obls)])]⟩) rules.length ⟨0, 0, Nat.zero_le _, rfl, rfl, rfl⟩ ?_
  rintro m s ⟨k, _, hk', rfl, rfl, rfl⟩
  (repeat refine sw_seq ?_); refine sw_region ?_
  repeat (first | refine sR (h := ?_) | refine sK (h := ?_) | refine sT (h := aM (h := ?_)) | refine sT (h := aB (h := ?_)) | refine sT (h := aA (h := ?_)) | refine sT (h := aS (h := ?_)) | refine sT (h := aL (h := ?_)))
  refine swt_nil ?_
  (repeat refine sw_seq ?_); refine sw_cond rfl (fun hlt => ?_) (fun hlt => ?_)
  · refine sw_skip ?_
    rw [l1] at hlt
    simp only [decide_eq_true_eq] at hlt
    have hlt' : k < rules.length := by omega
    obtain ⟨r, hre⟩ : ∃ r, r = rules[k] := ⟨_, rfl⟩
    have hrl := hru _ (List.getElem_mem hlt')
    rw [← hre] at hrl
    have HT := sameTgt_h r.target (tarL_len hrl.1) (tarL_mil hrl.1)
    have HN := sameNod_h r.cond (by omega)
    have HO := sameObl_h r.obls (by omega)
    (repeat refine sw_seq ?_); refine sw_block ?_
    (repeat refine sw_seq ?_); refine sw_region ?_
    repeat (first | refine sR (h := ?_) | refine sK (h := ?_) | refine sT (h := aM (h := ?_)) | refine sT (h := aB (h := ?_)) | refine sT (h := aA (h := ?_)) | refine sT (h := aS (h := ?_)) | refine sT (h := aL (h := ?_)))
    refine swt_nil ?_
    (repeat refine sw_seq ?_); refine sw_region_fork 14 rfl (by kernel_rfl) ?_
    refine swb_rd (i := 0) (K := [6, 7]) (by kernel_rfl) (by kernel_rfl) rfl rfl (rdO_opR ttab_ok rfl (by exact True.intro)) rfl ?_
    refine swb_rd (i := 1) (K := [6, 7]) (by kernel_rfl) (by kernel_rfl) rfl rfl (rdO_opR ttab_ok rfl (by exact True.intro)) rfl ?_
    refine swb_rd (i := 2) (K := [6, 7]) (by kernel_rfl) (by kernel_rfl) rfl rfl (rdO_opR ttab_ok rfl (by exact True.intro)) rfl ?_
    refine swb_rd (i := 3) (K := [6, 7]) (by kernel_rfl) (by kernel_rfl) rfl rfl (rdO_opR ttab_ok rfl (by rw [l1]; omega)) rfl ?_
    rw [getD_map hlt', ← hre]
    refine swb_rd (i := 4) (K := [6, 7]) (by kernel_rfl) (by kernel_rfl) rfl rfl (rdO_opR ttab_ok rfl (by exact True.intro)) rfl ?_
    refine swb_rd (i := 5) (K := [6, 7]) (by kernel_rfl) (by kernel_rfl) rfl rfl (rdO_opR ttab_ok rfl (by exact True.intro)) rfl ?_
    refine swb_rd (i := 6) (K := [6, 7]) (by kernel_rfl) (by kernel_rfl) rfl rfl (rdO_opR ttab_ok rfl (by exact True.intro)) rfl ?_
    refine swb_rd (i := 7) (K := [6, 7]) (by kernel_rfl) (by kernel_rfl) rfl rfl (rdO_opR ttab_ok rfl (by exact True.intro)) rfl ?_
    refine swb_rd (i := 8) (K := [6, 7]) (by kernel_rfl) (by kernel_rfl) rfl rfl (rdO_opR ttab_ok rfl (by rw [l1]; omega)) rfl ?_
    rw [getD_map hlt', ← hre]
    refine swb_rd (i := 9) (K := [6, 7]) (by kernel_rfl) (by kernel_rfl) rfl rfl (rdO_opR ttab_ok rfl (by exact True.intro)) rfl ?_
    refine swb_fork2 10 11 (by kernel_rfl) ?_ ?_
    first | (refine swb_act rfl rfl rfl (act_makeMap rfl rfl rfl rfl ?_)) | (refine swb_act rfl rfl rfl (act_box rfl rfl rfl rfl rfl rfl rfl ?_)) | (refine swb_act rfl rfl rfl (act_alloc ttab_ok rfl rfl rfl rfl rfl rfl ?_)) | (refine swb_act rfl rfl rfl (act_store ttab_ok rfl rfl rfl rfl rfl rfl rfl rfl rfl rfl ?_)) | (refine swb_act rfl rfl rfl (act_buildSlice ttab_ok rfl rfl rfl rfl rfl rfl rfl rfl rfl rfl rfl rfl ?_)) | (refine swb_act rfl rfl rfl (actOk_rd (K := []) (rdO_opR ttab_ok rfl (by exact True.intro)) rfl ?_))
    refine swb_fork1 11 (by kernel_rfl) ?_
    first | (refine swb_act rfl rfl rfl (act_makeMap rfl rfl rfl rfl ?_)) | (refine swb_act rfl rfl rfl (act_box rfl rfl rfl rfl rfl rfl rfl ?_)) | (refine swb_act rfl rfl rfl (act_alloc ttab_ok rfl rfl rfl rfl rfl rfl ?_)) | (refine swb_act rfl rfl rfl (act_store ttab_ok rfl rfl rfl rfl rfl rfl rfl rfl rfl rfl ?_)) | (refine swb_act rfl rfl rfl (act_buildSlice ttab_ok rfl rfl rfl rfl rfl rfl rfl rfl rfl rfl rfl rfl ?_)) | (refine swb_act rfl rfl rfl (actOk_rd (K := []) (rdO_opR ttab_ok rfl (by exact True.intro)) rfl ?_))
    refine swb_fork1 12 (by kernel_rfl) ?_
    first | (refine swb_act rfl rfl rfl (act_makeMap rfl rfl rfl rfl ?_)) | (refine swb_act rfl rfl rfl (act_box rfl rfl rfl rfl rfl rfl rfl ?_)) | (refine swb_act rfl rfl rfl (act_alloc ttab_ok rfl rfl rfl rfl rfl rfl ?_)) | (refine swb_act rfl rfl rfl (act_store ttab_ok rfl rfl rfl rfl rfl rfl rfl rfl rfl rfl ?_)) | (refine swb_act rfl rfl rfl (act_buildSlice ttab_ok rfl rfl rfl rfl rfl rfl rfl rfl rfl rfl rfl rfl ?_)) | (refine swb_act rfl rfl rfl (actOk_rd (K := []) (rdO_opR ttab_ok rfl (by exact True.intro)) rfl ?_))
    refine swb_fork1 13 (by kernel_rfl) ?_
    first | (refine swb_act rfl rfl rfl (act_makeMap rfl rfl rfl rfl ?_)) | (refine swb_act rfl rfl rfl (act_box rfl rfl rfl rfl rfl rfl rfl ?_)) | (refine swb_act rfl rfl rfl (act_alloc ttab_ok rfl rfl rfl rfl rfl rfl ?_)) | (refine swb_act rfl rfl rfl (act_store ttab_ok rfl rfl rfl rfl rfl rfl rfl rfl rfl rfl ?_)) | (refine swb_act rfl rfl rfl (act_buildSlice ttab_ok rfl rfl rfl rfl rfl rfl rfl rfl rfl rfl rfl rfl ?_)) | (refine swb_act rfl rfl rfl (actOk_rd (K := []) (rdO_opR ttab_ok rfl (by exact True.intro)) rfl ?_))
    refine swb_done (by kernel_rfl) ?_
    refine SW.wk (wk_only [2, 3, 6, 7, 64, 65] [(2, 2), (3, 3), (6, 6), (7, 7)] rfl rfl) ?_
    refine ?fk6
    rotate_left
    first | (refine swb_act rfl rfl rfl (act_makeMap rfl rfl rfl rfl ?_)) | (refine swb_act rfl rfl rfl (act_box rfl rfl rfl rfl rfl rfl rfl ?_)) | (refine swb_act rfl rfl rfl (act_alloc ttab_ok rfl rfl rfl rfl rfl rfl ?_)) | (refine swb_act rfl rfl rfl (act_store ttab_ok rfl rfl rfl rfl rfl rfl rfl rfl rfl rfl ?_)) | (refine swb_act rfl rfl rfl (act_buildSlice ttab_ok rfl rfl rfl rfl rfl rfl rfl rfl rfl rfl rfl rfl ?_)) | (refine swb_act rfl rfl rfl (actOk_rd (K := []) (rdO_opR ttab_ok rfl (by exact True.intro)) rfl ?_))
    refine swb_fork1 10 (by kernel_rfl) ?_
    first | (refine swb_act rfl rfl rfl (act_makeMap rfl rfl rfl rfl ?_)) | (refine swb_act rfl rfl rfl (act_box rfl rfl rfl rfl rfl rfl rfl ?_)) | (refine swb_act rfl rfl rfl (act_alloc ttab_ok rfl rfl rfl rfl rfl rfl ?_)) | (refine swb_act rfl rfl rfl (act_store ttab_ok rfl rfl rfl rfl rfl rfl rfl rfl rfl rfl ?_)) | (refine swb_act rfl rfl rfl (act_buildSlice ttab_ok rfl rfl rfl rfl rfl rfl rfl rfl rfl rfl rfl rfl ?_)) | (refine swb_act rfl rfl rfl (actOk_rd (K := []) (rdO_opR ttab_ok rfl (by exact True.intro)) rfl ?_))
    refine swb_fork1 12 (by kernel_rfl) ?_
    first | (refine swb_act rfl rfl rfl (act_makeMap rfl rfl rfl rfl ?_)) | (refine swb_act rfl rfl rfl (act_box rfl rfl rfl rfl rfl rfl rfl ?_)) | (refine swb_act rfl rfl rfl (act_alloc ttab_ok rfl rfl rfl rfl rfl rfl ?_)) | (refine swb_act rfl rfl rfl (act_store ttab_ok rfl rfl rfl rfl rfl rfl rfl rfl rfl rfl ?_)) | (refine swb_act rfl rfl rfl (act_buildSlice ttab_ok rfl rfl rfl rfl rfl rfl rfl rfl rfl rfl rfl rfl ?_)) | (refine swb_act rfl rfl rfl (actOk_rd (K := []) (rdO_opR ttab_ok rfl (by exact True.intro)) rfl ?_))
    refine swb_fork1 13 (by kernel_rfl) ?_
    first | (refine swb_act rfl rfl rfl (act_makeMap rfl rfl rfl rfl ?_)) | (refine swb_act rfl rfl rfl (act_box rfl rfl rfl rfl rfl rfl rfl ?_)) | (refine swb_act rfl rfl rfl (act_alloc ttab_ok rfl rfl rfl rfl rfl rfl ?_)) | (refine swb_act rfl rfl rfl (act_store ttab_ok rfl rfl rfl rfl rfl rfl rfl rfl rfl rfl ?_)) | (refine swb_act rfl rfl rfl (act_buildSlice ttab_ok rfl rfl rfl rfl rfl rfl rfl rfl rfl rfl rfl rfl ?_)) | (refine swb_act rfl rfl rfl (actOk_rd (K := []) (rdO_opR ttab_ok rfl (by exact True.intro)) rfl ?_))
    refine swb_done (by kernel_rfl) ?_
    refine SW.wk (wk_only [2, 3, 6, 7, 64, 65] [(2, 2), (3, 3), (6, 6), (7, 7)] rfl rfl) ?_
    exact ?fk6
    change SW _ _ _ ⟨134, [(2, .ptr 2 0), (3, .ptr 3 0), (6, .ptr 6 0), (7, .ptr 7 0), (64, .p (pI (rules.map ruleP).length)), (65, .p (pI k))], [(2, .cells [.p (pS id), .p (pB set), .p (pI alg), .p (tgtP tg), .p (.sl 5 (rules.map ruleP)), .p (.sl 7 (kids.map polP)), .p (oblsP obls)]), (3, .cells [.p (pS id), .p (pB set), .p (pI alg), .p (tgtP tg), .p (.sl 5 (rules.map ruleP)), .p (.sl 7 (kids.map polP)), .p (oblsP obls)]), (6, .cells ((ruleP r).map .p)), (7, .cells ((ruleP r).map .p))]⟩
    (repeat refine sw_seq ?_); refine sw_region_spec (by kernel_rfl) ?_
    repeat (refine sws_read ttab_ok rfl (by exact True.intro) rfl ?_)
    rw [show (r.id.toList == r.id.toList) = true by simp]
    repeat (refine sws_read ttab_ok rfl (by exact True.intro) rfl ?_)
    rw [show (r.deny == r.deny) = true by simp]
    repeat (refine sws_read ttab_ok rfl (by exact True.intro) rfl ?_)
    refine sws_call rfl rfl rfl rfl (HT) rfl rfl ?_
    repeat (refine sws_read ttab_ok rfl (by exact True.intro) rfl ?_)
    refine sws_call rfl rfl rfl rfl (HN) rfl rfl ?_
    repeat (refine sws_read ttab_ok rfl (by exact True.intro) rfl ?_)
    refine sws_call rfl rfl rfl rfl (HO) rfl rfl ?_
    repeat (refine sws_read ttab_ok rfl (by exact True.intro) rfl ?_)
    refine sws_nil ?_
    (repeat refine sw_seq ?_); refine sw_cond rfl (fun h1 => ?_) (fun h1 => ?_)
    · cases h1
    refine sw_skip ?_
    (repeat refine sw_seq ?_); refine sw_region ?_
    repeat (first | refine sR (h := ?_) | refine sK (h := ?_) | refine sT (h := aM (h := ?_)) | refine sT (h := aB (h := ?_)) | refine sT (h := aA (h := ?_)) | refine sT (h := aS (h := ?_)) | refine sT (h := aL (h := ?_)))
    refine swt_nil ?_
    refine ⟨_, _, ?_, wk_only [2, 3, 64, 65] [(2, 2), (3, 3)] rfl rfl, k + 1, _, hlt', rfl, wrap_succ hlt' (by omega), rfl⟩
    omega
  · refine sw_exit ?_
    (repeat refine sw_seq ?_); refine sw_region ?_
    repeat (first | refine sR (h := ?_) | refine sK (h := ?_) | refine sT (h := aM (h := ?_)) | refine sT (h := aB (h := ?_)) | refine sT (h := aA (h := ?_)) | refine sT (h := aS (h := ?_)) | refine sT (h := aL (h := ?_)))
    refine swt_nil ?_
    (repeat refine sw_seq ?_); refine sw_block ?_
    refine SW.wk (wk_only [2, 3, 117, 118] [(2, 2), (3, 3)] rfl rfl) ?_
    refine sw_loop (fun m s => ∃ (k : Nat) (kk : Int), k ≤ kids.length ∧ m = kids.length - k ∧ kk = k ∧ s = ⟨134, [(2, .ptr 2 0), (3, .ptr 3 0), (117, .p (pI (kids.map polP).length)), (118, .p (pI kk))], [(2, .cells [.p (pS id), .p (pB set), .p (pI alg), .p (tgtP tg), .p (.sl 5 (rules.map ruleP)), .p (.sl 7 (kids.map polP)), .p (oblsP obls)]), (3, .cells [.p (pS id), .p (pB set), .p (pI alg), .p (tgtP tg), .p (.sl 5 (rules.map ruleP)), .p (.sl 7 (kids.map polP)), .p (oblsP obls)])]⟩) kids.length ⟨0, 0, Nat.zero_le _, rfl, rfl, rfl⟩ ?_
    rintro m s ⟨k, _, hk', rfl, rfl, rfl⟩
    (repeat refine sw_seq ?_); refine sw_region ?_
    repeat (first | refine sR (h := ?_) | refine sK (h := ?_) | refine sT (h := aM (h := ?_)) | refine sT (h := aB (h := ?_)) | refine sT (h := aA (h := ?_)) | refine sT (h := aS (h := ?_)) | refine sT (h := aL (h := ?_)))
    refine swt_nil ?_
    (repeat refine sw_seq ?_); refine sw_cond rfl (fun hlj => ?_) (fun hlj => ?_)
    · refine sw_skip ?_
      rw [l2] at hlj
      simp only [decide_eq_true_eq] at hlj
      have hlj' : k < kids.length := by omega
      have H2 := IH _ (hfk _ (List.getElem_mem hlj')) (hks _ (List.getElem_mem hlj'))
      obtain ⟨x, hx⟩ : ∃ x, x = kids[k] := ⟨_, rfl⟩
      rw [← hx, polP_eq] at H2
      (repeat refine sw_seq ?_); refine sw_block ?_
      (repeat refine sw_seq ?_); refine sw_region ?_
      repeat (first | refine sR (h := ?_) | refine sK (h := ?_) | refine sT (h := aM (h := ?_)) | refine sT (h := aB (h := ?_)) | refine sT (h := aA (h := ?_)) | refine sT (h := aS (h := ?_)) | refine sT (h := aL (h := ?_)))
      refine swt_nil ?_
      (repeat refine sw_seq ?_); refine sw_region_draw [] [(0, true), (1, true), (2, true), (3, true), (4, true), (5, true), (6, true), (7, true), (8, true), (9, true), (10, false), (11, true)] (by kernel_rfl) (by kernel_rfl) (by kernel_rfl) ?_
      repeat (first | refine mR (h := ?_) | refine mK (h := ?_) | refine mT (h := aM (h := ?_)) | refine mT (h := aB (h := ?_)) | refine mT (h := aA (h := ?_)) | refine mT (h := aS (h := ?_)) | refine mT (h := aL (h := ?_)))
      refine swm_read ttab_ok rfl rfl rfl (by rw [l2]; omega) rfl ?_
      rw [getD_map hlj', ← hx, polP_eq]
      repeat (first | refine mR (h := ?_) | refine mK (h := ?_) | refine mT (h := aM (h := ?_)) | refine mT (h := aB (h := ?_)) | refine mT (h := aA (h := ?_)) | refine mT (h := aS (h := ?_)) | refine mT (h := aL (h := ?_)))
      refine swm_read ttab_ok rfl rfl rfl (by rw [l2]; omega) rfl ?_
      rw [getD_map hlj', ← hx, polP_eq]
      repeat (first | refine mR (h := ?_) | refine mK (h := ?_) | refine mT (h := aM (h := ?_)) | refine mT (h := aB (h := ?_)) | refine mT (h := aA (h := ?_)) | refine mT (h := aS (h := ?_)) | refine mT (h := aL (h := ?_)))
      refine swm_act rfl rfl rfl (act_call_flat rfl rfl rfl rfl (H2) rfl rfl ?_)
      repeat (first | refine mR (h := ?_) | refine mK (h := ?_) | refine mT (h := aM (h := ?_)) | refine mT (h := aB (h := ?_)) | refine mT (h := aA (h := ?_)) | refine mT (h := aS (h := ?_)) | refine mT (h := aL (h := ?_)))
      refine swm_nil ?_
      (repeat refine sw_seq ?_); refine sw_cond rfl (fun h2 => ?_) (fun h2 => ?_)
      · cases h2
      refine sw_skip ?_
      (repeat refine sw_seq ?_); refine sw_region ?_
      repeat (first | refine sR (h := ?_) | refine sK (h := ?_) | refine sT (h := aM (h := ?_)) | refine sT (h := aB (h := ?_)) | refine sT (h := aA (h := ?_)) | refine sT (h := aS (h := ?_)) | refine sT (h := aL (h := ?_)))
      refine swt_nil ?_
      refine ⟨_, _, ?_, wk_only [2, 3, 117, 118] [(2, 2), (3, 3)] rfl rfl, k + 1, _, hlj', rfl, wrap_succ hlj' (by omega), rfl⟩
      omega
    · refine sw_exit ?_
      (repeat refine sw_seq ?_); refine sw_region ?_
      repeat (first | refine sR (h := ?_) | refine sK (h := ?_) | refine sT (h := aM (h := ?_)) | refine sT (h := aB (h := ?_)) | refine sT (h := aA (h := ?_)) | refine sT (h := aS (h := ?_)) | refine sT (h := aL (h := ?_)))
      refine swt_nil ?_
      (repeat refine sw_seq ?_); refine sw_ret ?_
      exact fin_b rfl rfl
theorem samePol_all : ∀ n, SamePolOk n
  | 0 => fun _ h => h.elim
  | n + 1 => samePol_step n (samePol_all n)
end Go.Proofs.Ytjpcchipejmocaa
