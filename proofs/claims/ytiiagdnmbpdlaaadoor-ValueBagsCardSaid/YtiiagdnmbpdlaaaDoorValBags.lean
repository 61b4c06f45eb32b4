/-
  Layer 3's law ValueBags: in plain words, and the walk, by shades.
-/
import Derived.Test.YtiiagdnmbpdlaaaDoorSh
import Derived.Test.YtiiagdnmbpdlaaaDoorValRuns
import Derived.Test.YtiiagdnmbpdlaaaDoorVal3
namespace Go.Proofs.YtiiagdnmbpdlaaaDoor
set_option linter.unusedVariables false
set_option linter.unusedSimpArgs false
open Go.RowKit
set_option maxHeartbeats 4000000
theorem bag_iff {l : List Val} : bagOk l = true ↔ (∀ x ∈ l, x.right = true ∧ x.kind = (l.getD 0 noVal).kind) ∧ l.length ≤ 16 := by
  unfold bagOk
  rw [Bool.and_eq_true, List.all_eq_true, decide_eq_true_eq]
  simp only [inBag, Bool.and_eq_true, decide_eq_true_eq]
theorem bag_sub {l m : List Val} (h : bagOk l = true) (hm : ∀ x ∈ m, x ∈ l) (hl : m.length ≤ l.length) : bagOk m = true := by
  obtain ⟨h1, h2⟩ := bag_iff.1 h
  refine bag_iff.2 ⟨fun x hx => ⟨(h1 x (hm x hx)).1, ?_⟩, by omega⟩
  cases m with
  | nil => cases hx
  | cons y r => rw [(h1 x (hm x hx)).2]; exact (h1 y (hm y (by simp))).2.symm
theorem bag_more {l : List Val} {v : Val} {k : Nat} (h : bagOk l = true) (hv : v.right = true) (hk : k ≤ l.length) : bagOk (l.take k ++ [v] ++ l.drop k) = (decide ((l.take k ++ [v] ++ l.drop k).length ≤ 16) && (decide (l.length = 0) || decide ((l.getD 0 noVal).kind = v.kind))) := by
  obtain ⟨h1, h2⟩ := bag_iff.1 h
  have hmem : ∀ x, x ∈ l.take k ++ [v] ++ l.drop k → x = v ∨ x ∈ l := fun x hx => by
    simp only [List.mem_append, List.mem_singleton] at hx
    rcases hx with (hx | hx) | hx
    · exact .inr (List.mem_of_mem_take hx)
    · exact .inl hx
    · exact .inr (List.mem_of_mem_drop hx)
  have hvm : v ∈ l.take k ++ [v] ++ l.drop k := by simp
  rw [Bool.eq_iff_iff, bag_iff, Bool.and_eq_true, Bool.or_eq_true, decide_eq_true_eq, decide_eq_true_eq, decide_eq_true_eq, and_comm]
  refine and_congr_right fun _ => ?_
  cases l with
  | nil =>
    simp only [List.take_nil, List.drop_nil, List.nil_append, List.append_nil, List.mem_singleton, List.length_nil, true_or, iff_true]
    rintro x rfl
    exact ⟨hv, rfl⟩
  | cons a r =>
    simp only [List.length_cons, Nat.add_eq_zero_iff, Nat.succ_ne_self, and_false, false_or, List.getD_cons_zero] at *
    have ham : a ∈ (a :: r).take k ++ [v] ++ (a :: r).drop k := by
      have : a ∈ (a :: r).take k ++ (a :: r).drop k := by rw [List.take_append_drop]; simp
      simp only [List.mem_append, List.mem_singleton] at this ⊢
      rcases this with h | h
      · exact .inl (.inl h)
      · exact .inr h
    constructor
    · intro hx
      rw [(hx a ham).2, (hx v hvm).2]
    · intro e x hx
      have hh : (((a :: r).take k ++ [v] ++ (a :: r).drop k).getD 0 noVal).kind = a.kind := by
        cases k with
        | zero => simp [e]
        | succ k => simp
      rw [hh]
      rcases hmem x hx with rfl | hx
      · exact ⟨hv, e.symm⟩
      · exact h1 x hx
theorem has_more (l : List Val) (v : Val) (k : Nat) : hasV (l.take k ++ [v] ++ l.drop k) v = true := by
  unfold hasV
  rw [List.any_eq_true]
  exact ⟨v, by simp, sameV_refl v⟩
theorem slice_end (l : List Val) (j : Nat) : ((l.map Val.pv).drop (Int.toNat (j : Int))).take (Int.toNat (((l.map Val.pv).length : Nat) : Int) - Int.toNat (j : Int)) = (l.drop j).map Val.pv := by
  rw [List.map_drop]
  exact List.take_of_length_le (by simp)
theorem valBags_h (l : List Val) (v : Val) (at_ : Int) (hfl : ∀ x ∈ l, x.Fit) (hv : v.Fit) (hat : R64 at_) : Holds Tryd.prog 8 [valsP l, .agg v.pv, pI at_] (.p (pB true)) [] := by
  have F1 := fewV_h v hv
  have hv' := fewV_fit hv
  generalize fewV v = w at *
  have BN := (bag_h [] (fun x hx => by cases hx)).cv (args' := [.v (.slice none 0 0)]) (.cons (.nil 3) .nil)
  have HN := (has_h [] w (Nat.zero_le _)).cv (args' := [.v (.slice none 0 0), .agg w.pv]) (.cons (.nil 3) (.cons (.refl _) .nil))
  refine holds_of (ts := [6]) Tryd.func8 (by kernel_rfl) rfl rfl rfl ?_
  (repeat refine sw_seq ?_); refine sw_region ?_
  repeat (first | refine sR (h := ?_) | refine sK (h := ?_) | refine sT (h := aM (h := ?_)) | refine sT (h := aB (h := ?_)) | refine sT (h := aA (h := ?_)) | refine sT (h := aS (h := ?_)) | refine sT (h := aL (h := ?_)))
  refine swt_nil ?_
  (repeat refine sw_seq ?_); refine sw_region ?_
  repeat (first | refine sR (h := ?_) | refine sK (h := ?_) | refine sT (h := aM (h := ?_)) | refine sT (h := aB (h := ?_)) | refine sT (h := aA (h := ?_)) | refine sT (h := aS (h := ?_)) | refine sT (h := aL (h := ?_)))
  refine swt_read ttab_ok rfl rfl (by simp only [List.length_map]; split <;> omega) rfl ?_
  rw [slice_min Val.pv l 16 16 rfl]
  repeat (first | refine sR (h := ?_) | refine sK (h := ?_) | refine sT (h := aM (h := ?_)) | refine sT (h := aB (h := ?_)) | refine sT (h := aA (h := ?_)) | refine sT (h := aS (h := ?_)) | refine sT (h := aL (h := ?_)))
  refine swt_nil ?_
  refine SW.wk (wk_only [0, 2, 4] [(4, 4)] rfl rfl) ?_
  have hf : ∀ x ∈ l.take 16, x.Fit := fun x hx => hfl x (List.mem_of_mem_take hx)
  have hl : (l.take 16).length ≤ 16 := by simp; omega
  generalize l.take 16 = l at *
  have lm : (l.map Val.pv).length = l.length := by simp
  (repeat refine sw_seq ?_); refine sw_region ?_
  repeat (first | refine sR (h := ?_) | refine sK (h := ?_) | refine sT (h := aM (h := ?_)) | refine sT (h := aB (h := ?_)) | refine sT (h := aA (h := ?_)) | refine sT (h := aS (h := ?_)) | refine sT (h := aL (h := ?_)))
  refine swt_nil ?_
  (repeat refine sw_seq ?_); refine sw_block ?_
  refine SW.wk (wk_only [0, 2, 4, 16, 17, 18] [(4, 4)] rfl rfl) ?_
  refine sw_loop (fun m st => ∃ (k : Nat) (kk : Int), k ≤ l.length ∧ m = l.length - k ∧ kk = k ∧ st = ⟨106, [(0, .p (valsP l)), (2, .p (pI at_)), (4, .ptr 4 0), (16, .p (valsP l)), (17, .p (pI (l.map Val.pv).length)), (18, .p (pI kk))], [(4, .cells (v.pv.map .p))]⟩) l.length ⟨0, 0, Nat.zero_le _, rfl, rfl, rfl⟩ ?_
  rintro m st ⟨k, _, hk, rfl, rfl, rfl⟩
  (repeat refine sw_seq ?_); refine sw_region ?_
  repeat (first | refine sR (h := ?_) | refine sK (h := ?_) | refine sT (h := aM (h := ?_)) | refine sT (h := aB (h := ?_)) | refine sT (h := aA (h := ?_)) | refine sT (h := aS (h := ?_)) | refine sT (h := aL (h := ?_)))
  refine swt_nil ?_
  (repeat refine sw_seq ?_); refine sw_cond rfl (fun hlt => ?_) (fun hlt => ?_)
  · refine sw_skip ?_
    rw [lm] at hlt
    simp only [decide_eq_true_eq] at hlt
    have hlt' : k < l.length := by omega
    (repeat refine sw_seq ?_); refine sw_block ?_
    (repeat refine sw_seq ?_); refine sw_region ?_
    repeat (first | refine sR (h := ?_) | refine sK (h := ?_) | refine sT (h := aM (h := ?_)) | refine sT (h := aB (h := ?_)) | refine sT (h := aA (h := ?_)) | refine sT (h := aS (h := ?_)) | refine sT (h := aL (h := ?_)))
    refine swt_nil ?_
    (repeat refine sw_seq ?_); refine sw_region ?_
    repeat (first | refine sR (h := ?_) | refine sK (h := ?_) | refine sT (h := aM (h := ?_)) | refine sT (h := aB (h := ?_)) | refine sT (h := aA (h := ?_)) | refine sT (h := aS (h := ?_)) | refine sT (h := aL (h := ?_)))
    refine swt_read ttab_ok rfl rfl (by rw [lm]; omega) rfl ?_
    rw [getD_map hlt']
    repeat (first | refine sR (h := ?_) | refine sK (h := ?_) | refine sT (h := aM (h := ?_)) | refine sT (h := aB (h := ?_)) | refine sT (h := aA (h := ?_)) | refine sT (h := aS (h := ?_)) | refine sT (h := aL (h := ?_)))
    refine swt_nil ?_
    (repeat refine sw_seq ?_); refine sw_cond rfl (fun ht => ?_) (fun ht => ?_)
    · (repeat refine sw_seq ?_); refine sw_region ?_
      repeat (first | refine sR (h := ?_) | refine sK (h := ?_) | refine sT (h := aM (h := ?_)) | refine sT (h := aB (h := ?_)) | refine sT (h := aA (h := ?_)) | refine sT (h := aS (h := ?_)) | refine sT (h := aL (h := ?_)))
      refine swt_act rfl (act_call_flat rfl rfl rfl rfl (valRuns_h) rfl rfl ?_)
      repeat (first | refine sR (h := ?_) | refine sK (h := ?_) | refine sT (h := aM (h := ?_)) | refine sT (h := aB (h := ?_)) | refine sT (h := aA (h := ?_)) | refine sT (h := aS (h := ?_)) | refine sT (h := aL (h := ?_)))
      refine swt_nil ?_
      (repeat refine sw_seq ?_); refine sw_ret ?_
      exact fin_b rfl rfl
    · refine sw_skip ?_
      (repeat refine sw_seq ?_); refine sw_region ?_
      repeat (first | refine sR (h := ?_) | refine sK (h := ?_) | refine sT (h := aM (h := ?_)) | refine sT (h := aB (h := ?_)) | refine sT (h := aA (h := ?_)) | refine sT (h := aS (h := ?_)) | refine sT (h := aL (h := ?_)))
      refine swt_nil ?_
      refine ⟨_, _, ?_, wk_only [0, 2, 4, 16, 17, 18] [(4, 4)] rfl rfl, k + 1, _, hlt', rfl, wrap_succ hlt' (by omega), rfl⟩
      omega
  · refine sw_exit ?_
    clear hlt hk
    refine SW.wk (wk_only [0, 2, 4] [(4, 4)] rfl rfl) ?_
    (repeat refine sw_seq ?_); refine sw_region ?_
    repeat (first | refine sR (h := ?_) | refine sK (h := ?_) | refine sT (h := aM (h := ?_)) | refine sT (h := aB (h := ?_)) | refine sT (h := aA (h := ?_)) | refine sT (h := aS (h := ?_)) | refine sT (h := aL (h := ?_)))
    refine swt_act rfl (act_call_flat rfl rfl rfl rfl (F1) rfl rfl ?_)
    repeat (first | refine sR (h := ?_) | refine sK (h := ?_) | refine sT (h := aM (h := ?_)) | refine sT (h := aB (h := ?_)) | refine sT (h := aA (h := ?_)) | refine sT (h := aS (h := ?_)) | refine sT (h := aL (h := ?_)))
    refine swt_nil ?_
    refine SW.wk (wk_only [0, 2, 4] [(4, 4)] rfl rfl) ?_
    change SW _ _ _ ⟨106, [(0, .p (valsP l)), (2, .p (pI at_)), (4, .ptr 4 0)], [(4, .cells (w.pv.map .p))]⟩
    (repeat refine sw_seq ?_); refine sw_region ?_
    repeat (first | refine sR (h := ?_) | refine sK (h := ?_) | refine sT (h := aM (h := ?_)) | refine sT (h := aB (h := ?_)) | refine sT (h := aA (h := ?_)) | refine sT (h := aS (h := ?_)) | refine sT (h := aL (h := ?_)))
    refine swt_act rfl (act_call_flat rfl rfl rfl rfl (bag_h l hf) rfl rfl ?_)
    repeat (first | refine sR (h := ?_) | refine sK (h := ?_) | refine sT (h := aM (h := ?_)) | refine sT (h := aB (h := ?_)) | refine sT (h := aA (h := ?_)) | refine sT (h := aS (h := ?_)) | refine sT (h := aL (h := ?_)))
    cases hb : bagOk l with
    | false =>
      repeat (first | refine sR (h := ?_) | refine sK (h := ?_) | refine sT (h := aM (h := ?_)) | refine sT (h := aB (h := ?_)) | refine sT (h := aA (h := ?_)) | refine sT (h := aS (h := ?_)) | refine sT (h := aL (h := ?_)))
      refine swt_nil ?_
      (repeat refine sw_seq ?_); refine sw_cond rfl (fun hc => ?_) (fun hc => ?_)
      · (repeat refine sw_seq ?_); refine sw_region ?_
        repeat (first | refine sR (h := ?_) | refine sK (h := ?_) | refine sT (h := aM (h := ?_)) | refine sT (h := aB (h := ?_)) | refine sT (h := aA (h := ?_)) | refine sT (h := aS (h := ?_)) | refine sT (h := aL (h := ?_)))
        refine swt_act rfl (act_call_flat rfl rfl rfl rfl (BN) rfl rfl ?_)
        repeat (first | refine sR (h := ?_) | refine sK (h := ?_) | refine sT (h := aM (h := ?_)) | refine sT (h := aB (h := ?_)) | refine sT (h := aA (h := ?_)) | refine sT (h := aS (h := ?_)) | refine sT (h := aL (h := ?_)))
        refine swt_act rfl (act_call_flat rfl rfl rfl rfl (valRuns_h) rfl rfl ?_)
        repeat (first | refine sR (h := ?_) | refine sK (h := ?_) | refine sT (h := aM (h := ?_)) | refine sT (h := aB (h := ?_)) | refine sT (h := aA (h := ?_)) | refine sT (h := aS (h := ?_)) | refine sT (h := aL (h := ?_)))
        refine swt_nil ?_
        (repeat refine sw_seq ?_); refine sw_ret ?_
        exact fin_b rfl rfl
      · cases hc
    | true =>
      repeat (first | refine sR (h := ?_) | refine sK (h := ?_) | refine sT (h := aM (h := ?_)) | refine sT (h := aB (h := ?_)) | refine sT (h := aA (h := ?_)) | refine sT (h := aS (h := ?_)) | refine sT (h := aL (h := ?_)))
      refine swt_act rfl (act_call_flat rfl rfl rfl rfl (rightV_h w hv'.s) rfl rfl ?_)
      repeat (first | refine sR (h := ?_) | refine sK (h := ?_) | refine sT (h := aM (h := ?_)) | refine sT (h := aB (h := ?_)) | refine sT (h := aA (h := ?_)) | refine sT (h := aS (h := ?_)) | refine sT (h := aL (h := ?_)))
      cases hr : w.right with
      | false =>
        repeat (first | refine sR (h := ?_) | refine sK (h := ?_) | refine sT (h := aM (h := ?_)) | refine sT (h := aB (h := ?_)) | refine sT (h := aA (h := ?_)) | refine sT (h := aS (h := ?_)) | refine sT (h := aL (h := ?_)))
        refine swt_nil ?_
        (repeat refine sw_seq ?_); refine sw_cond rfl (fun hc => ?_) (fun hc => ?_)
        · (repeat refine sw_seq ?_); refine sw_region ?_
          repeat (first | refine sR (h := ?_) | refine sK (h := ?_) | refine sT (h := aM (h := ?_)) | refine sT (h := aB (h := ?_)) | refine sT (h := aA (h := ?_)) | refine sT (h := aS (h := ?_)) | refine sT (h := aL (h := ?_)))
          refine swt_act rfl (act_call_flat rfl rfl rfl rfl (BN) rfl rfl ?_)
          repeat (first | refine sR (h := ?_) | refine sK (h := ?_) | refine sT (h := aM (h := ?_)) | refine sT (h := aB (h := ?_)) | refine sT (h := aA (h := ?_)) | refine sT (h := aS (h := ?_)) | refine sT (h := aL (h := ?_)))
          refine swt_act rfl (act_call_flat rfl rfl rfl rfl (valRuns_h) rfl rfl ?_)
          repeat (first | refine sR (h := ?_) | refine sK (h := ?_) | refine sT (h := aM (h := ?_)) | refine sT (h := aB (h := ?_)) | refine sT (h := aA (h := ?_)) | refine sT (h := aS (h := ?_)) | refine sT (h := aL (h := ?_)))
          refine swt_nil ?_
          (repeat refine sw_seq ?_); refine sw_ret ?_
          exact fin_b rfl rfl
        · cases hc
      | true =>
        repeat (first | refine sR (h := ?_) | refine sK (h := ?_) | refine sT (h := aM (h := ?_)) | refine sT (h := aB (h := ?_)) | refine sT (h := aA (h := ?_)) | refine sT (h := aS (h := ?_)) | refine sT (h := aL (h := ?_)))
        refine swt_nil ?_
        (repeat refine sw_seq ?_); refine sw_cond rfl (fun hc => ?_) (fun hc => ?_)
        · cases hc
        refine sw_skip ?_
        have HW := within_h at_ 0 (l.length : Int) hat (by omega) (by omega) (by omega)
        obtain ⟨j, hj, hjl⟩ : ∃ j : Nat, 0 + at_ % ((l.length : Int) - 0 + 1) = (j : Int) ∧ j ≤ l.length := by
          have h1 := Int.emod_nonneg at_ (show (l.length : Int) - 0 + 1 ≠ 0 by omega)
          have h2 := Int.emod_lt_of_pos at_ (show (0 : Int) < (l.length : Int) - 0 + 1 by omega)
          exact ⟨(at_ % ((l.length : Int) - 0 + 1)).toNat, by omega, by omega⟩
        rw [hj] at HW
        (repeat refine sw_seq ?_); refine sw_region ?_
        repeat (first | refine sR (h := ?_) | refine sK (h := ?_) | refine sT (h := aM (h := ?_)) | refine sT (h := aB (h := ?_)) | refine sT (h := aA (h := ?_)) | refine sT (h := aS (h := ?_)) | refine sT (h := aL (h := ?_)))
        rw [lm]
        repeat (first | refine sR (h := ?_) | refine sK (h := ?_) | refine sT (h := aM (h := ?_)) | refine sT (h := aB (h := ?_)) | refine sT (h := aA (h := ?_)) | refine sT (h := aS (h := ?_)) | refine sT (h := aL (h := ?_)))
        refine swt_act rfl (act_call_flat rfl rfl rfl rfl (HW) rfl rfl ?_)
        repeat (first | refine sR (h := ?_) | refine sK (h := ?_) | refine sT (h := aM (h := ?_)) | refine sT (h := aB (h := ?_)) | refine sT (h := aA (h := ?_)) | refine sT (h := aS (h := ?_)) | refine sT (h := aL (h := ?_)))
        refine swt_nil ?_
        refine SW.wk (wk_only [0, 4, 8] [(4, 4)] rfl rfl) ?_
        (repeat refine sw_seq ?_); refine sw_region_fork 13 rfl (by kernel_rfl) ?_
        refine swb_rd (i := 1) (K := [48, 52, 55]) (by kernel_rfl) (by kernel_rfl) rfl rfl (rdO_opR ttab_ok rfl (by exact True.intro)) rfl ?_
        refine swb_rd (i := 2) (K := [48, 52, 55]) (by kernel_rfl) (by kernel_rfl) rfl rfl (rdO_opR ttab_ok rfl (by exact True.intro)) rfl ?_
        refine swb_rd (i := 3) (K := [48, 52, 55]) (by kernel_rfl) (by kernel_rfl) rfl rfl (rdO_opR ttab_ok rfl (by rw [lm]; omega)) rfl ?_
        refine swb_rd (i := 5) (K := [48, 52, 55]) (by kernel_rfl) (by kernel_rfl) rfl rfl (rdO_opR ttab_ok rfl (by exact True.intro)) rfl ?_
        refine swb_rd (i := 8) (K := [48, 52, 55]) (by kernel_rfl) (by kernel_rfl) rfl rfl (rdO_opR ttab_ok rfl (by exact True.intro)) rfl ?_
        refine swb_rd (i := 9) (K := [48, 52, 55]) (by kernel_rfl) (by kernel_rfl) rfl rfl (rdO_opR ttab_ok rfl (by exact True.intro)) rfl ?_
        refine swb_rd (i := 10) (K := [48, 52, 55]) (by kernel_rfl) (by kernel_rfl) rfl rfl (rdO_opR ttab_ok rfl (by rw [lm]; omega)) rfl ?_
        refine swb_fork2 0 6 (by kernel_rfl) ?_ ?_
        first | (refine swb_act rfl rfl rfl (act_makeMap rfl rfl rfl rfl ?_)) | (refine swb_act rfl rfl rfl (act_box rfl rfl rfl rfl rfl rfl rfl ?_)) | (refine swb_act rfl rfl rfl (act_alloc ttab_ok rfl rfl rfl rfl rfl rfl ?_)) | (refine swb_act rfl rfl rfl (act_store ttab_ok rfl rfl rfl rfl rfl rfl rfl rfl rfl rfl ?_)) | (refine swb_act rfl rfl rfl (act_buildSlice ttab_ok rfl rfl rfl rfl rfl rfl rfl rfl rfl rfl rfl rfl ?_)) | (refine swb_act rfl rfl rfl (actOk_rd (K := []) (rdO_opR ttab_ok rfl (by exact True.intro)) rfl ?_))
        refine swb_fork2 4 6 (by kernel_rfl) ?_ ?_
        refine swb_act rfl rfl rfl (act_append_row ttab_ok rfl rfl rfl rfl rfl rfl rfl rfl rfl rfl rfl rfl rfl rfl rfl rfl (by simp [reachBytes]; try omega) (by simp; try omega) ?_)
        refine swb_fork1 6 (by kernel_rfl) ?_
        first | (refine swb_act rfl rfl rfl (act_makeMap rfl rfl rfl rfl ?_)) | (refine swb_act rfl rfl rfl (act_box rfl rfl rfl rfl rfl rfl rfl ?_)) | (refine swb_act rfl rfl rfl (act_alloc ttab_ok rfl rfl rfl rfl rfl rfl ?_)) | (refine swb_act rfl rfl rfl (act_store ttab_ok rfl rfl rfl rfl rfl rfl rfl rfl rfl rfl ?_)) | (refine swb_act rfl rfl rfl (act_buildSlice ttab_ok rfl rfl rfl rfl rfl rfl rfl rfl rfl rfl rfl rfl ?_)) | (refine swb_act rfl rfl rfl (actOk_rd (K := []) (rdO_opR ttab_ok rfl (by exact True.intro)) rfl ?_))
        refine swb_fork1 7 (by kernel_rfl) ?_
        refine swb_act rfl rfl rfl (act_append_row ttab_ok rfl rfl rfl rfl rfl rfl rfl rfl rfl rfl rfl rfl rfl rfl rfl rfl (by simp [reachBytes]; try omega) (by simp; try omega) ?_)
        refine swb_fork1 11 (by kernel_rfl) ?_
        refine swb_act rfl rfl rfl (act_append_row ttab_ok rfl rfl rfl rfl rfl rfl rfl rfl rfl rfl rfl rfl rfl rfl rfl rfl (by simp [reachBytes]; try omega) (by simp; try omega) ?_)
        refine swb_rd (i := 12) (K := [48, 52, 55]) (by kernel_rfl) (by kernel_rfl) rfl rfl (rdO_opR ttab_ok rfl (by exact True.intro)) rfl ?_
        refine swb_done (by kernel_rfl) ?_
        refine SW.wk (wk_only [0, 4, 8, 9] [(4, 4), (59, 59)] rfl rfl) ?_
        refine ?fk12
        rotate_left
        first | (refine swb_act rfl rfl rfl (act_makeMap rfl rfl rfl rfl ?_)) | (refine swb_act rfl rfl rfl (act_box rfl rfl rfl rfl rfl rfl rfl ?_)) | (refine swb_act rfl rfl rfl (act_alloc ttab_ok rfl rfl rfl rfl rfl rfl ?_)) | (refine swb_act rfl rfl rfl (act_store ttab_ok rfl rfl rfl rfl rfl rfl rfl rfl rfl rfl ?_)) | (refine swb_act rfl rfl rfl (act_buildSlice ttab_ok rfl rfl rfl rfl rfl rfl rfl rfl rfl rfl rfl rfl ?_)) | (refine swb_act rfl rfl rfl (actOk_rd (K := []) (rdO_opR ttab_ok rfl (by exact True.intro)) rfl ?_))
        refine swb_fork1 4 (by kernel_rfl) ?_
        refine swb_act rfl rfl rfl (act_append_row ttab_ok rfl rfl rfl rfl rfl rfl rfl rfl rfl rfl rfl rfl rfl rfl rfl rfl (by simp [reachBytes]; try omega) (by simp; try omega) ?_)
        refine swb_fork1 7 (by kernel_rfl) ?_
        refine swb_act rfl rfl rfl (act_append_row ttab_ok rfl rfl rfl rfl rfl rfl rfl rfl rfl rfl rfl rfl rfl rfl rfl rfl (by simp [reachBytes]; try omega) (by simp; try omega) ?_)
        refine swb_fork1 11 (by kernel_rfl) ?_
        refine swb_act rfl rfl rfl (act_append_row ttab_ok rfl rfl rfl rfl rfl rfl rfl rfl rfl rfl rfl rfl rfl rfl rfl rfl (by simp [reachBytes]; try omega) (by simp; try omega) ?_)
        refine swb_rd (i := 12) (K := [48, 52, 55]) (by kernel_rfl) (by kernel_rfl) rfl rfl (rdO_opR ttab_ok rfl (by exact True.intro)) rfl ?_
        refine swb_done (by kernel_rfl) ?_
        refine SW.wk (wk_only [0, 4, 8, 9] [(4, 4), (59, 59)] rfl rfl) ?_
        exact ?fk12
        first | (refine swb_act rfl rfl rfl (act_makeMap rfl rfl rfl rfl ?_)) | (refine swb_act rfl rfl rfl (act_box rfl rfl rfl rfl rfl rfl rfl ?_)) | (refine swb_act rfl rfl rfl (act_alloc ttab_ok rfl rfl rfl rfl rfl rfl ?_)) | (refine swb_act rfl rfl rfl (act_store ttab_ok rfl rfl rfl rfl rfl rfl rfl rfl rfl rfl ?_)) | (refine swb_act rfl rfl rfl (act_buildSlice ttab_ok rfl rfl rfl rfl rfl rfl rfl rfl rfl rfl rfl rfl ?_)) | (refine swb_act rfl rfl rfl (actOk_rd (K := []) (rdO_opR ttab_ok rfl (by exact True.intro)) rfl ?_))
        refine swb_fork1 0 (by kernel_rfl) ?_
        first | (refine swb_act rfl rfl rfl (act_makeMap rfl rfl rfl rfl ?_)) | (refine swb_act rfl rfl rfl (act_box rfl rfl rfl rfl rfl rfl rfl ?_)) | (refine swb_act rfl rfl rfl (act_alloc ttab_ok rfl rfl rfl rfl rfl rfl ?_)) | (refine swb_act rfl rfl rfl (act_store ttab_ok rfl rfl rfl rfl rfl rfl rfl rfl rfl rfl ?_)) | (refine swb_act rfl rfl rfl (act_buildSlice ttab_ok rfl rfl rfl rfl rfl rfl rfl rfl rfl rfl rfl rfl ?_)) | (refine swb_act rfl rfl rfl (actOk_rd (K := []) (rdO_opR ttab_ok rfl (by exact True.intro)) rfl ?_))
        refine swb_fork1 4 (by kernel_rfl) ?_
        refine swb_act rfl rfl rfl (act_append_row ttab_ok rfl rfl rfl rfl rfl rfl rfl rfl rfl rfl rfl rfl rfl rfl rfl rfl (by simp [reachBytes]; try omega) (by simp; try omega) ?_)
        refine swb_fork1 7 (by kernel_rfl) ?_
        refine swb_act rfl rfl rfl (act_append_row ttab_ok rfl rfl rfl rfl rfl rfl rfl rfl rfl rfl rfl rfl rfl rfl rfl rfl (by simp [reachBytes]; try omega) (by simp; try omega) ?_)
        refine swb_fork1 11 (by kernel_rfl) ?_
        refine swb_act rfl rfl rfl (act_append_row ttab_ok rfl rfl rfl rfl rfl rfl rfl rfl rfl rfl rfl rfl rfl rfl rfl rfl (by simp [reachBytes]; try omega) (by simp; try omega) ?_)
        refine swb_rd (i := 12) (K := [48, 52, 55]) (by kernel_rfl) (by kernel_rfl) rfl rfl (rdO_opR ttab_ok rfl (by exact True.intro)) rfl ?_
        refine swb_done (by kernel_rfl) ?_
        refine SW.wk (wk_only [0, 4, 8, 9] [(4, 4), (59, 59)] rfl rfl) ?_
        exact ?fk12
        refine SW.wk (wk_frz (k := 59) rfl) ?_
        change SW _ _ _ ⟨106, [(0, .p (valsP l)), (4, .ptr 4 0), (8, .p (pI j)), (9, .p (.sl 3 ([] ++ ((l.map Val.pv).drop 0).take j ++ [w.pv] ++ ((l.map Val.pv).drop j).take ((l.map Val.pv).length - j))))], [(4, .cells (w.pv.map .p))]⟩
        have e0 : ([] ++ ((l.map Val.pv).drop 0).take j ++ [w.pv] ++ ((l.map Val.pv).drop j).take ((l.map Val.pv).length - j)) = (l.take j ++ [w] ++ l.drop j).map Val.pv := by
          have : ((l.map Val.pv).drop j).take ((l.map Val.pv).length - j) = (l.map Val.pv).drop j := List.take_of_length_le (by simp)
          rw [this]
          simp [List.map_take, List.map_drop]
        rw [e0]
        have e1 := bag_more hb hr hjl
        have e2 := has_more l w j
        have hmf : ∀ x ∈ l.take j ++ [w] ++ l.drop j, x.Fit := fun x hx => by
          simp only [List.mem_append, List.mem_singleton] at hx
          rcases hx with (hx | hx) | hx
          · exact hf x (List.mem_of_mem_take hx)
          · subst hx; exact hv'
          · exact hf x (List.mem_of_mem_drop hx)
        have hml : (l.take j ++ [w] ++ l.drop j).length = l.length + 1 := by simp; omega
        have HT := bag_h (l.take j) (fun x hx => hf x (List.mem_of_mem_take hx))
        have HD := bag_h (l.drop j) (fun x hx => hf x (List.mem_of_mem_drop hx))
        rw [bag_sub hb (fun x hx => List.mem_of_mem_take hx) (by simp; omega)] at HT
        rw [bag_sub hb (fun x hx => List.mem_of_mem_drop hx) (by simp)] at HD
        generalize l.take j ++ [w] ++ l.drop j = mo at *
        have HB := bag_h mo hmf
        have HM := has_h mo w (by omega)
        rw [e2] at HM
        rw [e1, hml] at HB
        have lmo : (mo.map Val.pv).length = l.length + 1 := by simpa using hml
        by_cases h16 : l.length + 1 ≤ 16
        · rw [decide_eq_true h16, Bool.true_and] at HB
          by_cases h00 : l.length = 0
          · rw [decide_eq_true h00, Bool.true_or] at HB
            (repeat refine sw_seq ?_); refine sw_region_draw [] [(0, true), (1, true), (2, true), (3, true), (4, true), (5, true), (6, true), (7, true), (8, true), (9, true), (10, true), (11, true), (12, true), (13, true), (14, true), (15, true), (16, true), (17, true)] (by kernel_rfl) (by kernel_rfl) (by kernel_rfl) ?_
            repeat (first | refine mR (h := ?_) | refine mK (h := ?_) | refine mT (h := aM (h := ?_)) | refine mT (h := aB (h := ?_)) | refine mT (h := aA (h := ?_)) | refine mT (h := aS (h := ?_)) | refine mT (h := aL (h := ?_)))
            rw [lmo, show decide (((l.length + 1 : Nat) : Int) ≤ 16) = true by simp; omega]
            repeat (first | refine mR (h := ?_) | refine mK (h := ?_) | refine mT (h := aM (h := ?_)) | refine mT (h := aB (h := ?_)) | refine mT (h := aA (h := ?_)) | refine mT (h := aS (h := ?_)) | refine mT (h := aL (h := ?_)))
            rw [lm, show ((l.length : Int) == 0) = true by simp [h00]]
            repeat (first | refine mR (h := ?_) | refine mK (h := ?_) | refine mT (h := aM (h := ?_)) | refine mT (h := aB (h := ?_)) | refine mT (h := aA (h := ?_)) | refine mT (h := aS (h := ?_)) | refine mT (h := aL (h := ?_)))
            refine swm_nil ?_
            (repeat refine sw_seq ?_); refine sw_region ?_
            repeat (first | refine sR (h := ?_) | refine sK (h := ?_) | refine sT (h := aM (h := ?_)) | refine sT (h := aB (h := ?_)) | refine sT (h := aA (h := ?_)) | refine sT (h := aS (h := ?_)) | refine sT (h := aL (h := ?_)))
            refine swt_act rfl (act_call_flat rfl rfl rfl rfl (HB) rfl rfl ?_)
            repeat (first | refine sR (h := ?_) | refine sK (h := ?_) | refine sT (h := aM (h := ?_)) | refine sT (h := aB (h := ?_)) | refine sT (h := aA (h := ?_)) | refine sT (h := aS (h := ?_)) | refine sT (h := aL (h := ?_)))
            refine swt_act rfl (act_call_flat rfl rfl rfl rfl (HM) rfl rfl ?_)
            repeat (first | refine sR (h := ?_) | refine sK (h := ?_) | refine sT (h := aM (h := ?_)) | refine sT (h := aB (h := ?_)) | refine sT (h := aA (h := ?_)) | refine sT (h := aS (h := ?_)) | refine sT (h := aL (h := ?_)))
            refine swt_read ttab_ok rfl rfl (by rw [lm]; omega) rfl ?_
            rw [show ((List.map Val.pv _).drop (Int.toNat 0)).take (Int.toNat (j : Int) - Int.toNat 0) = (List.take j _).map Val.pv from by rw [List.map_take]; rfl]
            repeat (first | refine sR (h := ?_) | refine sK (h := ?_) | refine sT (h := aM (h := ?_)) | refine sT (h := aB (h := ?_)) | refine sT (h := aA (h := ?_)) | refine sT (h := aS (h := ?_)) | refine sT (h := aL (h := ?_)))
            refine swt_act rfl (act_call_flat rfl rfl rfl rfl (HT) rfl rfl ?_)
            repeat (first | refine sR (h := ?_) | refine sK (h := ?_) | refine sT (h := aM (h := ?_)) | refine sT (h := aB (h := ?_)) | refine sT (h := aA (h := ?_)) | refine sT (h := aS (h := ?_)) | refine sT (h := aL (h := ?_)))
            refine swt_read ttab_ok rfl rfl (by rw [lm]; omega) rfl ?_
            rw [slice_end]
            repeat (first | refine sR (h := ?_) | refine sK (h := ?_) | refine sT (h := aM (h := ?_)) | refine sT (h := aB (h := ?_)) | refine sT (h := aA (h := ?_)) | refine sT (h := aS (h := ?_)) | refine sT (h := aL (h := ?_)))
            refine swt_act rfl (act_call_flat rfl rfl rfl rfl (HD) rfl rfl ?_)
            repeat (first | refine sR (h := ?_) | refine sK (h := ?_) | refine sT (h := aM (h := ?_)) | refine sT (h := aB (h := ?_)) | refine sT (h := aA (h := ?_)) | refine sT (h := aS (h := ?_)) | refine sT (h := aL (h := ?_)))
            refine swt_act rfl (act_call_flat rfl rfl rfl rfl (HN) rfl rfl ?_)
            repeat (first | refine sR (h := ?_) | refine sK (h := ?_) | refine sT (h := aM (h := ?_)) | refine sT (h := aB (h := ?_)) | refine sT (h := aA (h := ?_)) | refine sT (h := aS (h := ?_)) | refine sT (h := aL (h := ?_)))
            refine swt_act rfl (act_call_flat rfl rfl rfl rfl (valRuns_h) rfl rfl ?_)
            repeat (first | refine sR (h := ?_) | refine sK (h := ?_) | refine sT (h := aM (h := ?_)) | refine sT (h := aB (h := ?_)) | refine sT (h := aA (h := ?_)) | refine sT (h := aS (h := ?_)) | refine sT (h := aL (h := ?_)))
            refine swt_nil ?_
            (repeat refine sw_seq ?_); refine sw_ret ?_
            exact fin_b rfl rfl
          · rw [decide_eq_false h00, Bool.false_or] at HB
            obtain ⟨a, r, rfl⟩ : ∃ a r, l = a :: r := by
              cases l with
              | nil => exact absurd rfl h00
              | cons a r => exact ⟨a, r, rfl⟩
            (repeat refine sw_seq ?_); refine sw_region_draw [] [(0, true), (1, true), (2, true), (3, true), (4, true), (5, true), (6, true), (7, true), (8, true), (9, true), (10, true), (11, true), (12, true), (13, true), (14, true), (15, true), (16, true), (17, true)] (by kernel_rfl) (by kernel_rfl) (by kernel_rfl) ?_
            repeat (first | refine mR (h := ?_) | refine mK (h := ?_) | refine mT (h := aM (h := ?_)) | refine mT (h := aB (h := ?_)) | refine mT (h := aA (h := ?_)) | refine mT (h := aS (h := ?_)) | refine mT (h := aL (h := ?_)))
            rw [lmo, show decide ((((a :: r).length + 1 : Nat) : Int) ≤ 16) = true by simp at h16 ⊢; omega]
            repeat (first | refine mR (h := ?_) | refine mK (h := ?_) | refine mT (h := aM (h := ?_)) | refine mT (h := aB (h := ?_)) | refine mT (h := aA (h := ?_)) | refine mT (h := aS (h := ?_)) | refine mT (h := aL (h := ?_)))
            rw [lm, show (((a :: r).length : Int) == 0) = false by simp; omega]
            repeat (first | refine mR (h := ?_) | refine mK (h := ?_) | refine mT (h := aM (h := ?_)) | refine mT (h := aB (h := ?_)) | refine mT (h := aA (h := ?_)) | refine mT (h := aS (h := ?_)) | refine mT (h := aL (h := ?_)))
            refine swm_read ttab_ok rfl rfl rfl (by simp) rfl ?_
            repeat (first | refine mR (h := ?_) | refine mK (h := ?_) | refine mT (h := aM (h := ?_)) | refine mT (h := aB (h := ?_)) | refine mT (h := aA (h := ?_)) | refine mT (h := aS (h := ?_)) | refine mT (h := aL (h := ?_)))
            by_cases hk : a.kind = w.kind
            · rw [show decide (((a :: r).getD 0 noVal).kind = w.kind) = true from decide_eq_true hk] at HB
              rw [show (a.kind == w.kind) = true by simp [hk]]
              repeat (first | refine mR (h := ?_) | refine mK (h := ?_) | refine mT (h := aM (h := ?_)) | refine mT (h := aB (h := ?_)) | refine mT (h := aA (h := ?_)) | refine mT (h := aS (h := ?_)) | refine mT (h := aL (h := ?_)))
              refine swm_nil ?_
              (repeat refine sw_seq ?_); refine sw_region ?_
              repeat (first | refine sR (h := ?_) | refine sK (h := ?_) | refine sT (h := aM (h := ?_)) | refine sT (h := aB (h := ?_)) | refine sT (h := aA (h := ?_)) | refine sT (h := aS (h := ?_)) | refine sT (h := aL (h := ?_)))
              refine swt_act rfl (act_call_flat rfl rfl rfl rfl (HB) rfl rfl ?_)
              repeat (first | refine sR (h := ?_) | refine sK (h := ?_) | refine sT (h := aM (h := ?_)) | refine sT (h := aB (h := ?_)) | refine sT (h := aA (h := ?_)) | refine sT (h := aS (h := ?_)) | refine sT (h := aL (h := ?_)))
              refine swt_act rfl (act_call_flat rfl rfl rfl rfl (HM) rfl rfl ?_)
              repeat (first | refine sR (h := ?_) | refine sK (h := ?_) | refine sT (h := aM (h := ?_)) | refine sT (h := aB (h := ?_)) | refine sT (h := aA (h := ?_)) | refine sT (h := aS (h := ?_)) | refine sT (h := aL (h := ?_)))
              refine swt_read ttab_ok rfl rfl (by rw [lm]; omega) rfl ?_
              rw [show ((List.map Val.pv _).drop (Int.toNat 0)).take (Int.toNat (j : Int) - Int.toNat 0) = (List.take j _).map Val.pv from by rw [List.map_take]; rfl]
              repeat (first | refine sR (h := ?_) | refine sK (h := ?_) | refine sT (h := aM (h := ?_)) | refine sT (h := aB (h := ?_)) | refine sT (h := aA (h := ?_)) | refine sT (h := aS (h := ?_)) | refine sT (h := aL (h := ?_)))
              refine swt_act rfl (act_call_flat rfl rfl rfl rfl (HT) rfl rfl ?_)
              repeat (first | refine sR (h := ?_) | refine sK (h := ?_) | refine sT (h := aM (h := ?_)) | refine sT (h := aB (h := ?_)) | refine sT (h := aA (h := ?_)) | refine sT (h := aS (h := ?_)) | refine sT (h := aL (h := ?_)))
              refine swt_read ttab_ok rfl rfl (by rw [lm]; omega) rfl ?_
              rw [slice_end]
              repeat (first | refine sR (h := ?_) | refine sK (h := ?_) | refine sT (h := aM (h := ?_)) | refine sT (h := aB (h := ?_)) | refine sT (h := aA (h := ?_)) | refine sT (h := aS (h := ?_)) | refine sT (h := aL (h := ?_)))
              refine swt_act rfl (act_call_flat rfl rfl rfl rfl (HD) rfl rfl ?_)
              repeat (first | refine sR (h := ?_) | refine sK (h := ?_) | refine sT (h := aM (h := ?_)) | refine sT (h := aB (h := ?_)) | refine sT (h := aA (h := ?_)) | refine sT (h := aS (h := ?_)) | refine sT (h := aL (h := ?_)))
              refine swt_act rfl (act_call_flat rfl rfl rfl rfl (HN) rfl rfl ?_)
              repeat (first | refine sR (h := ?_) | refine sK (h := ?_) | refine sT (h := aM (h := ?_)) | refine sT (h := aB (h := ?_)) | refine sT (h := aA (h := ?_)) | refine sT (h := aS (h := ?_)) | refine sT (h := aL (h := ?_)))
              refine swt_act rfl (act_call_flat rfl rfl rfl rfl (valRuns_h) rfl rfl ?_)
              repeat (first | refine sR (h := ?_) | refine sK (h := ?_) | refine sT (h := aM (h := ?_)) | refine sT (h := aB (h := ?_)) | refine sT (h := aA (h := ?_)) | refine sT (h := aS (h := ?_)) | refine sT (h := aL (h := ?_)))
              refine swt_nil ?_
              (repeat refine sw_seq ?_); refine sw_ret ?_
              exact fin_b rfl rfl
            · rw [show decide (((a :: r).getD 0 noVal).kind = w.kind) = false from decide_eq_false hk] at HB
              rw [show (a.kind == w.kind) = false by simp [hk]]
              repeat (first | refine mR (h := ?_) | refine mK (h := ?_) | refine mT (h := aM (h := ?_)) | refine mT (h := aB (h := ?_)) | refine mT (h := aA (h := ?_)) | refine mT (h := aS (h := ?_)) | refine mT (h := aL (h := ?_)))
              refine swm_nil ?_
              (repeat refine sw_seq ?_); refine sw_region ?_
              repeat (first | refine sR (h := ?_) | refine sK (h := ?_) | refine sT (h := aM (h := ?_)) | refine sT (h := aB (h := ?_)) | refine sT (h := aA (h := ?_)) | refine sT (h := aS (h := ?_)) | refine sT (h := aL (h := ?_)))
              refine swt_act rfl (act_call_flat rfl rfl rfl rfl (HB) rfl rfl ?_)
              repeat (first | refine sR (h := ?_) | refine sK (h := ?_) | refine sT (h := aM (h := ?_)) | refine sT (h := aB (h := ?_)) | refine sT (h := aA (h := ?_)) | refine sT (h := aS (h := ?_)) | refine sT (h := aL (h := ?_)))
              refine swt_act rfl (act_call_flat rfl rfl rfl rfl (HM) rfl rfl ?_)
              repeat (first | refine sR (h := ?_) | refine sK (h := ?_) | refine sT (h := aM (h := ?_)) | refine sT (h := aB (h := ?_)) | refine sT (h := aA (h := ?_)) | refine sT (h := aS (h := ?_)) | refine sT (h := aL (h := ?_)))
              refine swt_read ttab_ok rfl rfl (by rw [lm]; omega) rfl ?_
              rw [show ((List.map Val.pv _).drop (Int.toNat 0)).take (Int.toNat (j : Int) - Int.toNat 0) = (List.take j _).map Val.pv from by rw [List.map_take]; rfl]
              repeat (first | refine sR (h := ?_) | refine sK (h := ?_) | refine sT (h := aM (h := ?_)) | refine sT (h := aB (h := ?_)) | refine sT (h := aA (h := ?_)) | refine sT (h := aS (h := ?_)) | refine sT (h := aL (h := ?_)))
              refine swt_act rfl (act_call_flat rfl rfl rfl rfl (HT) rfl rfl ?_)
              repeat (first | refine sR (h := ?_) | refine sK (h := ?_) | refine sT (h := aM (h := ?_)) | refine sT (h := aB (h := ?_)) | refine sT (h := aA (h := ?_)) | refine sT (h := aS (h := ?_)) | refine sT (h := aL (h := ?_)))
              refine swt_read ttab_ok rfl rfl (by rw [lm]; omega) rfl ?_
              rw [slice_end]
              repeat (first | refine sR (h := ?_) | refine sK (h := ?_) | refine sT (h := aM (h := ?_)) | refine sT (h := aB (h := ?_)) | refine sT (h := aA (h := ?_)) | refine sT (h := aS (h := ?_)) | refine sT (h := aL (h := ?_)))
              refine swt_act rfl (act_call_flat rfl rfl rfl rfl (HD) rfl rfl ?_)
              repeat (first | refine sR (h := ?_) | refine sK (h := ?_) | refine sT (h := aM (h := ?_)) | refine sT (h := aB (h := ?_)) | refine sT (h := aA (h := ?_)) | refine sT (h := aS (h := ?_)) | refine sT (h := aL (h := ?_)))
              refine swt_act rfl (act_call_flat rfl rfl rfl rfl (HN) rfl rfl ?_)
              repeat (first | refine sR (h := ?_) | refine sK (h := ?_) | refine sT (h := aM (h := ?_)) | refine sT (h := aB (h := ?_)) | refine sT (h := aA (h := ?_)) | refine sT (h := aS (h := ?_)) | refine sT (h := aL (h := ?_)))
              refine swt_act rfl (act_call_flat rfl rfl rfl rfl (valRuns_h) rfl rfl ?_)
              repeat (first | refine sR (h := ?_) | refine sK (h := ?_) | refine sT (h := aM (h := ?_)) | refine sT (h := aB (h := ?_)) | refine sT (h := aA (h := ?_)) | refine sT (h := aS (h := ?_)) | refine sT (h := aL (h := ?_)))
              refine swt_nil ?_
              (repeat refine sw_seq ?_); refine sw_ret ?_
              exact fin_b rfl rfl
        · rw [decide_eq_false h16, Bool.false_and] at HB
          (repeat refine sw_seq ?_); refine sw_region_draw [] [(0, true), (1, true), (2, true), (3, true), (4, true), (5, true), (6, true), (7, true), (8, true), (9, true), (10, true), (11, true), (12, true), (13, true), (14, true), (15, true), (16, true), (17, true)] (by kernel_rfl) (by kernel_rfl) (by kernel_rfl) ?_
          repeat (first | refine mR (h := ?_) | refine mK (h := ?_) | refine mT (h := aM (h := ?_)) | refine mT (h := aB (h := ?_)) | refine mT (h := aA (h := ?_)) | refine mT (h := aS (h := ?_)) | refine mT (h := aL (h := ?_)))
          rw [lmo, show decide (((l.length + 1 : Nat) : Int) ≤ 16) = false by simp; omega]
          repeat (first | refine mR (h := ?_) | refine mK (h := ?_) | refine mT (h := aM (h := ?_)) | refine mT (h := aB (h := ?_)) | refine mT (h := aA (h := ?_)) | refine mT (h := aS (h := ?_)) | refine mT (h := aL (h := ?_)))
          refine swm_nil ?_
          (repeat refine sw_seq ?_); refine sw_region ?_
          repeat (first | refine sR (h := ?_) | refine sK (h := ?_) | refine sT (h := aM (h := ?_)) | refine sT (h := aB (h := ?_)) | refine sT (h := aA (h := ?_)) | refine sT (h := aS (h := ?_)) | refine sT (h := aL (h := ?_)))
          refine swt_act rfl (act_call_flat rfl rfl rfl rfl (HB) rfl rfl ?_)
          repeat (first | refine sR (h := ?_) | refine sK (h := ?_) | refine sT (h := aM (h := ?_)) | refine sT (h := aB (h := ?_)) | refine sT (h := aA (h := ?_)) | refine sT (h := aS (h := ?_)) | refine sT (h := aL (h := ?_)))
          refine swt_act rfl (act_call_flat rfl rfl rfl rfl (HM) rfl rfl ?_)
          repeat (first | refine sR (h := ?_) | refine sK (h := ?_) | refine sT (h := aM (h := ?_)) | refine sT (h := aB (h := ?_)) | refine sT (h := aA (h := ?_)) | refine sT (h := aS (h := ?_)) | refine sT (h := aL (h := ?_)))
          refine swt_read ttab_ok rfl rfl (by rw [lm]; omega) rfl ?_
          rw [show ((List.map Val.pv _).drop (Int.toNat 0)).take (Int.toNat (j : Int) - Int.toNat 0) = (List.take j _).map Val.pv from by rw [List.map_take]; rfl]
          repeat (first | refine sR (h := ?_) | refine sK (h := ?_) | refine sT (h := aM (h := ?_)) | refine sT (h := aB (h := ?_)) | refine sT (h := aA (h := ?_)) | refine sT (h := aS (h := ?_)) | refine sT (h := aL (h := ?_)))
          refine swt_act rfl (act_call_flat rfl rfl rfl rfl (HT) rfl rfl ?_)
          repeat (first | refine sR (h := ?_) | refine sK (h := ?_) | refine sT (h := aM (h := ?_)) | refine sT (h := aB (h := ?_)) | refine sT (h := aA (h := ?_)) | refine sT (h := aS (h := ?_)) | refine sT (h := aL (h := ?_)))
          refine swt_read ttab_ok rfl rfl (by rw [lm]; omega) rfl ?_
          rw [slice_end]
          repeat (first | refine sR (h := ?_) | refine sK (h := ?_) | refine sT (h := aM (h := ?_)) | refine sT (h := aB (h := ?_)) | refine sT (h := aA (h := ?_)) | refine sT (h := aS (h := ?_)) | refine sT (h := aL (h := ?_)))
          refine swt_act rfl (act_call_flat rfl rfl rfl rfl (HD) rfl rfl ?_)
          repeat (first | refine sR (h := ?_) | refine sK (h := ?_) | refine sT (h := aM (h := ?_)) | refine sT (h := aB (h := ?_)) | refine sT (h := aA (h := ?_)) | refine sT (h := aS (h := ?_)) | refine sT (h := aL (h := ?_)))
          refine swt_act rfl (act_call_flat rfl rfl rfl rfl (HN) rfl rfl ?_)
          repeat (first | refine sR (h := ?_) | refine sK (h := ?_) | refine sT (h := aM (h := ?_)) | refine sT (h := aB (h := ?_)) | refine sT (h := aA (h := ?_)) | refine sT (h := aS (h := ?_)) | refine sT (h := aL (h := ?_)))
          refine swt_act rfl (act_call_flat rfl rfl rfl rfl (valRuns_h) rfl rfl ?_)
          repeat (first | refine sR (h := ?_) | refine sK (h := ?_) | refine sT (h := aM (h := ?_)) | refine sT (h := aB (h := ?_)) | refine sT (h := aA (h := ?_)) | refine sT (h := aS (h := ?_)) | refine sT (h := aL (h := ?_)))
          refine swt_nil ?_
          (repeat refine sw_seq ?_); refine sw_ret ?_
          exact fin_b rfl rfl
end Go.Proofs.YtiiagdnmbpdlaaaDoor
