/-
  Layer 3's law ValueKinds: the walk, by shades.
-/
import Derived.Test.YtiiagdnmbpdlaaaDoorSh
import Derived.Test.YtiiagdnmbpdlaaaDoorValRuns
import Derived.Test.YtiiagdnmbpdlaaaDoorVal3
namespace Go.Proofs.YtiiagdnmbpdlaaaDoor
set_option linter.unusedVariables false
set_option linter.unusedSimpArgs false
open Go.RowKit
set_option maxHeartbeats 4000000
theorem valKinds_h (a b : Val) (ha : a.Fit) (hb : b.Fit) : Holds Tryd.prog 9 [.agg a.pv, .agg b.pv] (.p (pB true)) [] := by
  have F1 := fewV_h a ha
  have F2 := fewV_h b hb
  have ha' := fewV_fit ha
  have hb' := fewV_fit hb
  generalize fewV a = x at *
  generalize fewV b = y at *
  have L1 := less_h x y ha'.s hb'.s
  have L2 := less_h y x hb'.s ha'.s
  have hxy : ∀ v ∈ [x, y], v.Fit := fun v hv => by
    simp only [List.mem_cons, List.not_mem_nil, or_false] at hv
    rcases hv with rfl | rfl
    · exact ha'
    · exact hb'
  have hxx : ∀ v ∈ [x, x], v.Fit := fun v hv => by
    simp only [List.mem_cons, List.not_mem_nil, or_false] at hv
    rcases hv with rfl | rfl
    · exact ha'
    · exact ha'
  have B1 := bag_h [x, y] hxy
  have B2 := bag_h [x, x] hxx
  have H1 := has_h [x] y (by simp)
  refine holds_of (ts := [4]) Tryd.func9 (by kernel_rfl) rfl rfl rfl ?_
  (repeat refine sw_seq ?_); refine sw_region ?_
  repeat (first | refine sR (h := ?_) | refine sK (h := ?_) | refine sT (h := aM (h := ?_)) | refine sT (h := aB (h := ?_)) | refine sT (h := aA (h := ?_)) | refine sT (h := aS (h := ?_)) | refine sT (h := aL (h := ?_)))
  refine swt_nil ?_
  (repeat refine sw_seq ?_); refine sw_region_fork 6 rfl (by kernel_rfl) ?_
  refine swb_rd (i := 0) (K := []) (by kernel_rfl) (by kernel_rfl) rfl rfl (rdO_opR ttab_ok rfl (by exact True.intro)) rfl ?_
  refine swb_rd (i := 2) (K := []) (by kernel_rfl) (by kernel_rfl) rfl rfl (rdO_opR ttab_ok rfl (by exact True.intro)) rfl ?_
  refine swb_fork1 1 (by kernel_rfl) ?_
  refine swb_act rfl rfl rfl (act_call_flat rfl rfl rfl rfl (F1) rfl rfl ?_)
  refine swb_fork1 3 (by kernel_rfl) ?_
  refine swb_act rfl rfl rfl (act_call_flat rfl rfl rfl rfl (F2) rfl rfl ?_)
  refine swb_fork1 4 (by kernel_rfl) ?_
  first | (refine swb_act rfl rfl rfl (act_makeMap rfl rfl rfl rfl ?_)) | (refine swb_act rfl rfl rfl (act_box rfl rfl rfl rfl rfl rfl rfl ?_)) | (refine swb_act rfl rfl rfl (act_alloc ttab_ok rfl rfl rfl rfl rfl rfl ?_)) | (refine swb_act rfl rfl rfl (act_store ttab_ok rfl rfl rfl rfl rfl rfl rfl rfl rfl rfl ?_)) | (refine swb_act rfl rfl rfl (act_buildSlice ttab_ok rfl rfl rfl rfl rfl rfl rfl rfl rfl rfl rfl rfl ?_)) | (refine swb_act rfl rfl rfl (actOk_rd (K := []) (rdO_opR ttab_ok rfl (by exact True.intro)) rfl ?_))
  refine swb_fork1 5 (by kernel_rfl) ?_
  first | (refine swb_act rfl rfl rfl (act_makeMap rfl rfl rfl rfl ?_)) | (refine swb_act rfl rfl rfl (act_box rfl rfl rfl rfl rfl rfl rfl ?_)) | (refine swb_act rfl rfl rfl (act_alloc ttab_ok rfl rfl rfl rfl rfl rfl ?_)) | (refine swb_act rfl rfl rfl (act_store ttab_ok rfl rfl rfl rfl rfl rfl rfl rfl rfl rfl ?_)) | (refine swb_act rfl rfl rfl (act_buildSlice ttab_ok rfl rfl rfl rfl rfl rfl rfl rfl rfl rfl rfl rfl ?_)) | (refine swb_act rfl rfl rfl (actOk_rd (K := []) (rdO_opR ttab_ok rfl (by exact True.intro)) rfl ?_))
  refine swb_done (by kernel_rfl) ?_
  refine SW.wk (wk_only [2, 3] [(2, 2), (3, 3)] rfl rfl) ?_
  refine ?fk1
  rotate_left
  change SW _ _ _ ⟨75, [(2, .ptr 2 0), (3, .ptr 3 0)], [(2, .cells (x.pv.map .p)), (3, .cells (y.pv.map .p))]⟩
  (repeat refine sw_seq ?_); refine sw_region ?_
  repeat (first | refine sR (h := ?_) | refine sK (h := ?_) | refine sT (h := aM (h := ?_)) | refine sT (h := aB (h := ?_)) | refine sT (h := aA (h := ?_)) | refine sT (h := aS (h := ?_)) | refine sT (h := aL (h := ?_)))
  refine swt_act rfl (act_call_flat rfl rfl rfl rfl (rightV_h x ha'.s) rfl rfl ?_)
  repeat (first | refine sR (h := ?_) | refine sK (h := ?_) | refine sT (h := aM (h := ?_)) | refine sT (h := aB (h := ?_)) | refine sT (h := aA (h := ?_)) | refine sT (h := aS (h := ?_)) | refine sT (h := aL (h := ?_)))
  cases hx : x.right with
  | false =>
    repeat (first | refine sR (h := ?_) | refine sK (h := ?_) | refine sT (h := aM (h := ?_)) | refine sT (h := aB (h := ?_)) | refine sT (h := aA (h := ?_)) | refine sT (h := aS (h := ?_)) | refine sT (h := aL (h := ?_)))
    refine swt_nil ?_
    (repeat refine sw_seq ?_); refine sw_cond rfl (fun hd => ?_) (fun hd => ?_)
    · (repeat refine sw_seq ?_); refine sw_region ?_
      repeat (first | refine sR (h := ?_) | refine sK (h := ?_) | refine sT (h := aM (h := ?_)) | refine sT (h := aB (h := ?_)) | refine sT (h := aA (h := ?_)) | refine sT (h := aS (h := ?_)) | refine sT (h := aL (h := ?_)))
      refine swt_act rfl (act_call_flat rfl rfl rfl rfl (valRuns_h) rfl rfl ?_)
      repeat (first | refine sR (h := ?_) | refine sK (h := ?_) | refine sT (h := aM (h := ?_)) | refine sT (h := aB (h := ?_)) | refine sT (h := aA (h := ?_)) | refine sT (h := aS (h := ?_)) | refine sT (h := aL (h := ?_)))
      refine swt_nil ?_
      (repeat refine sw_seq ?_); refine sw_ret ?_
      exact fin_b rfl rfl
    · cases hd
  | true =>
    repeat (first | refine sR (h := ?_) | refine sK (h := ?_) | refine sT (h := aM (h := ?_)) | refine sT (h := aB (h := ?_)) | refine sT (h := aA (h := ?_)) | refine sT (h := aS (h := ?_)) | refine sT (h := aL (h := ?_)))
    refine swt_act rfl (act_call_flat rfl rfl rfl rfl (rightV_h y hb'.s) rfl rfl ?_)
    repeat (first | refine sR (h := ?_) | refine sK (h := ?_) | refine sT (h := aM (h := ?_)) | refine sT (h := aB (h := ?_)) | refine sT (h := aA (h := ?_)) | refine sT (h := aS (h := ?_)) | refine sT (h := aL (h := ?_)))
    cases hy : y.right with
    | false =>
      repeat (first | refine sR (h := ?_) | refine sK (h := ?_) | refine sT (h := aM (h := ?_)) | refine sT (h := aB (h := ?_)) | refine sT (h := aA (h := ?_)) | refine sT (h := aS (h := ?_)) | refine sT (h := aL (h := ?_)))
      refine swt_nil ?_
      (repeat refine sw_seq ?_); refine sw_cond rfl (fun hd => ?_) (fun hd => ?_)
      · (repeat refine sw_seq ?_); refine sw_region ?_
        repeat (first | refine sR (h := ?_) | refine sK (h := ?_) | refine sT (h := aM (h := ?_)) | refine sT (h := aB (h := ?_)) | refine sT (h := aA (h := ?_)) | refine sT (h := aS (h := ?_)) | refine sT (h := aL (h := ?_)))
        refine swt_act rfl (act_call_flat rfl rfl rfl rfl (valRuns_h) rfl rfl ?_)
        repeat (first | refine sR (h := ?_) | refine sK (h := ?_) | refine sT (h := aM (h := ?_)) | refine sT (h := aB (h := ?_)) | refine sT (h := aA (h := ?_)) | refine sT (h := aS (h := ?_)) | refine sT (h := aL (h := ?_)))
        refine swt_nil ?_
        (repeat refine sw_seq ?_); refine sw_ret ?_
        exact fin_b rfl rfl
      · cases hd
    | true =>
      repeat (first | refine sR (h := ?_) | refine sK (h := ?_) | refine sT (h := aM (h := ?_)) | refine sT (h := aB (h := ?_)) | refine sT (h := aA (h := ?_)) | refine sT (h := aS (h := ?_)) | refine sT (h := aL (h := ?_)))
      by_cases hk : x.kind = y.kind
      · rw [show (x.kind == y.kind) = true by simp [hk]]
        repeat (first | refine sR (h := ?_) | refine sK (h := ?_) | refine sT (h := aM (h := ?_)) | refine sT (h := aB (h := ?_)) | refine sT (h := aA (h := ?_)) | refine sT (h := aS (h := ?_)) | refine sT (h := aL (h := ?_)))
        refine swt_nil ?_
        (repeat refine sw_seq ?_); refine sw_cond rfl (fun hd => ?_) (fun hd => ?_)
        · (repeat refine sw_seq ?_); refine sw_region ?_
          repeat (first | refine sR (h := ?_) | refine sK (h := ?_) | refine sT (h := aM (h := ?_)) | refine sT (h := aB (h := ?_)) | refine sT (h := aA (h := ?_)) | refine sT (h := aS (h := ?_)) | refine sT (h := aL (h := ?_)))
          refine swt_act rfl (act_call_flat rfl rfl rfl rfl (valRuns_h) rfl rfl ?_)
          repeat (first | refine sR (h := ?_) | refine sK (h := ?_) | refine sT (h := aM (h := ?_)) | refine sT (h := aB (h := ?_)) | refine sT (h := aA (h := ?_)) | refine sT (h := aS (h := ?_)) | refine sT (h := aL (h := ?_)))
          refine swt_nil ?_
          (repeat refine sw_seq ?_); refine sw_ret ?_
          exact fin_b rfl rfl
        · cases hd
      · rw [show (x.kind == y.kind) = false by simp [hk]]
        repeat (first | refine sR (h := ?_) | refine sK (h := ?_) | refine sT (h := aM (h := ?_)) | refine sT (h := aB (h := ?_)) | refine sT (h := aA (h := ?_)) | refine sT (h := aS (h := ?_)) | refine sT (h := aL (h := ?_)))
        refine swt_nil ?_
        (repeat refine sw_seq ?_); refine sw_cond rfl (fun hd => ?_) (fun hd => ?_)
        · cases hd
        refine sw_skip ?_
        have e1 : lessS x y = (false, 2) := by unfold lessS; rw [hx, hy, if_neg (by simp), if_pos (.inl hk)]
        have e2 : lessS y x = (false, 2) := by unfold lessS; rw [hx, hy, if_neg (by simp), if_pos (.inl (Ne.symm hk))]
        have e3 : sameV x y = false := by
          cases h : sameV x y with
          | false => rfl
          | true => exact absurd (by rw [same_iff.1 h]) hk
        have e4 : hasV [x] y = false := by
          have : sameV y x = false := by
            cases h : sameV y x with
            | false => rfl
            | true => exact absurd (by rw [same_iff.1 h]) hk
          simp [hasV, this]
        have e5 : bagOk [x, y] = false := by
          unfold bagOk
          have : inBag x.kind y = false := by unfold inBag; rw [decide_eq_false (Ne.symm hk), Bool.and_false]
          simp [this]
        have e6 : bagOk [x, x] = true := by
          unfold bagOk
          have : inBag x.kind x = true := by unfold inBag; rw [hx]; simp
          simp [this]
        rw [e1] at L1
        rw [e2] at L2
        rw [e4] at H1
        rw [e5] at B1
        rw [e6] at B2
        (repeat refine sw_seq ?_); refine sw_region ?_
        repeat (first | refine sR (h := ?_) | refine sK (h := ?_) | refine sT (h := aM (h := ?_)) | refine sT (h := aB (h := ?_)) | refine sT (h := aA (h := ?_)) | refine sT (h := aS (h := ?_)) | refine sT (h := aL (h := ?_)))
        refine swt_act rfl (act_call_flat rfl rfl rfl rfl (L1) rfl rfl ?_)
        repeat (first | refine sR (h := ?_) | refine sK (h := ?_) | refine sT (h := aM (h := ?_)) | refine sT (h := aB (h := ?_)) | refine sT (h := aA (h := ?_)) | refine sT (h := aS (h := ?_)) | refine sT (h := aL (h := ?_)))
        refine swt_nil ?_
        (repeat refine sw_seq ?_); refine sw_region ?_
        repeat (first | refine sR (h := ?_) | refine sK (h := ?_) | refine sT (h := aM (h := ?_)) | refine sT (h := aB (h := ?_)) | refine sT (h := aA (h := ?_)) | refine sT (h := aS (h := ?_)) | refine sT (h := aL (h := ?_)))
        refine swt_act rfl (act_call_flat rfl rfl rfl rfl (L2) rfl rfl ?_)
        repeat (first | refine sR (h := ?_) | refine sK (h := ?_) | refine sT (h := aM (h := ?_)) | refine sT (h := aB (h := ?_)) | refine sT (h := aA (h := ?_)) | refine sT (h := aS (h := ?_)) | refine sT (h := aL (h := ?_)))
        refine swt_nil ?_
        (repeat refine sw_seq ?_); refine sw_region ?_
        repeat (first | refine sR (h := ?_) | refine sK (h := ?_) | refine sT (h := aM (h := ?_)) | refine sT (h := aB (h := ?_)) | refine sT (h := aA (h := ?_)) | refine sT (h := aS (h := ?_)) | refine sT (h := aL (h := ?_)))
        refine swt_read ttab_ok rfl (opR_neV x y rfl rfl rfl rfl) rfl rfl ?_
        rw [e3]
        repeat (first | refine sR (h := ?_) | refine sK (h := ?_) | refine sT (h := aM (h := ?_)) | refine sT (h := aB (h := ?_)) | refine sT (h := aA (h := ?_)) | refine sT (h := aS (h := ?_)) | refine sT (h := aL (h := ?_)))
        refine swt_act rfl (act_call_flat rfl rfl rfl rfl (B1) rfl rfl ?_)
        repeat (first | refine sR (h := ?_) | refine sK (h := ?_) | refine sT (h := aM (h := ?_)) | refine sT (h := aB (h := ?_)) | refine sT (h := aA (h := ?_)) | refine sT (h := aS (h := ?_)) | refine sT (h := aL (h := ?_)))
        refine swt_act rfl (act_call_flat rfl rfl rfl rfl (B2) rfl rfl ?_)
        repeat (first | refine sR (h := ?_) | refine sK (h := ?_) | refine sT (h := aM (h := ?_)) | refine sT (h := aB (h := ?_)) | refine sT (h := aA (h := ?_)) | refine sT (h := aS (h := ?_)) | refine sT (h := aL (h := ?_)))
        refine swt_act rfl (act_call_flat rfl rfl rfl rfl (H1) rfl rfl ?_)
        repeat (first | refine sR (h := ?_) | refine sK (h := ?_) | refine sT (h := aM (h := ?_)) | refine sT (h := aB (h := ?_)) | refine sT (h := aA (h := ?_)) | refine sT (h := aS (h := ?_)) | refine sT (h := aL (h := ?_)))
        refine swt_act rfl (act_call_flat rfl rfl rfl rfl (valRuns_h) rfl rfl ?_)
        repeat (first | refine sR (h := ?_) | refine sK (h := ?_) | refine sT (h := aM (h := ?_)) | refine sT (h := aB (h := ?_)) | refine sT (h := aA (h := ?_)) | refine sT (h := aS (h := ?_)) | refine sT (h := aL (h := ?_)))
        refine swt_nil ?_
        (repeat refine sw_seq ?_); refine sw_ret ?_
        exact fin_b rfl rfl
end Go.Proofs.YtiiagdnmbpdlaaaDoor
