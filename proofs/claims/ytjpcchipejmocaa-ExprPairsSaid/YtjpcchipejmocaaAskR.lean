/-
  Shades: value.Bag (out of the walk over real frames) and ask.Right.
-/
import Derived.Test.YtjpcchipejmocaaSh
import Derived.Test.YtjpcchipejmocaaAskH
import Derived.Test.YtjpcchipejmocaaBag2
namespace Go.Proofs.Ytjpcchipejmocaa
open Go.RowKit
set_option maxHeartbeats 1000000
theorem bagOk_right {l : List Val} (h : bagOk l = true) : ∀ x ∈ l, x.right = true := fun x hx => by
  unfold bagOk at h
  rw [Bool.and_eq_true] at h
  have := List.all_eq_true.1 h.1 x hx
  unfold inBag at this
  rw [Bool.and_eq_true] at this
  exact this.1
theorem bag_h (l : List Val) (hf : ∀ x ∈ l, x.Fit) : Holds Try.prog 23 [valsP l] (.p (pB (bagOk l))) [] :=
  .of_calls Try.func23 (by kernel_rfl) rfl (fun w vs hl hr => by
    obtain ⟨u, rfl⟩ := one_arg hl
    obtain ⟨A, c, rfl, h1, h2, h3⟩ := vals_typed (hr 0 _ u rfl rfl) hf
    exact bag_any l A c w h2.1 h3) rfl fun w => .p (.v rfl)
def askE (l : List Giv) (k : Nat) : Int := match l[k]? with
  | none => 0
  | some g => if decide (g.cat < 1) || decide (4 < g.cat) || !nameS g.name || !bagOk g.bag then 1 else if placeS g.cat g.name l < k then 11 else 0
def askRS (l : List Giv) : Int := if 64 < l.length then 6 else firstE (askE l) (List.range l.length)
theorem firstE_range {f : Nat → Int} {n k : Nat} (hk : k < n) (h : ∀ j, j < k → f j = 0) (h1 : f k ≠ 0) : firstE f (List.range n) = f k := by
  have := firstE_pre (f := f) (l := List.range n) (k := k) (by simpa using hk) (fun x hx => by
    obtain ⟨i, hi, rfl⟩ := List.mem_take_iff_getElem.1 hx
    simp only [List.getElem_range]
    exact h i (by omega)) (by simpa using h1)
  simpa using this
theorem askRight_h (l : List Giv) (hf : ∀ x ∈ l, x.Fit) : Holds Try.prog 28 [givsP l] (.p (pI (askRS l))) [] := by
  have lm : (l.map Giv.pv).length = l.length := by simp
  refine holds_of (ts := [2]) Try.func28 (by kernel_rfl) rfl rfl rfl ?_
  (repeat refine sw_seq ?_); refine sw_region ?_
  repeat (first | refine sR (h := ?_) | refine sK (h := ?_) | refine sT (h := aM (h := ?_)) | refine sT (h := aB (h := ?_)) | refine sT (h := aA (h := ?_)) | refine sT (h := aS (h := ?_)) | refine sT (h := aL (h := ?_)))
  refine swt_nil ?_
  (repeat refine sw_seq ?_); refine sw_region ?_
  repeat (first | refine sR (h := ?_) | refine sK (h := ?_) | refine sT (h := aM (h := ?_)) | refine sT (h := aB (h := ?_)) | refine sT (h := aA (h := ?_)) | refine sT (h := aS (h := ?_)) | refine sT (h := aL (h := ?_)))
  refine swt_nil ?_
  rw [lm]
  (repeat refine sw_seq ?_); refine sw_cond rfl (fun h => ?_) (fun h => ?_)
  · have h0 : 64 < l.length := by simp at h; omega
    (repeat refine sw_seq ?_); refine sw_region ?_
    repeat (first | refine sR (h := ?_) | refine sK (h := ?_) | refine sT (h := aM (h := ?_)) | refine sT (h := aB (h := ?_)) | refine sT (h := aA (h := ?_)) | refine sT (h := aS (h := ?_)) | refine sT (h := aL (h := ?_)))
    refine swt_nil ?_
    (repeat refine sw_seq ?_); refine sw_ret ?_
    exact fin_i rfl (by unfold askRS; rw [if_pos h0])
  · have h0 : ¬ 64 < l.length := by simp at h; omega
    have e0 : askRS l = firstE (askE l) (List.range l.length) := by unfold askRS; rw [if_neg h0]
    rw [e0]
    refine sw_skip ?_
    (repeat refine sw_seq ?_); refine sw_region ?_
    repeat (first | refine sR (h := ?_) | refine sK (h := ?_) | refine sT (h := aM (h := ?_)) | refine sT (h := aB (h := ?_)) | refine sT (h := aA (h := ?_)) | refine sT (h := aS (h := ?_)) | refine sT (h := aL (h := ?_)))
    refine swt_nil ?_
    (repeat refine sw_seq ?_); refine sw_block ?_
    refine SW.wk (wk_only [0, 8, 9, 10] [] rfl rfl) ?_
    refine sw_loop (fun m s => ∃ (k : Nat) (kk : Int), k ≤ l.length ∧ m = l.length - k ∧ kk = k ∧ (∀ j, j < k → askE l j = 0) ∧ s = ⟨44, [(0, .p (givsP l)), (8, .p (givsP l)), (9, .p (pI (l.map Giv.pv).length)), (10, .p (pI kk))], []⟩) l.length ⟨0, 0, Nat.zero_le _, rfl, rfl, fun j hj => absurd hj (Nat.not_lt_zero _), rfl⟩ ?_
    rintro m s ⟨k, _, hk, rfl, rfl, ha, rfl⟩
    (repeat refine sw_seq ?_); refine sw_region ?_
    repeat (first | refine sR (h := ?_) | refine sK (h := ?_) | refine sT (h := aM (h := ?_)) | refine sT (h := aB (h := ?_)) | refine sT (h := aA (h := ?_)) | refine sT (h := aS (h := ?_)) | refine sT (h := aL (h := ?_)))
    refine swt_nil ?_
    (repeat refine sw_seq ?_); refine sw_cond rfl (fun hlt => ?_) (fun hlt => ?_)
    · refine sw_skip ?_
      rw [lm] at hlt
      simp only [decide_eq_true_eq] at hlt
      have hlt' : k < l.length := by omega
      have hx : l[k]? = some l[k] := List.getElem?_eq_getElem hlt'
      have hfk := hf _ (List.getElem_mem hlt')
      (repeat refine sw_seq ?_); refine sw_block ?_
      (repeat refine sw_seq ?_); refine sw_region ?_
      repeat (first | refine sR (h := ?_) | refine sK (h := ?_) | refine sT (h := aM (h := ?_)) | refine sT (h := aB (h := ?_)) | refine sT (h := aA (h := ?_)) | refine sT (h := aS (h := ?_)) | refine sT (h := aL (h := ?_)))
      refine swt_read ttab_ok rfl rfl (by rw [lm]; omega) rfl ?_
      rw [getD_map hlt']
      repeat (first | refine sR (h := ?_) | refine sK (h := ?_) | refine sT (h := aM (h := ?_)) | refine sT (h := aB (h := ?_)) | refine sT (h := aA (h := ?_)) | refine sT (h := aS (h := ?_)) | refine sT (h := aL (h := ?_)))
      refine swt_nil ?_
      (repeat refine sw_seq ?_); refine sw_region_spec (by kernel_rfl) ?_
      repeat (refine sws_read ttab_ok rfl (by exact True.intro) rfl ?_)
      refine sws_call rfl rfl rfl rfl (name_h l[k].name hfk.name) rfl rfl ?_
      repeat (refine sws_read ttab_ok rfl (by exact True.intro) rfl ?_)
      refine sws_call rfl rfl rfl rfl (bag_h l[k].bag hfk.bag) rfl rfl ?_
      repeat (refine sws_read ttab_ok rfl (by exact True.intro) rfl ?_)
      refine sws_nil ?_
      have hc : (decide (l[k].cat < 1) || decide (4 < l[k].cat) || !nameS l[k].name || !bagOk l[k].bag) = (bif bif bif decide (l[k].cat < 1) then true else decide (l[k].cat > 4) then true else !nameS l[k].name then true else !bagOk l[k].bag) := by
        cases decide (l[k].cat < 1) <;> cases h2 : decide (4 < l[k].cat) <;> cases nameS l[k].name <;> cases bagOk l[k].bag <;> simp_all
      (repeat refine sw_seq ?_); refine sw_cond rfl (fun h1 => ?_) (fun h1 => ?_)
      · have e1 : askE l k = 1 := by
          unfold askE
          rw [hx]
          simp only
          rw [hc, h1, if_pos rfl]
        (repeat refine sw_seq ?_); refine sw_region ?_
        repeat (first | refine sR (h := ?_) | refine sK (h := ?_) | refine sT (h := aM (h := ?_)) | refine sT (h := aB (h := ?_)) | refine sT (h := aA (h := ?_)) | refine sT (h := aS (h := ?_)) | refine sT (h := aL (h := ?_)))
        refine swt_nil ?_
        (repeat refine sw_seq ?_); refine sw_ret ?_
        exact fin_i rfl (by rw [firstE_range hlt' ha (by omega), e1])
      · refine sw_skip ?_
        (repeat refine sw_seq ?_); refine sw_region ?_
        repeat (first | refine sR (h := ?_) | refine sK (h := ?_) | refine sT (h := aM (h := ?_)) | refine sT (h := aB (h := ?_)) | refine sT (h := aA (h := ?_)) | refine sT (h := aS (h := ?_)) | refine sT (h := aL (h := ?_)))
        refine swt_act rfl (act_call_flat rfl rfl rfl rfl (place_h l[k].cat l[k].name l (by omega)) rfl rfl ?_)
        repeat (first | refine sR (h := ?_) | refine sK (h := ?_) | refine sT (h := aM (h := ?_)) | refine sT (h := aB (h := ?_)) | refine sT (h := aA (h := ?_)) | refine sT (h := aS (h := ?_)) | refine sT (h := aL (h := ?_)))
        refine swt_nil ?_
        (repeat refine sw_seq ?_); refine sw_cond rfl (fun h2 => ?_) (fun h2 => ?_)
        · have e1 : askE l k = 11 := by
            unfold askE
            rw [hx]
            simp only
            rw [hc, h1, if_neg (by simp), if_pos (by simpa using h2)]
          (repeat refine sw_seq ?_); refine sw_region ?_
          repeat (first | refine sR (h := ?_) | refine sK (h := ?_) | refine sT (h := aM (h := ?_)) | refine sT (h := aB (h := ?_)) | refine sT (h := aA (h := ?_)) | refine sT (h := aS (h := ?_)) | refine sT (h := aL (h := ?_)))
          refine swt_nil ?_
          (repeat refine sw_seq ?_); refine sw_ret ?_
          exact fin_i rfl (by rw [firstE_range hlt' ha (by omega), e1])
        · have e1 : askE l k = 0 := by
            unfold askE
            rw [hx]
            simp only
            rw [hc, h1, if_neg (by simp), if_neg (by simpa using h2)]
          refine sw_skip ?_
          (repeat refine sw_seq ?_); refine sw_region ?_
          repeat (first | refine sR (h := ?_) | refine sK (h := ?_) | refine sT (h := aM (h := ?_)) | refine sT (h := aB (h := ?_)) | refine sT (h := aA (h := ?_)) | refine sT (h := aS (h := ?_)) | refine sT (h := aL (h := ?_)))
          refine swt_nil ?_
          refine ⟨_, _, ?_, wk_only [0, 8, 9, 10] [] rfl rfl, k + 1, _, hlt', rfl, wrap_succ hlt' (by omega), ?_, rfl⟩
          · omega
          · intro j hj
            by_cases e : j = k
            · subst e; exact e1
            · exact ha j (by omega)
    · refine sw_exit ?_
      rw [lm] at hlt
      simp only [decide_eq_false_iff_not] at hlt
      have hkk : k = l.length := by omega
      subst hkk
      (repeat refine sw_seq ?_); refine sw_region ?_
      repeat (first | refine sR (h := ?_) | refine sK (h := ?_) | refine sT (h := aM (h := ?_)) | refine sT (h := aB (h := ?_)) | refine sT (h := aA (h := ?_)) | refine sT (h := aS (h := ?_)) | refine sT (h := aL (h := ?_)))
      refine swt_nil ?_
      (repeat refine sw_seq ?_); refine sw_ret ?_
      exact fin_i rfl (firstE_all fun x hx => ha x (by simpa using hx)).symm
end Go.Proofs.Ytjpcchipejmocaa
