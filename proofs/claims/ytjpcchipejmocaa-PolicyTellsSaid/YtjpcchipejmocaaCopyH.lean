/-
  Shades: bailiffkeep.Copy: a policy in new memory; its rules and kids are rows of the caller's own.
-/
import Derived.Test.YtjpcchipejmocaaSh
import Derived.Test.YtjpcchipejmocaaSmallH
import Derived.Test.YtjpcchipejmocaaPolP
import Derived.Test.YtjpcchipejmocaaCellR
import Derived.Test.YtjpcchipejmocaaFork
namespace Go.Proofs.Ytjpcchipejmocaa
set_option linter.unusedVariables false
set_option linter.unusedSimpArgs false
open Go.RowKit
set_option maxHeartbeats 4000000
theorem SWT.wk {P : Program} {ops l : List Oper} {Q : St → Prop} {st st' : St} (h : Wk st st') (h' : SWT P ops l Q st') : SWT P ops l Q st := fun w0 Sx γ a w QQ hI hQ => by
  obtain ⟨γ', hI'⟩ := h w0 Sx γ a w hI
  exact h' w0 Sx γ' a w QQ hI' hQ
def TarL (t : Tar) : Prop := t.length ≤ 3000 ∧ ∀ x ∈ t, x.length ≤ 3000 ∧ ∀ y ∈ x, y.length ≤ 3000
theorem ktarget_h (t : Tar) (h : TarL t) : Holds Try.prog 59 [tgtP t] (.row 0) [(0, .row 113 1 (t.map fun x => [anyP x]))] := by
  have lm : (t.map fun x => [anyP x]).length = t.length := by simp
  have h1 := h.1
  refine holds_of (ts := [2]) Try.func59 (by kernel_rfl) rfl rfl rfl ?_
  (repeat refine sw_seq ?_); refine sw_region ?_
  repeat (first | refine sR (h := ?_) | refine sK (h := ?_) | refine sT (h := aM (h := ?_)) | refine sT (h := aB (h := ?_)) | refine sT (h := aA (h := ?_)) | refine sT (h := aS (h := ?_)) | refine sT (h := aL (h := ?_)))
  refine swt_nil ?_
  (repeat refine sw_seq ?_); refine sw_region ?_
  repeat (first | refine sR (h := ?_) | refine sK (h := ?_) | refine sT (h := aM (h := ?_)) | refine sT (h := aB (h := ?_)) | refine sT (h := aA (h := ?_)) | refine sT (h := aS (h := ?_)) | refine sT (h := aL (h := ?_)))
  refine swt_nil ?_
  (repeat refine sw_seq ?_); refine sw_region ?_
  repeat (first | refine sR (h := ?_) | refine sK (h := ?_) | refine sT (h := aM (h := ?_)) | refine sT (h := aB (h := ?_)) | refine sT (h := aA (h := ?_)) | refine sT (h := aS (h := ?_)) | refine sT (h := aL (h := ?_)))
  refine swt_nil ?_
  (repeat refine sw_seq ?_); refine sw_block ?_
  refine SW.wk (wk_nil 3 900 113 1 rfl rfl) ?_
  refine SW.wk (wk_only [3, 9, 10, 11] [(900, 0)] rfl rfl) ?_
  refine sw_loop (fun m s => ∃ (k : Nat) (kk : Int), k ≤ t.length ∧ m = t.length - k ∧ kk = k ∧ s = ⟨34, [(3, .row 0), (9, .p (tgtP t)), (10, .p (pI (t.map fun x => [anyP x]).length)), (11, .p (pI kk))], [(0, .row 113 1 ((t.take k).map fun x => [anyP x]))]⟩) t.length ⟨0, 0, Nat.zero_le _, rfl, rfl, rfl⟩ ?_
  rintro m s ⟨k, _, hk, rfl, rfl, rfl⟩
  (repeat refine sw_seq ?_); refine sw_region ?_
  repeat (first | refine sR (h := ?_) | refine sK (h := ?_) | refine sT (h := aM (h := ?_)) | refine sT (h := aB (h := ?_)) | refine sT (h := aA (h := ?_)) | refine sT (h := aS (h := ?_)) | refine sT (h := aL (h := ?_)))
  refine swt_nil ?_
  (repeat refine sw_seq ?_); refine sw_cond rfl (fun hlt => ?_) (fun hlt => ?_)
  · refine sw_skip ?_
    rw [lm] at hlt
    simp only [decide_eq_true_eq] at hlt
    have hlt' : k < t.length := by omega
    (repeat refine sw_seq ?_); refine sw_block ?_
    (repeat refine sw_seq ?_); refine sw_region ?_
    repeat (first | refine sR (h := ?_) | refine sK (h := ?_) | refine sT (h := aM (h := ?_)) | refine sT (h := aB (h := ?_)) | refine sT (h := aA (h := ?_)) | refine sT (h := aS (h := ?_)) | refine sT (h := aL (h := ?_)))
    refine swt_read ttab_ok rfl rfl (by rw [lm]; omega) rfl ?_
    rw [getD_map hlt']
    repeat (first | refine sR (h := ?_) | refine sK (h := ?_) | refine sT (h := aM (h := ?_)) | refine sT (h := aB (h := ?_)) | refine sT (h := aA (h := ?_)) | refine sT (h := aS (h := ?_)) | refine sT (h := aL (h := ?_)))
    refine swt_nil ?_
    obtain ⟨x, hx⟩ : ∃ x, x = t[k] := ⟨_, rfl⟩
    have hxl := h.2 _ (List.getElem_mem hlt')
    rw [← hx] at hxl ⊢
    have hxl1 := hxl.1
    have lx : (x.map fun y => [matsP y]).length = x.length := by simp
    (repeat refine sw_seq ?_); refine sw_region ?_
    repeat (first | refine sR (h := ?_) | refine sK (h := ?_) | refine sT (h := aM (h := ?_)) | refine sT (h := aB (h := ?_)) | refine sT (h := aA (h := ?_)) | refine sT (h := aS (h := ?_)) | refine sT (h := aL (h := ?_)))
    refine swt_nil ?_
    (repeat refine sw_seq ?_); refine sw_region ?_
    repeat (first | refine sR (h := ?_) | refine sK (h := ?_) | refine sT (h := aM (h := ?_)) | refine sT (h := aB (h := ?_)) | refine sT (h := aA (h := ?_)) | refine sT (h := aS (h := ?_)) | refine sT (h := aL (h := ?_)))
    refine swt_nil ?_
    (repeat refine sw_seq ?_); refine sw_block ?_
    refine SW.wk (wk_nil 6 900 115 1 rfl rfl) ?_
    refine SW.wk (wk_only [3, 6, 9, 10, 11, 15, 16, 17] [(0, 0), (900, 1)] rfl rfl) ?_
    refine sw_loop (fun m s => ∃ (j : Nat) (jj : Int), j ≤ x.length ∧ m = x.length - j ∧ jj = j ∧ s = ⟨34, [(3, .row 0), (6, .row 1), (9, .p (tgtP t)), (10, .p (pI (t.map fun x => [anyP x]).length)), (11, .p (pI k)), (15, .p (anyP x)), (16, .p (pI (x.map fun y => [matsP y]).length)), (17, .p (pI jj))], [(0, .row 113 1 ((t.take k).map fun x => [anyP x])), (1, .row 115 1 ((x.take j).map fun y => [matsP y]))]⟩) x.length ⟨0, 0, Nat.zero_le _, rfl, rfl, rfl⟩ ?_
    rintro m s ⟨j, _, hj, rfl, rfl, rfl⟩
    (repeat refine sw_seq ?_); refine sw_region ?_
    repeat (first | refine sR (h := ?_) | refine sK (h := ?_) | refine sT (h := aM (h := ?_)) | refine sT (h := aB (h := ?_)) | refine sT (h := aA (h := ?_)) | refine sT (h := aS (h := ?_)) | refine sT (h := aL (h := ?_)))
    refine swt_nil ?_
    (repeat refine sw_seq ?_); refine sw_cond rfl (fun hlj => ?_) (fun hlj => ?_)
    · refine sw_skip ?_
      rw [lx] at hlj
      simp only [decide_eq_true_eq] at hlj
      have hlj' : j < x.length := by omega
      (repeat refine sw_seq ?_); refine sw_block ?_
      (repeat refine sw_seq ?_); refine sw_region ?_
      repeat (first | refine sR (h := ?_) | refine sK (h := ?_) | refine sT (h := aM (h := ?_)) | refine sT (h := aB (h := ?_)) | refine sT (h := aA (h := ?_)) | refine sT (h := aS (h := ?_)) | refine sT (h := aL (h := ?_)))
      refine swt_read ttab_ok rfl rfl (by rw [lx]; omega) rfl ?_
      rw [getD_map hlj']
      repeat (first | refine sR (h := ?_) | refine sK (h := ?_) | refine sT (h := aM (h := ?_)) | refine sT (h := aB (h := ?_)) | refine sT (h := aA (h := ?_)) | refine sT (h := aS (h := ?_)) | refine sT (h := aL (h := ?_)))
      refine swt_nil ?_
      have hyl := hxl.2 _ (List.getElem_mem hlj')
      (repeat refine sw_seq ?_); refine sw_region ?_
      repeat (first | refine sR (h := ?_) | refine sK (h := ?_) | refine sT (h := aM (h := ?_)) | refine sT (h := aB (h := ?_)) | refine sT (h := aA (h := ?_)) | refine sT (h := aS (h := ?_)) | refine sT (h := aL (h := ?_)))
      refine swt_act rfl (act_append_row ttab_ok rfl rfl rfl rfl rfl rfl rfl rfl rfl rfl rfl rfl rfl rfl rfl rfl (by simp only [List.length_append, List.length_map, List.length_take, List.length_cons, List.length_nil]; unfold reachBytes; omega) (by simp only [List.length_append, List.length_map, List.length_take, List.length_cons, List.length_nil]; omega) ?_)
      refine SWT.wk (wk_frz (k := 24) rfl) ?_
      repeat (first | refine sR (h := ?_) | refine sK (h := ?_) | refine sT (h := aM (h := ?_)) | refine sT (h := aB (h := ?_)) | refine sT (h := aA (h := ?_)) | refine sT (h := aS (h := ?_)) | refine sT (h := aL (h := ?_)))
      refine swt_act rfl (act_append_row ttab_ok rfl rfl rfl rfl rfl rfl rfl rfl rfl rfl rfl rfl rfl rfl rfl rfl (by simp only [List.length_append, List.length_map, List.length_take, List.length_cons, List.length_nil]; unfold reachBytes; omega) (by simp only [List.length_append, List.length_map, List.length_take, List.length_cons, List.length_nil]; omega) ?_)
      repeat (first | refine sR (h := ?_) | refine sK (h := ?_) | refine sT (h := aM (h := ?_)) | refine sT (h := aB (h := ?_)) | refine sT (h := aA (h := ?_)) | refine sT (h := aS (h := ?_)) | refine sT (h := aL (h := ?_)))
      refine swt_nil ?_
      (repeat refine sw_seq ?_); refine sw_region ?_
      repeat (first | refine sR (h := ?_) | refine sK (h := ?_) | refine sT (h := aM (h := ?_)) | refine sT (h := aB (h := ?_)) | refine sT (h := aA (h := ?_)) | refine sT (h := aS (h := ?_)) | refine sT (h := aL (h := ?_)))
      refine swt_nil ?_
      refine ⟨_, _, ?_, wk_only [3, 6, 9, 10, 11, 15, 16, 17] [(0, 0), (26, 1)] rfl rfl, j + 1, _, hlj', rfl, wrap_succ hlj' (by omega), ?_⟩
      · omega
      · rw [List.take_succ_eq_append_getElem hlj', List.map_append]; rfl
    · refine sw_exit ?_
      rw [lx] at hlj
      simp only [decide_eq_false_iff_not] at hlj
      have hjj : j = x.length := by omega
      subst hjj
      rw [List.take_length]
      (repeat refine sw_seq ?_); refine sw_region ?_
      repeat (first | refine sR (h := ?_) | refine sK (h := ?_) | refine sT (h := aM (h := ?_)) | refine sT (h := aB (h := ?_)) | refine sT (h := aA (h := ?_)) | refine sT (h := aS (h := ?_)) | refine sT (h := aL (h := ?_)))
      refine SWT.wk (wk_frz (k := 1) rfl) ?_
      repeat (first | refine sR (h := ?_) | refine sK (h := ?_) | refine sT (h := aM (h := ?_)) | refine sT (h := aB (h := ?_)) | refine sT (h := aA (h := ?_)) | refine sT (h := aS (h := ?_)) | refine sT (h := aL (h := ?_)))
      refine swt_act rfl (act_append_row ttab_ok rfl rfl rfl rfl rfl rfl rfl rfl rfl rfl rfl rfl rfl rfl rfl rfl (by simp only [List.length_append, List.length_map, List.length_take, List.length_cons, List.length_nil]; unfold reachBytes; omega) (by simp only [List.length_append, List.length_map, List.length_take, List.length_cons, List.length_nil]; omega) ?_)
      repeat (first | refine sR (h := ?_) | refine sK (h := ?_) | refine sT (h := aM (h := ?_)) | refine sT (h := aB (h := ?_)) | refine sT (h := aA (h := ?_)) | refine sT (h := aS (h := ?_)) | refine sT (h := aL (h := ?_)))
      refine swt_nil ?_
      (repeat refine sw_seq ?_); refine sw_region ?_
      repeat (first | refine sR (h := ?_) | refine sK (h := ?_) | refine sT (h := aM (h := ?_)) | refine sT (h := aB (h := ?_)) | refine sT (h := aA (h := ?_)) | refine sT (h := aS (h := ?_)) | refine sT (h := aL (h := ?_)))
      refine swt_nil ?_
      refine ⟨_, _, ?_, wk_only [3, 9, 10, 11] [(31, 0)] rfl rfl, k + 1, _, hlt', rfl, wrap_succ hlt' (by omega), ?_⟩
      · omega
      · rw [List.take_succ_eq_append_getElem hlt', List.map_append, hx]; rfl
  · refine sw_exit ?_
    rw [lm] at hlt
    simp only [decide_eq_false_iff_not] at hlt
    have hkk : k = t.length := by omega
    subst hkk
    rw [List.take_length]
    (repeat refine sw_seq ?_); refine sw_region ?_
    repeat (first | refine sR (h := ?_) | refine sK (h := ?_) | refine sT (h := aM (h := ?_)) | refine sT (h := aB (h := ?_)) | refine sT (h := aA (h := ?_)) | refine sT (h := aS (h := ?_)) | refine sT (h := aL (h := ?_)))
    refine swt_nil ?_
    (repeat refine sw_seq ?_); refine sw_ret ?_
    exact ⟨Or.inr rfl, _, _, [(0, 0)], Wk.refl _, rfl, rfl, rfl, rfl⟩
theorem xsz_le {t : Tar} {x : List (List Mat)} (h : x ∈ t) : xsz x ≤ tsz t := by
  have := sumBy_le (f := xsz) h
  unfold tsz; omega
theorem len_sumBy {α : Type} (f : α → Nat) (h : ∀ x, 1 ≤ f x) : ∀ l : List α, l.length ≤ sumBy f l
  | [] => Nat.zero_le _
  | x :: r => by
    have h1 := len_sumBy f h r
    have h2 := h x
    simp only [sumBy, List.map_cons, List.sum_cons, List.length_cons] at h1 ⊢
    omega
theorem tarL_of {t : Tar} {n : Nat} (h : tsz t ≤ n) (hn : n ≤ 3000) : TarL t := by
  refine ⟨by unfold tsz at h; omega, fun x hx => ?_⟩
  have h1 := xsz_le hx
  refine ⟨by unfold xsz at h1; omega, fun y hy => ?_⟩
  have h4 : asz y ≤ xsz x := by have := sumBy_le (f := asz) hy; unfold xsz; omega
  unfold asz at h4
  omega
theorem sz_facts {p : Pol} {n : Nat} (h : p.sz ≤ n) (hn : n ≤ 3000) : TarL p.target ∧ p.rules.length ≤ 3000 ∧ p.kids.length ≤ 3000 ∧ p.obls.length ≤ 3000 ∧ (∀ r ∈ p.rules, TarL r.target ∧ r.cond.length ≤ 3000 ∧ r.obls.length ≤ 3000) ∧ ∀ k ∈ p.kids, k.sz ≤ n := by
  have h1 := Pol.sz_eq p
  have h2 := len_sumBy Pol.sz (fun p => by rw [Pol.sz_eq]; omega) p.kids
  have h3 : p.obls.length ≤ osz p.obls := by unfold osz; omega
  refine ⟨tarL_of (n := n) (by omega) hn, by omega, by omega, by omega, fun r hr => ?_, fun k hk => ?_⟩
  · have h4 := sumBy_le (f := rusz) hr
    have h5 : r.obls.length ≤ osz r.obls := by unfold osz; omega
    have h6 : rusz r = txt r.id + tsz r.target + r.cond.length + osz r.obls + sumBy nsz r.cond := rfl
    exact ⟨tarL_of (n := n) (by omega) hn, by omega, by omega⟩
  · have := sumBy_le (f := Pol.sz) hk
    omega
def copyR (p : Pol) : SV := .agg [.p (pS p.id), .p (pB p.set), .p (pI p.alg), .p (tgtP p.target), .row 0, .row 1, .p (oblsP p.obls)]
def copyO (p : Pol) : List (Nat × Box) := [(0, .row 78 5 (p.rules.map ruleP)), (1, .row 64 7 (p.kids.map polP))]
def CopyOk (n : Nat) : Prop := ∀ (p : Pol), PolF n p → p.sz ≤ 3000 → Holds Try.prog 34 [.agg (polP p)] (copyR p) (copyO p)
theorem copy_step (n : Nat) (hn : CopyOk n) : CopyOk (n + 1) := by
    intro p hf hsz
    obtain ⟨ht, hr, hk, ho, hru, hks⟩ := sz_facts hsz (Nat.le_refl _)
    have IH := fun k (hk : k ∈ p.kids) => hn k (hf.2.2 k hk) (hks k hk)
    have HT := ktarget_h p.target ht
    have l1 : ((p.rules.map ruleP).length) = p.rules.length := by simp
    have l2 : ((p.kids.map polP).length) = p.kids.length := by simp
    have lo : (p.obls.map Obli.pv).length = p.obls.length := by simp
    rw [polP_eq]
    refine .ofW ?_
    refine holdsC_of (T := TTab) ttab_ok Try.func34 (by kernel_rfl) rfl rfl rfl ?_
    (repeat refine sw_seq ?_); refine sw_region ?_
    repeat (first | refine sR (h := ?_) | refine sK (h := ?_) | refine sT (h := aM (h := ?_)) | refine sT (h := aB (h := ?_)) | refine sT (h := aA (h := ?_)) | refine sT (h := aS (h := ?_)) | refine sT (h := aL (h := ?_)))
    refine swt_nil ?_
    (repeat refine sw_seq ?_); refine sw_region_fork 11 rfl (by kernel_rfl) ?_
    refine swb_rd (i := 0) (K := [12]) (by kernel_rfl) (by kernel_rfl) rfl rfl (rdO_opR ttab_ok rfl (by exact True.intro)) rfl ?_
    refine swb_rd (i := 1) (K := [12]) (by kernel_rfl) (by kernel_rfl) rfl rfl (rdO_opR ttab_ok rfl (by exact True.intro)) rfl ?_
    refine swb_rd (i := 4) (K := [12]) (by kernel_rfl) (by kernel_rfl) rfl rfl (rdO_opR ttab_ok rfl (by exact True.intro)) rfl ?_
    refine swb_rd (i := 5) (K := [12]) (by kernel_rfl) (by kernel_rfl) rfl rfl (rdO_opR ttab_ok rfl (by exact True.intro)) rfl ?_
    refine swb_fork2 2 3 (by kernel_rfl) ?_ ?_
    refine swb_act rfl rfl rfl (act_call rfl rfl rfl rfl (HT) rfl rfl rfl ?_)
    refine swb_rd (i := 7) (K := [12]) (by kernel_rfl) (by kernel_rfl) rfl rfl (rdO_opR ttab_ok rfl (by exact True.intro)) rfl ?_
    refine swb_fork1 3 (by kernel_rfl) ?_
    first | (refine swb_act rfl rfl rfl (act_makeMap rfl rfl rfl rfl ?_)) | (refine swb_act rfl rfl rfl (act_box rfl rfl rfl rfl rfl rfl rfl ?_)) | (refine swb_act rfl rfl rfl (act_alloc ttab_ok rfl rfl rfl rfl rfl rfl ?_)) | (refine swb_act rfl rfl rfl (act_store ttab_ok rfl rfl rfl rfl rfl rfl rfl rfl rfl rfl ?_)) | (refine swb_act rfl rfl rfl (act_buildSlice ttab_ok rfl rfl rfl rfl rfl rfl rfl rfl rfl rfl rfl rfl ?_)) | (refine swb_act rfl rfl rfl (actOk_rd (K := []) (rdO_opR ttab_ok rfl (by exact True.intro)) rfl ?_))
    refine swb_fork1 6 (by kernel_rfl) ?_
    refine swb_act rfl rfl rfl (act_append_row ttab_ok rfl rfl rfl rfl rfl rfl rfl rfl rfl rfl rfl rfl rfl rfl rfl rfl (by simp only [List.length_append, List.length_map, List.length_take, List.length_cons, List.length_nil]; unfold reachBytes; omega) (by simp only [List.length_append, List.length_map, List.length_take, List.length_cons, List.length_nil]; omega) ?_)
    refine swb_fork1 8 (by kernel_rfl) ?_
    first | (refine swb_act rfl rfl rfl (act_makeMap rfl rfl rfl rfl ?_)) | (refine swb_act rfl rfl rfl (act_box rfl rfl rfl rfl rfl rfl rfl ?_)) | (refine swb_act rfl rfl rfl (act_alloc ttab_ok rfl rfl rfl rfl rfl rfl ?_)) | (refine swb_act rfl rfl rfl (act_store ttab_ok rfl rfl rfl rfl rfl rfl rfl rfl rfl rfl ?_)) | (refine swb_act rfl rfl rfl (act_buildSlice ttab_ok rfl rfl rfl rfl rfl rfl rfl rfl rfl rfl rfl rfl ?_)) | (refine swb_act rfl rfl rfl (actOk_rd (K := []) (rdO_opR ttab_ok rfl (by exact True.intro)) rfl ?_))
    refine swb_rd (i := 9) (K := [12]) (by kernel_rfl) (by kernel_rfl) rfl rfl (rdO_opR ttab_ok rfl (by exact True.intro)) rfl ?_
    refine swb_fork1 10 (by kernel_rfl) ?_
    first | (refine swb_act rfl rfl rfl (act_makeMap rfl rfl rfl rfl ?_)) | (refine swb_act rfl rfl rfl (act_box rfl rfl rfl rfl rfl rfl rfl ?_)) | (refine swb_act rfl rfl rfl (act_alloc ttab_ok rfl rfl rfl rfl rfl rfl ?_)) | (refine swb_act rfl rfl rfl (act_store ttab_ok rfl rfl rfl rfl rfl rfl rfl rfl rfl rfl ?_)) | (refine swb_act rfl rfl rfl (act_buildSlice ttab_ok rfl rfl rfl rfl rfl rfl rfl rfl rfl rfl rfl rfl ?_)) | (refine swb_act rfl rfl rfl (actOk_rd (K := []) (rdO_opR ttab_ok rfl (by exact True.intro)) rfl ?_))
    refine swb_done (by kernel_rfl) ?_
    refine SW.wk (wk_only [1, 2] [(1, 1), (2, 2), (12000, 12000), (15, 15)] rfl rfl) ?_
    refine ?fk1
    rotate_left
    first | (refine swb_act rfl rfl rfl (act_makeMap rfl rfl rfl rfl ?_)) | (refine swb_act rfl rfl rfl (act_box rfl rfl rfl rfl rfl rfl rfl ?_)) | (refine swb_act rfl rfl rfl (act_alloc ttab_ok rfl rfl rfl rfl rfl rfl ?_)) | (refine swb_act rfl rfl rfl (act_store ttab_ok rfl rfl rfl rfl rfl rfl rfl rfl rfl rfl ?_)) | (refine swb_act rfl rfl rfl (act_buildSlice ttab_ok rfl rfl rfl rfl rfl rfl rfl rfl rfl rfl rfl rfl ?_)) | (refine swb_act rfl rfl rfl (actOk_rd (K := []) (rdO_opR ttab_ok rfl (by exact True.intro)) rfl ?_))
    refine swb_fork1 2 (by kernel_rfl) ?_
    refine swb_act rfl rfl rfl (act_call rfl rfl rfl rfl (HT) rfl rfl rfl ?_)
    refine swb_rd (i := 7) (K := [12]) (by kernel_rfl) (by kernel_rfl) rfl rfl (rdO_opR ttab_ok rfl (by exact True.intro)) rfl ?_
    refine swb_fork1 6 (by kernel_rfl) ?_
    refine swb_act rfl rfl rfl (act_append_row ttab_ok rfl rfl rfl rfl rfl rfl rfl rfl rfl rfl rfl rfl rfl rfl rfl rfl (by simp only [List.length_append, List.length_map, List.length_take, List.length_cons, List.length_nil]; unfold reachBytes; omega) (by simp only [List.length_append, List.length_map, List.length_take, List.length_cons, List.length_nil]; omega) ?_)
    refine swb_fork1 8 (by kernel_rfl) ?_
    first | (refine swb_act rfl rfl rfl (act_makeMap rfl rfl rfl rfl ?_)) | (refine swb_act rfl rfl rfl (act_box rfl rfl rfl rfl rfl rfl rfl ?_)) | (refine swb_act rfl rfl rfl (act_alloc ttab_ok rfl rfl rfl rfl rfl rfl ?_)) | (refine swb_act rfl rfl rfl (act_store ttab_ok rfl rfl rfl rfl rfl rfl rfl rfl rfl rfl ?_)) | (refine swb_act rfl rfl rfl (act_buildSlice ttab_ok rfl rfl rfl rfl rfl rfl rfl rfl rfl rfl rfl rfl ?_)) | (refine swb_act rfl rfl rfl (actOk_rd (K := []) (rdO_opR ttab_ok rfl (by exact True.intro)) rfl ?_))
    refine swb_rd (i := 9) (K := [12]) (by kernel_rfl) (by kernel_rfl) rfl rfl (rdO_opR ttab_ok rfl (by exact True.intro)) rfl ?_
    refine swb_fork1 10 (by kernel_rfl) ?_
    first | (refine swb_act rfl rfl rfl (act_makeMap rfl rfl rfl rfl ?_)) | (refine swb_act rfl rfl rfl (act_box rfl rfl rfl rfl rfl rfl rfl ?_)) | (refine swb_act rfl rfl rfl (act_alloc ttab_ok rfl rfl rfl rfl rfl rfl ?_)) | (refine swb_act rfl rfl rfl (act_store ttab_ok rfl rfl rfl rfl rfl rfl rfl rfl rfl rfl ?_)) | (refine swb_act rfl rfl rfl (act_buildSlice ttab_ok rfl rfl rfl rfl rfl rfl rfl rfl rfl rfl rfl rfl ?_)) | (refine swb_act rfl rfl rfl (actOk_rd (K := []) (rdO_opR ttab_ok rfl (by exact True.intro)) rfl ?_))
    refine swb_done (by kernel_rfl) ?_
    refine SW.wk (wk_only [1, 2] [(1, 1), (2, 2), (12000, 12000), (15, 15)] rfl rfl) ?_
    exact ?fk1
    refine SW.wk ((wk_frz (k := 12000) rfl).trans (wk_frz (k := 15) rfl)) ?_
    refine SW.wk (wk_only [1, 2] [(1, 1), (2, 2)] rfl rfl) ?_
    change SW _ _ _ ⟨62, [(1, .ptr 1 0), (2, .ptr 2 0)], [(1, .cells [.p (pS p.id), .p (pB p.set), .p (pI p.alg), .p (tgtP p.target), .p (.sl 5 (p.rules.map ruleP)), .p (.sl 7 (p.kids.map polP)), .p (oblsP p.obls)]), (2, .cells [.p (pS ⟨#[]⟩), .p (pB false), .p (pI 0), .p nilV, .p nilV, .p nilV, .p nilV])]⟩
    (repeat refine sw_seq ?_); refine sw_region ?_
    repeat (first | refine sR (h := ?_) | refine sK (h := ?_) | refine sT (h := aM (h := ?_)) | refine sT (h := aB (h := ?_)) | refine sT (h := aA (h := ?_)) | refine sT (h := aS (h := ?_)) | refine sT (h := aL (h := ?_)))
    refine swt_nil ?_
    (repeat refine sw_seq ?_); refine sw_region ?_
    repeat (first | refine sR (h := ?_) | refine sK (h := ?_) | refine sT (h := aM (h := ?_)) | refine sT (h := aB (h := ?_)) | refine sT (h := aA (h := ?_)) | refine sT (h := aS (h := ?_)) | refine sT (h := aL (h := ?_)))
    refine swt_nil ?_
    (repeat refine sw_seq ?_); refine sw_block ?_
    refine SW.wk (wk_nil 3 900 78 5 rfl rfl) ?_
    refine SW.wk (wk_only [1, 2, 3, 19, 20, 21] [(1, 1), (2, 2), (900, 0)] rfl rfl) ?_
    refine sw_loop (fun m s => ∃ (k : Nat) (kk : Int), k ≤ p.rules.length ∧ m = p.rules.length - k ∧ kk = k ∧ s = ⟨62, [(1, .ptr 1 0), (2, .ptr 2 0), (3, .row 0), (19, .p (.sl 5 (p.rules.map ruleP))), (20, .p (pI (p.rules.map ruleP).length)), (21, .p (pI kk))], [(1, .cells [.p (pS p.id), .p (pB p.set), .p (pI p.alg), .p (tgtP p.target), .p (.sl 5 (p.rules.map ruleP)), .p (.sl 7 (p.kids.map polP)), .p (oblsP p.obls)]), (2, .cells [.p (pS ⟨#[]⟩), .p (pB false), .p (pI 0), .p nilV, .p nilV, .p nilV, .p nilV]), (0, .row 78 5 ((p.rules.take k).map ruleP))]⟩) p.rules.length ⟨0, 0, Nat.zero_le _, rfl, rfl, rfl⟩ ?_
    rintro m s ⟨k, _, hk', rfl, rfl, rfl⟩
    (repeat refine sw_seq ?_); refine sw_region ?_
    repeat (first | refine sR (h := ?_) | refine sK (h := ?_) | refine sT (h := aM (h := ?_)) | refine sT (h := aB (h := ?_)) | refine sT (h := aA (h := ?_)) | refine sT (h := aS (h := ?_)) | refine sT (h := aL (h := ?_)))
    refine swt_nil ?_
    (repeat refine sw_seq ?_); refine sw_cond rfl (fun hlt => ?_) (fun hlt => ?_)
    · refine sw_skip ?_
      rw [l1] at hlt
      simp only [decide_eq_true_eq] at hlt
      have hlt' : k < p.rules.length := by omega
      obtain ⟨x, hx⟩ : ∃ x, x = p.rules[k] := ⟨_, rfl⟩
      obtain ⟨tx, cx, ox⟩ := hru _ (List.getElem_mem hlt')
      rw [← hx] at tx cx ox
      have HT2 := ktarget_h x.target tx
      (repeat refine sw_seq ?_); refine sw_block ?_
      (repeat refine sw_seq ?_); refine sw_region ?_
      repeat (first | refine sR (h := ?_) | refine sK (h := ?_) | refine sT (h := aM (h := ?_)) | refine sT (h := aB (h := ?_)) | refine sT (h := aA (h := ?_)) | refine sT (h := aS (h := ?_)) | refine sT (h := aL (h := ?_)))
      refine swt_read ttab_ok rfl rfl (by rw [l1]; omega) rfl ?_
      rw [getD_map hlt', ← hx]
      repeat (first | refine sR (h := ?_) | refine sK (h := ?_) | refine sT (h := aM (h := ?_)) | refine sT (h := aB (h := ?_)) | refine sT (h := aA (h := ?_)) | refine sT (h := aS (h := ?_)) | refine sT (h := aL (h := ?_)))
      refine swt_nil ?_
      (repeat refine sw_seq ?_); refine sw_region_fork 17 rfl (by kernel_rfl) ?_
      refine swb_rd (i := 0) (K := [28, 32]) (by kernel_rfl) (by kernel_rfl) rfl rfl (rdO_opR ttab_ok rfl (by exact True.intro)) rfl ?_
      refine swb_rd (i := 1) (K := [28, 32]) (by kernel_rfl) (by kernel_rfl) rfl rfl (rdO_opR ttab_ok rfl (by exact True.intro)) rfl ?_
      refine swb_rd (i := 4) (K := [28, 32]) (by kernel_rfl) (by kernel_rfl) rfl rfl (rdO_opR ttab_ok rfl (by exact True.intro)) rfl ?_
      refine swb_rd (i := 5) (K := [28, 32]) (by kernel_rfl) (by kernel_rfl) rfl rfl (rdO_opR ttab_ok rfl (by exact True.intro)) rfl ?_
      refine swb_rd (i := 8) (K := [28, 32]) (by kernel_rfl) (by kernel_rfl) rfl rfl (rdO_opR ttab_ok rfl (by exact True.intro)) rfl ?_
      refine swb_rd (i := 9) (K := [28, 32]) (by kernel_rfl) (by kernel_rfl) rfl rfl (rdO_opR ttab_ok rfl (by exact True.intro)) rfl ?_
      refine swb_fork3 2 3 7 (by kernel_rfl) ?_ ?_ ?_
      refine swb_act rfl rfl rfl (act_call rfl rfl rfl rfl (HT2) rfl rfl rfl ?_)
      refine swb_rd (i := 11) (K := [28, 32]) (by kernel_rfl) (by kernel_rfl) rfl rfl (rdO_opR ttab_ok rfl (by exact True.intro)) rfl ?_
      refine swb_fork2 3 7 (by kernel_rfl) ?_ ?_
      first | (refine swb_act rfl rfl rfl (act_makeMap rfl rfl rfl rfl ?_)) | (refine swb_act rfl rfl rfl (act_box rfl rfl rfl rfl rfl rfl rfl ?_)) | (refine swb_act rfl rfl rfl (act_alloc ttab_ok rfl rfl rfl rfl rfl rfl ?_)) | (refine swb_act rfl rfl rfl (act_store ttab_ok rfl rfl rfl rfl rfl rfl rfl rfl rfl rfl ?_)) | (refine swb_act rfl rfl rfl (act_buildSlice ttab_ok rfl rfl rfl rfl rfl rfl rfl rfl rfl rfl rfl rfl ?_)) | (refine swb_act rfl rfl rfl (actOk_rd (K := []) (rdO_opR ttab_ok rfl (by exact True.intro)) rfl ?_))
      refine swb_fork2 6 7 (by kernel_rfl) ?_ ?_
      refine swb_act rfl rfl rfl (act_append_row ttab_ok rfl rfl rfl rfl rfl rfl rfl rfl rfl rfl rfl rfl rfl rfl rfl rfl (by simp only [List.length_append, List.length_map, List.length_take, List.length_cons, List.length_nil]; unfold reachBytes; omega) (by simp only [List.length_append, List.length_map, List.length_take, List.length_cons, List.length_nil]; omega) ?_)
      refine swb_fork1 7 (by kernel_rfl) ?_
      first | (refine swb_act rfl rfl rfl (act_makeMap rfl rfl rfl rfl ?_)) | (refine swb_act rfl rfl rfl (act_box rfl rfl rfl rfl rfl rfl rfl ?_)) | (refine swb_act rfl rfl rfl (act_alloc ttab_ok rfl rfl rfl rfl rfl rfl ?_)) | (refine swb_act rfl rfl rfl (act_store ttab_ok rfl rfl rfl rfl rfl rfl rfl rfl rfl rfl ?_)) | (refine swb_act rfl rfl rfl (act_buildSlice ttab_ok rfl rfl rfl rfl rfl rfl rfl rfl rfl rfl rfl rfl ?_)) | (refine swb_act rfl rfl rfl (actOk_rd (K := []) (rdO_opR ttab_ok rfl (by exact True.intro)) rfl ?_))
      refine swb_fork1 10 (by kernel_rfl) ?_
      refine swb_act rfl rfl rfl (act_append_row ttab_ok rfl rfl rfl rfl rfl rfl rfl rfl rfl rfl rfl rfl rfl rfl rfl rfl (by simp only [List.length_append, List.length_map, List.length_take, List.length_cons, List.length_nil]; unfold reachBytes; omega) (by simp only [List.length_append, List.length_map, List.length_take, List.length_cons, List.length_nil]; omega) ?_)
      refine swb_fork1 12 (by kernel_rfl) ?_
      first | (refine swb_act rfl rfl rfl (act_makeMap rfl rfl rfl rfl ?_)) | (refine swb_act rfl rfl rfl (act_box rfl rfl rfl rfl rfl rfl rfl ?_)) | (refine swb_act rfl rfl rfl (act_alloc ttab_ok rfl rfl rfl rfl rfl rfl ?_)) | (refine swb_act rfl rfl rfl (act_store ttab_ok rfl rfl rfl rfl rfl rfl rfl rfl rfl rfl ?_)) | (refine swb_act rfl rfl rfl (act_buildSlice ttab_ok rfl rfl rfl rfl rfl rfl rfl rfl rfl rfl rfl rfl ?_)) | (refine swb_act rfl rfl rfl (actOk_rd (K := []) (rdO_opR ttab_ok rfl (by exact True.intro)) rfl ?_))
      refine swb_rd (i := 13) (K := [28, 32]) (by kernel_rfl) (by kernel_rfl) rfl rfl (rdO_opR ttab_ok rfl (by exact True.intro)) rfl ?_
      refine swb_fork1 14 (by kernel_rfl) ?_
      first | (refine swb_act rfl rfl rfl (act_makeMap rfl rfl rfl rfl ?_)) | (refine swb_act rfl rfl rfl (act_box rfl rfl rfl rfl rfl rfl rfl ?_)) | (refine swb_act rfl rfl rfl (act_alloc ttab_ok rfl rfl rfl rfl rfl rfl ?_)) | (refine swb_act rfl rfl rfl (act_store ttab_ok rfl rfl rfl rfl rfl rfl rfl rfl rfl rfl ?_)) | (refine swb_act rfl rfl rfl (act_buildSlice ttab_ok rfl rfl rfl rfl rfl rfl rfl rfl rfl rfl rfl rfl ?_)) | (refine swb_act rfl rfl rfl (actOk_rd (K := []) (rdO_opR ttab_ok rfl (by exact True.intro)) rfl ?_))
      refine swb_rd (i := 15) (K := [28, 32]) (by kernel_rfl) (by kernel_rfl) rfl rfl (rdO_opR ttab_ok rfl (by exact True.intro)) rfl ?_
      refine swb_fork1 16 (by kernel_rfl) ?_
      first | (refine swb_act rfl rfl rfl (act_makeMap rfl rfl rfl rfl ?_)) | (refine swb_act rfl rfl rfl (act_box rfl rfl rfl rfl rfl rfl rfl ?_)) | (refine swb_act rfl rfl rfl (act_alloc ttab_ok rfl rfl rfl rfl rfl rfl ?_)) | (refine swb_act rfl rfl rfl (act_store ttab_ok rfl rfl rfl rfl rfl rfl rfl rfl rfl rfl ?_)) | (refine swb_act rfl rfl rfl (act_buildSlice ttab_ok rfl rfl rfl rfl rfl rfl rfl rfl rfl rfl rfl rfl ?_)) | (refine swb_act rfl rfl rfl (actOk_rd (K := []) (rdO_opR ttab_ok rfl (by exact True.intro)) rfl ?_))
      refine swb_done (by kernel_rfl) ?_
      refine SW.wk (wk_only [1, 2, 3, 5, 19, 20, 21] [(1, 1), (2, 2), (0, 0), (5, 5), (28000, 28000), (31, 31), (35, 35)] rfl rfl) ?_
      refine ?fk6
      rotate_left
      first | (refine swb_act rfl rfl rfl (act_makeMap rfl rfl rfl rfl ?_)) | (refine swb_act rfl rfl rfl (act_box rfl rfl rfl rfl rfl rfl rfl ?_)) | (refine swb_act rfl rfl rfl (act_alloc ttab_ok rfl rfl rfl rfl rfl rfl ?_)) | (refine swb_act rfl rfl rfl (act_store ttab_ok rfl rfl rfl rfl rfl rfl rfl rfl rfl rfl ?_)) | (refine swb_act rfl rfl rfl (act_buildSlice ttab_ok rfl rfl rfl rfl rfl rfl rfl rfl rfl rfl rfl rfl ?_)) | (refine swb_act rfl rfl rfl (actOk_rd (K := []) (rdO_opR ttab_ok rfl (by exact True.intro)) rfl ?_))
      refine swb_fork1 6 (by kernel_rfl) ?_
      refine swb_act rfl rfl rfl (act_append_row ttab_ok rfl rfl rfl rfl rfl rfl rfl rfl rfl rfl rfl rfl rfl rfl rfl rfl (by simp only [List.length_append, List.length_map, List.length_take, List.length_cons, List.length_nil]; unfold reachBytes; omega) (by simp only [List.length_append, List.length_map, List.length_take, List.length_cons, List.length_nil]; omega) ?_)
      refine swb_fork1 10 (by kernel_rfl) ?_
      refine swb_act rfl rfl rfl (act_append_row ttab_ok rfl rfl rfl rfl rfl rfl rfl rfl rfl rfl rfl rfl rfl rfl rfl rfl (by simp only [List.length_append, List.length_map, List.length_take, List.length_cons, List.length_nil]; unfold reachBytes; omega) (by simp only [List.length_append, List.length_map, List.length_take, List.length_cons, List.length_nil]; omega) ?_)
      refine swb_fork1 12 (by kernel_rfl) ?_
      first | (refine swb_act rfl rfl rfl (act_makeMap rfl rfl rfl rfl ?_)) | (refine swb_act rfl rfl rfl (act_box rfl rfl rfl rfl rfl rfl rfl ?_)) | (refine swb_act rfl rfl rfl (act_alloc ttab_ok rfl rfl rfl rfl rfl rfl ?_)) | (refine swb_act rfl rfl rfl (act_store ttab_ok rfl rfl rfl rfl rfl rfl rfl rfl rfl rfl ?_)) | (refine swb_act rfl rfl rfl (act_buildSlice ttab_ok rfl rfl rfl rfl rfl rfl rfl rfl rfl rfl rfl rfl ?_)) | (refine swb_act rfl rfl rfl (actOk_rd (K := []) (rdO_opR ttab_ok rfl (by exact True.intro)) rfl ?_))
      refine swb_rd (i := 13) (K := [28, 32]) (by kernel_rfl) (by kernel_rfl) rfl rfl (rdO_opR ttab_ok rfl (by exact True.intro)) rfl ?_
      refine swb_fork1 14 (by kernel_rfl) ?_
      first | (refine swb_act rfl rfl rfl (act_makeMap rfl rfl rfl rfl ?_)) | (refine swb_act rfl rfl rfl (act_box rfl rfl rfl rfl rfl rfl rfl ?_)) | (refine swb_act rfl rfl rfl (act_alloc ttab_ok rfl rfl rfl rfl rfl rfl ?_)) | (refine swb_act rfl rfl rfl (act_store ttab_ok rfl rfl rfl rfl rfl rfl rfl rfl rfl rfl ?_)) | (refine swb_act rfl rfl rfl (act_buildSlice ttab_ok rfl rfl rfl rfl rfl rfl rfl rfl rfl rfl rfl rfl ?_)) | (refine swb_act rfl rfl rfl (actOk_rd (K := []) (rdO_opR ttab_ok rfl (by exact True.intro)) rfl ?_))
      refine swb_rd (i := 15) (K := [28, 32]) (by kernel_rfl) (by kernel_rfl) rfl rfl (rdO_opR ttab_ok rfl (by exact True.intro)) rfl ?_
      refine swb_fork1 16 (by kernel_rfl) ?_
      first | (refine swb_act rfl rfl rfl (act_makeMap rfl rfl rfl rfl ?_)) | (refine swb_act rfl rfl rfl (act_box rfl rfl rfl rfl rfl rfl rfl ?_)) | (refine swb_act rfl rfl rfl (act_alloc ttab_ok rfl rfl rfl rfl rfl rfl ?_)) | (refine swb_act rfl rfl rfl (act_store ttab_ok rfl rfl rfl rfl rfl rfl rfl rfl rfl rfl ?_)) | (refine swb_act rfl rfl rfl (act_buildSlice ttab_ok rfl rfl rfl rfl rfl rfl rfl rfl rfl rfl rfl rfl ?_)) | (refine swb_act rfl rfl rfl (actOk_rd (K := []) (rdO_opR ttab_ok rfl (by exact True.intro)) rfl ?_))
      refine swb_done (by kernel_rfl) ?_
      refine SW.wk (wk_only [1, 2, 3, 5, 19, 20, 21] [(1, 1), (2, 2), (0, 0), (5, 5), (28000, 28000), (31, 31), (35, 35)] rfl rfl) ?_
      exact ?fk6
      first | (refine swb_act rfl rfl rfl (act_makeMap rfl rfl rfl rfl ?_)) | (refine swb_act rfl rfl rfl (act_box rfl rfl rfl rfl rfl rfl rfl ?_)) | (refine swb_act rfl rfl rfl (act_alloc ttab_ok rfl rfl rfl rfl rfl rfl ?_)) | (refine swb_act rfl rfl rfl (act_store ttab_ok rfl rfl rfl rfl rfl rfl rfl rfl rfl rfl ?_)) | (refine swb_act rfl rfl rfl (act_buildSlice ttab_ok rfl rfl rfl rfl rfl rfl rfl rfl rfl rfl rfl rfl ?_)) | (refine swb_act rfl rfl rfl (actOk_rd (K := []) (rdO_opR ttab_ok rfl (by exact True.intro)) rfl ?_))
      refine swb_fork1 3 (by kernel_rfl) ?_
      first | (refine swb_act rfl rfl rfl (act_makeMap rfl rfl rfl rfl ?_)) | (refine swb_act rfl rfl rfl (act_box rfl rfl rfl rfl rfl rfl rfl ?_)) | (refine swb_act rfl rfl rfl (act_alloc ttab_ok rfl rfl rfl rfl rfl rfl ?_)) | (refine swb_act rfl rfl rfl (act_store ttab_ok rfl rfl rfl rfl rfl rfl rfl rfl rfl rfl ?_)) | (refine swb_act rfl rfl rfl (act_buildSlice ttab_ok rfl rfl rfl rfl rfl rfl rfl rfl rfl rfl rfl rfl ?_)) | (refine swb_act rfl rfl rfl (actOk_rd (K := []) (rdO_opR ttab_ok rfl (by exact True.intro)) rfl ?_))
      refine swb_fork1 6 (by kernel_rfl) ?_
      refine swb_act rfl rfl rfl (act_append_row ttab_ok rfl rfl rfl rfl rfl rfl rfl rfl rfl rfl rfl rfl rfl rfl rfl rfl (by simp only [List.length_append, List.length_map, List.length_take, List.length_cons, List.length_nil]; unfold reachBytes; omega) (by simp only [List.length_append, List.length_map, List.length_take, List.length_cons, List.length_nil]; omega) ?_)
      refine swb_fork1 10 (by kernel_rfl) ?_
      refine swb_act rfl rfl rfl (act_append_row ttab_ok rfl rfl rfl rfl rfl rfl rfl rfl rfl rfl rfl rfl rfl rfl rfl rfl (by simp only [List.length_append, List.length_map, List.length_take, List.length_cons, List.length_nil]; unfold reachBytes; omega) (by simp only [List.length_append, List.length_map, List.length_take, List.length_cons, List.length_nil]; omega) ?_)
      refine swb_fork1 12 (by kernel_rfl) ?_
      first | (refine swb_act rfl rfl rfl (act_makeMap rfl rfl rfl rfl ?_)) | (refine swb_act rfl rfl rfl (act_box rfl rfl rfl rfl rfl rfl rfl ?_)) | (refine swb_act rfl rfl rfl (act_alloc ttab_ok rfl rfl rfl rfl rfl rfl ?_)) | (refine swb_act rfl rfl rfl (act_store ttab_ok rfl rfl rfl rfl rfl rfl rfl rfl rfl rfl ?_)) | (refine swb_act rfl rfl rfl (act_buildSlice ttab_ok rfl rfl rfl rfl rfl rfl rfl rfl rfl rfl rfl rfl ?_)) | (refine swb_act rfl rfl rfl (actOk_rd (K := []) (rdO_opR ttab_ok rfl (by exact True.intro)) rfl ?_))
      refine swb_rd (i := 13) (K := [28, 32]) (by kernel_rfl) (by kernel_rfl) rfl rfl (rdO_opR ttab_ok rfl (by exact True.intro)) rfl ?_
      refine swb_fork1 14 (by kernel_rfl) ?_
      first | (refine swb_act rfl rfl rfl (act_makeMap rfl rfl rfl rfl ?_)) | (refine swb_act rfl rfl rfl (act_box rfl rfl rfl rfl rfl rfl rfl ?_)) | (refine swb_act rfl rfl rfl (act_alloc ttab_ok rfl rfl rfl rfl rfl rfl ?_)) | (refine swb_act rfl rfl rfl (act_store ttab_ok rfl rfl rfl rfl rfl rfl rfl rfl rfl rfl ?_)) | (refine swb_act rfl rfl rfl (act_buildSlice ttab_ok rfl rfl rfl rfl rfl rfl rfl rfl rfl rfl rfl rfl ?_)) | (refine swb_act rfl rfl rfl (actOk_rd (K := []) (rdO_opR ttab_ok rfl (by exact True.intro)) rfl ?_))
      refine swb_rd (i := 15) (K := [28, 32]) (by kernel_rfl) (by kernel_rfl) rfl rfl (rdO_opR ttab_ok rfl (by exact True.intro)) rfl ?_
      refine swb_fork1 16 (by kernel_rfl) ?_
      first | (refine swb_act rfl rfl rfl (act_makeMap rfl rfl rfl rfl ?_)) | (refine swb_act rfl rfl rfl (act_box rfl rfl rfl rfl rfl rfl rfl ?_)) | (refine swb_act rfl rfl rfl (act_alloc ttab_ok rfl rfl rfl rfl rfl rfl ?_)) | (refine swb_act rfl rfl rfl (act_store ttab_ok rfl rfl rfl rfl rfl rfl rfl rfl rfl rfl ?_)) | (refine swb_act rfl rfl rfl (act_buildSlice ttab_ok rfl rfl rfl rfl rfl rfl rfl rfl rfl rfl rfl rfl ?_)) | (refine swb_act rfl rfl rfl (actOk_rd (K := []) (rdO_opR ttab_ok rfl (by exact True.intro)) rfl ?_))
      refine swb_done (by kernel_rfl) ?_
      refine SW.wk (wk_only [1, 2, 3, 5, 19, 20, 21] [(1, 1), (2, 2), (0, 0), (5, 5), (28000, 28000), (31, 31), (35, 35)] rfl rfl) ?_
      exact ?fk6
      first | (refine swb_act rfl rfl rfl (act_makeMap rfl rfl rfl rfl ?_)) | (refine swb_act rfl rfl rfl (act_box rfl rfl rfl rfl rfl rfl rfl ?_)) | (refine swb_act rfl rfl rfl (act_alloc ttab_ok rfl rfl rfl rfl rfl rfl ?_)) | (refine swb_act rfl rfl rfl (act_store ttab_ok rfl rfl rfl rfl rfl rfl rfl rfl rfl rfl ?_)) | (refine swb_act rfl rfl rfl (act_buildSlice ttab_ok rfl rfl rfl rfl rfl rfl rfl rfl rfl rfl rfl rfl ?_)) | (refine swb_act rfl rfl rfl (actOk_rd (K := []) (rdO_opR ttab_ok rfl (by exact True.intro)) rfl ?_))
      refine swb_fork2 2 7 (by kernel_rfl) ?_ ?_
      refine swb_act rfl rfl rfl (act_call rfl rfl rfl rfl (HT2) rfl rfl rfl ?_)
      refine swb_rd (i := 11) (K := [28, 32]) (by kernel_rfl) (by kernel_rfl) rfl rfl (rdO_opR ttab_ok rfl (by exact True.intro)) rfl ?_
      refine swb_fork2 6 7 (by kernel_rfl) ?_ ?_
      refine swb_act rfl rfl rfl (act_append_row ttab_ok rfl rfl rfl rfl rfl rfl rfl rfl rfl rfl rfl rfl rfl rfl rfl rfl (by simp only [List.length_append, List.length_map, List.length_take, List.length_cons, List.length_nil]; unfold reachBytes; omega) (by simp only [List.length_append, List.length_map, List.length_take, List.length_cons, List.length_nil]; omega) ?_)
      refine swb_fork1 7 (by kernel_rfl) ?_
      first | (refine swb_act rfl rfl rfl (act_makeMap rfl rfl rfl rfl ?_)) | (refine swb_act rfl rfl rfl (act_box rfl rfl rfl rfl rfl rfl rfl ?_)) | (refine swb_act rfl rfl rfl (act_alloc ttab_ok rfl rfl rfl rfl rfl rfl ?_)) | (refine swb_act rfl rfl rfl (act_store ttab_ok rfl rfl rfl rfl rfl rfl rfl rfl rfl rfl ?_)) | (refine swb_act rfl rfl rfl (act_buildSlice ttab_ok rfl rfl rfl rfl rfl rfl rfl rfl rfl rfl rfl rfl ?_)) | (refine swb_act rfl rfl rfl (actOk_rd (K := []) (rdO_opR ttab_ok rfl (by exact True.intro)) rfl ?_))
      refine swb_fork1 10 (by kernel_rfl) ?_
      refine swb_act rfl rfl rfl (act_append_row ttab_ok rfl rfl rfl rfl rfl rfl rfl rfl rfl rfl rfl rfl rfl rfl rfl rfl (by simp only [List.length_append, List.length_map, List.length_take, List.length_cons, List.length_nil]; unfold reachBytes; omega) (by simp only [List.length_append, List.length_map, List.length_take, List.length_cons, List.length_nil]; omega) ?_)
      refine swb_fork1 12 (by kernel_rfl) ?_
      first | (refine swb_act rfl rfl rfl (act_makeMap rfl rfl rfl rfl ?_)) | (refine swb_act rfl rfl rfl (act_box rfl rfl rfl rfl rfl rfl rfl ?_)) | (refine swb_act rfl rfl rfl (act_alloc ttab_ok rfl rfl rfl rfl rfl rfl ?_)) | (refine swb_act rfl rfl rfl (act_store ttab_ok rfl rfl rfl rfl rfl rfl rfl rfl rfl rfl ?_)) | (refine swb_act rfl rfl rfl (act_buildSlice ttab_ok rfl rfl rfl rfl rfl rfl rfl rfl rfl rfl rfl rfl ?_)) | (refine swb_act rfl rfl rfl (actOk_rd (K := []) (rdO_opR ttab_ok rfl (by exact True.intro)) rfl ?_))
      refine swb_rd (i := 13) (K := [28, 32]) (by kernel_rfl) (by kernel_rfl) rfl rfl (rdO_opR ttab_ok rfl (by exact True.intro)) rfl ?_
      refine swb_fork1 14 (by kernel_rfl) ?_
      first | (refine swb_act rfl rfl rfl (act_makeMap rfl rfl rfl rfl ?_)) | (refine swb_act rfl rfl rfl (act_box rfl rfl rfl rfl rfl rfl rfl ?_)) | (refine swb_act rfl rfl rfl (act_alloc ttab_ok rfl rfl rfl rfl rfl rfl ?_)) | (refine swb_act rfl rfl rfl (act_store ttab_ok rfl rfl rfl rfl rfl rfl rfl rfl rfl rfl ?_)) | (refine swb_act rfl rfl rfl (act_buildSlice ttab_ok rfl rfl rfl rfl rfl rfl rfl rfl rfl rfl rfl rfl ?_)) | (refine swb_act rfl rfl rfl (actOk_rd (K := []) (rdO_opR ttab_ok rfl (by exact True.intro)) rfl ?_))
      refine swb_rd (i := 15) (K := [28, 32]) (by kernel_rfl) (by kernel_rfl) rfl rfl (rdO_opR ttab_ok rfl (by exact True.intro)) rfl ?_
      refine swb_fork1 16 (by kernel_rfl) ?_
      first | (refine swb_act rfl rfl rfl (act_makeMap rfl rfl rfl rfl ?_)) | (refine swb_act rfl rfl rfl (act_box rfl rfl rfl rfl rfl rfl rfl ?_)) | (refine swb_act rfl rfl rfl (act_alloc ttab_ok rfl rfl rfl rfl rfl rfl ?_)) | (refine swb_act rfl rfl rfl (act_store ttab_ok rfl rfl rfl rfl rfl rfl rfl rfl rfl rfl ?_)) | (refine swb_act rfl rfl rfl (act_buildSlice ttab_ok rfl rfl rfl rfl rfl rfl rfl rfl rfl rfl rfl rfl ?_)) | (refine swb_act rfl rfl rfl (actOk_rd (K := []) (rdO_opR ttab_ok rfl (by exact True.intro)) rfl ?_))
      refine swb_done (by kernel_rfl) ?_
      refine SW.wk (wk_only [1, 2, 3, 5, 19, 20, 21] [(1, 1), (2, 2), (0, 0), (5, 5), (28000, 28000), (31, 31), (35, 35)] rfl rfl) ?_
      exact ?fk6
      first | (refine swb_act rfl rfl rfl (act_makeMap rfl rfl rfl rfl ?_)) | (refine swb_act rfl rfl rfl (act_box rfl rfl rfl rfl rfl rfl rfl ?_)) | (refine swb_act rfl rfl rfl (act_alloc ttab_ok rfl rfl rfl rfl rfl rfl ?_)) | (refine swb_act rfl rfl rfl (act_store ttab_ok rfl rfl rfl rfl rfl rfl rfl rfl rfl rfl ?_)) | (refine swb_act rfl rfl rfl (act_buildSlice ttab_ok rfl rfl rfl rfl rfl rfl rfl rfl rfl rfl rfl rfl ?_)) | (refine swb_act rfl rfl rfl (actOk_rd (K := []) (rdO_opR ttab_ok rfl (by exact True.intro)) rfl ?_))
      refine swb_fork1 6 (by kernel_rfl) ?_
      refine swb_act rfl rfl rfl (act_append_row ttab_ok rfl rfl rfl rfl rfl rfl rfl rfl rfl rfl rfl rfl rfl rfl rfl rfl (by simp only [List.length_append, List.length_map, List.length_take, List.length_cons, List.length_nil]; unfold reachBytes; omega) (by simp only [List.length_append, List.length_map, List.length_take, List.length_cons, List.length_nil]; omega) ?_)
      refine swb_fork1 10 (by kernel_rfl) ?_
      refine swb_act rfl rfl rfl (act_append_row ttab_ok rfl rfl rfl rfl rfl rfl rfl rfl rfl rfl rfl rfl rfl rfl rfl rfl (by simp only [List.length_append, List.length_map, List.length_take, List.length_cons, List.length_nil]; unfold reachBytes; omega) (by simp only [List.length_append, List.length_map, List.length_take, List.length_cons, List.length_nil]; omega) ?_)
      refine swb_fork1 12 (by kernel_rfl) ?_
      first | (refine swb_act rfl rfl rfl (act_makeMap rfl rfl rfl rfl ?_)) | (refine swb_act rfl rfl rfl (act_box rfl rfl rfl rfl rfl rfl rfl ?_)) | (refine swb_act rfl rfl rfl (act_alloc ttab_ok rfl rfl rfl rfl rfl rfl ?_)) | (refine swb_act rfl rfl rfl (act_store ttab_ok rfl rfl rfl rfl rfl rfl rfl rfl rfl rfl ?_)) | (refine swb_act rfl rfl rfl (act_buildSlice ttab_ok rfl rfl rfl rfl rfl rfl rfl rfl rfl rfl rfl rfl ?_)) | (refine swb_act rfl rfl rfl (actOk_rd (K := []) (rdO_opR ttab_ok rfl (by exact True.intro)) rfl ?_))
      refine swb_rd (i := 13) (K := [28, 32]) (by kernel_rfl) (by kernel_rfl) rfl rfl (rdO_opR ttab_ok rfl (by exact True.intro)) rfl ?_
      refine swb_fork1 14 (by kernel_rfl) ?_
      first | (refine swb_act rfl rfl rfl (act_makeMap rfl rfl rfl rfl ?_)) | (refine swb_act rfl rfl rfl (act_box rfl rfl rfl rfl rfl rfl rfl ?_)) | (refine swb_act rfl rfl rfl (act_alloc ttab_ok rfl rfl rfl rfl rfl rfl ?_)) | (refine swb_act rfl rfl rfl (act_store ttab_ok rfl rfl rfl rfl rfl rfl rfl rfl rfl rfl ?_)) | (refine swb_act rfl rfl rfl (act_buildSlice ttab_ok rfl rfl rfl rfl rfl rfl rfl rfl rfl rfl rfl rfl ?_)) | (refine swb_act rfl rfl rfl (actOk_rd (K := []) (rdO_opR ttab_ok rfl (by exact True.intro)) rfl ?_))
      refine swb_rd (i := 15) (K := [28, 32]) (by kernel_rfl) (by kernel_rfl) rfl rfl (rdO_opR ttab_ok rfl (by exact True.intro)) rfl ?_
      refine swb_fork1 16 (by kernel_rfl) ?_
      first | (refine swb_act rfl rfl rfl (act_makeMap rfl rfl rfl rfl ?_)) | (refine swb_act rfl rfl rfl (act_box rfl rfl rfl rfl rfl rfl rfl ?_)) | (refine swb_act rfl rfl rfl (act_alloc ttab_ok rfl rfl rfl rfl rfl rfl ?_)) | (refine swb_act rfl rfl rfl (act_store ttab_ok rfl rfl rfl rfl rfl rfl rfl rfl rfl rfl ?_)) | (refine swb_act rfl rfl rfl (act_buildSlice ttab_ok rfl rfl rfl rfl rfl rfl rfl rfl rfl rfl rfl rfl ?_)) | (refine swb_act rfl rfl rfl (actOk_rd (K := []) (rdO_opR ttab_ok rfl (by exact True.intro)) rfl ?_))
      refine swb_done (by kernel_rfl) ?_
      refine SW.wk (wk_only [1, 2, 3, 5, 19, 20, 21] [(1, 1), (2, 2), (0, 0), (5, 5), (28000, 28000), (31, 31), (35, 35)] rfl rfl) ?_
      exact ?fk6
      first | (refine swb_act rfl rfl rfl (act_makeMap rfl rfl rfl rfl ?_)) | (refine swb_act rfl rfl rfl (act_box rfl rfl rfl rfl rfl rfl rfl ?_)) | (refine swb_act rfl rfl rfl (act_alloc ttab_ok rfl rfl rfl rfl rfl rfl ?_)) | (refine swb_act rfl rfl rfl (act_store ttab_ok rfl rfl rfl rfl rfl rfl rfl rfl rfl rfl ?_)) | (refine swb_act rfl rfl rfl (act_buildSlice ttab_ok rfl rfl rfl rfl rfl rfl rfl rfl rfl rfl rfl rfl ?_)) | (refine swb_act rfl rfl rfl (actOk_rd (K := []) (rdO_opR ttab_ok rfl (by exact True.intro)) rfl ?_))
      refine swb_fork1 2 (by kernel_rfl) ?_
      refine swb_act rfl rfl rfl (act_call rfl rfl rfl rfl (HT2) rfl rfl rfl ?_)
      refine swb_rd (i := 11) (K := [28, 32]) (by kernel_rfl) (by kernel_rfl) rfl rfl (rdO_opR ttab_ok rfl (by exact True.intro)) rfl ?_
      refine swb_fork1 6 (by kernel_rfl) ?_
      refine swb_act rfl rfl rfl (act_append_row ttab_ok rfl rfl rfl rfl rfl rfl rfl rfl rfl rfl rfl rfl rfl rfl rfl rfl (by simp only [List.length_append, List.length_map, List.length_take, List.length_cons, List.length_nil]; unfold reachBytes; omega) (by simp only [List.length_append, List.length_map, List.length_take, List.length_cons, List.length_nil]; omega) ?_)
      refine swb_fork1 10 (by kernel_rfl) ?_
      refine swb_act rfl rfl rfl (act_append_row ttab_ok rfl rfl rfl rfl rfl rfl rfl rfl rfl rfl rfl rfl rfl rfl rfl rfl (by simp only [List.length_append, List.length_map, List.length_take, List.length_cons, List.length_nil]; unfold reachBytes; omega) (by simp only [List.length_append, List.length_map, List.length_take, List.length_cons, List.length_nil]; omega) ?_)
      refine swb_fork1 12 (by kernel_rfl) ?_
      first | (refine swb_act rfl rfl rfl (act_makeMap rfl rfl rfl rfl ?_)) | (refine swb_act rfl rfl rfl (act_box rfl rfl rfl rfl rfl rfl rfl ?_)) | (refine swb_act rfl rfl rfl (act_alloc ttab_ok rfl rfl rfl rfl rfl rfl ?_)) | (refine swb_act rfl rfl rfl (act_store ttab_ok rfl rfl rfl rfl rfl rfl rfl rfl rfl rfl ?_)) | (refine swb_act rfl rfl rfl (act_buildSlice ttab_ok rfl rfl rfl rfl rfl rfl rfl rfl rfl rfl rfl rfl ?_)) | (refine swb_act rfl rfl rfl (actOk_rd (K := []) (rdO_opR ttab_ok rfl (by exact True.intro)) rfl ?_))
      refine swb_rd (i := 13) (K := [28, 32]) (by kernel_rfl) (by kernel_rfl) rfl rfl (rdO_opR ttab_ok rfl (by exact True.intro)) rfl ?_
      refine swb_fork1 14 (by kernel_rfl) ?_
      first | (refine swb_act rfl rfl rfl (act_makeMap rfl rfl rfl rfl ?_)) | (refine swb_act rfl rfl rfl (act_box rfl rfl rfl rfl rfl rfl rfl ?_)) | (refine swb_act rfl rfl rfl (act_alloc ttab_ok rfl rfl rfl rfl rfl rfl ?_)) | (refine swb_act rfl rfl rfl (act_store ttab_ok rfl rfl rfl rfl rfl rfl rfl rfl rfl rfl ?_)) | (refine swb_act rfl rfl rfl (act_buildSlice ttab_ok rfl rfl rfl rfl rfl rfl rfl rfl rfl rfl rfl rfl ?_)) | (refine swb_act rfl rfl rfl (actOk_rd (K := []) (rdO_opR ttab_ok rfl (by exact True.intro)) rfl ?_))
      refine swb_rd (i := 15) (K := [28, 32]) (by kernel_rfl) (by kernel_rfl) rfl rfl (rdO_opR ttab_ok rfl (by exact True.intro)) rfl ?_
      refine swb_fork1 16 (by kernel_rfl) ?_
      first | (refine swb_act rfl rfl rfl (act_makeMap rfl rfl rfl rfl ?_)) | (refine swb_act rfl rfl rfl (act_box rfl rfl rfl rfl rfl rfl rfl ?_)) | (refine swb_act rfl rfl rfl (act_alloc ttab_ok rfl rfl rfl rfl rfl rfl ?_)) | (refine swb_act rfl rfl rfl (act_store ttab_ok rfl rfl rfl rfl rfl rfl rfl rfl rfl rfl ?_)) | (refine swb_act rfl rfl rfl (act_buildSlice ttab_ok rfl rfl rfl rfl rfl rfl rfl rfl rfl rfl rfl rfl ?_)) | (refine swb_act rfl rfl rfl (actOk_rd (K := []) (rdO_opR ttab_ok rfl (by exact True.intro)) rfl ?_))
      refine swb_done (by kernel_rfl) ?_
      refine SW.wk (wk_only [1, 2, 3, 5, 19, 20, 21] [(1, 1), (2, 2), (0, 0), (5, 5), (28000, 28000), (31, 31), (35, 35)] rfl rfl) ?_
      exact ?fk6
      first | (refine swb_act rfl rfl rfl (act_makeMap rfl rfl rfl rfl ?_)) | (refine swb_act rfl rfl rfl (act_box rfl rfl rfl rfl rfl rfl rfl ?_)) | (refine swb_act rfl rfl rfl (act_alloc ttab_ok rfl rfl rfl rfl rfl rfl ?_)) | (refine swb_act rfl rfl rfl (act_store ttab_ok rfl rfl rfl rfl rfl rfl rfl rfl rfl rfl ?_)) | (refine swb_act rfl rfl rfl (act_buildSlice ttab_ok rfl rfl rfl rfl rfl rfl rfl rfl rfl rfl rfl rfl ?_)) | (refine swb_act rfl rfl rfl (actOk_rd (K := []) (rdO_opR ttab_ok rfl (by exact True.intro)) rfl ?_))
      refine swb_fork2 2 3 (by kernel_rfl) ?_ ?_
      refine swb_act rfl rfl rfl (act_call rfl rfl rfl rfl (HT2) rfl rfl rfl ?_)
      refine swb_rd (i := 11) (K := [28, 32]) (by kernel_rfl) (by kernel_rfl) rfl rfl (rdO_opR ttab_ok rfl (by exact True.intro)) rfl ?_
      refine swb_fork1 3 (by kernel_rfl) ?_
      first | (refine swb_act rfl rfl rfl (act_makeMap rfl rfl rfl rfl ?_)) | (refine swb_act rfl rfl rfl (act_box rfl rfl rfl rfl rfl rfl rfl ?_)) | (refine swb_act rfl rfl rfl (act_alloc ttab_ok rfl rfl rfl rfl rfl rfl ?_)) | (refine swb_act rfl rfl rfl (act_store ttab_ok rfl rfl rfl rfl rfl rfl rfl rfl rfl rfl ?_)) | (refine swb_act rfl rfl rfl (act_buildSlice ttab_ok rfl rfl rfl rfl rfl rfl rfl rfl rfl rfl rfl rfl ?_)) | (refine swb_act rfl rfl rfl (actOk_rd (K := []) (rdO_opR ttab_ok rfl (by exact True.intro)) rfl ?_))
      refine swb_fork1 6 (by kernel_rfl) ?_
      refine swb_act rfl rfl rfl (act_append_row ttab_ok rfl rfl rfl rfl rfl rfl rfl rfl rfl rfl rfl rfl rfl rfl rfl rfl (by simp only [List.length_append, List.length_map, List.length_take, List.length_cons, List.length_nil]; unfold reachBytes; omega) (by simp only [List.length_append, List.length_map, List.length_take, List.length_cons, List.length_nil]; omega) ?_)
      refine swb_fork1 10 (by kernel_rfl) ?_
      refine swb_act rfl rfl rfl (act_append_row ttab_ok rfl rfl rfl rfl rfl rfl rfl rfl rfl rfl rfl rfl rfl rfl rfl rfl (by simp only [List.length_append, List.length_map, List.length_take, List.length_cons, List.length_nil]; unfold reachBytes; omega) (by simp only [List.length_append, List.length_map, List.length_take, List.length_cons, List.length_nil]; omega) ?_)
      refine swb_fork1 12 (by kernel_rfl) ?_
      first | (refine swb_act rfl rfl rfl (act_makeMap rfl rfl rfl rfl ?_)) | (refine swb_act rfl rfl rfl (act_box rfl rfl rfl rfl rfl rfl rfl ?_)) | (refine swb_act rfl rfl rfl (act_alloc ttab_ok rfl rfl rfl rfl rfl rfl ?_)) | (refine swb_act rfl rfl rfl (act_store ttab_ok rfl rfl rfl rfl rfl rfl rfl rfl rfl rfl ?_)) | (refine swb_act rfl rfl rfl (act_buildSlice ttab_ok rfl rfl rfl rfl rfl rfl rfl rfl rfl rfl rfl rfl ?_)) | (refine swb_act rfl rfl rfl (actOk_rd (K := []) (rdO_opR ttab_ok rfl (by exact True.intro)) rfl ?_))
      refine swb_rd (i := 13) (K := [28, 32]) (by kernel_rfl) (by kernel_rfl) rfl rfl (rdO_opR ttab_ok rfl (by exact True.intro)) rfl ?_
      refine swb_fork1 14 (by kernel_rfl) ?_
      first | (refine swb_act rfl rfl rfl (act_makeMap rfl rfl rfl rfl ?_)) | (refine swb_act rfl rfl rfl (act_box rfl rfl rfl rfl rfl rfl rfl ?_)) | (refine swb_act rfl rfl rfl (act_alloc ttab_ok rfl rfl rfl rfl rfl rfl ?_)) | (refine swb_act rfl rfl rfl (act_store ttab_ok rfl rfl rfl rfl rfl rfl rfl rfl rfl rfl ?_)) | (refine swb_act rfl rfl rfl (act_buildSlice ttab_ok rfl rfl rfl rfl rfl rfl rfl rfl rfl rfl rfl rfl ?_)) | (refine swb_act rfl rfl rfl (actOk_rd (K := []) (rdO_opR ttab_ok rfl (by exact True.intro)) rfl ?_))
      refine swb_rd (i := 15) (K := [28, 32]) (by kernel_rfl) (by kernel_rfl) rfl rfl (rdO_opR ttab_ok rfl (by exact True.intro)) rfl ?_
      refine swb_fork1 16 (by kernel_rfl) ?_
      first | (refine swb_act rfl rfl rfl (act_makeMap rfl rfl rfl rfl ?_)) | (refine swb_act rfl rfl rfl (act_box rfl rfl rfl rfl rfl rfl rfl ?_)) | (refine swb_act rfl rfl rfl (act_alloc ttab_ok rfl rfl rfl rfl rfl rfl ?_)) | (refine swb_act rfl rfl rfl (act_store ttab_ok rfl rfl rfl rfl rfl rfl rfl rfl rfl rfl ?_)) | (refine swb_act rfl rfl rfl (act_buildSlice ttab_ok rfl rfl rfl rfl rfl rfl rfl rfl rfl rfl rfl rfl ?_)) | (refine swb_act rfl rfl rfl (actOk_rd (K := []) (rdO_opR ttab_ok rfl (by exact True.intro)) rfl ?_))
      refine swb_done (by kernel_rfl) ?_
      refine SW.wk (wk_only [1, 2, 3, 5, 19, 20, 21] [(1, 1), (2, 2), (0, 0), (5, 5), (28000, 28000), (31, 31), (35, 35)] rfl rfl) ?_
      exact ?fk6
      first | (refine swb_act rfl rfl rfl (act_makeMap rfl rfl rfl rfl ?_)) | (refine swb_act rfl rfl rfl (act_box rfl rfl rfl rfl rfl rfl rfl ?_)) | (refine swb_act rfl rfl rfl (act_alloc ttab_ok rfl rfl rfl rfl rfl rfl ?_)) | (refine swb_act rfl rfl rfl (act_store ttab_ok rfl rfl rfl rfl rfl rfl rfl rfl rfl rfl ?_)) | (refine swb_act rfl rfl rfl (act_buildSlice ttab_ok rfl rfl rfl rfl rfl rfl rfl rfl rfl rfl rfl rfl ?_)) | (refine swb_act rfl rfl rfl (actOk_rd (K := []) (rdO_opR ttab_ok rfl (by exact True.intro)) rfl ?_))
      refine swb_fork1 2 (by kernel_rfl) ?_
      refine swb_act rfl rfl rfl (act_call rfl rfl rfl rfl (HT2) rfl rfl rfl ?_)
      refine swb_rd (i := 11) (K := [28, 32]) (by kernel_rfl) (by kernel_rfl) rfl rfl (rdO_opR ttab_ok rfl (by exact True.intro)) rfl ?_
      refine swb_fork1 6 (by kernel_rfl) ?_
      refine swb_act rfl rfl rfl (act_append_row ttab_ok rfl rfl rfl rfl rfl rfl rfl rfl rfl rfl rfl rfl rfl rfl rfl rfl (by simp only [List.length_append, List.length_map, List.length_take, List.length_cons, List.length_nil]; unfold reachBytes; omega) (by simp only [List.length_append, List.length_map, List.length_take, List.length_cons, List.length_nil]; omega) ?_)
      refine swb_fork1 10 (by kernel_rfl) ?_
      refine swb_act rfl rfl rfl (act_append_row ttab_ok rfl rfl rfl rfl rfl rfl rfl rfl rfl rfl rfl rfl rfl rfl rfl rfl (by simp only [List.length_append, List.length_map, List.length_take, List.length_cons, List.length_nil]; unfold reachBytes; omega) (by simp only [List.length_append, List.length_map, List.length_take, List.length_cons, List.length_nil]; omega) ?_)
      refine swb_fork1 12 (by kernel_rfl) ?_
      first | (refine swb_act rfl rfl rfl (act_makeMap rfl rfl rfl rfl ?_)) | (refine swb_act rfl rfl rfl (act_box rfl rfl rfl rfl rfl rfl rfl ?_)) | (refine swb_act rfl rfl rfl (act_alloc ttab_ok rfl rfl rfl rfl rfl rfl ?_)) | (refine swb_act rfl rfl rfl (act_store ttab_ok rfl rfl rfl rfl rfl rfl rfl rfl rfl rfl ?_)) | (refine swb_act rfl rfl rfl (act_buildSlice ttab_ok rfl rfl rfl rfl rfl rfl rfl rfl rfl rfl rfl rfl ?_)) | (refine swb_act rfl rfl rfl (actOk_rd (K := []) (rdO_opR ttab_ok rfl (by exact True.intro)) rfl ?_))
      refine swb_rd (i := 13) (K := [28, 32]) (by kernel_rfl) (by kernel_rfl) rfl rfl (rdO_opR ttab_ok rfl (by exact True.intro)) rfl ?_
      refine swb_fork1 14 (by kernel_rfl) ?_
      first | (refine swb_act rfl rfl rfl (act_makeMap rfl rfl rfl rfl ?_)) | (refine swb_act rfl rfl rfl (act_box rfl rfl rfl rfl rfl rfl rfl ?_)) | (refine swb_act rfl rfl rfl (act_alloc ttab_ok rfl rfl rfl rfl rfl rfl ?_)) | (refine swb_act rfl rfl rfl (act_store ttab_ok rfl rfl rfl rfl rfl rfl rfl rfl rfl rfl ?_)) | (refine swb_act rfl rfl rfl (act_buildSlice ttab_ok rfl rfl rfl rfl rfl rfl rfl rfl rfl rfl rfl rfl ?_)) | (refine swb_act rfl rfl rfl (actOk_rd (K := []) (rdO_opR ttab_ok rfl (by exact True.intro)) rfl ?_))
      refine swb_rd (i := 15) (K := [28, 32]) (by kernel_rfl) (by kernel_rfl) rfl rfl (rdO_opR ttab_ok rfl (by exact True.intro)) rfl ?_
      refine swb_fork1 16 (by kernel_rfl) ?_
      first | (refine swb_act rfl rfl rfl (act_makeMap rfl rfl rfl rfl ?_)) | (refine swb_act rfl rfl rfl (act_box rfl rfl rfl rfl rfl rfl rfl ?_)) | (refine swb_act rfl rfl rfl (act_alloc ttab_ok rfl rfl rfl rfl rfl rfl ?_)) | (refine swb_act rfl rfl rfl (act_store ttab_ok rfl rfl rfl rfl rfl rfl rfl rfl rfl rfl ?_)) | (refine swb_act rfl rfl rfl (act_buildSlice ttab_ok rfl rfl rfl rfl rfl rfl rfl rfl rfl rfl rfl rfl ?_)) | (refine swb_act rfl rfl rfl (actOk_rd (K := []) (rdO_opR ttab_ok rfl (by exact True.intro)) rfl ?_))
      refine swb_done (by kernel_rfl) ?_
      refine SW.wk (wk_only [1, 2, 3, 5, 19, 20, 21] [(1, 1), (2, 2), (0, 0), (5, 5), (28000, 28000), (31, 31), (35, 35)] rfl rfl) ?_
      exact ?fk6
      refine SW.wk ((wk_frz (k := 28000) rfl).trans ((wk_frz (k := 31) rfl).trans (wk_frz (k := 35) rfl))) ?_
      refine SW.wk (wk_only [1, 2, 3, 5, 19, 20, 21] [(1, 1), (2, 2), (0, 0), (5, 5)] rfl rfl) ?_
      change SW _ _ _ ⟨62, [(1, .ptr 1 0), (2, .ptr 2 0), (3, .row 0), (5, .ptr 5 0), (19, .p (.sl 5 (p.rules.map ruleP))), (20, .p (pI (p.rules.map ruleP).length)), (21, .p (pI k))], [(1, .cells [.p (pS p.id), .p (pB p.set), .p (pI p.alg), .p (tgtP p.target), .p (.sl 5 (p.rules.map ruleP)), .p (.sl 7 (p.kids.map polP)), .p (oblsP p.obls)]), (2, .cells [.p (pS ⟨#[]⟩), .p (pB false), .p (pI 0), .p nilV, .p nilV, .p nilV, .p nilV]), (0, .row 78 5 ((p.rules.take k).map ruleP)), (5, .cells ((ruleP x).map .p))]⟩
      (repeat refine sw_seq ?_); refine sw_region ?_
      repeat (first | refine sR (h := ?_) | refine sK (h := ?_) | refine sT (h := aM (h := ?_)) | refine sT (h := aB (h := ?_)) | refine sT (h := aA (h := ?_)) | refine sT (h := aS (h := ?_)) | refine sT (h := aL (h := ?_)))
      refine swt_act rfl (act_append_row ttab_ok rfl rfl rfl rfl rfl rfl rfl rfl rfl rfl rfl rfl rfl rfl rfl rfl (by simp only [List.length_append, List.length_map, List.length_take, List.length_cons, List.length_nil]; unfold reachBytes; omega) (by simp only [List.length_append, List.length_map, List.length_take, List.length_cons, List.length_nil]; omega) ?_)
      repeat (first | refine sR (h := ?_) | refine sK (h := ?_) | refine sT (h := aM (h := ?_)) | refine sT (h := aB (h := ?_)) | refine sT (h := aA (h := ?_)) | refine sT (h := aS (h := ?_)) | refine sT (h := aL (h := ?_)))
      refine swt_nil ?_
      (repeat refine sw_seq ?_); refine sw_region ?_
      repeat (first | refine sR (h := ?_) | refine sK (h := ?_) | refine sT (h := aM (h := ?_)) | refine sT (h := aB (h := ?_)) | refine sT (h := aA (h := ?_)) | refine sT (h := aS (h := ?_)) | refine sT (h := aL (h := ?_)))
      refine swt_nil ?_
      refine ⟨_, _, ?_, wk_only [1, 2, 3, 19, 20, 21] [(1, 1), (2, 2), (42, 0)] rfl rfl, k + 1, _, hlt', rfl, wrap_succ hlt' (by omega), ?_⟩
      · omega
      · rw [List.take_succ_eq_append_getElem hlt', List.map_append, ← hx]; rfl
    · refine sw_exit ?_
      rw [l1] at hlt
      simp only [decide_eq_false_iff_not] at hlt
      have hkk : k = p.rules.length := by omega
      subst hkk
      rw [List.take_length]
      (repeat refine sw_seq ?_); refine sw_region ?_
      repeat (first | refine sR (h := ?_) | refine sK (h := ?_) | refine sT (h := aM (h := ?_)) | refine sT (h := aB (h := ?_)) | refine sT (h := aA (h := ?_)) | refine sT (h := aS (h := ?_)) | refine sT (h := aL (h := ?_)))
      refine swt_nil ?_
      (repeat refine sw_seq ?_); refine sw_region ?_
      repeat (first | refine sR (h := ?_) | refine sK (h := ?_) | refine sT (h := aM (h := ?_)) | refine sT (h := aB (h := ?_)) | refine sT (h := aA (h := ?_)) | refine sT (h := aS (h := ?_)) | refine sT (h := aL (h := ?_)))
      refine swt_nil ?_
      (repeat refine sw_seq ?_); refine sw_block ?_
      refine SW.wk (wk_nil 6 900 64 7 rfl rfl) ?_
      refine SW.wk (wk_only [1, 2, 3, 6, 45, 46, 47] [(1, 1), (2, 2), (0, 0), (900, 3)] rfl rfl) ?_
      refine sw_loop (fun m s => ∃ (k : Nat) (kk : Int), k ≤ p.kids.length ∧ m = p.kids.length - k ∧ kk = k ∧ s = ⟨62, [(1, .ptr 1 0), (2, .ptr 2 0), (3, .row 0), (6, .row 3), (45, .p (.sl 7 (p.kids.map polP))), (46, .p (pI (p.kids.map polP).length)), (47, .p (pI kk))], [(1, .cells [.p (pS p.id), .p (pB p.set), .p (pI p.alg), .p (tgtP p.target), .p (.sl 5 (p.rules.map ruleP)), .p (.sl 7 (p.kids.map polP)), .p (oblsP p.obls)]), (2, .cells [.p (pS ⟨#[]⟩), .p (pB false), .p (pI 0), .p nilV, .p nilV, .p nilV, .p nilV]), (0, .row 78 5 (p.rules.map ruleP)), (3, .row 64 7 ((p.kids.take k).map polP))]⟩) p.kids.length ⟨0, 0, Nat.zero_le _, rfl, rfl, rfl⟩ ?_
      rintro m s ⟨k, _, hk', rfl, rfl, rfl⟩
      (repeat refine sw_seq ?_); refine sw_region ?_
      repeat (first | refine sR (h := ?_) | refine sK (h := ?_) | refine sT (h := aM (h := ?_)) | refine sT (h := aB (h := ?_)) | refine sT (h := aA (h := ?_)) | refine sT (h := aS (h := ?_)) | refine sT (h := aL (h := ?_)))
      refine swt_nil ?_
      (repeat refine sw_seq ?_); refine sw_cond rfl (fun hlt => ?_) (fun hlt => ?_)
      · refine sw_skip ?_
        rw [l2] at hlt
        simp only [decide_eq_true_eq] at hlt
        have hlt' : k < p.kids.length := by omega
        have H2 := IH _ (List.getElem_mem hlt')
        obtain ⟨x, hx⟩ : ∃ x, x = p.kids[k] := ⟨_, rfl⟩
        rw [← hx, polP_eq] at H2
        (repeat refine sw_seq ?_); refine sw_block ?_
        (repeat refine sw_seq ?_); refine sw_region ?_
        repeat (first | refine sR (h := ?_) | refine sK (h := ?_) | refine sT (h := aM (h := ?_)) | refine sT (h := aB (h := ?_)) | refine sT (h := aA (h := ?_)) | refine sT (h := aS (h := ?_)) | refine sT (h := aL (h := ?_)))
        refine swt_read ttab_ok rfl rfl (by rw [l2]; omega) rfl ?_
        rw [getD_map hlt', ← hx, polP_eq x]
        repeat (first | refine sR (h := ?_) | refine sK (h := ?_) | refine sT (h := aM (h := ?_)) | refine sT (h := aB (h := ?_)) | refine sT (h := aA (h := ?_)) | refine sT (h := aS (h := ?_)) | refine sT (h := aL (h := ?_)))
        refine swt_nil ?_
        (repeat refine sw_seq ?_); refine sw_region ?_
        repeat (first | refine sR (h := ?_) | refine sK (h := ?_) | refine sT (h := aM (h := ?_)) | refine sT (h := aB (h := ?_)) | refine sT (h := aA (h := ?_)) | refine sT (h := aS (h := ?_)) | refine sT (h := aL (h := ?_)))
        refine swt_act rfl (act_call rfl rfl rfl rfl (H2) rfl rfl rfl ?_)
        repeat (first | refine sR (h := ?_) | refine sK (h := ?_) | refine sT (h := aM (h := ?_)) | refine sT (h := aB (h := ?_)) | refine sT (h := aA (h := ?_)) | refine sT (h := aS (h := ?_)) | refine sT (h := aL (h := ?_)))
        refine SWT.wk ((wk_frz (k := 54000) rfl).trans (wk_frz (k := 54001) rfl)) ?_
        repeat (first | refine sR (h := ?_) | refine sK (h := ?_) | refine sT (h := aM (h := ?_)) | refine sT (h := aB (h := ?_)) | refine sT (h := aA (h := ?_)) | refine sT (h := aS (h := ?_)) | refine sT (h := aL (h := ?_)))
        refine swt_act rfl (act_append_row ttab_ok rfl rfl rfl rfl rfl rfl rfl rfl rfl rfl rfl rfl rfl rfl rfl rfl (by simp only [List.length_append, List.length_map, List.length_take, List.length_cons, List.length_nil]; unfold reachBytes; omega) (by simp only [List.length_append, List.length_map, List.length_take, List.length_cons, List.length_nil]; omega) ?_)
        repeat (first | refine sR (h := ?_) | refine sK (h := ?_) | refine sT (h := aM (h := ?_)) | refine sT (h := aB (h := ?_)) | refine sT (h := aA (h := ?_)) | refine sT (h := aS (h := ?_)) | refine sT (h := aL (h := ?_)))
        refine swt_nil ?_
        (repeat refine sw_seq ?_); refine sw_region ?_
        repeat (first | refine sR (h := ?_) | refine sK (h := ?_) | refine sT (h := aM (h := ?_)) | refine sT (h := aB (h := ?_)) | refine sT (h := aA (h := ?_)) | refine sT (h := aS (h := ?_)) | refine sT (h := aL (h := ?_)))
        refine swt_nil ?_
        refine ⟨_, _, ?_, wk_only [1, 2, 3, 6, 45, 46, 47] [(1, 1), (2, 2), (0, 0), (55, 3)] rfl rfl, k + 1, _, hlt', rfl, wrap_succ hlt' (by omega), ?_⟩
        · omega
        · have e : (p.kids.take (k + 1)).map polP = (p.kids.take k).map polP ++ [[pS x.id, pB x.set, pI x.alg, tgtP x.target, .sl 5 (x.rules.map ruleP), .sl 7 (x.kids.map polP), oblsP x.obls]] := by
            rw [List.take_succ_eq_append_getElem hlt', List.map_append, ← hx]
            exact congrArg (fun q => (p.kids.take k).map polP ++ [q]) (polP_eq x)
          rw [e]; rfl
      · refine sw_exit ?_
        rw [l2] at hlt
        simp only [decide_eq_false_iff_not] at hlt
        have hkk : k = p.kids.length := by omega
        subst hkk
        rw [List.take_length]
        (repeat refine sw_seq ?_); refine sw_region ?_
        repeat (first | refine sR (h := ?_) | refine sK (h := ?_) | refine sT (h := aM (h := ?_)) | refine sT (h := aB (h := ?_)) | refine sT (h := aA (h := ?_)) | refine sT (h := aS (h := ?_)) | refine sT (h := aL (h := ?_)))
        refine swt_nil ?_
        (repeat refine sw_seq ?_); refine sw_region ?_
        repeat (first | refine sR (h := ?_) | refine sK (h := ?_) | refine sT (h := aM (h := ?_)) | refine sT (h := aB (h := ?_)) | refine sT (h := aA (h := ?_)) | refine sT (h := aS (h := ?_)) | refine sT (h := aL (h := ?_)))
        refine swt_nil ?_
        (repeat refine sw_seq ?_); refine sw_ret ?_
        exact ⟨Or.inr rfl, _, _, [(0, 0), (3, 1)], _, Wk.refl _, rfl, rfl, .refl _, rfl, rfl⟩
theorem copy_h : ∀ (n : Nat), CopyOk n
  | 0 => fun _ h => h.elim
  | n + 1 => copy_step n (copy_h n)
end Go.Proofs.Ytjpcchipejmocaa
