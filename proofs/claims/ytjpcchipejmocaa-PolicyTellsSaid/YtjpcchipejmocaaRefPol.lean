/-
  The document's own answer to chapter 8: a policy (bailiffref7.seen.policy, RightPolicy), by shades.
-/
import Derived.Test.YtjpcchipejmocaaSh
import Derived.Test.YtjpcchipejmocaaRefSeen
import Derived.Test.YtjpcchipejmocaaRefExpr
import Derived.Test.YtjpcchipejmocaaCopyH
namespace Go.Proofs.Ytjpcchipejmocaa
set_option linter.unusedVariables false
set_option linter.unusedSimpArgs false
open Go.RowKit
set_option maxHeartbeats 4000000
theorem ruleS_len (w : Wlk) (r : Rul) : (ruleS w r).2.met.length ≤ w.met.length + 1 := by
  unfold ruleS
  split
  · simp
  · simp
theorem nameM_len (m : List ByteArray) (s : ByteArray) : (nameM m s).length ≤ m.length + 1 := by
  unfold nameM
  split <;> simp
theorem seqS_len {α : Type} {f : Wlk → α → Int × Wlk} {c : α → Nat} (hf : ∀ w x, (f w x).2.met.length ≤ w.met.length + c x) : ∀ (l : List α) (w : Wlk), (seqS f w l).2.met.length ≤ w.met.length + sumBy c l
  | [], w => by simp [seqS, sumBy]
  | x :: r, w => by
    have h1 := hf w x
    have h2 : sumBy c (x :: r) = c x + sumBy c r := by simp [sumBy]
    rw [seqS, h2]
    by_cases h0 : (f w x).1 = 0
    · rw [if_pos h0]
      have := seqS_len hf r (f w x).2
      omega
    · rw [if_neg h0]; omega
theorem polS_len : ∀ (n : Nat) (w : Wlk) (p : Pol), (polS n w p).2.met.length ≤ w.met.length + p.sz
  | 0, w, p => by rw [polS]; simp
  | n + 1, w, p => by
    have h0 := Pol.sz_eq p
    have h1 : (headS w p).2.met.length ≤ w.met.length + 1 := nameM_len w.met p.id
    have h2 := seqS_len (f := ruleS) (c := fun _ => 1) ruleS_len p.rules (headS w p).2
    rw [sumBy_one] at h2
    have h3 := seqS_len (f := polS n) (c := Pol.sz) (fun w x => polS_len n w x) p.kids (seqS ruleS (headS w p).2 p.rules).2
    rw [polS]
    split
    · split
      · omega
      · omega
    · omega
def RefPolOk (n : Nat) : Prop := ∀ (w : Wlk) (p : Pol), lim w → PolFit n p → p.sz ≤ 3000 → w.met.length + p.sz ≤ 1000000 →
  HoldsW Try.prog 60 [.ptr 1000000 0, .p (.agg (polP p)), .p (pI (5 - n))] (seenO 1000001 w) (.p (pI (polS n w p).1)) (seenO 0 (polS n w p).2)
theorem tarL_reach {t : Tar} (h : TarL t) : ∀ x ∈ t, x.length ≤ reachBytes ∧ ∀ y ∈ x, y.length ≤ reachBytes := fun x hx => by
  have h1 := h.2 x hx
  unfold reachBytes
  exact ⟨by omega, fun y hy => by have := h1.2 y hy; omega⟩
theorem refPol_zero : RefPolOk 0 := by
  intro w p _ _ _ _
  rw [polP_eq]
  refine holdsW_of (ts := [6]) Try.func60 (by kernel_rfl) rfl rfl rfl ?_
  (repeat refine sw_seq ?_); refine sw_region ?_
  repeat (first | refine sR (h := ?_) | refine sK (h := ?_) | refine sT (h := aM (h := ?_)) | refine sT (h := aB (h := ?_)) | refine sT (h := aA (h := ?_)) | refine sT (h := aS (h := ?_)) | refine sT (h := aL (h := ?_)))
  refine swt_nil ?_
  (repeat refine sw_seq ?_); refine sw_region ?_
  repeat (first | refine sR (h := ?_) | refine sK (h := ?_) | refine sT (h := aM (h := ?_)) | refine sT (h := aB (h := ?_)) | refine sT (h := aA (h := ?_)) | refine sT (h := aS (h := ?_)) | refine sT (h := aL (h := ?_)))
  refine swt_nil ?_
  (repeat refine sw_seq ?_); refine sw_cond rfl (fun h => ?_) (fun h => ?_)
  · (repeat refine sw_seq ?_); refine sw_region ?_
    repeat (first | refine sR (h := ?_) | refine sK (h := ?_) | refine sT (h := aM (h := ?_)) | refine sT (h := aB (h := ?_)) | refine sT (h := aA (h := ?_)) | refine sT (h := aS (h := ?_)) | refine sT (h := aL (h := ?_)))
    refine swt_nil ?_
    (repeat refine sw_seq ?_); refine sw_ret ?_
    exact ⟨Or.inr rfl, _, _, [(1000000, 1000000), (1000001, 0)], Wk.refl _, rfl, rfl, rfl, rfl⟩
  · cases h
theorem refPol_head {w : Wlk} {id : ByteArray} {set : Bool} {alg : Int} {tg : Tar} {rules : List Rul} {kids : List Pol} {obls : List Obli} (hn : nameOk w.met id = true) (h1 : ¬ alg < 1) (h2 : ¬ 6 < alg) : headS w (.mk id set alg tg rules kids obls) = (headE (.mk id set alg tg rules kids obls), ⟨w.met ++ [id], w.rules⟩) := by
  have hc : (nameOk w.met id && decide (1 ≤ alg) && decide (alg ≤ 6)) = true := by rw [hn]; simp; omega
  have hm : nameM w.met id = w.met ++ [id] := by simp [nameM, hn]
  refine Prod.ext (if_pos hc) ?_
  show (⟨nameM w.met id, w.rules⟩ : Wlk) = _
  rw [hm]
theorem refPol_bad {w : Wlk} {id : ByteArray} {set : Bool} {alg : Int} {tg : Tar} {rules : List Rul} {kids : List Pol} {obls : List Obli} (h : nameOk w.met id = false ∨ ¬ (1 ≤ alg ∧ alg ≤ 6)) : (headS w (.mk id set alg tg rules kids obls)).1 = 1 := by
  have hc : ¬ (nameOk w.met id && decide (1 ≤ alg) && decide (alg ≤ 6)) = true := by
    intro hx
    simp only [Bool.and_eq_true, decide_eq_true_eq] at hx
    rcases h with h | h
    · rw [h] at hx; cases hx.1.1
    · exact h ⟨hx.1.2, hx.2⟩
  exact if_neg hc
theorem refPol_step (n : Nat) (hn4 : n + 1 ≤ 4) (IH : RefPolOk n) : RefPolOk (n + 1) := by
  rintro w ⟨id, set, alg, tg, rules, kids, obls⟩ hw hf hsz hmm
  obtain ⟨ht, hr, hk, ho, hru, hks⟩ := sz_facts hsz (Nat.le_refl _)
  simp only [Pol.target, Pol.rules, Pol.kids, Pol.obls] at ht hr hk ho hru hks
  have hfid : id.size ≤ reachBytes := hf.1.id
  have hft : TarFit tg := hf.1.tgt
  have hfr : ∀ r ∈ rules, RulFit r := hf.1.rules
  have hfo : ∀ o ∈ obls, o.Fit := hf.1.obls
  have hfk : ∀ k ∈ kids, PolFit n k := hf.2
  have H := refId_h w.met w.rules id hfid (by omega)
  have T := refTarget_h tg hft (tarL_reach ht)
  have O := refObls_h obls hfo
  have l1 : ((rules.map ruleP).length) = rules.length := by simp
  have l2 : ((kids.map polP).length) = kids.length := by simp
  have key : ∀ c : Int, (headS w (.mk id set alg tg rules kids obls)).1 = c → c ≠ 0 → polS (n + 1) w (.mk id set alg tg rules kids obls) = (c, ⟨nameM w.met id, w.rules⟩) := fun c h1 h2 => by
    rw [polS, if_neg (by rw [h1]; exact h2)]
    exact Prod.ext h1 rfl
  rw [polP_eq]
  simp only [Pol.id, Pol.set, Pol.alg, Pol.target, Pol.rules, Pol.kids, Pol.obls]
  refine holdsW_of (ts := [6]) Try.func60 (by kernel_rfl) rfl rfl rfl ?_
  (repeat refine sw_seq ?_); refine sw_region ?_
  repeat (first | refine sR (h := ?_) | refine sK (h := ?_) | refine sT (h := aM (h := ?_)) | refine sT (h := aB (h := ?_)) | refine sT (h := aA (h := ?_)) | refine sT (h := aS (h := ?_)) | refine sT (h := aL (h := ?_)))
  refine swt_nil ?_
  (repeat refine sw_seq ?_); refine sw_region ?_
  repeat (first | refine sR (h := ?_) | refine sK (h := ?_) | refine sT (h := aM (h := ?_)) | refine sT (h := aB (h := ?_)) | refine sT (h := aA (h := ?_)) | refine sT (h := aS (h := ?_)) | refine sT (h := aL (h := ?_)))
  refine swt_nil ?_
  (repeat refine sw_seq ?_); refine sw_cond rfl (fun hdp => ?_) (fun hdp => ?_)
  · exfalso
    simp at hdp
    omega
  refine sw_skip ?_
  (repeat refine sw_seq ?_); refine sw_region ?_
  repeat (first | refine sR (h := ?_) | refine sK (h := ?_) | refine sT (h := aM (h := ?_)) | refine sT (h := aB (h := ?_)) | refine sT (h := aA (h := ?_)) | refine sT (h := aS (h := ?_)) | refine sT (h := aL (h := ?_)))
  refine swt_act rfl (act_call_W [(1000000, 1000000), (1000001, 1000001)] rfl rfl rfl rfl rfl rfl (H) rfl rfl rfl ?_)
  repeat (first | refine sR (h := ?_) | refine sK (h := ?_) | refine sT (h := aM (h := ?_)) | refine sT (h := aB (h := ?_)) | refine sT (h := aA (h := ?_)) | refine sT (h := aS (h := ?_)) | refine sT (h := aL (h := ?_)))
  cases hnm : nameOk w.met id with
  | false =>
    repeat (first | refine sR (h := ?_) | refine sK (h := ?_) | refine sT (h := aM (h := ?_)) | refine sT (h := aB (h := ?_)) | refine sT (h := aA (h := ?_)) | refine sT (h := aS (h := ?_)) | refine sT (h := aL (h := ?_)))
    refine swt_nil ?_
    (repeat refine sw_seq ?_); refine sw_cond rfl (fun hz => ?_) (fun hz => ?_)
    rotate_left
    · cases hz
    (repeat refine sw_seq ?_); refine sw_region ?_
    repeat (first | refine sR (h := ?_) | refine sK (h := ?_) | refine sT (h := aM (h := ?_)) | refine sT (h := aB (h := ?_)) | refine sT (h := aA (h := ?_)) | refine sT (h := aS (h := ?_)) | refine sT (h := aL (h := ?_)))
    refine swt_nil ?_
    (repeat refine sw_seq ?_); refine sw_ret ?_
    rw [key 1 (refPol_bad (.inl hnm)) (by decide)]
    exact ⟨Or.inr rfl, _, _, [(1000000, 1000000), (23000, 0)], Wk.refl _, rfl, rfl, rfl, rfl⟩
  | true =>
    repeat (first | refine sR (h := ?_) | refine sK (h := ?_) | refine sT (h := aM (h := ?_)) | refine sT (h := aB (h := ?_)) | refine sT (h := aA (h := ?_)) | refine sT (h := aS (h := ?_)) | refine sT (h := aL (h := ?_)))
    by_cases ha1 : alg < 1
    · rw [show decide (alg < 1) = true from decide_eq_true ha1]
      repeat (first | refine sR (h := ?_) | refine sK (h := ?_) | refine sT (h := aM (h := ?_)) | refine sT (h := aB (h := ?_)) | refine sT (h := aA (h := ?_)) | refine sT (h := aS (h := ?_)) | refine sT (h := aL (h := ?_)))
      refine swt_nil ?_
      (repeat refine sw_seq ?_); refine sw_cond rfl (fun hz => ?_) (fun hz => ?_)
      rotate_left
      · cases hz
      (repeat refine sw_seq ?_); refine sw_region ?_
      repeat (first | refine sR (h := ?_) | refine sK (h := ?_) | refine sT (h := aM (h := ?_)) | refine sT (h := aB (h := ?_)) | refine sT (h := aA (h := ?_)) | refine sT (h := aS (h := ?_)) | refine sT (h := aL (h := ?_)))
      refine swt_nil ?_
      (repeat refine sw_seq ?_); refine sw_ret ?_
      rw [key 1 (refPol_bad (.inr (by omega))) (by decide)]
      exact ⟨Or.inr rfl, _, _, [(1000000, 1000000), (23000, 0)], Wk.refl _, rfl, rfl, rfl, rfl⟩
    rw [show decide (alg < 1) = false from decide_eq_false ha1]
    repeat (first | refine sR (h := ?_) | refine sK (h := ?_) | refine sT (h := aM (h := ?_)) | refine sT (h := aB (h := ?_)) | refine sT (h := aA (h := ?_)) | refine sT (h := aS (h := ?_)) | refine sT (h := aL (h := ?_)))
    by_cases ha2 : 6 < alg
    · rw [show decide (alg > 6) = true from decide_eq_true ha2]
      repeat (first | refine sR (h := ?_) | refine sK (h := ?_) | refine sT (h := aM (h := ?_)) | refine sT (h := aB (h := ?_)) | refine sT (h := aA (h := ?_)) | refine sT (h := aS (h := ?_)) | refine sT (h := aL (h := ?_)))
      refine swt_nil ?_
      (repeat refine sw_seq ?_); refine sw_cond rfl (fun hz => ?_) (fun hz => ?_)
      rotate_left
      · cases hz
      (repeat refine sw_seq ?_); refine sw_region ?_
      repeat (first | refine sR (h := ?_) | refine sK (h := ?_) | refine sT (h := aM (h := ?_)) | refine sT (h := aB (h := ?_)) | refine sT (h := aA (h := ?_)) | refine sT (h := aS (h := ?_)) | refine sT (h := aL (h := ?_)))
      refine swt_nil ?_
      (repeat refine sw_seq ?_); refine sw_ret ?_
      rw [key 1 (refPol_bad (.inr (by omega))) (by decide)]
      exact ⟨Or.inr rfl, _, _, [(1000000, 1000000), (23000, 0)], Wk.refl _, rfl, rfl, rfl, rfl⟩
    rw [show decide (alg > 6) = false from decide_eq_false ha2]
    have eh := refPol_head (set := set) (tg := tg) (rules := rules) (kids := kids) (obls := obls) hnm ha1 ha2
    cases set with
    | true =>
      repeat (first | refine sR (h := ?_) | refine sK (h := ?_) | refine sT (h := aM (h := ?_)) | refine sT (h := aB (h := ?_)) | refine sT (h := aA (h := ?_)) | refine sT (h := aS (h := ?_)) | refine sT (h := aL (h := ?_)))
      by_cases hrl : 0 < rules.length
      · rw [l1, show decide ((rules.length : Int) > 0) = true from decide_eq_true (by omega)]
        repeat (first | refine sR (h := ?_) | refine sK (h := ?_) | refine sT (h := aM (h := ?_)) | refine sT (h := aB (h := ?_)) | refine sT (h := aA (h := ?_)) | refine sT (h := aS (h := ?_)) | refine sT (h := aL (h := ?_)))
        refine swt_nil ?_
        (repeat refine sw_seq ?_); refine sw_cond rfl (fun hz => ?_) (fun hz => ?_)
        rotate_left
        · cases hz
        (repeat refine sw_seq ?_); refine sw_region ?_
        repeat (first | refine sR (h := ?_) | refine sK (h := ?_) | refine sT (h := aM (h := ?_)) | refine sT (h := aB (h := ?_)) | refine sT (h := aA (h := ?_)) | refine sT (h := aS (h := ?_)) | refine sT (h := aL (h := ?_)))
        refine swt_nil ?_
        (repeat refine sw_seq ?_); refine sw_ret ?_
        rw [key 1 (by rw [eh]; unfold headE; rw [if_pos (by simp [Pol.set, Pol.rules, hrl])]) (by decide)]
        exact ⟨Or.inr rfl, _, _, [(1000000, 1000000), (23000, 0)], Wk.refl _, rfl, rfl, rfl, rfl⟩
      rw [l1, show decide ((rules.length : Int) > 0) = false from decide_eq_false (by omega)]
      have hE : headE (.mk id true alg tg rules kids obls) = if targetS tg = 0 then (if oblsS obls = 0 then (if 16 < rules.length ∨ 16 < kids.length then 6 else 0) else oblsS obls) else targetS tg := by
        unfold headE
        rw [if_neg (by simp [Pol.set, Pol.rules, hrl])]; rfl
      repeat (first | refine sR (h := ?_) | refine sK (h := ?_) | refine sT (h := aM (h := ?_)) | refine sT (h := aB (h := ?_)) | refine sT (h := aA (h := ?_)) | refine sT (h := aS (h := ?_)) | refine sT (h := aL (h := ?_)))
      refine swt_nil ?_
      (repeat refine sw_seq ?_); refine sw_cond rfl (fun hz => ?_) (fun hz => ?_)
      · cases hz
      refine sw_skip ?_
      refine SW.wk (wk_only [0, 2, 4] [(1000000, 1000000), (23000, 7), (4, 4)] rfl rfl) ?_
      have hP : ∀ c : Int, headE (.mk id true alg tg rules kids obls) = c → c ≠ 0 → polS (n + 1) w (.mk id true alg tg rules kids obls) = (c, ⟨w.met ++ [id], w.rules⟩) := fun c h1 h2 => by
        rw [key c (by rw [eh, h1]) h2]
        simp only [nameM, hnm, if_true]
      have eM : nameM w.met id = w.met ++ [id] := by simp only [nameM, hnm, if_true]
      rw [eM]
      (repeat refine sw_seq ?_); refine sw_region ?_
      repeat (first | refine sR (h := ?_) | refine sK (h := ?_) | refine sT (h := aM (h := ?_)) | refine sT (h := aB (h := ?_)) | refine sT (h := aA (h := ?_)) | refine sT (h := aS (h := ?_)) | refine sT (h := aL (h := ?_)))
      refine swt_act rfl (act_call_flat rfl rfl rfl rfl (T) rfl rfl ?_)
      repeat (first | refine sR (h := ?_) | refine sK (h := ?_) | refine sT (h := aM (h := ?_)) | refine sT (h := aB (h := ?_)) | refine sT (h := aA (h := ?_)) | refine sT (h := aS (h := ?_)) | refine sT (h := aL (h := ?_)))
      refine swt_nil ?_
      (repeat refine sw_seq ?_); refine sw_region ?_
      repeat (first | refine sR (h := ?_) | refine sK (h := ?_) | refine sT (h := aM (h := ?_)) | refine sT (h := aB (h := ?_)) | refine sT (h := aA (h := ?_)) | refine sT (h := aS (h := ?_)) | refine sT (h := aL (h := ?_)))
      refine swt_nil ?_
      (repeat refine sw_seq ?_); refine sw_cond rfl (fun h3 => ?_) (fun h3 => ?_)
      · have h3' : ¬ targetS tg = 0 := by simpa using h3
        (repeat refine sw_seq ?_); refine sw_region ?_
        repeat (first | refine sR (h := ?_) | refine sK (h := ?_) | refine sT (h := aM (h := ?_)) | refine sT (h := aB (h := ?_)) | refine sT (h := aA (h := ?_)) | refine sT (h := aS (h := ?_)) | refine sT (h := aL (h := ?_)))
        refine swt_nil ?_
        (repeat refine sw_seq ?_); refine sw_ret ?_
        rw [hP (targetS tg) (by rw [hE, if_neg h3']) h3']
        exact ⟨Or.inr rfl, _, _, [(1000000, 1000000), (7, 0)], Wk.refl _, rfl, rfl, rfl, rfl⟩
      have h3' : targetS tg = 0 := by simpa using h3
      rw [if_pos h3'] at hE
      refine sw_skip ?_
      (repeat refine sw_seq ?_); refine sw_region ?_
      repeat (first | refine sR (h := ?_) | refine sK (h := ?_) | refine sT (h := aM (h := ?_)) | refine sT (h := aB (h := ?_)) | refine sT (h := aA (h := ?_)) | refine sT (h := aS (h := ?_)) | refine sT (h := aL (h := ?_)))
      refine swt_act rfl (act_call_flat rfl rfl rfl rfl (O) rfl rfl ?_)
      repeat (first | refine sR (h := ?_) | refine sK (h := ?_) | refine sT (h := aM (h := ?_)) | refine sT (h := aB (h := ?_)) | refine sT (h := aA (h := ?_)) | refine sT (h := aS (h := ?_)) | refine sT (h := aL (h := ?_)))
      refine swt_nil ?_
      (repeat refine sw_seq ?_); refine sw_region ?_
      repeat (first | refine sR (h := ?_) | refine sK (h := ?_) | refine sT (h := aM (h := ?_)) | refine sT (h := aB (h := ?_)) | refine sT (h := aA (h := ?_)) | refine sT (h := aS (h := ?_)) | refine sT (h := aL (h := ?_)))
      refine swt_nil ?_
      (repeat refine sw_seq ?_); refine sw_cond rfl (fun h4 => ?_) (fun h4 => ?_)
      · have h4' : ¬ oblsS obls = 0 := by simpa using h4
        (repeat refine sw_seq ?_); refine sw_region ?_
        repeat (first | refine sR (h := ?_) | refine sK (h := ?_) | refine sT (h := aM (h := ?_)) | refine sT (h := aB (h := ?_)) | refine sT (h := aA (h := ?_)) | refine sT (h := aS (h := ?_)) | refine sT (h := aL (h := ?_)))
        refine swt_nil ?_
        (repeat refine sw_seq ?_); refine sw_ret ?_
        rw [hP (oblsS obls) (by rw [hE, if_neg h4']) h4']
        exact ⟨Or.inr rfl, _, _, [(1000000, 1000000), (7, 0)], Wk.refl _, rfl, rfl, rfl, rfl⟩
      have h4' : oblsS obls = 0 := by simpa using h4
      rw [if_pos h4'] at hE
      refine sw_skip ?_
      (repeat refine sw_seq ?_); refine sw_region_spec (by kernel_rfl) ?_
      repeat (refine sws_read ttab_ok rfl (by exact True.intro) rfl ?_)
      refine sws_nil ?_
      rw [l1, l2]
      (repeat refine sw_seq ?_); refine sw_cond rfl (fun h5 => ?_) (fun h5 => ?_)
      · have h5' : 16 < rules.length ∨ 16 < kids.length := by simp at h5; omega
        (repeat refine sw_seq ?_); refine sw_region ?_
        repeat (first | refine sR (h := ?_) | refine sK (h := ?_) | refine sT (h := aM (h := ?_)) | refine sT (h := aB (h := ?_)) | refine sT (h := aA (h := ?_)) | refine sT (h := aS (h := ?_)) | refine sT (h := aL (h := ?_)))
        refine swt_nil ?_
        (repeat refine sw_seq ?_); refine sw_ret ?_
        rw [hP 6 (by rw [hE, if_pos h5']) (by decide)]
        exact ⟨Or.inr rfl, _, _, [(1000000, 1000000), (7, 0)], Wk.refl _, rfl, rfl, rfl, rfl⟩
      have h5' : ¬ (16 < rules.length ∨ 16 < kids.length) := by simp at h5; omega
      rw [if_neg h5'] at hE
      have e1 : (headS w (.mk id true alg tg rules kids obls)).1 = 0 := by rw [eh, hE]
      have hP2 : polS (n + 1) w (.mk id true alg tg rules kids obls) = if (seqS ruleS ⟨w.met ++ [id], w.rules⟩ rules).1 = 0 then seqS (polS n) (seqS ruleS ⟨w.met ++ [id], w.rules⟩ rules).2 kids else seqS ruleS ⟨w.met ++ [id], w.rules⟩ rules := by
        rw [polS, if_pos e1, eh]; rfl
      rw [hP2]
      clear hP hP2 key
      have hw1 : lim (⟨w.met ++ [id], w.rules⟩ : Wlk) := hw
      have hm1 : (⟨w.met ++ [id], w.rules⟩ : Wlk).met.length ≤ w.met.length + 1 := by simp
      have hb0 := Pol.sz_eq (.mk id true alg tg rules kids obls)
      simp only [Pol.rules, Pol.kids, Pol.id, Pol.target, Pol.obls] at hb0
      generalize (⟨w.met ++ [id], w.rules⟩ : Wlk) = w1 at *
      refine sw_skip ?_
      refine SW.wk (wk_only [0, 2, 4] [(1000000, 1000000), (7, 7), (4, 4)] rfl rfl) ?_
      change SW _ _ _ ⟨141, [(0, .ptr 1000000 0), (2, .p (pI (5 - (n + 1 : Nat)))), (4, .ptr 4 0)], seenO 7 w1 ++ [(4, .cells [.p (pS id), .p (pB true), .p (pI alg), .p (tgtP tg), .p (.sl 5 (rules.map ruleP)), .p (.sl 7 (kids.map polP)), .p (oblsP obls)])]⟩
      (repeat refine sw_seq ?_); refine sw_region ?_
      repeat (first | refine sR (h := ?_) | refine sK (h := ?_) | refine sT (h := aM (h := ?_)) | refine sT (h := aB (h := ?_)) | refine sT (h := aA (h := ?_)) | refine sT (h := aS (h := ?_)) | refine sT (h := aL (h := ?_)))
      refine swt_nil ?_
      (repeat refine sw_seq ?_); refine sw_block ?_
      refine SW.wk (wk_only [0, 2, 4, 83, 84, 85] [(1000000, 1000000), (7, 7), (4, 4)] rfl rfl) ?_
      refine sw_loop (fun m s => ∃ (k : Nat) (kk : Int) (wk : Wlk), k ≤ rules.length ∧ m = rules.length - k ∧ kk = k ∧ (seqS ruleS w1 (rules.take k)).1 = 0 ∧ wk = (seqS ruleS w1 (rules.take k)).2 ∧
        s = ⟨141, [(0, .ptr 1000000 0), (2, .p (pI (5 - (n + 1 : Nat)))), (4, .ptr 4 0), (83, .p (.sl 5 (rules.map ruleP))), (84, .p (pI (rules.map ruleP).length)), (85, .p (pI kk))], seenO 7 wk ++ [(4, .cells [.p (pS id), .p (pB true), .p (pI alg), .p (tgtP tg), .p (.sl 5 (rules.map ruleP)), .p (.sl 7 (kids.map polP)), .p (oblsP obls)])]⟩) rules.length ⟨0, 0, w1, Nat.zero_le _, rfl, rfl, rfl, rfl, rfl⟩ ?_
      rintro m s ⟨k, _, wk, hk', rfl, rfl, ha, hwk, rfl⟩
      have hlk : lim wk := by rw [hwk]; exact seqS_lim (P := lim) (fun w x hw h => ruleS_lim hw h) hw1 ha
      have hmk : wk.met.length ≤ w1.met.length + k := by
        rw [hwk]
        have := seqS_len (f := ruleS) (c := fun _ => 1) ruleS_len (rules.take k) w1
        rw [sumBy_one, List.length_take] at this
        omega
      have hlim := hlk
      obtain ⟨hlk1, hlk2⟩ := hlk
      (repeat refine sw_seq ?_); refine sw_region ?_
      repeat (first | refine sR (h := ?_) | refine sK (h := ?_) | refine sT (h := aM (h := ?_)) | refine sT (h := aB (h := ?_)) | refine sT (h := aA (h := ?_)) | refine sT (h := aS (h := ?_)) | refine sT (h := aL (h := ?_)))
      refine swt_nil ?_
      (repeat refine sw_seq ?_); refine sw_cond rfl (fun hlt => ?_) (fun hlt => ?_)
      · refine sw_skip ?_
        rw [l1] at hlt
        simp only [decide_eq_true_eq] at hlt
        have hlt' : k < rules.length := by omega
        have hst := seqS_some hlt' ha
        rw [← hwk] at hst
        obtain ⟨r, hre⟩ : ∃ r, r = rules[k] := ⟨_, rfl⟩
        have hrf := hfr _ (List.getElem_mem hlt')
        have hrl := hru _ (List.getElem_mem hlt')
        rw [← hre] at hst hrf hrl
        have HI := refId_h wk.met wk.rules r.id hrf.id (by omega)
        have HT := refTarget_h r.target hrf.tgt (tarL_reach hrl.1)
        have HX := refExpr_h r.cond hrf.cond (by omega)
        have HO := refObls_h r.obls hrf.obls
        have fail : ∀ c : Int, ∀ w' : Wlk, ruleS wk r = (c, w') → c ≠ 0 → seqS ruleS w1 rules = (c, w') := fun c w' h1 h2 => by
          rw [seqS_stop (k + 1) (by rw [hst, h1]; exact h2), hst, h1]
        (repeat refine sw_seq ?_); refine sw_block ?_
        (repeat refine sw_seq ?_); refine sw_region ?_
        repeat (first | refine sR (h := ?_) | refine sK (h := ?_) | refine sT (h := aM (h := ?_)) | refine sT (h := aB (h := ?_)) | refine sT (h := aA (h := ?_)) | refine sT (h := aS (h := ?_)) | refine sT (h := aL (h := ?_)))
        refine swt_read ttab_ok rfl rfl (by rw [l1]; omega) rfl ?_
        rw [getD_map hlt', ← hre]
        repeat (first | refine sR (h := ?_) | refine sK (h := ?_) | refine sT (h := aM (h := ?_)) | refine sT (h := aB (h := ?_)) | refine sT (h := aA (h := ?_)) | refine sT (h := aS (h := ?_)) | refine sT (h := aL (h := ?_)))
        refine swt_nil ?_
        (repeat refine sw_seq ?_); refine sw_region ?_
        repeat (first | refine sR (h := ?_) | refine sK (h := ?_) | refine sT (h := aM (h := ?_)) | refine sT (h := aB (h := ?_)) | refine sT (h := aA (h := ?_)) | refine sT (h := aS (h := ?_)) | refine sT (h := aL (h := ?_)))
        refine swt_act rfl (act_call_W [(1000000, 1000000), (7, 1000001)] rfl rfl rfl rfl rfl rfl (HI) rfl rfl rfl ?_)
        repeat (first | refine sR (h := ?_) | refine sK (h := ?_) | refine sT (h := aM (h := ?_)) | refine sT (h := aB (h := ?_)) | refine sT (h := aA (h := ?_)) | refine sT (h := aS (h := ?_)) | refine sT (h := aL (h := ?_)))
        refine swt_nil ?_
        (repeat refine sw_seq ?_); refine sw_cond rfl (fun hb => ?_) (fun hb => ?_)
        · have hb' : nameOk wk.met r.id = false := by simpa using hb
          (repeat refine sw_seq ?_); refine sw_region ?_
          repeat (first | refine sR (h := ?_) | refine sK (h := ?_) | refine sT (h := aM (h := ?_)) | refine sT (h := aB (h := ?_)) | refine sT (h := aA (h := ?_)) | refine sT (h := aS (h := ?_)) | refine sT (h := aL (h := ?_)))
          refine swt_nil ?_
          (repeat refine sw_seq ?_); refine sw_ret ?_
          have e3 := fail 1 wk (by unfold ruleS; rw [if_neg (by rw [hb']; simp)]) (by decide)
          rw [e3, if_neg (show ¬ (1 : Int) = 0 by decide), show nameM wk.met r.id = wk.met by simp [nameM, hb']]
          exact ⟨Or.inr rfl, _, _, [(1000000, 1000000), (93000, 0)], Wk.refl _, rfl, rfl, rfl, rfl⟩
        have hb' : nameOk wk.met r.id = true := by simpa using hb
        rw [show nameM wk.met r.id = wk.met ++ [r.id] by simp [nameM, hb']]
        have eR : ruleS wk r = (if 64 < wk.rules + 1 then 6 else ruleE r, ⟨wk.met ++ [r.id], wk.rules + 1⟩) := by unfold ruleS; rw [if_pos hb']
        refine sw_skip ?_
        (repeat refine sw_seq ?_); refine sw_region ?_
        repeat (first | refine sR (h := ?_) | refine sK (h := ?_) | refine sT (h := aM (h := ?_)) | refine sT (h := aB (h := ?_)) | refine sT (h := aA (h := ?_)) | refine sT (h := aS (h := ?_)) | refine sT (h := aL (h := ?_)))
        refine swt_nil ?_
        rw [show IntKind.i64.wrap (wk.rules + 1) = wk.rules + 1 from IntWalk.i64_in _ (by omega)]
        (repeat refine sw_seq ?_); refine sw_region ?_
        repeat (first | refine sR (h := ?_) | refine sK (h := ?_) | refine sT (h := aM (h := ?_)) | refine sT (h := aB (h := ?_)) | refine sT (h := aA (h := ?_)) | refine sT (h := aS (h := ?_)) | refine sT (h := aL (h := ?_)))
        refine swt_nil ?_
        (repeat refine sw_seq ?_); refine sw_cond rfl (fun h6 => ?_) (fun h6 => ?_)
        · have h6' : 64 < wk.rules + 1 := by simp at h6; omega
          (repeat refine sw_seq ?_); refine sw_region ?_
          repeat (first | refine sR (h := ?_) | refine sK (h := ?_) | refine sT (h := aM (h := ?_)) | refine sT (h := aB (h := ?_)) | refine sT (h := aA (h := ?_)) | refine sT (h := aS (h := ?_)) | refine sT (h := aL (h := ?_)))
          refine swt_nil ?_
          (repeat refine sw_seq ?_); refine sw_ret ?_
          rw [if_pos h6'] at eR
          rw [fail 6 _ eR (by decide), if_neg (show ¬ (6 : Int) = 0 by decide)]
          exact ⟨Or.inr rfl, _, _, [(1000000, 1000000), (93000, 0)], Wk.refl _, rfl, rfl, rfl, rfl⟩
        have h6' : ¬ 64 < wk.rules + 1 := by simp at h6; omega
        rw [if_neg h6'] at eR
        refine sw_skip ?_
        (repeat refine sw_seq ?_); refine sw_region ?_
        repeat (first | refine sR (h := ?_) | refine sK (h := ?_) | refine sT (h := aM (h := ?_)) | refine sT (h := aB (h := ?_)) | refine sT (h := aA (h := ?_)) | refine sT (h := aS (h := ?_)) | refine sT (h := aL (h := ?_)))
        refine swt_act rfl (act_call_flat rfl rfl rfl rfl (HT) rfl rfl ?_)
        repeat (first | refine sR (h := ?_) | refine sK (h := ?_) | refine sT (h := aM (h := ?_)) | refine sT (h := aB (h := ?_)) | refine sT (h := aA (h := ?_)) | refine sT (h := aS (h := ?_)) | refine sT (h := aL (h := ?_)))
        refine swt_nil ?_
        (repeat refine sw_seq ?_); refine sw_region ?_
        repeat (first | refine sR (h := ?_) | refine sK (h := ?_) | refine sT (h := aM (h := ?_)) | refine sT (h := aB (h := ?_)) | refine sT (h := aA (h := ?_)) | refine sT (h := aS (h := ?_)) | refine sT (h := aL (h := ?_)))
        refine swt_nil ?_
        (repeat refine sw_seq ?_); refine sw_cond rfl (fun h7 => ?_) (fun h7 => ?_)
        · have h7' : ¬ targetS r.target = 0 := by simpa using h7
          (repeat refine sw_seq ?_); refine sw_region ?_
          repeat (first | refine sR (h := ?_) | refine sK (h := ?_) | refine sT (h := aM (h := ?_)) | refine sT (h := aB (h := ?_)) | refine sT (h := aA (h := ?_)) | refine sT (h := aS (h := ?_)) | refine sT (h := aL (h := ?_)))
          refine swt_nil ?_
          (repeat refine sw_seq ?_); refine sw_ret ?_
          have eE : ruleE r = targetS r.target := by unfold ruleE; rw [if_neg h7']
          rw [eE] at eR
          rw [fail _ _ eR h7', if_neg h7']
          exact ⟨Or.inr rfl, _, _, [(1000000, 1000000), (93000, 0)], Wk.refl _, rfl, rfl, rfl, rfl⟩
        have h7' : targetS r.target = 0 := by simpa using h7
        refine sw_skip ?_
        (repeat refine sw_seq ?_); refine sw_region ?_
        repeat (first | refine sR (h := ?_) | refine sK (h := ?_) | refine sT (h := aM (h := ?_)) | refine sT (h := aB (h := ?_)) | refine sT (h := aA (h := ?_)) | refine sT (h := aS (h := ?_)) | refine sT (h := aL (h := ?_)))
        refine swt_act rfl (act_call_flat rfl rfl rfl rfl (HX) rfl rfl ?_)
        repeat (first | refine sR (h := ?_) | refine sK (h := ?_) | refine sT (h := aM (h := ?_)) | refine sT (h := aB (h := ?_)) | refine sT (h := aA (h := ?_)) | refine sT (h := aS (h := ?_)) | refine sT (h := aL (h := ?_)))
        refine swt_nil ?_
        (repeat refine sw_seq ?_); refine sw_region ?_
        repeat (first | refine sR (h := ?_) | refine sK (h := ?_) | refine sT (h := aM (h := ?_)) | refine sT (h := aB (h := ?_)) | refine sT (h := aA (h := ?_)) | refine sT (h := aS (h := ?_)) | refine sT (h := aL (h := ?_)))
        refine swt_nil ?_
        (repeat refine sw_seq ?_); refine sw_cond rfl (fun h8 => ?_) (fun h8 => ?_)
        · have h8' : ¬ exprS r.cond = 0 := by simpa using h8
          (repeat refine sw_seq ?_); refine sw_region ?_
          repeat (first | refine sR (h := ?_) | refine sK (h := ?_) | refine sT (h := aM (h := ?_)) | refine sT (h := aB (h := ?_)) | refine sT (h := aA (h := ?_)) | refine sT (h := aS (h := ?_)) | refine sT (h := aL (h := ?_)))
          refine swt_nil ?_
          (repeat refine sw_seq ?_); refine sw_ret ?_
          have eE : ruleE r = exprS r.cond := by unfold ruleE; rw [if_pos h7', if_neg h8']
          rw [eE] at eR
          rw [fail _ _ eR h8', if_neg h8']
          exact ⟨Or.inr rfl, _, _, [(1000000, 1000000), (93000, 0)], Wk.refl _, rfl, rfl, rfl, rfl⟩
        have h8' : exprS r.cond = 0 := by simpa using h8
        refine sw_skip ?_
        (repeat refine sw_seq ?_); refine sw_region ?_
        repeat (first | refine sR (h := ?_) | refine sK (h := ?_) | refine sT (h := aM (h := ?_)) | refine sT (h := aB (h := ?_)) | refine sT (h := aA (h := ?_)) | refine sT (h := aS (h := ?_)) | refine sT (h := aL (h := ?_)))
        refine swt_act rfl (act_call_flat rfl rfl rfl rfl (HO) rfl rfl ?_)
        repeat (first | refine sR (h := ?_) | refine sK (h := ?_) | refine sT (h := aM (h := ?_)) | refine sT (h := aB (h := ?_)) | refine sT (h := aA (h := ?_)) | refine sT (h := aS (h := ?_)) | refine sT (h := aL (h := ?_)))
        refine swt_nil ?_
        (repeat refine sw_seq ?_); refine sw_region ?_
        repeat (first | refine sR (h := ?_) | refine sK (h := ?_) | refine sT (h := aM (h := ?_)) | refine sT (h := aB (h := ?_)) | refine sT (h := aA (h := ?_)) | refine sT (h := aS (h := ?_)) | refine sT (h := aL (h := ?_)))
        refine swt_nil ?_
        have eE : ruleE r = oblsS r.obls := by unfold ruleE; rw [if_pos h7', if_pos h8']
        rw [eE] at eR
        (repeat refine sw_seq ?_); refine sw_cond rfl (fun h9 => ?_) (fun h9 => ?_)
        · have h9' : ¬ oblsS r.obls = 0 := by simpa using h9
          (repeat refine sw_seq ?_); refine sw_region ?_
          repeat (first | refine sR (h := ?_) | refine sK (h := ?_) | refine sT (h := aM (h := ?_)) | refine sT (h := aB (h := ?_)) | refine sT (h := aA (h := ?_)) | refine sT (h := aS (h := ?_)) | refine sT (h := aL (h := ?_)))
          refine swt_nil ?_
          (repeat refine sw_seq ?_); refine sw_ret ?_
          rw [fail _ _ eR h9', if_neg h9']
          exact ⟨Or.inr rfl, _, _, [(1000000, 1000000), (93000, 0)], Wk.refl _, rfl, rfl, rfl, rfl⟩
        have h9' : oblsS r.obls = 0 := by simpa using h9
        refine sw_skip ?_
        (repeat refine sw_seq ?_); refine sw_region ?_
        repeat (first | refine sR (h := ?_) | refine sK (h := ?_) | refine sT (h := aM (h := ?_)) | refine sT (h := aB (h := ?_)) | refine sT (h := aA (h := ?_)) | refine sT (h := aS (h := ?_)) | refine sT (h := aL (h := ?_)))
        refine swt_nil ?_
        refine ⟨_, _, ?_, wk_only [0, 2, 4, 83, 84, 85] [(1000000, 1000000), (93000, 7), (4, 4)] rfl rfl, k + 1, _, ⟨wk.met ++ [r.id], wk.rules + 1⟩, hlt', rfl, wrap_succ hlt' (by omega), by rw [hst, eR]; exact h9', by rw [hst, eR], rfl⟩
        omega
      · refine sw_exit ?_
        rw [l1] at hlt
        simp only [decide_eq_false_iff_not] at hlt
        have hkk : k = rules.length := by omega
        subst hkk
        rw [List.take_length] at ha hwk
        rw [if_pos ha, ← hwk]
        clear hwk
        (repeat refine sw_seq ?_); refine sw_region ?_
        repeat (first | refine sR (h := ?_) | refine sK (h := ?_) | refine sT (h := aM (h := ?_)) | refine sT (h := aB (h := ?_)) | refine sT (h := aA (h := ?_)) | refine sT (h := aS (h := ?_)) | refine sT (h := aL (h := ?_)))
        refine swt_nil ?_
        (repeat refine sw_seq ?_); refine sw_block ?_
        refine SW.wk (wk_only [0, 2, 126, 127, 128] [(1000000, 1000000), (7, 7)] rfl rfl) ?_
        refine sw_loop (fun m s => ∃ (k : Nat) (kk : Int) (w2 : Wlk), k ≤ kids.length ∧ m = kids.length - k ∧ kk = k ∧ (seqS (polS n) wk (kids.take k)).1 = 0 ∧ w2 = (seqS (polS n) wk (kids.take k)).2 ∧
          s = ⟨141, [(0, .ptr 1000000 0), (2, .p (pI (5 - (n + 1 : Nat)))), (126, .p (.sl 7 (kids.map polP))), (127, .p (pI (kids.map polP).length)), (128, .p (pI kk))], seenO 7 w2⟩) kids.length ⟨0, 0, wk, Nat.zero_le _, rfl, rfl, rfl, rfl, rfl⟩ ?_
        rintro m s ⟨k, _, w2, hk2, rfl, rfl, hb, hw2, rfl⟩
        have hl2 : lim w2 := by rw [hw2]; exact seqS_lim (P := lim) (fun w x hw h => polS_lim n w x hw h) hlim hb
        have hm2 : w2.met.length ≤ wk.met.length + sumBy Pol.sz (kids.take k) := by rw [hw2]; exact seqS_len (f := polS n) (c := Pol.sz) (fun w x => polS_len n w x) (kids.take k) wk
        (repeat refine sw_seq ?_); refine sw_region ?_
        repeat (first | refine sR (h := ?_) | refine sK (h := ?_) | refine sT (h := aM (h := ?_)) | refine sT (h := aB (h := ?_)) | refine sT (h := aA (h := ?_)) | refine sT (h := aS (h := ?_)) | refine sT (h := aL (h := ?_)))
        refine swt_nil ?_
        (repeat refine sw_seq ?_); refine sw_cond rfl (fun hlj => ?_) (fun hlj => ?_)
        · refine sw_skip ?_
          rw [l2] at hlj
          simp only [decide_eq_true_eq] at hlj
          have hlj' : k < kids.length := by omega
          have hst := seqS_some hlj' hb
          rw [← hw2] at hst
          have hs1 := sumBy_step (f := Pol.sz) hlj'
          have hs2 := sumBy_take Pol.sz kids (k + 1)
          have hs3 := hks _ (List.getElem_mem hlj')
          have H2 := IH w2 kids[k] hl2 (hfk _ (List.getElem_mem hlj')) hs3 (by omega)
          obtain ⟨x, hx⟩ : ∃ x, x = kids[k] := ⟨_, rfl⟩
          rw [← hx] at H2 hst
          rw [polP_eq] at H2
          (repeat refine sw_seq ?_); refine sw_block ?_
          (repeat refine sw_seq ?_); refine sw_region ?_
          repeat (first | refine sR (h := ?_) | refine sK (h := ?_) | refine sT (h := aM (h := ?_)) | refine sT (h := aB (h := ?_)) | refine sT (h := aA (h := ?_)) | refine sT (h := aS (h := ?_)) | refine sT (h := aL (h := ?_)))
          refine swt_read ttab_ok rfl rfl (by rw [l2]; omega) rfl ?_
          rw [getD_map hlj', ← hx, polP_eq]
          repeat (first | refine sR (h := ?_) | refine sK (h := ?_) | refine sT (h := aM (h := ?_)) | refine sT (h := aB (h := ?_)) | refine sT (h := aA (h := ?_)) | refine sT (h := aS (h := ?_)) | refine sT (h := aL (h := ?_)))
          refine swt_nil ?_
          (repeat refine sw_seq ?_); refine sw_region ?_
          repeat (first | refine sR (h := ?_) | refine sK (h := ?_) | refine sT (h := aM (h := ?_)) | refine sT (h := aB (h := ?_)) | refine sT (h := aA (h := ?_)) | refine sT (h := aS (h := ?_)) | refine sT (h := aL (h := ?_)))
          rw [show IntKind.i64.wrap ((5 : Int) - (n + 1 : Nat) + 1) = 5 - (n : Int) by rw [IntWalk.i64_in _ (by omega)]; omega]
          refine swt_act rfl (act_call_W [(1000000, 1000000), (7, 1000001)] rfl rfl rfl rfl rfl rfl (H2) rfl rfl rfl ?_)
          repeat (first | refine sR (h := ?_) | refine sK (h := ?_) | refine sT (h := aM (h := ?_)) | refine sT (h := aB (h := ?_)) | refine sT (h := aA (h := ?_)) | refine sT (h := aS (h := ?_)) | refine sT (h := aL (h := ?_)))
          refine swt_nil ?_
          (repeat refine sw_seq ?_); refine sw_region ?_
          repeat (first | refine sR (h := ?_) | refine sK (h := ?_) | refine sT (h := aM (h := ?_)) | refine sT (h := aB (h := ?_)) | refine sT (h := aA (h := ?_)) | refine sT (h := aS (h := ?_)) | refine sT (h := aL (h := ?_)))
          refine swt_nil ?_
          (repeat refine sw_seq ?_); refine sw_cond rfl (fun hq => ?_) (fun hq => ?_)
          · have hq' : ¬ (polS n w2 x).1 = 0 := by simpa using hq
            have e : seqS (polS n) wk kids = polS n w2 x := by rw [seqS_stop (k + 1) (by rw [hst]; exact hq'), hst]
            rw [e]
            (repeat refine sw_seq ?_); refine sw_region ?_
            repeat (first | refine sR (h := ?_) | refine sK (h := ?_) | refine sT (h := aM (h := ?_)) | refine sT (h := aB (h := ?_)) | refine sT (h := aA (h := ?_)) | refine sT (h := aS (h := ?_)) | refine sT (h := aL (h := ?_)))
            refine swt_nil ?_
            (repeat refine sw_seq ?_); refine sw_ret ?_
            exact ⟨Or.inr rfl, _, _, [(1000000, 1000000), (137000, 0)], Wk.refl _, rfl, rfl, rfl, rfl⟩
          · have hq' : (polS n w2 x).1 = 0 := by simpa using hq
            refine sw_skip ?_
            (repeat refine sw_seq ?_); refine sw_region ?_
            repeat (first | refine sR (h := ?_) | refine sK (h := ?_) | refine sT (h := aM (h := ?_)) | refine sT (h := aB (h := ?_)) | refine sT (h := aA (h := ?_)) | refine sT (h := aS (h := ?_)) | refine sT (h := aL (h := ?_)))
            refine swt_nil ?_
            refine ⟨_, _, ?_, wk_only [0, 2, 126, 127, 128] [(1000000, 1000000), (137000, 7)] rfl rfl, k + 1, _, (polS n w2 x).2, hlj', rfl, wrap_succ hlj' (by omega), by rw [hst]; exact hq', by rw [hst], rfl⟩
            omega
        · refine sw_exit ?_
          rw [l2] at hlj
          simp only [decide_eq_false_iff_not] at hlj
          have hkk : k = kids.length := by omega
          subst hkk
          rw [List.take_length] at hb hw2
          rw [hb, ← hw2]
          (repeat refine sw_seq ?_); refine sw_region ?_
          repeat (first | refine sR (h := ?_) | refine sK (h := ?_) | refine sT (h := aM (h := ?_)) | refine sT (h := aB (h := ?_)) | refine sT (h := aA (h := ?_)) | refine sT (h := aS (h := ?_)) | refine sT (h := aL (h := ?_)))
          refine swt_nil ?_
          (repeat refine sw_seq ?_); refine sw_ret ?_
          exact ⟨Or.inr rfl, _, _, [(1000000, 1000000), (7, 0)], Wk.refl _, rfl, rfl, rfl, rfl⟩
    | false =>
      repeat (first | refine sR (h := ?_) | refine sK (h := ?_) | refine sT (h := aM (h := ?_)) | refine sT (h := aB (h := ?_)) | refine sT (h := aA (h := ?_)) | refine sT (h := aS (h := ?_)) | refine sT (h := aL (h := ?_)))
      by_cases hkl : 0 < kids.length
      · rw [l2, show decide ((kids.length : Int) > 0) = true from decide_eq_true (by omega)]
        repeat (first | refine sR (h := ?_) | refine sK (h := ?_) | refine sT (h := aM (h := ?_)) | refine sT (h := aB (h := ?_)) | refine sT (h := aA (h := ?_)) | refine sT (h := aS (h := ?_)) | refine sT (h := aL (h := ?_)))
        refine swt_nil ?_
        (repeat refine sw_seq ?_); refine sw_cond rfl (fun hz => ?_) (fun hz => ?_)
        rotate_left
        · cases hz
        (repeat refine sw_seq ?_); refine sw_region ?_
        repeat (first | refine sR (h := ?_) | refine sK (h := ?_) | refine sT (h := aM (h := ?_)) | refine sT (h := aB (h := ?_)) | refine sT (h := aA (h := ?_)) | refine sT (h := aS (h := ?_)) | refine sT (h := aL (h := ?_)))
        refine swt_nil ?_
        (repeat refine sw_seq ?_); refine sw_ret ?_
        rw [key 1 (by rw [eh]; unfold headE; rw [if_pos (by simp [Pol.set, Pol.kids, hkl])]) (by decide)]
        exact ⟨Or.inr rfl, _, _, [(1000000, 1000000), (23000, 0)], Wk.refl _, rfl, rfl, rfl, rfl⟩
      rw [l2, show decide ((kids.length : Int) > 0) = false from decide_eq_false (by omega)]
      repeat (first | refine sR (h := ?_) | refine sK (h := ?_) | refine sT (h := aM (h := ?_)) | refine sT (h := aB (h := ?_)) | refine sT (h := aA (h := ?_)) | refine sT (h := aS (h := ?_)) | refine sT (h := aL (h := ?_)))
      by_cases ha4 : alg = 4
      · rw [show (alg == 4) = true by simp [ha4]]
        repeat (first | refine sR (h := ?_) | refine sK (h := ?_) | refine sT (h := aM (h := ?_)) | refine sT (h := aB (h := ?_)) | refine sT (h := aA (h := ?_)) | refine sT (h := aS (h := ?_)) | refine sT (h := aL (h := ?_)))
        refine swt_nil ?_
        (repeat refine sw_seq ?_); refine sw_cond rfl (fun hz => ?_) (fun hz => ?_)
        rotate_left
        · cases hz
        (repeat refine sw_seq ?_); refine sw_region ?_
        repeat (first | refine sR (h := ?_) | refine sK (h := ?_) | refine sT (h := aM (h := ?_)) | refine sT (h := aB (h := ?_)) | refine sT (h := aA (h := ?_)) | refine sT (h := aS (h := ?_)) | refine sT (h := aL (h := ?_)))
        refine swt_nil ?_
        (repeat refine sw_seq ?_); refine sw_ret ?_
        rw [key 1 (by rw [eh]; unfold headE; rw [if_pos (by simp [Pol.set, Pol.alg, ha4])]) (by decide)]
        exact ⟨Or.inr rfl, _, _, [(1000000, 1000000), (23000, 0)], Wk.refl _, rfl, rfl, rfl, rfl⟩
      rw [show (alg == 4) = false by simp [ha4]]
      have hE : headE (.mk id false alg tg rules kids obls) = if targetS tg = 0 then (if oblsS obls = 0 then (if 16 < rules.length ∨ 16 < kids.length then 6 else 0) else oblsS obls) else targetS tg := by
        unfold headE
        rw [if_neg (by simp [Pol.set, Pol.kids, Pol.alg, hkl, ha4])]; rfl
      repeat (first | refine sR (h := ?_) | refine sK (h := ?_) | refine sT (h := aM (h := ?_)) | refine sT (h := aB (h := ?_)) | refine sT (h := aA (h := ?_)) | refine sT (h := aS (h := ?_)) | refine sT (h := aL (h := ?_)))
      refine swt_nil ?_
      (repeat refine sw_seq ?_); refine sw_cond rfl (fun hz => ?_) (fun hz => ?_)
      · cases hz
      refine sw_skip ?_
      refine SW.wk (wk_only [0, 2, 4] [(1000000, 1000000), (23000, 7), (4, 4)] rfl rfl) ?_
      have hP : ∀ c : Int, headE (.mk id false alg tg rules kids obls) = c → c ≠ 0 → polS (n + 1) w (.mk id false alg tg rules kids obls) = (c, ⟨w.met ++ [id], w.rules⟩) := fun c h1 h2 => by
        rw [key c (by rw [eh, h1]) h2]
        simp only [nameM, hnm, if_true]
      have eM : nameM w.met id = w.met ++ [id] := by simp only [nameM, hnm, if_true]
      rw [eM]
      (repeat refine sw_seq ?_); refine sw_region ?_
      repeat (first | refine sR (h := ?_) | refine sK (h := ?_) | refine sT (h := aM (h := ?_)) | refine sT (h := aB (h := ?_)) | refine sT (h := aA (h := ?_)) | refine sT (h := aS (h := ?_)) | refine sT (h := aL (h := ?_)))
      refine swt_act rfl (act_call_flat rfl rfl rfl rfl (T) rfl rfl ?_)
      repeat (first | refine sR (h := ?_) | refine sK (h := ?_) | refine sT (h := aM (h := ?_)) | refine sT (h := aB (h := ?_)) | refine sT (h := aA (h := ?_)) | refine sT (h := aS (h := ?_)) | refine sT (h := aL (h := ?_)))
      refine swt_nil ?_
      (repeat refine sw_seq ?_); refine sw_region ?_
      repeat (first | refine sR (h := ?_) | refine sK (h := ?_) | refine sT (h := aM (h := ?_)) | refine sT (h := aB (h := ?_)) | refine sT (h := aA (h := ?_)) | refine sT (h := aS (h := ?_)) | refine sT (h := aL (h := ?_)))
      refine swt_nil ?_
      (repeat refine sw_seq ?_); refine sw_cond rfl (fun h3 => ?_) (fun h3 => ?_)
      · have h3' : ¬ targetS tg = 0 := by simpa using h3
        (repeat refine sw_seq ?_); refine sw_region ?_
        repeat (first | refine sR (h := ?_) | refine sK (h := ?_) | refine sT (h := aM (h := ?_)) | refine sT (h := aB (h := ?_)) | refine sT (h := aA (h := ?_)) | refine sT (h := aS (h := ?_)) | refine sT (h := aL (h := ?_)))
        refine swt_nil ?_
        (repeat refine sw_seq ?_); refine sw_ret ?_
        rw [hP (targetS tg) (by rw [hE, if_neg h3']) h3']
        exact ⟨Or.inr rfl, _, _, [(1000000, 1000000), (7, 0)], Wk.refl _, rfl, rfl, rfl, rfl⟩
      have h3' : targetS tg = 0 := by simpa using h3
      rw [if_pos h3'] at hE
      refine sw_skip ?_
      (repeat refine sw_seq ?_); refine sw_region ?_
      repeat (first | refine sR (h := ?_) | refine sK (h := ?_) | refine sT (h := aM (h := ?_)) | refine sT (h := aB (h := ?_)) | refine sT (h := aA (h := ?_)) | refine sT (h := aS (h := ?_)) | refine sT (h := aL (h := ?_)))
      refine swt_act rfl (act_call_flat rfl rfl rfl rfl (O) rfl rfl ?_)
      repeat (first | refine sR (h := ?_) | refine sK (h := ?_) | refine sT (h := aM (h := ?_)) | refine sT (h := aB (h := ?_)) | refine sT (h := aA (h := ?_)) | refine sT (h := aS (h := ?_)) | refine sT (h := aL (h := ?_)))
      refine swt_nil ?_
      (repeat refine sw_seq ?_); refine sw_region ?_
      repeat (first | refine sR (h := ?_) | refine sK (h := ?_) | refine sT (h := aM (h := ?_)) | refine sT (h := aB (h := ?_)) | refine sT (h := aA (h := ?_)) | refine sT (h := aS (h := ?_)) | refine sT (h := aL (h := ?_)))
      refine swt_nil ?_
      (repeat refine sw_seq ?_); refine sw_cond rfl (fun h4 => ?_) (fun h4 => ?_)
      · have h4' : ¬ oblsS obls = 0 := by simpa using h4
        (repeat refine sw_seq ?_); refine sw_region ?_
        repeat (first | refine sR (h := ?_) | refine sK (h := ?_) | refine sT (h := aM (h := ?_)) | refine sT (h := aB (h := ?_)) | refine sT (h := aA (h := ?_)) | refine sT (h := aS (h := ?_)) | refine sT (h := aL (h := ?_)))
        refine swt_nil ?_
        (repeat refine sw_seq ?_); refine sw_ret ?_
        rw [hP (oblsS obls) (by rw [hE, if_neg h4']) h4']
        exact ⟨Or.inr rfl, _, _, [(1000000, 1000000), (7, 0)], Wk.refl _, rfl, rfl, rfl, rfl⟩
      have h4' : oblsS obls = 0 := by simpa using h4
      rw [if_pos h4'] at hE
      refine sw_skip ?_
      (repeat refine sw_seq ?_); refine sw_region_spec (by kernel_rfl) ?_
      repeat (refine sws_read ttab_ok rfl (by exact True.intro) rfl ?_)
      refine sws_nil ?_
      rw [l1, l2]
      (repeat refine sw_seq ?_); refine sw_cond rfl (fun h5 => ?_) (fun h5 => ?_)
      · have h5' : 16 < rules.length ∨ 16 < kids.length := by simp at h5; omega
        (repeat refine sw_seq ?_); refine sw_region ?_
        repeat (first | refine sR (h := ?_) | refine sK (h := ?_) | refine sT (h := aM (h := ?_)) | refine sT (h := aB (h := ?_)) | refine sT (h := aA (h := ?_)) | refine sT (h := aS (h := ?_)) | refine sT (h := aL (h := ?_)))
        refine swt_nil ?_
        (repeat refine sw_seq ?_); refine sw_ret ?_
        rw [hP 6 (by rw [hE, if_pos h5']) (by decide)]
        exact ⟨Or.inr rfl, _, _, [(1000000, 1000000), (7, 0)], Wk.refl _, rfl, rfl, rfl, rfl⟩
      have h5' : ¬ (16 < rules.length ∨ 16 < kids.length) := by simp at h5; omega
      rw [if_neg h5'] at hE
      have e1 : (headS w (.mk id false alg tg rules kids obls)).1 = 0 := by rw [eh, hE]
      have hP2 : polS (n + 1) w (.mk id false alg tg rules kids obls) = if (seqS ruleS ⟨w.met ++ [id], w.rules⟩ rules).1 = 0 then seqS (polS n) (seqS ruleS ⟨w.met ++ [id], w.rules⟩ rules).2 kids else seqS ruleS ⟨w.met ++ [id], w.rules⟩ rules := by
        rw [polS, if_pos e1, eh]; rfl
      rw [hP2]
      clear hP hP2 key
      have hw1 : lim (⟨w.met ++ [id], w.rules⟩ : Wlk) := hw
      have hm1 : (⟨w.met ++ [id], w.rules⟩ : Wlk).met.length ≤ w.met.length + 1 := by simp
      have hb0 := Pol.sz_eq (.mk id false alg tg rules kids obls)
      simp only [Pol.rules, Pol.kids, Pol.id, Pol.target, Pol.obls] at hb0
      generalize (⟨w.met ++ [id], w.rules⟩ : Wlk) = w1 at *
      refine sw_skip ?_
      refine SW.wk (wk_only [0, 2, 4] [(1000000, 1000000), (7, 7), (4, 4)] rfl rfl) ?_
      change SW _ _ _ ⟨141, [(0, .ptr 1000000 0), (2, .p (pI (5 - (n + 1 : Nat)))), (4, .ptr 4 0)], seenO 7 w1 ++ [(4, .cells [.p (pS id), .p (pB false), .p (pI alg), .p (tgtP tg), .p (.sl 5 (rules.map ruleP)), .p (.sl 7 (kids.map polP)), .p (oblsP obls)])]⟩
      (repeat refine sw_seq ?_); refine sw_region ?_
      repeat (first | refine sR (h := ?_) | refine sK (h := ?_) | refine sT (h := aM (h := ?_)) | refine sT (h := aB (h := ?_)) | refine sT (h := aA (h := ?_)) | refine sT (h := aS (h := ?_)) | refine sT (h := aL (h := ?_)))
      refine swt_nil ?_
      (repeat refine sw_seq ?_); refine sw_block ?_
      refine SW.wk (wk_only [0, 2, 4, 83, 84, 85] [(1000000, 1000000), (7, 7), (4, 4)] rfl rfl) ?_
      refine sw_loop (fun m s => ∃ (k : Nat) (kk : Int) (wk : Wlk), k ≤ rules.length ∧ m = rules.length - k ∧ kk = k ∧ (seqS ruleS w1 (rules.take k)).1 = 0 ∧ wk = (seqS ruleS w1 (rules.take k)).2 ∧
        s = ⟨141, [(0, .ptr 1000000 0), (2, .p (pI (5 - (n + 1 : Nat)))), (4, .ptr 4 0), (83, .p (.sl 5 (rules.map ruleP))), (84, .p (pI (rules.map ruleP).length)), (85, .p (pI kk))], seenO 7 wk ++ [(4, .cells [.p (pS id), .p (pB false), .p (pI alg), .p (tgtP tg), .p (.sl 5 (rules.map ruleP)), .p (.sl 7 (kids.map polP)), .p (oblsP obls)])]⟩) rules.length ⟨0, 0, w1, Nat.zero_le _, rfl, rfl, rfl, rfl, rfl⟩ ?_
      rintro m s ⟨k, _, wk, hk', rfl, rfl, ha, hwk, rfl⟩
      have hlk : lim wk := by rw [hwk]; exact seqS_lim (P := lim) (fun w x hw h => ruleS_lim hw h) hw1 ha
      have hmk : wk.met.length ≤ w1.met.length + k := by
        rw [hwk]
        have := seqS_len (f := ruleS) (c := fun _ => 1) ruleS_len (rules.take k) w1
        rw [sumBy_one, List.length_take] at this
        omega
      have hlim := hlk
      obtain ⟨hlk1, hlk2⟩ := hlk
      (repeat refine sw_seq ?_); refine sw_region ?_
      repeat (first | refine sR (h := ?_) | refine sK (h := ?_) | refine sT (h := aM (h := ?_)) | refine sT (h := aB (h := ?_)) | refine sT (h := aA (h := ?_)) | refine sT (h := aS (h := ?_)) | refine sT (h := aL (h := ?_)))
      refine swt_nil ?_
      (repeat refine sw_seq ?_); refine sw_cond rfl (fun hlt => ?_) (fun hlt => ?_)
      · refine sw_skip ?_
        rw [l1] at hlt
        simp only [decide_eq_true_eq] at hlt
        have hlt' : k < rules.length := by omega
        have hst := seqS_some hlt' ha
        rw [← hwk] at hst
        obtain ⟨r, hre⟩ : ∃ r, r = rules[k] := ⟨_, rfl⟩
        have hrf := hfr _ (List.getElem_mem hlt')
        have hrl := hru _ (List.getElem_mem hlt')
        rw [← hre] at hst hrf hrl
        have HI := refId_h wk.met wk.rules r.id hrf.id (by omega)
        have HT := refTarget_h r.target hrf.tgt (tarL_reach hrl.1)
        have HX := refExpr_h r.cond hrf.cond (by omega)
        have HO := refObls_h r.obls hrf.obls
        have fail : ∀ c : Int, ∀ w' : Wlk, ruleS wk r = (c, w') → c ≠ 0 → seqS ruleS w1 rules = (c, w') := fun c w' h1 h2 => by
          rw [seqS_stop (k + 1) (by rw [hst, h1]; exact h2), hst, h1]
        (repeat refine sw_seq ?_); refine sw_block ?_
        (repeat refine sw_seq ?_); refine sw_region ?_
        repeat (first | refine sR (h := ?_) | refine sK (h := ?_) | refine sT (h := aM (h := ?_)) | refine sT (h := aB (h := ?_)) | refine sT (h := aA (h := ?_)) | refine sT (h := aS (h := ?_)) | refine sT (h := aL (h := ?_)))
        refine swt_read ttab_ok rfl rfl (by rw [l1]; omega) rfl ?_
        rw [getD_map hlt', ← hre]
        repeat (first | refine sR (h := ?_) | refine sK (h := ?_) | refine sT (h := aM (h := ?_)) | refine sT (h := aB (h := ?_)) | refine sT (h := aA (h := ?_)) | refine sT (h := aS (h := ?_)) | refine sT (h := aL (h := ?_)))
        refine swt_nil ?_
        (repeat refine sw_seq ?_); refine sw_region ?_
        repeat (first | refine sR (h := ?_) | refine sK (h := ?_) | refine sT (h := aM (h := ?_)) | refine sT (h := aB (h := ?_)) | refine sT (h := aA (h := ?_)) | refine sT (h := aS (h := ?_)) | refine sT (h := aL (h := ?_)))
        refine swt_act rfl (act_call_W [(1000000, 1000000), (7, 1000001)] rfl rfl rfl rfl rfl rfl (HI) rfl rfl rfl ?_)
        repeat (first | refine sR (h := ?_) | refine sK (h := ?_) | refine sT (h := aM (h := ?_)) | refine sT (h := aB (h := ?_)) | refine sT (h := aA (h := ?_)) | refine sT (h := aS (h := ?_)) | refine sT (h := aL (h := ?_)))
        refine swt_nil ?_
        (repeat refine sw_seq ?_); refine sw_cond rfl (fun hb => ?_) (fun hb => ?_)
        · have hb' : nameOk wk.met r.id = false := by simpa using hb
          (repeat refine sw_seq ?_); refine sw_region ?_
          repeat (first | refine sR (h := ?_) | refine sK (h := ?_) | refine sT (h := aM (h := ?_)) | refine sT (h := aB (h := ?_)) | refine sT (h := aA (h := ?_)) | refine sT (h := aS (h := ?_)) | refine sT (h := aL (h := ?_)))
          refine swt_nil ?_
          (repeat refine sw_seq ?_); refine sw_ret ?_
          have e3 := fail 1 wk (by unfold ruleS; rw [if_neg (by rw [hb']; simp)]) (by decide)
          rw [e3, if_neg (show ¬ (1 : Int) = 0 by decide), show nameM wk.met r.id = wk.met by simp [nameM, hb']]
          exact ⟨Or.inr rfl, _, _, [(1000000, 1000000), (93000, 0)], Wk.refl _, rfl, rfl, rfl, rfl⟩
        have hb' : nameOk wk.met r.id = true := by simpa using hb
        rw [show nameM wk.met r.id = wk.met ++ [r.id] by simp [nameM, hb']]
        have eR : ruleS wk r = (if 64 < wk.rules + 1 then 6 else ruleE r, ⟨wk.met ++ [r.id], wk.rules + 1⟩) := by unfold ruleS; rw [if_pos hb']
        refine sw_skip ?_
        (repeat refine sw_seq ?_); refine sw_region ?_
        repeat (first | refine sR (h := ?_) | refine sK (h := ?_) | refine sT (h := aM (h := ?_)) | refine sT (h := aB (h := ?_)) | refine sT (h := aA (h := ?_)) | refine sT (h := aS (h := ?_)) | refine sT (h := aL (h := ?_)))
        refine swt_nil ?_
        rw [show IntKind.i64.wrap (wk.rules + 1) = wk.rules + 1 from IntWalk.i64_in _ (by omega)]
        (repeat refine sw_seq ?_); refine sw_region ?_
        repeat (first | refine sR (h := ?_) | refine sK (h := ?_) | refine sT (h := aM (h := ?_)) | refine sT (h := aB (h := ?_)) | refine sT (h := aA (h := ?_)) | refine sT (h := aS (h := ?_)) | refine sT (h := aL (h := ?_)))
        refine swt_nil ?_
        (repeat refine sw_seq ?_); refine sw_cond rfl (fun h6 => ?_) (fun h6 => ?_)
        · have h6' : 64 < wk.rules + 1 := by simp at h6; omega
          (repeat refine sw_seq ?_); refine sw_region ?_
          repeat (first | refine sR (h := ?_) | refine sK (h := ?_) | refine sT (h := aM (h := ?_)) | refine sT (h := aB (h := ?_)) | refine sT (h := aA (h := ?_)) | refine sT (h := aS (h := ?_)) | refine sT (h := aL (h := ?_)))
          refine swt_nil ?_
          (repeat refine sw_seq ?_); refine sw_ret ?_
          rw [if_pos h6'] at eR
          rw [fail 6 _ eR (by decide), if_neg (show ¬ (6 : Int) = 0 by decide)]
          exact ⟨Or.inr rfl, _, _, [(1000000, 1000000), (93000, 0)], Wk.refl _, rfl, rfl, rfl, rfl⟩
        have h6' : ¬ 64 < wk.rules + 1 := by simp at h6; omega
        rw [if_neg h6'] at eR
        refine sw_skip ?_
        (repeat refine sw_seq ?_); refine sw_region ?_
        repeat (first | refine sR (h := ?_) | refine sK (h := ?_) | refine sT (h := aM (h := ?_)) | refine sT (h := aB (h := ?_)) | refine sT (h := aA (h := ?_)) | refine sT (h := aS (h := ?_)) | refine sT (h := aL (h := ?_)))
        refine swt_act rfl (act_call_flat rfl rfl rfl rfl (HT) rfl rfl ?_)
        repeat (first | refine sR (h := ?_) | refine sK (h := ?_) | refine sT (h := aM (h := ?_)) | refine sT (h := aB (h := ?_)) | refine sT (h := aA (h := ?_)) | refine sT (h := aS (h := ?_)) | refine sT (h := aL (h := ?_)))
        refine swt_nil ?_
        (repeat refine sw_seq ?_); refine sw_region ?_
        repeat (first | refine sR (h := ?_) | refine sK (h := ?_) | refine sT (h := aM (h := ?_)) | refine sT (h := aB (h := ?_)) | refine sT (h := aA (h := ?_)) | refine sT (h := aS (h := ?_)) | refine sT (h := aL (h := ?_)))
        refine swt_nil ?_
        (repeat refine sw_seq ?_); refine sw_cond rfl (fun h7 => ?_) (fun h7 => ?_)
        · have h7' : ¬ targetS r.target = 0 := by simpa using h7
          (repeat refine sw_seq ?_); refine sw_region ?_
          repeat (first | refine sR (h := ?_) | refine sK (h := ?_) | refine sT (h := aM (h := ?_)) | refine sT (h := aB (h := ?_)) | refine sT (h := aA (h := ?_)) | refine sT (h := aS (h := ?_)) | refine sT (h := aL (h := ?_)))
          refine swt_nil ?_
          (repeat refine sw_seq ?_); refine sw_ret ?_
          have eE : ruleE r = targetS r.target := by unfold ruleE; rw [if_neg h7']
          rw [eE] at eR
          rw [fail _ _ eR h7', if_neg h7']
          exact ⟨Or.inr rfl, _, _, [(1000000, 1000000), (93000, 0)], Wk.refl _, rfl, rfl, rfl, rfl⟩
        have h7' : targetS r.target = 0 := by simpa using h7
        refine sw_skip ?_
        (repeat refine sw_seq ?_); refine sw_region ?_
        repeat (first | refine sR (h := ?_) | refine sK (h := ?_) | refine sT (h := aM (h := ?_)) | refine sT (h := aB (h := ?_)) | refine sT (h := aA (h := ?_)) | refine sT (h := aS (h := ?_)) | refine sT (h := aL (h := ?_)))
        refine swt_act rfl (act_call_flat rfl rfl rfl rfl (HX) rfl rfl ?_)
        repeat (first | refine sR (h := ?_) | refine sK (h := ?_) | refine sT (h := aM (h := ?_)) | refine sT (h := aB (h := ?_)) | refine sT (h := aA (h := ?_)) | refine sT (h := aS (h := ?_)) | refine sT (h := aL (h := ?_)))
        refine swt_nil ?_
        (repeat refine sw_seq ?_); refine sw_region ?_
        repeat (first | refine sR (h := ?_) | refine sK (h := ?_) | refine sT (h := aM (h := ?_)) | refine sT (h := aB (h := ?_)) | refine sT (h := aA (h := ?_)) | refine sT (h := aS (h := ?_)) | refine sT (h := aL (h := ?_)))
        refine swt_nil ?_
        (repeat refine sw_seq ?_); refine sw_cond rfl (fun h8 => ?_) (fun h8 => ?_)
        · have h8' : ¬ exprS r.cond = 0 := by simpa using h8
          (repeat refine sw_seq ?_); refine sw_region ?_
          repeat (first | refine sR (h := ?_) | refine sK (h := ?_) | refine sT (h := aM (h := ?_)) | refine sT (h := aB (h := ?_)) | refine sT (h := aA (h := ?_)) | refine sT (h := aS (h := ?_)) | refine sT (h := aL (h := ?_)))
          refine swt_nil ?_
          (repeat refine sw_seq ?_); refine sw_ret ?_
          have eE : ruleE r = exprS r.cond := by unfold ruleE; rw [if_pos h7', if_neg h8']
          rw [eE] at eR
          rw [fail _ _ eR h8', if_neg h8']
          exact ⟨Or.inr rfl, _, _, [(1000000, 1000000), (93000, 0)], Wk.refl _, rfl, rfl, rfl, rfl⟩
        have h8' : exprS r.cond = 0 := by simpa using h8
        refine sw_skip ?_
        (repeat refine sw_seq ?_); refine sw_region ?_
        repeat (first | refine sR (h := ?_) | refine sK (h := ?_) | refine sT (h := aM (h := ?_)) | refine sT (h := aB (h := ?_)) | refine sT (h := aA (h := ?_)) | refine sT (h := aS (h := ?_)) | refine sT (h := aL (h := ?_)))
        refine swt_act rfl (act_call_flat rfl rfl rfl rfl (HO) rfl rfl ?_)
        repeat (first | refine sR (h := ?_) | refine sK (h := ?_) | refine sT (h := aM (h := ?_)) | refine sT (h := aB (h := ?_)) | refine sT (h := aA (h := ?_)) | refine sT (h := aS (h := ?_)) | refine sT (h := aL (h := ?_)))
        refine swt_nil ?_
        (repeat refine sw_seq ?_); refine sw_region ?_
        repeat (first | refine sR (h := ?_) | refine sK (h := ?_) | refine sT (h := aM (h := ?_)) | refine sT (h := aB (h := ?_)) | refine sT (h := aA (h := ?_)) | refine sT (h := aS (h := ?_)) | refine sT (h := aL (h := ?_)))
        refine swt_nil ?_
        have eE : ruleE r = oblsS r.obls := by unfold ruleE; rw [if_pos h7', if_pos h8']
        rw [eE] at eR
        (repeat refine sw_seq ?_); refine sw_cond rfl (fun h9 => ?_) (fun h9 => ?_)
        · have h9' : ¬ oblsS r.obls = 0 := by simpa using h9
          (repeat refine sw_seq ?_); refine sw_region ?_
          repeat (first | refine sR (h := ?_) | refine sK (h := ?_) | refine sT (h := aM (h := ?_)) | refine sT (h := aB (h := ?_)) | refine sT (h := aA (h := ?_)) | refine sT (h := aS (h := ?_)) | refine sT (h := aL (h := ?_)))
          refine swt_nil ?_
          (repeat refine sw_seq ?_); refine sw_ret ?_
          rw [fail _ _ eR h9', if_neg h9']
          exact ⟨Or.inr rfl, _, _, [(1000000, 1000000), (93000, 0)], Wk.refl _, rfl, rfl, rfl, rfl⟩
        have h9' : oblsS r.obls = 0 := by simpa using h9
        refine sw_skip ?_
        (repeat refine sw_seq ?_); refine sw_region ?_
        repeat (first | refine sR (h := ?_) | refine sK (h := ?_) | refine sT (h := aM (h := ?_)) | refine sT (h := aB (h := ?_)) | refine sT (h := aA (h := ?_)) | refine sT (h := aS (h := ?_)) | refine sT (h := aL (h := ?_)))
        refine swt_nil ?_
        refine ⟨_, _, ?_, wk_only [0, 2, 4, 83, 84, 85] [(1000000, 1000000), (93000, 7), (4, 4)] rfl rfl, k + 1, _, ⟨wk.met ++ [r.id], wk.rules + 1⟩, hlt', rfl, wrap_succ hlt' (by omega), by rw [hst, eR]; exact h9', by rw [hst, eR], rfl⟩
        omega
      · refine sw_exit ?_
        rw [l1] at hlt
        simp only [decide_eq_false_iff_not] at hlt
        have hkk : k = rules.length := by omega
        subst hkk
        rw [List.take_length] at ha hwk
        rw [if_pos ha, ← hwk]
        clear hwk
        (repeat refine sw_seq ?_); refine sw_region ?_
        repeat (first | refine sR (h := ?_) | refine sK (h := ?_) | refine sT (h := aM (h := ?_)) | refine sT (h := aB (h := ?_)) | refine sT (h := aA (h := ?_)) | refine sT (h := aS (h := ?_)) | refine sT (h := aL (h := ?_)))
        refine swt_nil ?_
        (repeat refine sw_seq ?_); refine sw_block ?_
        refine SW.wk (wk_only [0, 2, 126, 127, 128] [(1000000, 1000000), (7, 7)] rfl rfl) ?_
        refine sw_loop (fun m s => ∃ (k : Nat) (kk : Int) (w2 : Wlk), k ≤ kids.length ∧ m = kids.length - k ∧ kk = k ∧ (seqS (polS n) wk (kids.take k)).1 = 0 ∧ w2 = (seqS (polS n) wk (kids.take k)).2 ∧
          s = ⟨141, [(0, .ptr 1000000 0), (2, .p (pI (5 - (n + 1 : Nat)))), (126, .p (.sl 7 (kids.map polP))), (127, .p (pI (kids.map polP).length)), (128, .p (pI kk))], seenO 7 w2⟩) kids.length ⟨0, 0, wk, Nat.zero_le _, rfl, rfl, rfl, rfl, rfl⟩ ?_
        rintro m s ⟨k, _, w2, hk2, rfl, rfl, hb, hw2, rfl⟩
        have hl2 : lim w2 := by rw [hw2]; exact seqS_lim (P := lim) (fun w x hw h => polS_lim n w x hw h) hlim hb
        have hm2 : w2.met.length ≤ wk.met.length + sumBy Pol.sz (kids.take k) := by rw [hw2]; exact seqS_len (f := polS n) (c := Pol.sz) (fun w x => polS_len n w x) (kids.take k) wk
        (repeat refine sw_seq ?_); refine sw_region ?_
        repeat (first | refine sR (h := ?_) | refine sK (h := ?_) | refine sT (h := aM (h := ?_)) | refine sT (h := aB (h := ?_)) | refine sT (h := aA (h := ?_)) | refine sT (h := aS (h := ?_)) | refine sT (h := aL (h := ?_)))
        refine swt_nil ?_
        (repeat refine sw_seq ?_); refine sw_cond rfl (fun hlj => ?_) (fun hlj => ?_)
        · refine sw_skip ?_
          rw [l2] at hlj
          simp only [decide_eq_true_eq] at hlj
          have hlj' : k < kids.length := by omega
          have hst := seqS_some hlj' hb
          rw [← hw2] at hst
          have hs1 := sumBy_step (f := Pol.sz) hlj'
          have hs2 := sumBy_take Pol.sz kids (k + 1)
          have hs3 := hks _ (List.getElem_mem hlj')
          have H2 := IH w2 kids[k] hl2 (hfk _ (List.getElem_mem hlj')) hs3 (by omega)
          obtain ⟨x, hx⟩ : ∃ x, x = kids[k] := ⟨_, rfl⟩
          rw [← hx] at H2 hst
          rw [polP_eq] at H2
          (repeat refine sw_seq ?_); refine sw_block ?_
          (repeat refine sw_seq ?_); refine sw_region ?_
          repeat (first | refine sR (h := ?_) | refine sK (h := ?_) | refine sT (h := aM (h := ?_)) | refine sT (h := aB (h := ?_)) | refine sT (h := aA (h := ?_)) | refine sT (h := aS (h := ?_)) | refine sT (h := aL (h := ?_)))
          refine swt_read ttab_ok rfl rfl (by rw [l2]; omega) rfl ?_
          rw [getD_map hlj', ← hx, polP_eq]
          repeat (first | refine sR (h := ?_) | refine sK (h := ?_) | refine sT (h := aM (h := ?_)) | refine sT (h := aB (h := ?_)) | refine sT (h := aA (h := ?_)) | refine sT (h := aS (h := ?_)) | refine sT (h := aL (h := ?_)))
          refine swt_nil ?_
          (repeat refine sw_seq ?_); refine sw_region ?_
          repeat (first | refine sR (h := ?_) | refine sK (h := ?_) | refine sT (h := aM (h := ?_)) | refine sT (h := aB (h := ?_)) | refine sT (h := aA (h := ?_)) | refine sT (h := aS (h := ?_)) | refine sT (h := aL (h := ?_)))
          rw [show IntKind.i64.wrap ((5 : Int) - (n + 1 : Nat) + 1) = 5 - (n : Int) by rw [IntWalk.i64_in _ (by omega)]; omega]
          refine swt_act rfl (act_call_W [(1000000, 1000000), (7, 1000001)] rfl rfl rfl rfl rfl rfl (H2) rfl rfl rfl ?_)
          repeat (first | refine sR (h := ?_) | refine sK (h := ?_) | refine sT (h := aM (h := ?_)) | refine sT (h := aB (h := ?_)) | refine sT (h := aA (h := ?_)) | refine sT (h := aS (h := ?_)) | refine sT (h := aL (h := ?_)))
          refine swt_nil ?_
          (repeat refine sw_seq ?_); refine sw_region ?_
          repeat (first | refine sR (h := ?_) | refine sK (h := ?_) | refine sT (h := aM (h := ?_)) | refine sT (h := aB (h := ?_)) | refine sT (h := aA (h := ?_)) | refine sT (h := aS (h := ?_)) | refine sT (h := aL (h := ?_)))
          refine swt_nil ?_
          (repeat refine sw_seq ?_); refine sw_cond rfl (fun hq => ?_) (fun hq => ?_)
          · have hq' : ¬ (polS n w2 x).1 = 0 := by simpa using hq
            have e : seqS (polS n) wk kids = polS n w2 x := by rw [seqS_stop (k + 1) (by rw [hst]; exact hq'), hst]
            rw [e]
            (repeat refine sw_seq ?_); refine sw_region ?_
            repeat (first | refine sR (h := ?_) | refine sK (h := ?_) | refine sT (h := aM (h := ?_)) | refine sT (h := aB (h := ?_)) | refine sT (h := aA (h := ?_)) | refine sT (h := aS (h := ?_)) | refine sT (h := aL (h := ?_)))
            refine swt_nil ?_
            (repeat refine sw_seq ?_); refine sw_ret ?_
            exact ⟨Or.inr rfl, _, _, [(1000000, 1000000), (137000, 0)], Wk.refl _, rfl, rfl, rfl, rfl⟩
          · have hq' : (polS n w2 x).1 = 0 := by simpa using hq
            refine sw_skip ?_
            (repeat refine sw_seq ?_); refine sw_region ?_
            repeat (first | refine sR (h := ?_) | refine sK (h := ?_) | refine sT (h := aM (h := ?_)) | refine sT (h := aB (h := ?_)) | refine sT (h := aA (h := ?_)) | refine sT (h := aS (h := ?_)) | refine sT (h := aL (h := ?_)))
            refine swt_nil ?_
            refine ⟨_, _, ?_, wk_only [0, 2, 126, 127, 128] [(1000000, 1000000), (137000, 7)] rfl rfl, k + 1, _, (polS n w2 x).2, hlj', rfl, wrap_succ hlj' (by omega), by rw [hst]; exact hq', by rw [hst], rfl⟩
            omega
        · refine sw_exit ?_
          rw [l2] at hlj
          simp only [decide_eq_false_iff_not] at hlj
          have hkk : k = kids.length := by omega
          subst hkk
          rw [List.take_length] at hb hw2
          rw [hb, ← hw2]
          (repeat refine sw_seq ?_); refine sw_region ?_
          repeat (first | refine sR (h := ?_) | refine sK (h := ?_) | refine sT (h := aM (h := ?_)) | refine sT (h := aB (h := ?_)) | refine sT (h := aA (h := ?_)) | refine sT (h := aS (h := ?_)) | refine sT (h := aL (h := ?_)))
          refine swt_nil ?_
          (repeat refine sw_seq ?_); refine sw_ret ?_
          exact ⟨Or.inr rfl, _, _, [(1000000, 1000000), (7, 0)], Wk.refl _, rfl, rfl, rfl, rfl⟩
theorem refPol_all : ∀ n, n ≤ 4 → RefPolOk n
  | 0, _ => refPol_zero
  | n + 1, h => refPol_step n h (refPol_all n (by omega))
theorem refPolicy_h (p : Pol) (hf : PolFit 4 p) (hsz : p.sz ≤ 3000) : Holds Try.prog 35 [.agg (polP p)] (.p (pI (rightS p))) [] := by
  have H := refPol_all 4 (Nat.le_refl _) ⟨[], 0⟩ p ⟨Int.le_refl _, by decide⟩ hf hsz (by simp; omega)
  rw [polP_eq] at H ⊢
  refine holds_of (ts := [2]) Try.func35 (by kernel_rfl) rfl rfl rfl ?_
  (repeat refine sw_seq ?_); refine sw_region ?_
  repeat (first | refine sR (h := ?_) | refine sK (h := ?_) | refine sT (h := aM (h := ?_)) | refine sT (h := aB (h := ?_)) | refine sT (h := aA (h := ?_)) | refine sT (h := aS (h := ?_)) | refine sT (h := aL (h := ?_)))
  refine swt_nil ?_
  (repeat refine sw_seq ?_); refine sw_region ?_
  repeat (first | refine sR (h := ?_) | refine sK (h := ?_) | refine sT (h := aM (h := ?_)) | refine sT (h := aB (h := ?_)) | refine sT (h := aA (h := ?_)) | refine sT (h := aS (h := ?_)) | refine sT (h := aL (h := ?_)))
  refine swt_nil ?_
  refine SW.wk (wk_nilc 5 0 900 9 1 rfl rfl rfl) ?_
  (repeat refine sw_seq ?_); refine sw_region ?_
  repeat (first | refine sR (h := ?_) | refine sK (h := ?_) | refine sT (h := aM (h := ?_)) | refine sT (h := aB (h := ?_)) | refine sT (h := aA (h := ?_)) | refine sT (h := aS (h := ?_)) | refine sT (h := aL (h := ?_)))
  refine swt_act rfl (act_call_W [(5, 1000000), (900, 1000001)] rfl rfl rfl rfl rfl rfl (H) rfl rfl rfl ?_)
  repeat (first | refine sR (h := ?_) | refine sK (h := ?_) | refine sT (h := aM (h := ?_)) | refine sT (h := aB (h := ?_)) | refine sT (h := aA (h := ?_)) | refine sT (h := aS (h := ?_)) | refine sT (h := aL (h := ?_)))
  refine swt_nil ?_
  (repeat refine sw_seq ?_); refine sw_ret ?_
  exact ⟨Or.inr rfl, _, _, [], Wk.refl _, rfl, rfl, rfl, rfl⟩
end Go.Proofs.Ytjpcchipejmocaa
