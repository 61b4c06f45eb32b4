/-
  Layer 8's law PolicyNames: in plain words, and the walk, by shades.
-/
import Derived.Test.YtjpcchipejmocaaSh
import Derived.Test.YtjpcchipejmocaaCopyH
import Derived.Test.YtjpcchipejmocaaWithin
namespace Go.Proofs.Ytjpcchipejmocaa
set_option linter.unusedVariables false
set_option linter.unusedSimpArgs false
open Go.RowKit
set_option maxHeartbeats 4000000
theorem rightS_head {p : Pol} (h : (headS ⟨[], 0⟩ p).1 = 1) : rightS p = 1 := by
  unfold rightS
  rw [polS, if_neg (by rw [h]; decide)]; exact h
theorem hasS_ruleS {s : ByteArray} {w : Wlk} {r : Rul} (h : hasS w.met s = true) : hasS (ruleS w r).2.met s = true := by
  unfold ruleS
  split
  · show hasS (w.met ++ [r.id]) s = true
    rw [hasS_snoc, h]; rfl
  · exact h
theorem hasS_headS {s : ByteArray} {w : Wlk} {p : Pol} (h : hasS w.met s = true) : hasS (headS w p).2.met s = true := by
  unfold headS nameM
  simp only
  split
  · rw [hasS_snoc, h]; rfl
  · exact h
theorem hasS_polS {s : ByteArray} : ∀ (n : Nat) {w : Wlk} {p : Pol}, hasS w.met s = true → (polS n w p).1 = 0 → hasS (polS n w p).2.met s = true
  | 0, w, p, _, h => by cases h
  | n + 1, w, p, hw, h => by
    obtain ⟨h1, h2, h3⟩ := polS_kids h
    rw [polS, if_pos h1, if_pos h2]
    exact seqS_lim (P := fun w => hasS w.met s = true) (fun w x hw h => hasS_polS n hw h) (seqS_lim (P := fun w => hasS w.met s = true) (fun w x hw _ => hasS_ruleS hw) (hasS_headS hw) h2) h3
theorem seqS_pre {α : Type} {f : Wlk → α → Int × Wlk} : ∀ {l : List α} {w : Wlk} (k : Nat), (seqS f w l).1 = 0 → (seqS f w (l.take k)).1 = 0
  | [], w, k, _ => by simp [seqS]
  | x :: r, w, 0, _ => rfl
  | x :: r, w, k + 1, h => by
    rw [seqS] at h
    rw [List.take_succ_cons, seqS]
    by_cases h0 : (f w x).1 = 0
    · rw [if_pos h0] at h ⊢
      exact seqS_pre k h
    · rw [if_neg h0] at h; exact absurd h h0
theorem seqS_set {α : Type} {f : Wlk → α → Int × Wlk} {P : Wlk → Prop} (hP : ∀ w x, P w → (f w x).1 = 0 → P (f w x).2) {l : List α} {w : Wlk} (h : (seqS f w l).1 = 0) (hw : P w) {i : Nat} (hi : i < l.length) {y : α} (hy : ∀ v, P v → (f v y).1 = 1) : (seqS f w (l.set i y)).1 = 1 := by
  have h1 := seqS_pre i h
  have h2 := seqS_lim hP hw h1
  have e1 : (l.set i y).take i = l.take i := by rw [List.take_set, List.set_eq_of_length_le (by simp; omega)]
  have hi2 : i < (l.set i y).length := by simpa using hi
  have h3 := seqS_some (f := f) (w := w) hi2 (by rw [e1]; exact h1)
  rw [e1, List.getElem_set_self] at h3
  have h4 := hy _ h2
  rw [seqS_stop (i + 1) (by rw [h3, h4]; decide), h3, h4]
theorem nameOk_has {m : List ByteArray} {s : ByteArray} (h : hasS m s = true) : nameOk m s = false := by simp [nameOk, h]
theorem right_name {p : Pol} (h : rightS p = 0) : nameOk [] p.id = true ∧ (headS ⟨[], 0⟩ p).1 = headE p ∧ headE p = 0 ∧ 1 ≤ p.alg ∧ p.alg ≤ 6 := by
  have h1 := (polS_kids h).1
  unfold headS at h1 ⊢
  simp only at h1 ⊢
  split at h1
  · rename_i hc
    rw [if_pos hc]
    simp only [Bool.and_eq_true, decide_eq_true_eq] at hc
    exact ⟨hc.1.1, rfl, h1, hc.1.2, hc.2⟩
  · cases h1
theorem headS_of {p : Pol} (h1 : nameOk [] p.id = true) (h2 : 1 ≤ p.alg) (h3 : p.alg ≤ 6) : headS ⟨[], 0⟩ p = (headE p, ⟨[p.id], 0⟩) := by
  unfold headS
  simp [h1, h2, h3, nameM]
def Pol.putRules (p : Pol) (l : List Rul) : Pol := .mk p.id p.set p.alg p.target l p.kids p.obls
def Pol.putKids (p : Pol) (l : List Pol) : Pol := .mk p.id p.set p.alg p.target p.rules l p.obls
def Pol.putId (p : Pol) (s : ByteArray) : Pol := .mk s p.set p.alg p.target p.rules p.kids p.obls
def Rul.putId (r : Rul) (s : ByteArray) : Rul := ⟨s, r.deny, r.target, r.cond, r.obls⟩
theorem names_rule {p : Pol} (h : rightS p = 0) {i : Nat} (hi : i < p.rules.length) : rightS (p.putRules (p.rules.set i (p.rules[i].putId p.id))) = 1 := by
  obtain ⟨h1, h2, h3, h4, h5⟩ := right_name h
  obtain ⟨k1, k2, k3⟩ := polS_kids h
  have e0 := headS_of h1 h4 h5
  have e1 : headS ⟨[], 0⟩ (p.putRules (p.rules.set i (p.rules[i].putId p.id))) = (headE p, ⟨[p.id], 0⟩) := by
    rw [headS_of (p := p.putRules _) h1 h4 h5]
    refine congrArg (fun x => (x, _)) ?_
    unfold headE
    simp only [Pol.putRules, Pol.set, Pol.rules, Pol.kids, Pol.alg, Pol.target, Pol.obls, List.length_set]
    cases p; rfl
  rw [e0] at k2
  have hs := seqS_set (P := fun w => hasS w.met p.id = true) (fun w x hw _ => hasS_ruleS hw) k2 (by simp [hasS]) hi (y := p.rules[i].putId p.id) (fun v hv => by
    unfold ruleS
    rw [show (p.rules[i].putId p.id).id = p.id from rfl, nameOk_has hv]; rfl)
  unfold rightS
  rw [polS, e1, if_pos h3]
  show (if (seqS ruleS ⟨[p.id], 0⟩ (p.rules.set i (p.rules[i].putId p.id))).1 = 0 then _ else seqS ruleS ⟨[p.id], 0⟩ (p.rules.set i (p.rules[i].putId p.id))).1 = 1
  rw [if_neg (by rw [hs]; decide), hs]
theorem names_kid {p : Pol} (h : rightS p = 0) {i : Nat} (hi : i < p.kids.length) : rightS (p.putKids (p.kids.set i (p.kids[i].putId p.id))) = 1 := by
  obtain ⟨h1, h2, h3, h4, h5⟩ := right_name h
  obtain ⟨k1, k2, k3⟩ := polS_kids h
  have e0 := headS_of h1 h4 h5
  have e1 : headS ⟨[], 0⟩ (p.putKids (p.kids.set i (p.kids[i].putId p.id))) = (headE p, ⟨[p.id], 0⟩) := by
    rw [headS_of (p := p.putKids _) h1 h4 h5]
    refine congrArg (fun x => (x, _)) ?_
    unfold headE
    simp only [Pol.putKids, Pol.set, Pol.rules, Pol.kids, Pol.alg, Pol.target, Pol.obls, List.length_set]
    cases p; rfl
  rw [e0] at k2 k3
  have hw2 := seqS_lim (P := fun w => hasS w.met p.id = true) (fun w x hw _ => hasS_ruleS hw) (by simp [hasS] : hasS [p.id] p.id = true) k2
  have hs := seqS_set (P := fun w => hasS w.met p.id = true) (fun w x hw h => hasS_polS 3 hw h) k3 hw2 hi (y := p.kids[i].putId p.id) (fun v hv => by
    rw [polS]
    have e : (headS v (p.kids[i].putId p.id)).1 = 1 := by
      unfold headS
      rw [show (p.kids[i].putId p.id).id = p.id from rfl, nameOk_has hv]; rfl
    rw [if_neg (by rw [e]; decide), e])
  unfold rightS
  rw [polS, e1, if_pos h3]
  show (if (seqS ruleS ⟨[p.id], 0⟩ p.rules).1 = 0 then seqS (polS 3) (seqS ruleS ⟨[p.id], 0⟩ p.rules).2 (p.kids.set i (p.kids[i].putId p.id)) else _).1 = 1
  rw [if_pos k2, hs]
theorem nameS_X (s : ByteArray) : nameS (⟨#[88]⟩ ++ s) = false := by
  have h0 : 0 < ((⟨#[88]⟩ : ByteArray) ++ s).size := by rw [ByteArray.size_append]; show 0 < 1 + s.size; omega
  refine nameS_no (k := 0) h0 ?_
  have : ((⟨#[88]⟩ : ByteArray) ++ s)[0] = 88 := by
    rw [ByteArray.getElem_append_left (by show 0 < 1; omega)]; rfl
  rw [this]; rfl
theorem names_id {p : Pol} (s : ByteArray) : rightS (p.putId (⟨#[88]⟩ ++ s)) = 1 := by
  refine rightS_head ?_
  unfold headS
  simp only
  rw [show nameOk [] (p.putId (⟨#[88]⟩ ++ s)).id = false by
    show nameOk [] (⟨#[88]⟩ ++ s) = false
    simp [nameOk, nameS_X]]
  rfl
def zRul : Rul := ⟨⟨#[122, 122, 122]⟩, false, [], [], []⟩
def zPol : Pol := .mk ⟨#[122, 122, 122]⟩ false 1 [] [] [] []
theorem names_set {p : Pol} (h : rightS p = 0) (hs : p.set = true) : rightS (p.putRules [zRul]) = 1 := by
  obtain ⟨h1, h2, h3, h4, h5⟩ := right_name h
  refine rightS_head ?_
  rw [headS_of (p := p.putRules [zRul]) h1 h4 h5]
  unfold headE
  rw [if_pos (by rw [show (p.putRules [zRul]).set = true from hs]; rfl)]
theorem names_pol {p : Pol} (h : rightS p = 0) (hs : p.set = false) : rightS (p.putKids [zPol]) = 1 := by
  obtain ⟨h1, h2, h3, h4, h5⟩ := right_name h
  refine rightS_head ?_
  rw [headS_of (p := p.putKids [zPol]) h1 h4 h5]
  unfold headE
  rw [if_pos (by rw [show (p.putKids [zPol]).set = false from hs]; rfl)]
theorem right_shape {p : Pol} (h : rightS p = 0) : (p.set = true → p.rules = []) ∧ (p.set = false → p.kids = []) := by
  obtain ⟨h1, h2, h3, h4, h5⟩ := right_name h
  unfold headE at h3
  split at h3
  · cases h3
  · rename_i hc
    simp only [Bool.or_eq_true, Bool.and_eq_true, decide_eq_true_eq, Bool.not_eq_true'] at hc
    refine ⟨fun hs => ?_, fun hs => ?_⟩
    · refine List.length_eq_zero_iff.1 ?_
      have : ¬ 0 < p.rules.length := fun hl => hc (.inl ⟨hs, hl⟩)
      omega
    · refine List.length_eq_zero_iff.1 ?_
      have : ¬ 0 < p.kids.length := fun hl => hc (.inr ⟨hs, .inl hl⟩)
      omega
theorem fit_rules {n : Nat} {p : Pol} (h : PolFit (n + 1) p) {l : List Rul} (hl : ∀ r ∈ l, RulFit r) (hn : l.length ≤ reachBytes) : PolFit (n + 1) (p.putRules l) := ⟨⟨h.1.id, h.1.tgt, hl, h.1.obls, hn, h.1.nk⟩, h.2⟩
theorem fit_kids {n : Nat} {p : Pol} (h : PolFit (n + 1) p) {l : List Pol} (hl : ∀ k ∈ l, PolFit n k) (hn : l.length ≤ reachBytes) : PolFit (n + 1) (p.putKids l) := ⟨⟨h.1.id, h.1.tgt, h.1.rules, h.1.obls, h.1.nr, hn⟩, hl⟩
theorem fit_id : ∀ {n : Nat} {p : Pol}, PolFit n p → ∀ {s : ByteArray}, s.size ≤ reachBytes → PolFit n (p.putId s)
  | 0, _, _, _, _ => True.intro
  | n + 1, p, h, s, hs => ⟨⟨hs, h.1.tgt, h.1.rules, h.1.obls, h.1.nr, h.1.nk⟩, h.2⟩
theorem mem_set {α : Type} {l : List α} {i : Nat} {y x : α} (h : x ∈ l.set i y) : x = y ∨ x ∈ l := by
  rcases List.mem_or_eq_of_mem_set h with h | h
  · exact .inr h
  · exact .inl h
theorem rul_set {l : List Rul} {i : Nat} (hi : i < l.length) (s : ByteArray) : (l.map ruleP).set i (((l.map ruleP).getD i []).take 0 ++ [pS s] ++ ((l.map ruleP).getD i []).drop 1) = (l.set i (l[i].putId s)).map ruleP := by
  have h0 : (l.map ruleP).getD i [] = ruleP l[i] := by simp [hi]
  rw [h0, List.map_set]; rfl
theorem pol_set {l : List Pol} {i : Nat} (hi : i < l.length) (s : ByteArray) : (l.map polP).set i (((l.map polP).getD i []).take 0 ++ [pS s] ++ ((l.map polP).getD i []).drop 1) = (l.set i (l[i].putId s)).map polP := by
  have h0 : (l.map polP).getD i [] = polP l[i] := by simp [hi]
  rw [h0, List.map_set, polP_eq l[i], polP_eq (l[i].putId s)]; rfl
theorem polNames_h {n : Nat} (p : Pol) (hf : PolF n p) (k : Int) (hk : R64 k) (name : ByteArray) (hname : name.size ≤ reachBytes) : Holds Try.prog 11 [.agg (polP p), pI k, pS name] (.p (pB true)) [] := by
  have hS := small_h p hf
  have hf4 := polF_fit 4 hf
  have hR := right_h p hf4
  have hC0 := fun h => copy_h n p hf h
  have l1 : ((p.rules.map ruleP).length) = p.rules.length := by simp
  have l2 : ((p.kids.map polP).length) = p.kids.length := by simp
  unfold reachBytes at hname
  have hXf : ((⟨#[88]⟩ : ByteArray) ++ name).size ≤ reachBytes → PolFit 4 (p.putId (⟨#[88]⟩ ++ name)) := fun h => fit_id hf4 h
  have hRK := fun (i : Nat) (hi : i < p.kids.length) => right_h (p.putKids (p.kids.set i (p.kids[i].putId p.id))) (fit_kids hf4 (fun x hx => by
    rcases mem_set hx with rfl | hx
    · exact fit_id (hf4.2 _ (List.getElem_mem hi)) hf4.1.id
    · exact hf4.2 _ hx) (by simpa using hf4.1.nk))
  have hRR := fun (i : Nat) (hi : i < p.rules.length) => right_h (p.putRules (p.rules.set i (p.rules[i].putId p.id))) (fit_rules hf4 (fun x hx => by
    rcases mem_set hx with rfl | hx
    · have := hf4.1.rules _ (List.getElem_mem hi)
      exact ⟨hf4.1.id, this.tgt, this.cond, this.obls⟩
    · exact hf4.1.rules _ hx) (by simpa using hf4.1.nr))
  have hR1 := fun h => right_h (p.putId (⟨#[88]⟩ ++ name)) (hXf h)
  have hzr : RulFit zRul := ⟨by show (⟨#[122, 122, 122]⟩ : ByteArray).size ≤ _; decide, (fun x hx => by cases hx), (fun x hx => by cases hx), (fun x hx => by cases hx)⟩
  have hzp : PolFit 3 zPol := by
    refine ⟨⟨by show (⟨#[122, 122, 122]⟩ : ByteArray).size ≤ _; decide, (fun x hx => by cases hx), (fun x hx => by cases hx), (fun x hx => by cases hx), by show 0 ≤ _; omega, by show 0 ≤ _; omega⟩, fun x hx => by cases hx⟩
  have hR3 := right_h (p.putRules [zRul]) (fit_rules hf4 (fun x hx => by rw [List.mem_singleton] at hx; subst hx; exact hzr) (by show 1 ≤ _; decide))
  have hR4 := right_h (p.putKids [zPol]) (fit_kids hf4 (fun x hx => by rw [List.mem_singleton] at hx; subst hx; exact hzp) (by show 1 ≤ _; decide))
  have hnr := hf4.1.nr
  have hnk := hf4.1.nk
  unfold reachBytes at hnr hnk
  rw [polP_eq] at hS hR hC0 hR1 hR3 hR4 ⊢
  simp only [polP_eq (p.putKids _), polP_eq (p.putRules _)] at hRK hRR
  refine holds_of (ts := [6]) Try.func11 (by kernel_rfl) rfl rfl rfl ?_
  (repeat refine sw_seq ?_); refine sw_region ?_
  repeat (first | refine sR (h := ?_) | refine sK (h := ?_) | refine sT (h := aM (h := ?_)) | refine sT (h := aB (h := ?_)) | refine sT (h := aA (h := ?_)) | refine sT (h := aS (h := ?_)) | refine sT (h := aL (h := ?_)))
  refine swt_nil ?_
  (repeat refine sw_seq ?_); refine sw_region ?_
  repeat (first | refine sR (h := ?_) | refine sK (h := ?_) | refine sT (h := aM (h := ?_)) | refine sT (h := aB (h := ?_)) | refine sT (h := aA (h := ?_)) | refine sT (h := aS (h := ?_)) | refine sT (h := aL (h := ?_)))
  refine swt_act rfl (act_call_E rfl rfl rfl rfl (hS) rfl ?_)
  rintro _ ⟨b1, rfl, hsz⟩
  cases b1 with
  | false =>
    repeat (first | refine sR (h := ?_) | refine sK (h := ?_) | refine sT (h := aM (h := ?_)) | refine sT (h := aB (h := ?_)) | refine sT (h := aA (h := ?_)) | refine sT (h := aS (h := ?_)) | refine sT (h := aL (h := ?_)))
    refine swt_nil ?_
    (repeat refine sw_seq ?_); refine sw_cond rfl (fun hc => ?_) (fun hc => ?_)
    · (repeat refine sw_seq ?_); refine sw_region ?_
      repeat (first | refine sR (h := ?_) | refine sK (h := ?_) | refine sT (h := aM (h := ?_)) | refine sT (h := aB (h := ?_)) | refine sT (h := aA (h := ?_)) | refine sT (h := aS (h := ?_)) | refine sT (h := aL (h := ?_)))
      refine swt_act rfl (act_call_flat rfl rfl rfl rfl (polRuns_h) rfl rfl ?_)
      repeat (first | refine sR (h := ?_) | refine sK (h := ?_) | refine sT (h := aM (h := ?_)) | refine sT (h := aB (h := ?_)) | refine sT (h := aA (h := ?_)) | refine sT (h := aS (h := ?_)) | refine sT (h := aL (h := ?_)))
      refine swt_nil ?_
      (repeat refine sw_seq ?_); refine sw_ret ?_
      exact fin_b rfl rfl
    · cases hc
  | true =>
    repeat (first | refine sR (h := ?_) | refine sK (h := ?_) | refine sT (h := aM (h := ?_)) | refine sT (h := aB (h := ?_)) | refine sT (h := aA (h := ?_)) | refine sT (h := aS (h := ?_)) | refine sT (h := aL (h := ?_)))
    refine swt_act rfl (act_call_flat rfl rfl rfl rfl (hR) rfl rfl ?_)
    repeat (first | refine sR (h := ?_) | refine sK (h := ?_) | refine sT (h := aM (h := ?_)) | refine sT (h := aB (h := ?_)) | refine sT (h := aA (h := ?_)) | refine sT (h := aS (h := ?_)) | refine sT (h := aL (h := ?_)))
    by_cases h0 : rightS p = 0
    rotate_left
    · rw [show (rightS p != 0) = true by simpa using h0]
      repeat (first | refine sR (h := ?_) | refine sK (h := ?_) | refine sT (h := aM (h := ?_)) | refine sT (h := aB (h := ?_)) | refine sT (h := aA (h := ?_)) | refine sT (h := aS (h := ?_)) | refine sT (h := aL (h := ?_)))
      refine swt_nil ?_
      (repeat refine sw_seq ?_); refine sw_cond rfl (fun hc => ?_) (fun hc => ?_)
      · (repeat refine sw_seq ?_); refine sw_region ?_
        repeat (first | refine sR (h := ?_) | refine sK (h := ?_) | refine sT (h := aM (h := ?_)) | refine sT (h := aB (h := ?_)) | refine sT (h := aA (h := ?_)) | refine sT (h := aS (h := ?_)) | refine sT (h := aL (h := ?_)))
        refine swt_act rfl (act_call_flat rfl rfl rfl rfl (polRuns_h) rfl rfl ?_)
        repeat (first | refine sR (h := ?_) | refine sK (h := ?_) | refine sT (h := aM (h := ?_)) | refine sT (h := aB (h := ?_)) | refine sT (h := aA (h := ?_)) | refine sT (h := aS (h := ?_)) | refine sT (h := aL (h := ?_)))
        refine swt_nil ?_
        (repeat refine sw_seq ?_); refine sw_ret ?_
        exact fin_b rfl rfl
      · cases hc
    rw [show (rightS p != 0) = false by simpa using h0]
    repeat (first | refine sR (h := ?_) | refine sK (h := ?_) | refine sT (h := aM (h := ?_)) | refine sT (h := aB (h := ?_)) | refine sT (h := aA (h := ?_)) | refine sT (h := aS (h := ?_)) | refine sT (h := aL (h := ?_)))
    by_cases hn60 : name.size ≤ 60
    rotate_left
    · rw [show decide ((name.size : Int) > 60) = true by simp; omega]
      repeat (first | refine sR (h := ?_) | refine sK (h := ?_) | refine sT (h := aM (h := ?_)) | refine sT (h := aB (h := ?_)) | refine sT (h := aA (h := ?_)) | refine sT (h := aS (h := ?_)) | refine sT (h := aL (h := ?_)))
      refine swt_nil ?_
      (repeat refine sw_seq ?_); refine sw_cond rfl (fun hc => ?_) (fun hc => ?_)
      · (repeat refine sw_seq ?_); refine sw_region ?_
        repeat (first | refine sR (h := ?_) | refine sK (h := ?_) | refine sT (h := aM (h := ?_)) | refine sT (h := aB (h := ?_)) | refine sT (h := aA (h := ?_)) | refine sT (h := aS (h := ?_)) | refine sT (h := aL (h := ?_)))
        refine swt_act rfl (act_call_flat rfl rfl rfl rfl (polRuns_h) rfl rfl ?_)
        repeat (first | refine sR (h := ?_) | refine sK (h := ?_) | refine sT (h := aM (h := ?_)) | refine sT (h := aB (h := ?_)) | refine sT (h := aA (h := ?_)) | refine sT (h := aS (h := ?_)) | refine sT (h := aL (h := ?_)))
        refine swt_nil ?_
        (repeat refine sw_seq ?_); refine sw_ret ?_
        exact fin_b rfl rfl
      · cases hc
    rw [show decide ((name.size : Int) > 60) = false by simp; omega]
    repeat (first | refine sR (h := ?_) | refine sK (h := ?_) | refine sT (h := aM (h := ?_)) | refine sT (h := aB (h := ?_)) | refine sT (h := aA (h := ?_)) | refine sT (h := aS (h := ?_)) | refine sT (h := aL (h := ?_)))
    refine swt_nil ?_
    (repeat refine sw_seq ?_); refine sw_cond rfl (fun hc => ?_) (fun hc => ?_)
    · cases hc
    refine sw_skip ?_
    have hC := hC0 (hsz rfl)
    have hR1 := hR1 (by rw [ByteArray.size_append]; show 1 + name.size ≤ reachBytes; unfold reachBytes; omega)
    rw [names_id] at hR1
    have HRS : p.set = true → Holds Try.prog 31 [.agg [pS p.id, pB p.set, pI p.alg, tgtP p.target, .sl 5 [[pS ⟨#[122, 122, 122]⟩, pB false, nilV, nilV, nilV]], .sl 7 (p.kids.map polP), oblsP p.obls]] (.p (pI 1)) [] := fun hs => by
      rw [names_set h0 hs] at hR3
      exact hR3.cv (.cons (CvL.agg (.cons (.refl _) (.cons (.refl _) (.cons (.refl _) (.cons (.refl _) (.cons (CvM.sl (.cons (.cons (.refl _) (.cons (.refl _) (.cons (.nil _) (.cons (.nil _) (.cons (.nil _) .nil))))) .nil)) (.cons (.refl _) (.cons (.refl _) .nil)))))))) .nil)
    have HRP : p.set = false → Holds Try.prog 31 [.agg [pS p.id, pB p.set, pI p.alg, tgtP p.target, .sl 5 (p.rules.map ruleP), .sl 7 [[pS ⟨#[122, 122, 122]⟩, pB false, pI 1, nilV, nilV, nilV, nilV]], oblsP p.obls]] (.p (pI 1)) [] := fun hs => by
      rw [names_pol h0 hs] at hR4
      exact hR4.cv (.cons (CvL.agg (.cons (.refl _) (.cons (.refl _) (.cons (.refl _) (.cons (.refl _) (.cons (.refl _) (.cons (CvM.sl (.cons (cv_nils _ _ _) .nil)) (.cons (.refl _) .nil)))))))) .nil)
    obtain ⟨sh1, sh2⟩ := right_shape h0
    refine SW.wk (wk_only [1, 2, 3] [(3, 3)] rfl rfl) ?_
    (repeat refine sw_seq ?_); refine sw_region ?_
    repeat (first | refine sR (h := ?_) | refine sK (h := ?_) | refine sT (h := aM (h := ?_)) | refine sT (h := aB (h := ?_)) | refine sT (h := aA (h := ?_)) | refine sT (h := aS (h := ?_)) | refine sT (h := aL (h := ?_)))
    refine swt_act rfl (act_call rfl rfl rfl rfl (hC) rfl rfl rfl ?_)
    repeat (first | refine sR (h := ?_) | refine sK (h := ?_) | refine sT (h := aM (h := ?_)) | refine sT (h := aB (h := ?_)) | refine sT (h := aA (h := ?_)) | refine sT (h := aS (h := ?_)) | refine sT (h := aL (h := ?_)))
    refine swt_nil ?_
    change SW _ _ _ ⟨90, _, _⟩
    (repeat refine sw_seq ?_); refine sw_region ?_
    repeat (first | refine sR (h := ?_) | refine sK (h := ?_) | refine sT (h := aM (h := ?_)) | refine sT (h := aB (h := ?_)) | refine sT (h := aA (h := ?_)) | refine sT (h := aS (h := ?_)) | refine sT (h := aL (h := ?_)))
    refine swt_nil ?_
    rw [l1]
    (repeat refine sw_seq ?_); refine sw_cond rfl (fun hr => ?_) (fun hr => ?_)
    · have hr0 : 0 < p.rules.length := by simpa using hr
      refine SW.wk (wk_only [1, 2, 3, 7] [(3, 3), (7, 7), (26000, 26000), (26001, 26001)] rfl rfl) ?_
      obtain ⟨i, hie, hi⟩ : ∃ i : Nat, 0 + k % ((p.rules.length : Int) - 1 - 0 + 1) = (i : Int) ∧ i < p.rules.length := by
        have e : (p.rules.length : Int) - 1 - 0 + 1 = p.rules.length := by omega
        rw [e]
        have h1 := Int.emod_nonneg k (show (p.rules.length : Int) ≠ 0 by omega)
        have h2 := Int.emod_lt_of_pos k (show (0 : Int) < p.rules.length by omega)
        exact ⟨(k % (p.rules.length : Int)).toNat, by omega, by omega⟩
      have HW := within_h k 0 ((p.rules.length : Int) - 1) hk (by omega) (by omega) (by omega)
      rw [hie] at HW
      have HQ := hRR i hi
      rw [names_rule h0 hi] at HQ
      (repeat refine sw_seq ?_); refine sw_region_draw [26000] [(0, true), (1, true), (2, true), (3, true), (4, true), (5, true), (6, true), (8, true), (9, true), (7, false), (10, true), (11, true), (12, false)] (by kernel_rfl) (by kernel_rfl) (by kernel_rfl) ?_
      repeat (first | refine mR (h := ?_) | refine mK (h := ?_) | refine mT (h := aM (h := ?_)) | refine mT (h := aB (h := ?_)) | refine mT (h := aA (h := ?_)) | refine mT (h := aS (h := ?_)) | refine mT (h := aL (h := ?_)))
      rw [l1, show IntKind.i64.wrap ((p.rules.length : Int) - 1) = (p.rules.length : Int) - 1 from IntWalk.i64_in _ (by omega)]
      repeat (first | refine mR (h := ?_) | refine mK (h := ?_) | refine mT (h := aM (h := ?_)) | refine mT (h := aB (h := ?_)) | refine mT (h := aA (h := ?_)) | refine mT (h := aS (h := ?_)) | refine mT (h := aL (h := ?_)))
      refine swm_act rfl rfl rfl (act_call_flat rfl rfl rfl rfl (HW) rfl rfl ?_)
      repeat (first | refine mR (h := ?_) | refine mK (h := ?_) | refine mT (h := aM (h := ?_)) | refine mT (h := aB (h := ?_)) | refine mT (h := aA (h := ?_)) | refine mT (h := aS (h := ?_)) | refine mT (h := aL (h := ?_)))
      refine swm_read ttab_ok rfl rfl rfl (by rw [l1]; omega) rfl ?_
      repeat (first | refine mR (h := ?_) | refine mK (h := ?_) | refine mT (h := aM (h := ?_)) | refine mT (h := aB (h := ?_)) | refine mT (h := aA (h := ?_)) | refine mT (h := aS (h := ?_)) | refine mT (h := aL (h := ?_)))
      refine swm_act rfl rfl rfl (act_store_elem ttab_ok rfl rfl rfl rfl rfl (by rw [l1]; exact hi) rfl rfl rfl rfl rfl ?_)
      repeat (first | refine mR (h := ?_) | refine mK (h := ?_) | refine mT (h := aM (h := ?_)) | refine mT (h := aB (h := ?_)) | refine mT (h := aA (h := ?_)) | refine mT (h := aS (h := ?_)) | refine mT (h := aL (h := ?_)))
      refine swm_nil ?_
      change SW _ _ _ ⟨90, _, [(3, _), (7, _), (26000, .row 78 5 ((p.rules.map ruleP).set i (((p.rules.map ruleP).getD i []).take 0 ++ [pS p.id] ++ ((p.rules.map ruleP).getD i []).drop 1))), (26001, _)]⟩
      rw [rul_set hi]
      refine SW.wk ((wk_frz (k := 26000) rfl).trans (wk_frz (k := 26001) rfl)) ?_
      (repeat refine sw_seq ?_); refine sw_region ?_
      repeat (first | refine sR (h := ?_) | refine sK (h := ?_) | refine sT (h := aM (h := ?_)) | refine sT (h := aB (h := ?_)) | refine sT (h := aA (h := ?_)) | refine sT (h := aS (h := ?_)) | refine sT (h := aL (h := ?_)))
      refine swt_act rfl (act_call_flat rfl rfl rfl rfl (HQ) rfl rfl ?_)
      repeat (first | refine sR (h := ?_) | refine sK (h := ?_) | refine sT (h := aM (h := ?_)) | refine sT (h := aB (h := ?_)) | refine sT (h := aA (h := ?_)) | refine sT (h := aS (h := ?_)) | refine sT (h := aL (h := ?_)))
      refine swt_nil ?_
      (repeat refine sw_seq ?_); refine sw_cond rfl (fun hq => ?_) (fun hq => ?_)
      · cases hq
      refine sw_skip ?_
      have hk0 : p.kids = [] := by
        cases hs : p.set with
        | true => have := sh1 hs; rw [this] at hr0; cases hr0
        | false => exact sh2 hs
      (repeat refine sw_seq ?_); refine sw_region ?_
      repeat (first | refine sR (h := ?_) | refine sK (h := ?_) | refine sT (h := aM (h := ?_)) | refine sT (h := aB (h := ?_)) | refine sT (h := aA (h := ?_)) | refine sT (h := aS (h := ?_)) | refine sT (h := aL (h := ?_)))
      refine swt_nil ?_
      rw [hk0]
      (repeat refine sw_seq ?_); refine sw_cond rfl (fun hz => ?_) (fun hz => ?_)
      · cases hz
      refine sw_skip ?_
      rw [← hk0]
      refine SW.wk (wk_only [2, 3] [(3, 3)] rfl rfl) ?_
      (repeat refine sw_seq ?_); refine sw_region ?_
      repeat (first | refine sR (h := ?_) | refine sK (h := ?_) | refine sT (h := aM (h := ?_)) | refine sT (h := aB (h := ?_)) | refine sT (h := aA (h := ?_)) | refine sT (h := aS (h := ?_)) | refine sT (h := aL (h := ?_)))
      refine swt_act rfl (act_call rfl rfl rfl rfl (hC) rfl rfl rfl ?_)
      repeat (first | refine sR (h := ?_) | refine sK (h := ?_) | refine sT (h := aM (h := ?_)) | refine sT (h := aB (h := ?_)) | refine sT (h := aA (h := ?_)) | refine sT (h := aS (h := ?_)) | refine sT (h := aL (h := ?_)))
      refine swt_nil ?_
      refine SW.wk ((wk_frz (k := 66000) rfl).trans (wk_frz (k := 66001) rfl)) ?_
      refine SW.wk (wk_only [2, 3, 8] [(3, 3), (8, 8)] rfl rfl) ?_
      (repeat refine sw_seq ?_); refine sw_region ?_
      repeat (first | refine sR (h := ?_) | refine sK (h := ?_) | refine sT (h := aM (h := ?_)) | refine sT (h := aB (h := ?_)) | refine sT (h := aA (h := ?_)) | refine sT (h := aS (h := ?_)) | refine sT (h := aL (h := ?_)))
      refine swt_read ttab_ok rfl rfl (by rw [show (⟨#[88]⟩ : ByteArray).size = 1 from rfl]; unfold IntKind.max; simp [IntKind.signed, IntKind.bits]; omega) rfl ?_
      repeat (first | refine sR (h := ?_) | refine sK (h := ?_) | refine sT (h := aM (h := ?_)) | refine sT (h := aB (h := ?_)) | refine sT (h := aA (h := ?_)) | refine sT (h := aS (h := ?_)) | refine sT (h := aL (h := ?_)))
      refine swt_nil ?_
      (repeat refine sw_seq ?_); refine sw_region ?_
      repeat (first | refine sR (h := ?_) | refine sK (h := ?_) | refine sT (h := aM (h := ?_)) | refine sT (h := aB (h := ?_)) | refine sT (h := aA (h := ?_)) | refine sT (h := aS (h := ?_)) | refine sT (h := aL (h := ?_)))
      refine swt_act rfl (act_call rfl rfl rfl rfl (hC) rfl rfl rfl ?_)
      repeat (first | refine sR (h := ?_) | refine sK (h := ?_) | refine sT (h := aM (h := ?_)) | refine sT (h := aB (h := ?_)) | refine sT (h := aA (h := ?_)) | refine sT (h := aS (h := ?_)) | refine sT (h := aL (h := ?_)))
      refine swt_nil ?_
      refine SW.wk ((wk_frz (k := 71000) rfl).trans (wk_frz (k := 71001) rfl)) ?_
      refine SW.wk (wk_only [8, 9] [(8, 8), (9, 9)] rfl rfl) ?_
      (repeat refine sw_seq ?_); refine sw_region ?_
      repeat (first | refine sR (h := ?_) | refine sK (h := ?_) | refine sT (h := aM (h := ?_)) | refine sT (h := aB (h := ?_)) | refine sT (h := aA (h := ?_)) | refine sT (h := aS (h := ?_)) | refine sT (h := aL (h := ?_)))
      refine swt_nil ?_
      (repeat refine sw_seq ?_); refine sw_cond rfl (fun hs => ?_) (fun hs => ?_)
      · have hR2 := HRS hs
        (repeat refine sw_seq ?_); refine sw_region ?_
        repeat (first | refine sR (h := ?_) | refine sK (h := ?_) | refine sT (h := aM (h := ?_)) | refine sT (h := aB (h := ?_)) | refine sT (h := aA (h := ?_)) | refine sT (h := aS (h := ?_)) | refine sT (h := aL (h := ?_)))
        refine swt_nil ?_
        refine SW.wk (wk_frz (k := 74) rfl) ?_
        (repeat refine sw_seq ?_); refine sw_region ?_
        repeat (first | refine sR (h := ?_) | refine sK (h := ?_) | refine sT (h := aM (h := ?_)) | refine sT (h := aB (h := ?_)) | refine sT (h := aA (h := ?_)) | refine sT (h := aS (h := ?_)) | refine sT (h := aL (h := ?_)))
        refine swt_act rfl (act_call_flat rfl rfl rfl rfl (hR1) rfl rfl ?_)
        repeat (first | refine sR (h := ?_) | refine sK (h := ?_) | refine sT (h := aM (h := ?_)) | refine sT (h := aB (h := ?_)) | refine sT (h := aA (h := ?_)) | refine sT (h := aS (h := ?_)) | refine sT (h := aL (h := ?_)))
        refine swt_act rfl (act_call_flat rfl rfl rfl rfl (hR2) rfl rfl ?_)
        repeat (first | refine sR (h := ?_) | refine sK (h := ?_) | refine sT (h := aM (h := ?_)) | refine sT (h := aB (h := ?_)) | refine sT (h := aA (h := ?_)) | refine sT (h := aS (h := ?_)) | refine sT (h := aL (h := ?_)))
        refine swt_act rfl (act_call_flat rfl rfl rfl rfl (polRuns_h) rfl rfl ?_)
        repeat (first | refine sR (h := ?_) | refine sK (h := ?_) | refine sT (h := aM (h := ?_)) | refine sT (h := aB (h := ?_)) | refine sT (h := aA (h := ?_)) | refine sT (h := aS (h := ?_)) | refine sT (h := aL (h := ?_)))
        refine swt_nil ?_
        (repeat refine sw_seq ?_); refine sw_ret ?_
        exact fin_b rfl rfl
      · have hR2 := HRP hs
        (repeat refine sw_seq ?_); refine sw_region ?_
        repeat (first | refine sR (h := ?_) | refine sK (h := ?_) | refine sT (h := aM (h := ?_)) | refine sT (h := aB (h := ?_)) | refine sT (h := aA (h := ?_)) | refine sT (h := aS (h := ?_)) | refine sT (h := aL (h := ?_)))
        refine swt_nil ?_
        refine SW.wk (wk_frz (k := 77) rfl) ?_
        (repeat refine sw_seq ?_); refine sw_region ?_
        repeat (first | refine sR (h := ?_) | refine sK (h := ?_) | refine sT (h := aM (h := ?_)) | refine sT (h := aB (h := ?_)) | refine sT (h := aA (h := ?_)) | refine sT (h := aS (h := ?_)) | refine sT (h := aL (h := ?_)))
        refine swt_act rfl (act_call_flat rfl rfl rfl rfl (hR1) rfl rfl ?_)
        repeat (first | refine sR (h := ?_) | refine sK (h := ?_) | refine sT (h := aM (h := ?_)) | refine sT (h := aB (h := ?_)) | refine sT (h := aA (h := ?_)) | refine sT (h := aS (h := ?_)) | refine sT (h := aL (h := ?_)))
        refine swt_act rfl (act_call_flat rfl rfl rfl rfl (hR2) rfl rfl ?_)
        repeat (first | refine sR (h := ?_) | refine sK (h := ?_) | refine sT (h := aM (h := ?_)) | refine sT (h := aB (h := ?_)) | refine sT (h := aA (h := ?_)) | refine sT (h := aS (h := ?_)) | refine sT (h := aL (h := ?_)))
        refine swt_act rfl (act_call_flat rfl rfl rfl rfl (polRuns_h) rfl rfl ?_)
        repeat (first | refine sR (h := ?_) | refine sK (h := ?_) | refine sT (h := aM (h := ?_)) | refine sT (h := aB (h := ?_)) | refine sT (h := aA (h := ?_)) | refine sT (h := aS (h := ?_)) | refine sT (h := aL (h := ?_)))
        refine swt_nil ?_
        (repeat refine sw_seq ?_); refine sw_ret ?_
        exact fin_b rfl rfl
    · refine sw_skip ?_
      (repeat refine sw_seq ?_); refine sw_region ?_
      repeat (first | refine sR (h := ?_) | refine sK (h := ?_) | refine sT (h := aM (h := ?_)) | refine sT (h := aB (h := ?_)) | refine sT (h := aA (h := ?_)) | refine sT (h := aS (h := ?_)) | refine sT (h := aL (h := ?_)))
      refine swt_nil ?_
      rw [l2]
      (repeat refine sw_seq ?_); refine sw_cond rfl (fun hr2 => ?_) (fun hr2 => ?_)
      · have hr0 : 0 < p.kids.length := by simpa using hr2
        refine SW.wk (wk_only [1, 2, 3, 7] [(3, 3), (7, 7), (26000, 26000), (26001, 26001)] rfl rfl) ?_
        obtain ⟨i, hie, hi⟩ : ∃ i : Nat, 0 + k % ((p.kids.length : Int) - 1 - 0 + 1) = (i : Int) ∧ i < p.kids.length := by
          have e : (p.kids.length : Int) - 1 - 0 + 1 = p.kids.length := by omega
          rw [e]
          have h1 := Int.emod_nonneg k (show (p.kids.length : Int) ≠ 0 by omega)
          have h2 := Int.emod_lt_of_pos k (show (0 : Int) < p.kids.length by omega)
          exact ⟨(k % (p.kids.length : Int)).toNat, by omega, by omega⟩
        have HW := within_h k 0 ((p.kids.length : Int) - 1) hk (by omega) (by omega) (by omega)
        rw [hie] at HW
        have HQ := hRK i hi
        rw [names_kid h0 hi] at HQ
        (repeat refine sw_seq ?_); refine sw_region_draw [26001] [(0, true), (1, true), (2, true), (3, true), (4, true), (5, true), (6, true), (8, true), (9, true), (7, false), (10, true), (11, true), (12, false)] (by kernel_rfl) (by kernel_rfl) (by kernel_rfl) ?_
        repeat (first | refine mR (h := ?_) | refine mK (h := ?_) | refine mT (h := aM (h := ?_)) | refine mT (h := aB (h := ?_)) | refine mT (h := aA (h := ?_)) | refine mT (h := aS (h := ?_)) | refine mT (h := aL (h := ?_)))
        rw [l2, show IntKind.i64.wrap ((p.kids.length : Int) - 1) = (p.kids.length : Int) - 1 from IntWalk.i64_in _ (by omega)]
        repeat (first | refine mR (h := ?_) | refine mK (h := ?_) | refine mT (h := aM (h := ?_)) | refine mT (h := aB (h := ?_)) | refine mT (h := aA (h := ?_)) | refine mT (h := aS (h := ?_)) | refine mT (h := aL (h := ?_)))
        refine swm_act rfl rfl rfl (act_call_flat rfl rfl rfl rfl (HW) rfl rfl ?_)
        repeat (first | refine mR (h := ?_) | refine mK (h := ?_) | refine mT (h := aM (h := ?_)) | refine mT (h := aB (h := ?_)) | refine mT (h := aA (h := ?_)) | refine mT (h := aS (h := ?_)) | refine mT (h := aL (h := ?_)))
        refine swm_read ttab_ok rfl rfl rfl (by rw [l2]; omega) rfl ?_
        repeat (first | refine mR (h := ?_) | refine mK (h := ?_) | refine mT (h := aM (h := ?_)) | refine mT (h := aB (h := ?_)) | refine mT (h := aA (h := ?_)) | refine mT (h := aS (h := ?_)) | refine mT (h := aL (h := ?_)))
        refine swm_act rfl rfl rfl (act_store_elem ttab_ok rfl rfl rfl rfl rfl (by rw [l2]; exact hi) rfl rfl rfl rfl rfl ?_)
        repeat (first | refine mR (h := ?_) | refine mK (h := ?_) | refine mT (h := aM (h := ?_)) | refine mT (h := aB (h := ?_)) | refine mT (h := aA (h := ?_)) | refine mT (h := aS (h := ?_)) | refine mT (h := aL (h := ?_)))
        refine swm_nil ?_
        change SW _ _ _ ⟨90, _, [(3, _), (7, _), (26000, _), (26001, .row 64 7 ((p.kids.map polP).set i (((p.kids.map polP).getD i []).take 0 ++ [pS p.id] ++ ((p.kids.map polP).getD i []).drop 1)))]⟩
        rw [pol_set hi]
        refine SW.wk ((wk_frz (k := 26000) rfl).trans (wk_frz (k := 26001) rfl)) ?_
        (repeat refine sw_seq ?_); refine sw_region ?_
        repeat (first | refine sR (h := ?_) | refine sK (h := ?_) | refine sT (h := aM (h := ?_)) | refine sT (h := aB (h := ?_)) | refine sT (h := aA (h := ?_)) | refine sT (h := aS (h := ?_)) | refine sT (h := aL (h := ?_)))
        refine swt_act rfl (act_call_flat rfl rfl rfl rfl (HQ) rfl rfl ?_)
        repeat (first | refine sR (h := ?_) | refine sK (h := ?_) | refine sT (h := aM (h := ?_)) | refine sT (h := aB (h := ?_)) | refine sT (h := aA (h := ?_)) | refine sT (h := aS (h := ?_)) | refine sT (h := aL (h := ?_)))
        refine swt_nil ?_
        (repeat refine sw_seq ?_); refine sw_cond rfl (fun hq => ?_) (fun hq => ?_)
        · cases hq
        refine sw_skip ?_
        refine SW.wk (wk_only [2, 3] [(3, 3)] rfl rfl) ?_
        (repeat refine sw_seq ?_); refine sw_region ?_
        repeat (first | refine sR (h := ?_) | refine sK (h := ?_) | refine sT (h := aM (h := ?_)) | refine sT (h := aB (h := ?_)) | refine sT (h := aA (h := ?_)) | refine sT (h := aS (h := ?_)) | refine sT (h := aL (h := ?_)))
        refine swt_act rfl (act_call rfl rfl rfl rfl (hC) rfl rfl rfl ?_)
        repeat (first | refine sR (h := ?_) | refine sK (h := ?_) | refine sT (h := aM (h := ?_)) | refine sT (h := aB (h := ?_)) | refine sT (h := aA (h := ?_)) | refine sT (h := aS (h := ?_)) | refine sT (h := aL (h := ?_)))
        refine swt_nil ?_
        refine SW.wk ((wk_frz (k := 66000) rfl).trans (wk_frz (k := 66001) rfl)) ?_
        refine SW.wk (wk_only [2, 3, 8] [(3, 3), (8, 8)] rfl rfl) ?_
        (repeat refine sw_seq ?_); refine sw_region ?_
        repeat (first | refine sR (h := ?_) | refine sK (h := ?_) | refine sT (h := aM (h := ?_)) | refine sT (h := aB (h := ?_)) | refine sT (h := aA (h := ?_)) | refine sT (h := aS (h := ?_)) | refine sT (h := aL (h := ?_)))
        refine swt_read ttab_ok rfl rfl (by rw [show (⟨#[88]⟩ : ByteArray).size = 1 from rfl]; unfold IntKind.max; simp [IntKind.signed, IntKind.bits]; omega) rfl ?_
        repeat (first | refine sR (h := ?_) | refine sK (h := ?_) | refine sT (h := aM (h := ?_)) | refine sT (h := aB (h := ?_)) | refine sT (h := aA (h := ?_)) | refine sT (h := aS (h := ?_)) | refine sT (h := aL (h := ?_)))
        refine swt_nil ?_
        (repeat refine sw_seq ?_); refine sw_region ?_
        repeat (first | refine sR (h := ?_) | refine sK (h := ?_) | refine sT (h := aM (h := ?_)) | refine sT (h := aB (h := ?_)) | refine sT (h := aA (h := ?_)) | refine sT (h := aS (h := ?_)) | refine sT (h := aL (h := ?_)))
        refine swt_act rfl (act_call rfl rfl rfl rfl (hC) rfl rfl rfl ?_)
        repeat (first | refine sR (h := ?_) | refine sK (h := ?_) | refine sT (h := aM (h := ?_)) | refine sT (h := aB (h := ?_)) | refine sT (h := aA (h := ?_)) | refine sT (h := aS (h := ?_)) | refine sT (h := aL (h := ?_)))
        refine swt_nil ?_
        refine SW.wk ((wk_frz (k := 71000) rfl).trans (wk_frz (k := 71001) rfl)) ?_
        refine SW.wk (wk_only [8, 9] [(8, 8), (9, 9)] rfl rfl) ?_
        (repeat refine sw_seq ?_); refine sw_region ?_
        repeat (first | refine sR (h := ?_) | refine sK (h := ?_) | refine sT (h := aM (h := ?_)) | refine sT (h := aB (h := ?_)) | refine sT (h := aA (h := ?_)) | refine sT (h := aS (h := ?_)) | refine sT (h := aL (h := ?_)))
        refine swt_nil ?_
        (repeat refine sw_seq ?_); refine sw_cond rfl (fun hs => ?_) (fun hs => ?_)
        · have hR2 := HRS hs
          (repeat refine sw_seq ?_); refine sw_region ?_
          repeat (first | refine sR (h := ?_) | refine sK (h := ?_) | refine sT (h := aM (h := ?_)) | refine sT (h := aB (h := ?_)) | refine sT (h := aA (h := ?_)) | refine sT (h := aS (h := ?_)) | refine sT (h := aL (h := ?_)))
          refine swt_nil ?_
          refine SW.wk (wk_frz (k := 74) rfl) ?_
          (repeat refine sw_seq ?_); refine sw_region ?_
          repeat (first | refine sR (h := ?_) | refine sK (h := ?_) | refine sT (h := aM (h := ?_)) | refine sT (h := aB (h := ?_)) | refine sT (h := aA (h := ?_)) | refine sT (h := aS (h := ?_)) | refine sT (h := aL (h := ?_)))
          refine swt_act rfl (act_call_flat rfl rfl rfl rfl (hR1) rfl rfl ?_)
          repeat (first | refine sR (h := ?_) | refine sK (h := ?_) | refine sT (h := aM (h := ?_)) | refine sT (h := aB (h := ?_)) | refine sT (h := aA (h := ?_)) | refine sT (h := aS (h := ?_)) | refine sT (h := aL (h := ?_)))
          refine swt_act rfl (act_call_flat rfl rfl rfl rfl (hR2) rfl rfl ?_)
          repeat (first | refine sR (h := ?_) | refine sK (h := ?_) | refine sT (h := aM (h := ?_)) | refine sT (h := aB (h := ?_)) | refine sT (h := aA (h := ?_)) | refine sT (h := aS (h := ?_)) | refine sT (h := aL (h := ?_)))
          refine swt_act rfl (act_call_flat rfl rfl rfl rfl (polRuns_h) rfl rfl ?_)
          repeat (first | refine sR (h := ?_) | refine sK (h := ?_) | refine sT (h := aM (h := ?_)) | refine sT (h := aB (h := ?_)) | refine sT (h := aA (h := ?_)) | refine sT (h := aS (h := ?_)) | refine sT (h := aL (h := ?_)))
          refine swt_nil ?_
          (repeat refine sw_seq ?_); refine sw_ret ?_
          exact fin_b rfl rfl
        · have hR2 := HRP hs
          (repeat refine sw_seq ?_); refine sw_region ?_
          repeat (first | refine sR (h := ?_) | refine sK (h := ?_) | refine sT (h := aM (h := ?_)) | refine sT (h := aB (h := ?_)) | refine sT (h := aA (h := ?_)) | refine sT (h := aS (h := ?_)) | refine sT (h := aL (h := ?_)))
          refine swt_nil ?_
          refine SW.wk (wk_frz (k := 77) rfl) ?_
          (repeat refine sw_seq ?_); refine sw_region ?_
          repeat (first | refine sR (h := ?_) | refine sK (h := ?_) | refine sT (h := aM (h := ?_)) | refine sT (h := aB (h := ?_)) | refine sT (h := aA (h := ?_)) | refine sT (h := aS (h := ?_)) | refine sT (h := aL (h := ?_)))
          refine swt_act rfl (act_call_flat rfl rfl rfl rfl (hR1) rfl rfl ?_)
          repeat (first | refine sR (h := ?_) | refine sK (h := ?_) | refine sT (h := aM (h := ?_)) | refine sT (h := aB (h := ?_)) | refine sT (h := aA (h := ?_)) | refine sT (h := aS (h := ?_)) | refine sT (h := aL (h := ?_)))
          refine swt_act rfl (act_call_flat rfl rfl rfl rfl (hR2) rfl rfl ?_)
          repeat (first | refine sR (h := ?_) | refine sK (h := ?_) | refine sT (h := aM (h := ?_)) | refine sT (h := aB (h := ?_)) | refine sT (h := aA (h := ?_)) | refine sT (h := aS (h := ?_)) | refine sT (h := aL (h := ?_)))
          refine swt_act rfl (act_call_flat rfl rfl rfl rfl (polRuns_h) rfl rfl ?_)
          repeat (first | refine sR (h := ?_) | refine sK (h := ?_) | refine sT (h := aM (h := ?_)) | refine sT (h := aB (h := ?_)) | refine sT (h := aA (h := ?_)) | refine sT (h := aS (h := ?_)) | refine sT (h := aL (h := ?_)))
          refine swt_nil ?_
          (repeat refine sw_seq ?_); refine sw_ret ?_
          exact fin_b rfl rfl
      · refine sw_skip ?_
        refine SW.wk (wk_only [2, 3] [(3, 3)] rfl rfl) ?_
        (repeat refine sw_seq ?_); refine sw_region ?_
        repeat (first | refine sR (h := ?_) | refine sK (h := ?_) | refine sT (h := aM (h := ?_)) | refine sT (h := aB (h := ?_)) | refine sT (h := aA (h := ?_)) | refine sT (h := aS (h := ?_)) | refine sT (h := aL (h := ?_)))
        refine swt_act rfl (act_call rfl rfl rfl rfl (hC) rfl rfl rfl ?_)
        repeat (first | refine sR (h := ?_) | refine sK (h := ?_) | refine sT (h := aM (h := ?_)) | refine sT (h := aB (h := ?_)) | refine sT (h := aA (h := ?_)) | refine sT (h := aS (h := ?_)) | refine sT (h := aL (h := ?_)))
        refine swt_nil ?_
        refine SW.wk ((wk_frz (k := 66000) rfl).trans (wk_frz (k := 66001) rfl)) ?_
        refine SW.wk (wk_only [2, 3, 8] [(3, 3), (8, 8)] rfl rfl) ?_
        (repeat refine sw_seq ?_); refine sw_region ?_
        repeat (first | refine sR (h := ?_) | refine sK (h := ?_) | refine sT (h := aM (h := ?_)) | refine sT (h := aB (h := ?_)) | refine sT (h := aA (h := ?_)) | refine sT (h := aS (h := ?_)) | refine sT (h := aL (h := ?_)))
        refine swt_read ttab_ok rfl rfl (by rw [show (⟨#[88]⟩ : ByteArray).size = 1 from rfl]; unfold IntKind.max; simp [IntKind.signed, IntKind.bits]; omega) rfl ?_
        repeat (first | refine sR (h := ?_) | refine sK (h := ?_) | refine sT (h := aM (h := ?_)) | refine sT (h := aB (h := ?_)) | refine sT (h := aA (h := ?_)) | refine sT (h := aS (h := ?_)) | refine sT (h := aL (h := ?_)))
        refine swt_nil ?_
        (repeat refine sw_seq ?_); refine sw_region ?_
        repeat (first | refine sR (h := ?_) | refine sK (h := ?_) | refine sT (h := aM (h := ?_)) | refine sT (h := aB (h := ?_)) | refine sT (h := aA (h := ?_)) | refine sT (h := aS (h := ?_)) | refine sT (h := aL (h := ?_)))
        refine swt_act rfl (act_call rfl rfl rfl rfl (hC) rfl rfl rfl ?_)
        repeat (first | refine sR (h := ?_) | refine sK (h := ?_) | refine sT (h := aM (h := ?_)) | refine sT (h := aB (h := ?_)) | refine sT (h := aA (h := ?_)) | refine sT (h := aS (h := ?_)) | refine sT (h := aL (h := ?_)))
        refine swt_nil ?_
        refine SW.wk ((wk_frz (k := 71000) rfl).trans (wk_frz (k := 71001) rfl)) ?_
        refine SW.wk (wk_only [8, 9] [(8, 8), (9, 9)] rfl rfl) ?_
        (repeat refine sw_seq ?_); refine sw_region ?_
        repeat (first | refine sR (h := ?_) | refine sK (h := ?_) | refine sT (h := aM (h := ?_)) | refine sT (h := aB (h := ?_)) | refine sT (h := aA (h := ?_)) | refine sT (h := aS (h := ?_)) | refine sT (h := aL (h := ?_)))
        refine swt_nil ?_
        (repeat refine sw_seq ?_); refine sw_cond rfl (fun hs => ?_) (fun hs => ?_)
        · have hR2 := HRS hs
          (repeat refine sw_seq ?_); refine sw_region ?_
          repeat (first | refine sR (h := ?_) | refine sK (h := ?_) | refine sT (h := aM (h := ?_)) | refine sT (h := aB (h := ?_)) | refine sT (h := aA (h := ?_)) | refine sT (h := aS (h := ?_)) | refine sT (h := aL (h := ?_)))
          refine swt_nil ?_
          refine SW.wk (wk_frz (k := 74) rfl) ?_
          (repeat refine sw_seq ?_); refine sw_region ?_
          repeat (first | refine sR (h := ?_) | refine sK (h := ?_) | refine sT (h := aM (h := ?_)) | refine sT (h := aB (h := ?_)) | refine sT (h := aA (h := ?_)) | refine sT (h := aS (h := ?_)) | refine sT (h := aL (h := ?_)))
          refine swt_act rfl (act_call_flat rfl rfl rfl rfl (hR1) rfl rfl ?_)
          repeat (first | refine sR (h := ?_) | refine sK (h := ?_) | refine sT (h := aM (h := ?_)) | refine sT (h := aB (h := ?_)) | refine sT (h := aA (h := ?_)) | refine sT (h := aS (h := ?_)) | refine sT (h := aL (h := ?_)))
          refine swt_act rfl (act_call_flat rfl rfl rfl rfl (hR2) rfl rfl ?_)
          repeat (first | refine sR (h := ?_) | refine sK (h := ?_) | refine sT (h := aM (h := ?_)) | refine sT (h := aB (h := ?_)) | refine sT (h := aA (h := ?_)) | refine sT (h := aS (h := ?_)) | refine sT (h := aL (h := ?_)))
          refine swt_act rfl (act_call_flat rfl rfl rfl rfl (polRuns_h) rfl rfl ?_)
          repeat (first | refine sR (h := ?_) | refine sK (h := ?_) | refine sT (h := aM (h := ?_)) | refine sT (h := aB (h := ?_)) | refine sT (h := aA (h := ?_)) | refine sT (h := aS (h := ?_)) | refine sT (h := aL (h := ?_)))
          refine swt_nil ?_
          (repeat refine sw_seq ?_); refine sw_ret ?_
          exact fin_b rfl rfl
        · have hR2 := HRP hs
          (repeat refine sw_seq ?_); refine sw_region ?_
          repeat (first | refine sR (h := ?_) | refine sK (h := ?_) | refine sT (h := aM (h := ?_)) | refine sT (h := aB (h := ?_)) | refine sT (h := aA (h := ?_)) | refine sT (h := aS (h := ?_)) | refine sT (h := aL (h := ?_)))
          refine swt_nil ?_
          refine SW.wk (wk_frz (k := 77) rfl) ?_
          (repeat refine sw_seq ?_); refine sw_region ?_
          repeat (first | refine sR (h := ?_) | refine sK (h := ?_) | refine sT (h := aM (h := ?_)) | refine sT (h := aB (h := ?_)) | refine sT (h := aA (h := ?_)) | refine sT (h := aS (h := ?_)) | refine sT (h := aL (h := ?_)))
          refine swt_act rfl (act_call_flat rfl rfl rfl rfl (hR1) rfl rfl ?_)
          repeat (first | refine sR (h := ?_) | refine sK (h := ?_) | refine sT (h := aM (h := ?_)) | refine sT (h := aB (h := ?_)) | refine sT (h := aA (h := ?_)) | refine sT (h := aS (h := ?_)) | refine sT (h := aL (h := ?_)))
          refine swt_act rfl (act_call_flat rfl rfl rfl rfl (hR2) rfl rfl ?_)
          repeat (first | refine sR (h := ?_) | refine sK (h := ?_) | refine sT (h := aM (h := ?_)) | refine sT (h := aB (h := ?_)) | refine sT (h := aA (h := ?_)) | refine sT (h := aS (h := ?_)) | refine sT (h := aL (h := ?_)))
          refine swt_act rfl (act_call_flat rfl rfl rfl rfl (polRuns_h) rfl rfl ?_)
          repeat (first | refine sR (h := ?_) | refine sK (h := ?_) | refine sT (h := aM (h := ?_)) | refine sT (h := aB (h := ?_)) | refine sT (h := aA (h := ?_)) | refine sT (h := aS (h := ?_)) | refine sT (h := aL (h := ?_)))
          refine swt_nil ?_
          (repeat refine sw_seq ?_); refine sw_ret ?_
          exact fin_b rfl rfl
end Go.Proofs.Ytjpcchipejmocaa
