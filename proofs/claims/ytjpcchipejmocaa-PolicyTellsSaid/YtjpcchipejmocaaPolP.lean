/-
  Layer 8 in plain words: what follows for a right policy's parts: names, rules, kids, levels.
-/
import Derived.Test.YtjpcchipejmocaaPolM
namespace Go.Proofs.Ytjpcchipejmocaa
set_option linter.unusedVariables false
set_option linter.unusedSimpArgs false
open Go.RowKit
mutual
/-- how many rules -/
def Pol.nr : Pol → Nat
  | .mk _ _ _ _ rs ks _ => rs.length + Pol.nrs ks
def Pol.nrs : List Pol → Nat
  | [] => 0
  | k :: ks => k.nr + Pol.nrs ks
end
theorem Pol.nrs_eq : ∀ l : List Pol, Pol.nrs l = sumBy Pol.nr l
  | [] => rfl
  | k :: ks => by simp [Pol.nrs, sumBy, Pol.nrs_eq ks]
theorem Pol.nr_eq (p : Pol) : p.nr = p.rules.length + sumBy Pol.nr p.kids := by
  cases p; rw [← Pol.nrs_eq]; rfl
theorem seqS_count {α : Type} {f : Wlk → α → Int × Wlk} {c : α → Nat} (hf : ∀ w x, (f w x).1 = 0 → (f w x).2.rules = w.rules + c x) : ∀ {l : List α} {w : Wlk}, (seqS f w l).1 = 0 → (seqS f w l).2.rules = w.rules + sumBy c l
  | [], w, _ => by simp [seqS, sumBy]
  | x :: r, w, h => by
    rw [seqS] at h ⊢
    by_cases h0 : (f w x).1 = 0
    · rw [if_pos h0] at h ⊢
      rw [seqS_count hf h, hf w x h0]
      simp [sumBy]; omega
    · rw [if_neg h0] at h; exact absurd h h0
theorem ruleS_count (w : Wlk) (r : Rul) (h : (ruleS w r).1 = 0) : (ruleS w r).2.rules = w.rules + (1 : Nat) := by
  unfold ruleS at h ⊢
  split at h
  · rename_i hn; rw [if_pos hn]; rfl
  · cases h
theorem sumBy_one {α : Type} : ∀ l : List α, sumBy (fun _ => 1) l = l.length
  | [] => rfl
  | x :: r => by have := sumBy_one r; unfold sumBy at this ⊢; simp; omega
theorem sumBy_take {α : Type} (f : α → Nat) (l : List α) (k : Nat) : sumBy f (l.take k) ≤ sumBy f l := by
  have h : sumBy f (l.take k ++ l.drop k) = sumBy f (l.take k) + sumBy f (l.drop k) := by simp only [sumBy, List.map_append, List.sum_append]
  rw [List.take_append_drop] at h
  omega
theorem polS_count : ∀ (n : Nat) (w : Wlk) (p : Pol), (polS n w p).1 = 0 → (polS n w p).2.rules = w.rules + p.nr
  | 0, w, p, h => by cases h
  | n + 1, w, p, h => by
    have h1 : (headS w p).2.rules = w.rules := rfl
    rw [polS] at h ⊢
    rw [Pol.nr_eq]
    split at h
    · rename_i h2
      rw [if_pos h2]
      split at h
      · rename_i h3
        rw [if_pos h3, seqS_count (c := Pol.nr) (fun w x h => polS_count n w x h) h, seqS_count (c := fun _ => 1) ruleS_count h3, h1, sumBy_one]
        omega
      · rename_i h3; exact absurd h h3
    · rename_i h2; exact absurd h h2
/-- no more than so many levels -/
def Dp : Nat → Pol → Prop
  | 0, _ => False
  | n + 1, p => ∀ k ∈ p.kids, Dp n k
theorem polS_kids {n : Nat} {w : Wlk} {p : Pol} (h : (polS (n + 1) w p).1 = 0) : (headS w p).1 = 0 ∧ (seqS ruleS (headS w p).2 p.rules).1 = 0 ∧ (seqS (polS n) (seqS ruleS (headS w p).2 p.rules).2 p.kids).1 = 0 := by
  rw [polS] at h
  split at h
  · rename_i h2
    split at h
    · rename_i h3; exact ⟨h2, h3, h⟩
    · rename_i h3; exact absurd h h3
  · rename_i h2; exact absurd h h2
theorem polS_dp : ∀ (n : Nat) {w : Wlk} {p : Pol}, (polS n w p).1 = 0 → Dp n p
  | 0, w, p, h => by cases h
  | n + 1, w, p, h => seqS_each (fun w x h => polS_dp n h) (polS_kids h).2.2
theorem seqS_eachP {α : Type} {f : Wlk → α → Int × Wlk} {P : Wlk → Prop} {Q : α → Prop} (hf : ∀ w x, P w → (f w x).1 = 0 → P (f w x).2 ∧ Q x) : ∀ {l : List α} {w : Wlk}, P w → (seqS f w l).1 = 0 → ∀ x ∈ l, Q x
  | [], w, _, _, x, hx => by simp at hx
  | y :: r, w, hw, h0, x, hx => by
    rw [seqS] at h0
    by_cases hy : (f w y).1 = 0
    · rw [if_pos hy] at h0
      rcases List.mem_cons.1 hx with rfl | hx
      · exact (hf w _ hw hy).2
      · exact seqS_eachP hf (hf w y hw hy).1 h0 x hx
    · rw [if_neg hy] at h0; exact absurd h0 hy
theorem right_kids {p : Pol} (h : rightS p = 0) : ∀ k ∈ p.kids, rightS k = 0 := by
  obtain ⟨h1, h2, h3⟩ := polS_kids h
  have l1 : lim (headS ⟨[], 0⟩ p).2 := ⟨by show (0 : Int) ≤ 0; omega, by show (0 : Int) ≤ 64; omega⟩
  have l2 := seqS_lim (P := lim) (fun w x hw h => ruleS_lim hw h) l1 h2
  exact seqS_eachP (P := lim) (Q := fun k => rightS k = 0) (fun w x hw h => ⟨polS_lim 3 w x hw h, (polS_le (n := 3) (m := 4) (by omega) (le_start w hw.1) h).1⟩) l2 h3
theorem right_nr {p : Pol} (h : rightS p = 0) : p.nr ≤ 64 := by
  have h1 := polS_count 4 ⟨[], 0⟩ p h
  have h2 := polS_lim 4 ⟨[], 0⟩ p ⟨Int.le_refl _, by decide⟩ h
  have := h2.2
  rw [h1] at this
  simp only [Int.zero_add] at this
  omega
theorem nr_kid {p k : Pol} (h : k ∈ p.kids) : k.nr ≤ p.nr := by
  rw [Pol.nr_eq p]
  have := sumBy_le (f := Pol.nr) h
  omega
theorem rightS_head {p : Pol} (h : (headS ⟨[], 0⟩ p).1 = 1) : rightS p = 1 := by
  unfold rightS
  rw [polS, if_neg (by rw [h]; decide)]; exact h
theorem hasS_ruleS {s : ByteArray} {w : Wlk} {r : Rul} (h : hasS w.met s = true) : hasS (ruleS w r).2.met s = true := by
  unfold ruleS
  split
  · show hasS (w.met ++ [r.id]) s = true
    rw [hasS_snoc, h]; rfl
  · exact h
theorem hasS_headS {s : ByteArray} {w : Wlk} {p : Pol} (h : hasS w.met s = true) : hasS (headS w p).2.met s = true := by
  unfold headS nameM
  simp only
  split
  · rw [hasS_snoc, h]; rfl
  · exact h
theorem hasS_polS {s : ByteArray} : ∀ (n : Nat) {w : Wlk} {p : Pol}, hasS w.met s = true → (polS n w p).1 = 0 → hasS (polS n w p).2.met s = true
  | 0, w, p, _, h => by cases h
  | n + 1, w, p, hw, h => by
    obtain ⟨h1, h2, h3⟩ := polS_kids h
    rw [polS, if_pos h1, if_pos h2]
    exact seqS_lim (P := fun w => hasS w.met s = true) (fun w x hw h => hasS_polS n hw h) (seqS_lim (P := fun w => hasS w.met s = true) (fun w x hw _ => hasS_ruleS hw) (hasS_headS hw) h2) h3
theorem seqS_pre {α : Type} {f : Wlk → α → Int × Wlk} : ∀ {l : List α} {w : Wlk} (k : Nat), (seqS f w l).1 = 0 → (seqS f w (l.take k)).1 = 0
  | [], w, k, _ => by simp [seqS]
  | x :: r, w, 0, _ => rfl
  | x :: r, w, k + 1, h => by
    rw [seqS] at h
    rw [List.take_succ_cons, seqS]
    by_cases h0 : (f w x).1 = 0
    · rw [if_pos h0] at h ⊢
      exact seqS_pre k h
    · rw [if_neg h0] at h; exact absurd h h0
theorem seqS_set {α : Type} {f : Wlk → α → Int × Wlk} {P : Wlk → Prop} (hP : ∀ w x, P w → (f w x).1 = 0 → P (f w x).2) {l : List α} {w : Wlk} (h : (seqS f w l).1 = 0) (hw : P w) {i : Nat} (hi : i < l.length) {y : α} (hy : ∀ v, P v → (f v y).1 = 1) : (seqS f w (l.set i y)).1 = 1 := by
  have h1 := seqS_pre i h
  have h2 := seqS_lim hP hw h1
  have e1 : (l.set i y).take i = l.take i := by rw [List.take_set, List.set_eq_of_length_le (by simp; omega)]
  have hi2 : i < (l.set i y).length := by simpa using hi
  have h3 := seqS_some (f := f) (w := w) hi2 (by rw [e1]; exact h1)
  rw [e1, List.getElem_set_self] at h3
  have h4 := hy _ h2
  rw [seqS_stop (i + 1) (by rw [h3, h4]; decide), h3, h4]
theorem nameOk_has {m : List ByteArray} {s : ByteArray} (h : hasS m s = true) : nameOk m s = false := by simp [nameOk, h]
theorem right_name {p : Pol} (h : rightS p = 0) : nameOk [] p.id = true ∧ (headS ⟨[], 0⟩ p).1 = headE p ∧ headE p = 0 ∧ 1 ≤ p.alg ∧ p.alg ≤ 6 := by
  have h1 := (polS_kids h).1
  unfold headS at h1 ⊢
  simp only at h1 ⊢
  split at h1
  · rename_i hc
    rw [if_pos hc]
    simp only [Bool.and_eq_true, decide_eq_true_eq] at hc
    exact ⟨hc.1.1, rfl, h1, hc.1.2, hc.2⟩
  · cases h1
theorem headS_of {p : Pol} (h1 : nameOk [] p.id = true) (h2 : 1 ≤ p.alg) (h3 : p.alg ≤ 6) : headS ⟨[], 0⟩ p = (headE p, ⟨[p.id], 0⟩) := by
  unfold headS
  simp [h1, h2, h3, nameM]
def Pol.putRules (p : Pol) (l : List Rul) : Pol := .mk p.id p.set p.alg p.target l p.kids p.obls
def Pol.putKids (p : Pol) (l : List Pol) : Pol := .mk p.id p.set p.alg p.target p.rules l p.obls
def Pol.putId (p : Pol) (s : ByteArray) : Pol := .mk s p.set p.alg p.target p.rules p.kids p.obls
def Rul.putId (r : Rul) (s : ByteArray) : Rul := ⟨s, r.deny, r.target, r.cond, r.obls⟩
theorem names_rule {p : Pol} (h : rightS p = 0) {i : Nat} (hi : i < p.rules.length) : rightS (p.putRules (p.rules.set i (p.rules[i].putId p.id))) = 1 := by
  obtain ⟨h1, h2, h3, h4, h5⟩ := right_name h
  obtain ⟨k1, k2, k3⟩ := polS_kids h
  have e0 := headS_of h1 h4 h5
  have e1 : headS ⟨[], 0⟩ (p.putRules (p.rules.set i (p.rules[i].putId p.id))) = (headE p, ⟨[p.id], 0⟩) := by
    rw [headS_of (p := p.putRules _) h1 h4 h5]
    refine congrArg (fun x => (x, _)) ?_
    unfold headE
    simp only [Pol.putRules, Pol.set, Pol.rules, Pol.kids, Pol.alg, Pol.target, Pol.obls, List.length_set]
    cases p; rfl
  rw [e0] at k2
  have hs := seqS_set (P := fun w => hasS w.met p.id = true) (fun w x hw _ => hasS_ruleS hw) k2 (by simp [hasS]) hi (y := p.rules[i].putId p.id) (fun v hv => by
    unfold ruleS
    rw [show (p.rules[i].putId p.id).id = p.id from rfl, nameOk_has hv]; rfl)
  unfold rightS
  rw [polS, e1, if_pos h3]
  show (if (seqS ruleS ⟨[p.id], 0⟩ (p.rules.set i (p.rules[i].putId p.id))).1 = 0 then _ else seqS ruleS ⟨[p.id], 0⟩ (p.rules.set i (p.rules[i].putId p.id))).1 = 1
  rw [if_neg (by rw [hs]; decide), hs]
theorem names_kid {p : Pol} (h : rightS p = 0) {i : Nat} (hi : i < p.kids.length) : rightS (p.putKids (p.kids.set i (p.kids[i].putId p.id))) = 1 := by
  obtain ⟨h1, h2, h3, h4, h5⟩ := right_name h
  obtain ⟨k1, k2, k3⟩ := polS_kids h
  have e0 := headS_of h1 h4 h5
  have e1 : headS ⟨[], 0⟩ (p.putKids (p.kids.set i (p.kids[i].putId p.id))) = (headE p, ⟨[p.id], 0⟩) := by
    rw [headS_of (p := p.putKids _) h1 h4 h5]
    refine congrArg (fun x => (x, _)) ?_
    unfold headE
    simp only [Pol.putKids, Pol.set, Pol.rules, Pol.kids, Pol.alg, Pol.target, Pol.obls, List.length_set]
    cases p; rfl
  rw [e0] at k2 k3
  have hw2 := seqS_lim (P := fun w => hasS w.met p.id = true) (fun w x hw _ => hasS_ruleS hw) (by simp [hasS] : hasS [p.id] p.id = true) k2
  have hs := seqS_set (P := fun w => hasS w.met p.id = true) (fun w x hw h => hasS_polS 3 hw h) k3 hw2 hi (y := p.kids[i].putId p.id) (fun v hv => by
    rw [polS]
    have e : (headS v (p.kids[i].putId p.id)).1 = 1 := by
      unfold headS
      rw [show (p.kids[i].putId p.id).id = p.id from rfl, nameOk_has hv]; rfl
    rw [if_neg (by rw [e]; decide), e])
  unfold rightS
  rw [polS, e1, if_pos h3]
  show (if (seqS ruleS ⟨[p.id], 0⟩ p.rules).1 = 0 then seqS (polS 3) (seqS ruleS ⟨[p.id], 0⟩ p.rules).2 (p.kids.set i (p.kids[i].putId p.id)) else _).1 = 1
  rw [if_pos k2, hs]
theorem nameS_X (s : ByteArray) : nameS (⟨#[88]⟩ ++ s) = false := by
  have h0 : 0 < ((⟨#[88]⟩ : ByteArray) ++ s).size := by rw [ByteArray.size_append]; show 0 < 1 + s.size; omega
  refine nameS_no (k := 0) h0 ?_
  have : ((⟨#[88]⟩ : ByteArray) ++ s)[0] = 88 := by
    rw [ByteArray.getElem_append_left (by show 0 < 1; omega)]; rfl
  rw [this]; rfl
theorem names_id {p : Pol} (s : ByteArray) : rightS (p.putId (⟨#[88]⟩ ++ s)) = 1 := by
  refine rightS_head ?_
  unfold headS
  simp only
  rw [show nameOk [] (p.putId (⟨#[88]⟩ ++ s)).id = false by
    show nameOk [] (⟨#[88]⟩ ++ s) = false
    simp [nameOk, nameS_X]]
  rfl
def zRul : Rul := ⟨⟨#[122, 122, 122]⟩, false, [], [], []⟩
def zPol : Pol := .mk ⟨#[122, 122, 122]⟩ false 1 [] [] [] []
theorem names_set {p : Pol} (h : rightS p = 0) (hs : p.set = true) : rightS (p.putRules [zRul]) = 1 := by
  obtain ⟨h1, h2, h3, h4, h5⟩ := right_name h
  refine rightS_head ?_
  rw [headS_of (p := p.putRules [zRul]) h1 h4 h5]
  unfold headE
  rw [if_pos (by rw [show (p.putRules [zRul]).set = true from hs]; rfl)]
theorem names_pol {p : Pol} (h : rightS p = 0) (hs : p.set = false) : rightS (p.putKids [zPol]) = 1 := by
  obtain ⟨h1, h2, h3, h4, h5⟩ := right_name h
  refine rightS_head ?_
  rw [headS_of (p := p.putKids [zPol]) h1 h4 h5]
  unfold headE
  rw [if_pos (by rw [show (p.putKids [zPol]).set = false from hs]; rfl)]
theorem right_shape {p : Pol} (h : rightS p = 0) : (p.set = true → p.rules = []) ∧ (p.set = false → p.kids = []) := by
  obtain ⟨h1, h2, h3, h4, h5⟩ := right_name h
  unfold headE at h3
  split at h3
  · cases h3
  · rename_i hc
    simp only [Bool.or_eq_true, Bool.and_eq_true, decide_eq_true_eq, Bool.not_eq_true'] at hc
    refine ⟨fun hs => ?_, fun hs => ?_⟩
    · refine List.length_eq_zero_iff.1 ?_
      have : ¬ 0 < p.rules.length := fun hl => hc (.inl ⟨hs, hl⟩)
      omega
    · refine List.length_eq_zero_iff.1 ?_
      have : ¬ 0 < p.kids.length := fun hl => hc (.inr ⟨hs, .inl hl⟩)
      omega
end Go.Proofs.Ytjpcchipejmocaa
