/-
  What the statement leans on, part 6: EvD, EvM, CopyH, FewH, SmallH, GivO, EvL, FnsEv, EvalRuns.
-/
import Derived.Test.YtppfcacnofjmdaaGreatDoorPk1
import Derived.Test.YtppfcacnofjmdaaGreatDoorPk2
import Derived.Test.YtppfcacnofjmdaaGreatDoorPk3
import Derived.Test.YtppfcacnofjmdaaGreatDoorPk4
import Derived.Test.YtppfcacnofjmdaaGreatDoorPk5
namespace Go.Proofs.YtppfcacnofjmdaaGreatDoor
set_option linter.unusedVariables false
set_option linter.unusedSimpArgs false
open Go.RowKit
set_option maxHeartbeats 4000000
theorem partsO_len (alg : Int) (m : Mk) : ∀ l : List Rs, (wF alg m l).length ≤ oblN l
  | [] => Nat.le_refl _
  | x :: l => by
    have ih := partsO_len alg m l
    have e : oblN (x :: l) = x.obls.length + oblN l := by unfold oblN qT; rw [List.map_cons, List.sum_cons]
    rw [wF, e]
    split
    · split
      · omega
      · rw [List.length_append]; omega
    · omega
theorem oblN_append (a b : List Rs) : oblN (a ++ b) = oblN a + oblN b := by unfold oblN qT; rw [List.map_append, List.sum_append]
theorem oblN_map {α : Type} {f : α → Rs} {c : α → Nat} (h : ∀ x, (f x).obls.length ≤ c x) : ∀ l : List α, oblN (l.map f) ≤ qT c l
  | [] => Nat.le_refl _
  | x :: l => by
    have ih := oblN_map h l
    have h1 := h x
    unfold oblN qT at ih ⊢
    rw [List.map_cons, List.map_cons, List.sum_cons, List.map_cons, List.sum_cons]
    omega
theorem effectS_len (r : Rul) (t c : Int) : (jW r t c).obls.length ≤ r.obls.length := by
  unfold jW
  repeat' split
  · exact Nat.zero_le _
  · exact Nat.zero_le _
  · exact wq _ _
theorem ruleR_len (g : List Giv) (r : Rul) : (ruleR g r).obls.length ≤ rusz r := by
  have h1 := effectS_len r (metT r.target g) (qam r.cond g)
  have h2 : r.obls.length ≤ osz r.obls := by unfold osz; omega
  have h3 : rusz r = txt r.id + tsz r.target + r.cond.length + osz r.obls + qT nsz r.cond := rfl
  unfold ruleR
  omega
theorem parts_len (g : List Giv) (n : Nat) (h : ∀ p, (qF g n p).obls.length ≤ p.sz) (p : Pol) : oblN (p.rules.map (ruleR g) ++ p.kids.map (qF g n)) + p.obls.length ≤ p.sz := by
  have h1 := Pol.sz_eq p
  have h2 := oblN_map (ruleR_len g) p.rules
  have h3 := oblN_map h p.kids
  have h4 : p.obls.length ≤ osz p.obls := by unfold osz; omega
  rw [oblN_append]
  omega
theorem decideS_len (g : List Giv) : ∀ (n : Nat) (p : Pol), (qF g n p).obls.length ≤ p.sz
  | 0, p => Nat.zero_le _
  | n + 1, p => by
    have h1 := parts_len g n (decideS_len g n) p
    rw [qF]
    split
    · exact Nat.zero_le _
    · unfold wM
      repeat' split
      · exact Nat.zero_le _
      · exact Nat.zero_le _
      · exact Nat.zero_le _
      · have h2 := partsO_len p.alg (allM p.alg ((p.rules.map (ruleR g) ++ p.kids.map (qF g n)).map Rs.m)) (p.rules.map (ruleR g) ++ p.kids.map (qF g n))
        have h3 := wq p.obls (allM p.alg ((p.rules.map (ruleR g) ++ p.kids.map (qF g n)).map Rs.m))
        simp only [List.length_append]
        omega
theorem tarSm_sz {t : Tar} {n : Nat} (h : tsz t ≤ n) (hn : n ≤ 100000) : TarSm t := by
  refine ⟨by unfold tsz at h; omega, fun x hx => ?_⟩
  have h1 := xsz_le hx
  refine ⟨by unfold xsz at h1; omega, fun y hy => ?_⟩
  have h4 : asz y ≤ xsz x := by have := wb (f := asz) hy; unfold xsz; omega
  unfold asz at h4
  omega
theorem sz_big {p : Pol} {n : Nat} (h : p.sz ≤ n) (hn : n ≤ 100000) : TarSm p.target ∧ p.rules.length ≤ 100000 ∧ p.kids.length ≤ 100000 ∧ p.obls.length ≤ 100000 ∧ (∀ r ∈ p.rules, TarSm r.target ∧ r.cond.length ≤ 100000 ∧ r.obls.length ≤ 100000) ∧ ∀ k ∈ p.kids, k.sz ≤ n := by
  have h1 := Pol.sz_eq p
  have h2 := len_sumBy Pol.sz (fun p => by rw [Pol.sz_eq]; omega) p.kids
  have h3 : p.obls.length ≤ osz p.obls := by unfold osz; omega
  refine ⟨tarSm_sz (n := n) (by omega) hn, by omega, by omega, by omega, fun r hr => ?_, fun k hk => ?_⟩
  · have h4 := wb (f := rusz) hr
    have h5 : r.obls.length ≤ osz r.obls := by unfold osz; omega
    have h6 : rusz r = txt r.id + tsz r.target + r.cond.length + osz r.obls + qT nsz r.cond := rfl
    exact ⟨tarSm_sz (n := n) (by omega) hn, by omega, by omega⟩
  · have := wb (f := Pol.sz) hk
    omega
def DecOk (g : List Giv) (n : Nat) : Prop := ∀ (p : Pol), PolF n p → p.sz ≤ 100000 → Holds Tryz.prog 47 [.agg (polP p), zP g] (.p (.agg (rsP (qF g n p)))) []
theorem tarSm_of {t : Tar} (h : TarL t) : TarSm t := ⟨by have := h.1; omega, fun x hx => ⟨by have := (h.2 x hx).1; omega, fun y hy => by have := (h.2 x hx).2 y hy; omega⟩⟩
theorem dec_step {g : List Giv} (hg : GivOk g) (n : Nat) (IH : DecOk g n) : DecOk g (n + 1) := by
  intro p hf hsz
  obtain ⟨ht, hr, hk, ho, hru, hks⟩ := sz_big hsz (Nat.le_refl _)
  have hpl := parts_len g n (decideS_len g n) p
  have HK := fun k (hk : k ∈ p.kids) => IH k (hf.2.2 k hk) (hks k hk)
  have HM := metT_h p.target g hf.1.tgt ht hg.fit hg.len hg.bags
  have HR := fun r (hr : r ∈ p.rules) => ruleR_h r g (hf.1.rules r hr) (hru r hr).1 (by have := (hru r hr).2.2; omega) hg.fit hg.len hg.bags
  have HJ := join_h p (metT p.target g) (p.rules.map (ruleR g) ++ p.kids.map (qF g n)) (by simp; omega) (fun x hx => by
    rcases List.mem_append.1 hx with hx | hx
    · obtain ⟨r, _, rfl⟩ := List.mem_map.1 hx; exact qan _ _ _
    · obtain ⟨k, _, rfl⟩ := List.mem_map.1 hx; exact qaa g n k) (by omega) (by omega)
  have eD : qF g (n + 1) p = if metT p.target g = 0 then noRs else wM p (metT p.target g) (p.rules.map (ruleR g) ++ p.kids.map (qF g n)) := rfl
  rw [eD]
  clear eD
  rw [zf] at HJ ⊢
  generalize metT p.target g = t at *
  obtain ⟨id, set, alg, tg, rules, kids, obls⟩ := p
  simp only [Pol.id, Pol.set, Pol.alg, Pol.target, Pol.rules, Pol.kids, Pol.obls] at *
  have l1 : ((rules.map zt).length) = rules.length := by simp
  have l2 : ((kids.map polP).length) = kids.length := by simp
  refine .ofW ?_
  refine qR (T := TTab) qe Tryz.func47 (by kernel_rfl) rfl rfl rfl ?_
  (repeat refine qb ?_); refine qa ?_
  repeat (first | refine zR ?_ | refine zK ?_ | refine zM ?_ | refine zB ?_ | refine zA ?_ | refine zS ?_ | refine zL ?_)
  refine qc ?_
  (repeat refine qb ?_); refine qa ?_
  repeat (first | refine zR ?_ | refine zK ?_ | refine zM ?_ | refine zB ?_ | refine zA ?_ | refine zS ?_ | refine zL ?_)
  refine qn rfl (qg rfl rfl rfl rfl (HM) rfl rfl ?_)
  repeat (first | refine zR ?_ | refine zK ?_ | refine zM ?_ | refine zB ?_ | refine zA ?_ | refine zS ?_ | refine zL ?_)
  refine qc ?_
  (repeat refine qb ?_); refine qa ?_
  repeat (first | refine zR ?_ | refine zK ?_ | refine zM ?_ | refine zB ?_ | refine zA ?_ | refine zS ?_ | refine zL ?_)
  refine qc ?_
  (repeat refine qb ?_); refine qf rfl (fun h0 => ?_) (fun h0 => ?_)
  · have e : t = 0 := by simpa using h0
    rw [if_pos e]
    (repeat refine qb ?_); refine qa ?_
    repeat (first | refine zR ?_ | refine zK ?_ | refine zM ?_ | refine zB ?_ | refine zA ?_ | refine zS ?_ | refine zL ?_)
    refine qc ?_
    (repeat refine qb ?_); refine qk ?_
    exact ⟨Or.inr rfl, _, _, [], _, Wk.refl _, rfl, rfl, .p (CvL.agg (.cons (.refl _) (.cons (.nil 3) .nil))), rfl, rfl⟩
  have n0 : ¬ t = 0 := by simpa using h0
  rw [if_neg n0]
  refine qm ?_
  (repeat refine qb ?_); refine qa ?_
  repeat (first | refine zR ?_ | refine zK ?_ | refine zM ?_ | refine zB ?_ | refine zA ?_ | refine zS ?_ | refine zL ?_)
  refine qc ?_
  (repeat refine qb ?_); refine qa ?_
  repeat (first | refine zR ?_ | refine zK ?_ | refine zM ?_ | refine zB ?_ | refine zA ?_ | refine zS ?_ | refine zL ?_)
  refine qc ?_
  (repeat refine qb ?_); refine ql ?_
  refine SW.wk (jP 6 900 38 2 rfl rfl) ?_
  refine SW.wk (qq [1, 2, 4, 5, 6, 19, 20, 21] [(2, 2), (4, 4), (900, 0)] rfl rfl) ?_
  refine qO (fun m s => ∃ (k : Nat) (kk : Int), k ≤ rules.length ∧ m = rules.length - k ∧ kk = k ∧ s = ⟨50, [(1, .p (zP g)), (2, .ptr 2 0), (4, .ptr 4 0), (5, .p (pI t)), (6, .row 0), (19, .p (.sl 5 (rules.map zt))), (20, .p (pI (rules.map zt).length)), (21, .p (pI kk))], [(2, .cells [.p (pS id), .p (pB set), .p (pI alg), .p (tgtP tg), .p (.sl 5 (rules.map zt)), .p (.sl 7 (kids.map polP)), .p (zQ obls)]), (4, .cells [.p (.v (.complex .f64 0 0)), .p nilV]), (0, .row 38 2 (((rules.take k).map (ruleR g)).map rsP))]⟩) rules.length ⟨0, 0, Nat.zero_le _, rfl, rfl, rfl⟩ ?_
  rintro m s ⟨k, _, hk', rfl, rfl, rfl⟩
  (repeat refine qb ?_); refine qa ?_
  repeat (first | refine zR ?_ | refine zK ?_ | refine zM ?_ | refine zB ?_ | refine zA ?_ | refine zS ?_ | refine zL ?_)
  refine qc ?_
  (repeat refine qb ?_); refine qf rfl (fun hlt => ?_) (fun hlt => ?_)
  · refine qm ?_
    rw [l1] at hlt
    simp only [decide_eq_true_eq] at hlt
    have hlt' : k < rules.length := by omega
    have H := HR _ (List.getElem_mem hlt')
    obtain ⟨x, hx⟩ : ∃ x, x = rules[k] := ⟨_, rfl⟩
    rw [← hx] at H
    (repeat refine qb ?_); refine ql ?_
    (repeat refine qb ?_); refine qa ?_
    repeat (first | refine zR ?_ | refine zK ?_ | refine zM ?_ | refine zB ?_ | refine zA ?_ | refine zS ?_ | refine zL ?_)
    refine qw qe rfl rfl (by rw [l1]; omega) rfl ?_
    rw [qJ hlt', ← hx]
    repeat (first | refine zR ?_ | refine zK ?_ | refine zM ?_ | refine zB ?_ | refine zA ?_ | refine zS ?_ | refine zL ?_)
    refine qc ?_
    (repeat refine qb ?_); refine qa ?_
    repeat (first | refine zR ?_ | refine zK ?_ | refine zM ?_ | refine zB ?_ | refine zA ?_ | refine zS ?_ | refine zL ?_)
    refine qn rfl (qD rfl rfl rfl rfl (H) rfl rfl rfl ?_)
    repeat (first | refine zR ?_ | refine zK ?_ | refine zM ?_ | refine zB ?_ | refine zA ?_ | refine zS ?_ | refine zL ?_)
    refine qn rfl (qp qe rfl rfl rfl rfl rfl rfl rfl rfl rfl rfl rfl rfl rfl rfl rfl rfl (by simp only [List.length_append, List.length_map, List.length_take, List.length_cons, List.length_nil]; unfold reachBytes; omega) (by simp only [List.length_append, List.length_map, List.length_take, List.length_cons, List.length_nil]; omega) ?_)
    repeat (first | refine zR ?_ | refine zK ?_ | refine zM ?_ | refine zB ?_ | refine zA ?_ | refine zS ?_ | refine zL ?_)
    refine qc ?_
    (repeat refine qb ?_); refine qa ?_
    repeat (first | refine zR ?_ | refine zK ?_ | refine zM ?_ | refine zB ?_ | refine zA ?_ | refine zS ?_ | refine zL ?_)
    refine qc ?_
    refine ⟨_, _, ?_, qq [1, 2, 4, 5, 6, 19, 20, 21] [(2, 2), (4, 4), (30, 0)] rfl rfl, k + 1, _, hlt', rfl, qz hlt' (by omega), ?_⟩
    · omega
    · rw [List.take_succ_eq_append_getElem hlt', ← hx, List.map_append, List.map_append]; rfl
  · refine qK ?_
    rw [l1] at hlt
    simp only [decide_eq_false_iff_not] at hlt
    have hkk : k = rules.length := by omega
    subst hkk
    rw [List.take_length]
    (repeat refine qb ?_); refine qa ?_
    repeat (first | refine zR ?_ | refine zK ?_ | refine zM ?_ | refine zB ?_ | refine zA ?_ | refine zS ?_ | refine zL ?_)
    refine qc ?_
    (repeat refine qb ?_); refine ql ?_
    refine SW.wk (qq [1, 2, 4, 5, 6, 33, 34, 35] [(2, 2), (4, 4), (0, 0)] rfl rfl) ?_
    refine qO (fun m s => ∃ (k : Nat) (kk : Int) (L : List Rs), k ≤ kids.length ∧ m = kids.length - k ∧ kk = k ∧ L = rules.map (ruleR g) ++ (kids.take k).map (qF g n) ∧ s = ⟨50, [(1, .p (zP g)), (2, .ptr 2 0), (4, .ptr 4 0), (5, .p (pI t)), (6, .row 0), (33, .p (.sl 7 (kids.map polP))), (34, .p (pI (kids.map polP).length)), (35, .p (pI kk))], [(2, .cells [.p (pS id), .p (pB set), .p (pI alg), .p (tgtP tg), .p (.sl 5 (rules.map zt)), .p (.sl 7 (kids.map polP)), .p (zQ obls)]), (4, .cells [.p (.v (.complex .f64 0 0)), .p nilV]), (0, .row 38 2 (L.map rsP))]⟩) kids.length ⟨0, 0, rules.map (ruleR g), Nat.zero_le _, rfl, rfl, by simp, rfl⟩ ?_
    rintro m s ⟨k, _, L, hk', rfl, rfl, hL, rfl⟩
    have hLl : L.length = rules.length + min k kids.length := by rw [hL]; simp
    (repeat refine qb ?_); refine qa ?_
    repeat (first | refine zR ?_ | refine zK ?_ | refine zM ?_ | refine zB ?_ | refine zA ?_ | refine zS ?_ | refine zL ?_)
    refine qc ?_
    (repeat refine qb ?_); refine qf rfl (fun hlt => ?_) (fun hlt => ?_)
    · refine qm ?_
      rw [l2] at hlt
      simp only [decide_eq_true_eq] at hlt
      have hlt' : k < kids.length := by omega
      have H := HK _ (List.getElem_mem hlt')
      obtain ⟨x, hx⟩ : ∃ x, x = kids[k] := ⟨_, rfl⟩
      rw [← hx, zf] at H
      (repeat refine qb ?_); refine ql ?_
      (repeat refine qb ?_); refine qa ?_
      repeat (first | refine zR ?_ | refine zK ?_ | refine zM ?_ | refine zB ?_ | refine zA ?_ | refine zS ?_ | refine zL ?_)
      refine qw qe rfl rfl (by rw [l2]; omega) rfl ?_
      rw [qJ hlt', ← hx, zf]
      repeat (first | refine zR ?_ | refine zK ?_ | refine zM ?_ | refine zB ?_ | refine zA ?_ | refine zS ?_ | refine zL ?_)
      refine qc ?_
      (repeat refine qb ?_); refine qa ?_
      repeat (first | refine zR ?_ | refine zK ?_ | refine zM ?_ | refine zB ?_ | refine zA ?_ | refine zS ?_ | refine zL ?_)
      refine qn rfl (qD rfl rfl rfl rfl (H) rfl rfl rfl ?_)
      repeat (first | refine zR ?_ | refine zK ?_ | refine zM ?_ | refine zB ?_ | refine zA ?_ | refine zS ?_ | refine zL ?_)
      refine qn rfl (qp qe rfl rfl rfl rfl rfl rfl rfl rfl rfl rfl rfl rfl rfl rfl rfl rfl (by simp only [List.length_append, List.length_map, List.length_take, List.length_cons, List.length_nil]; unfold reachBytes; omega) (by simp only [List.length_append, List.length_map, List.length_take, List.length_cons, List.length_nil]; omega) ?_)
      repeat (first | refine zR ?_ | refine zK ?_ | refine zM ?_ | refine zB ?_ | refine zA ?_ | refine zS ?_ | refine zL ?_)
      refine qc ?_
      (repeat refine qb ?_); refine qa ?_
      repeat (first | refine zR ?_ | refine zK ?_ | refine zM ?_ | refine zB ?_ | refine zA ?_ | refine zS ?_ | refine zL ?_)
      refine qc ?_
      refine ⟨_, _, ?_, qq [1, 2, 4, 5, 6, 33, 34, 35] [(2, 2), (4, 4), (44, 0)] rfl rfl, k + 1, _, L ++ [qF g n x], hlt', rfl, qz hlt' (by omega), ?_, ?_⟩
      · omega
      · rw [hL, List.append_assoc, List.take_succ_eq_append_getElem hlt', List.map_append, ← hx]; rfl
      · rw [List.map_append]; rfl
    · refine qK ?_
      rw [l2] at hlt
      simp only [decide_eq_false_iff_not] at hlt
      have hkk : k = kids.length := by omega
      subst hkk
      rw [List.take_length] at hL
      rw [← hL] at HJ ⊢
      refine SW.wk (zN (k := 0) rfl) ?_
      (repeat refine qb ?_); refine qa ?_
      repeat (first | refine zR ?_ | refine zK ?_ | refine zM ?_ | refine zB ?_ | refine zA ?_ | refine zS ?_ | refine zL ?_)
      refine qn rfl (qD rfl rfl rfl rfl (HJ) rfl rfl rfl ?_)
      repeat (first | refine zR ?_ | refine zK ?_ | refine zM ?_ | refine zB ?_ | refine zA ?_ | refine zS ?_ | refine zL ?_)
      refine qc ?_
      (repeat refine qb ?_); refine qk ?_
      exact ⟨Or.inr rfl, _, _, [], _, Wk.refl _, rfl, rfl, .refl _, rfl, rfl⟩
theorem dec_all {g : List Giv} (hg : GivOk g) : ∀ n, DecOk g n
  | 0 => fun _ h => h.elim
  | n + 1 => dec_step hg n (dec_all hg n)
theorem polF_dp : ∀ {n : Nat} {p : Pol}, PolF n p → Dp n p
  | n + 1, p, h => fun k hk => polF_dp (h.2.2 k hk)
theorem decideS_any (g : List Giv) {n m : Nat} {p : Pol} (hn : Dp n p) (hm : Dp m p) : qF g n p = qF g m p := by
  rcases Nat.le_total n m with h | h
  · exact (decideS_dp g hn h).symm
  · exact decideS_dp g hm h
theorem evPol_h {n : Nat} (p : Pol) (hf : PolF n p) (hsz : p.sz ≤ 100000) (g : List Giv) (hg : GivOk g) : Holds Tryz.prog 19 [.agg (polP p), zP g] (.tup [.p (.agg (rsP (evalS p g).1)), .p (pI (evalS p g).2)]) [] := by
  have HR := right_h p (polF_fit 4 hf)
  have HD := dec_all hg n p hf hsz
  unfold evalS
  by_cases h : zb p = 0
  · rw [if_pos h]
    rw [decideS_any g (polF_dp hf) (right_dp h)] at HD
    rw [h] at HR
    generalize qF g 4 p = x at *
    rw [zf] at HR HD ⊢
    refine .ofW ?_
    refine qR (T := TTab) qe Tryz.func19 (by kernel_rfl) rfl rfl rfl ?_
    (repeat refine qb ?_); refine qa ?_
    repeat (first | refine zR ?_ | refine zK ?_ | refine zM ?_ | refine zB ?_ | refine zA ?_ | refine zS ?_ | refine zL ?_)
    refine qc ?_
    (repeat refine qb ?_); refine qa ?_
    repeat (first | refine zR ?_ | refine zK ?_ | refine zM ?_ | refine zB ?_ | refine zA ?_ | refine zS ?_ | refine zL ?_)
    refine qn rfl (qg rfl rfl rfl rfl (HR) rfl rfl ?_)
    repeat (first | refine zR ?_ | refine zK ?_ | refine zM ?_ | refine zB ?_ | refine zA ?_ | refine zS ?_ | refine zL ?_)
    refine qc ?_
    (repeat refine qb ?_); refine qf rfl (fun hc => ?_) (fun hc => ?_)
    · cases hc
    refine qm ?_
    (repeat refine qb ?_); refine qa ?_
    repeat (first | refine zR ?_ | refine zK ?_ | refine zM ?_ | refine zB ?_ | refine zA ?_ | refine zS ?_ | refine zL ?_)
    refine qn rfl (qD rfl rfl rfl rfl (HD) rfl rfl rfl ?_)
    repeat (first | refine zR ?_ | refine zK ?_ | refine zM ?_ | refine zB ?_ | refine zA ?_ | refine zS ?_ | refine zL ?_)
    refine qc ?_
    (repeat refine qb ?_); refine qk ?_
    exact ⟨Or.inr rfl, _, _, [], _, Wk.refl _, rfl, rfl, .refl _, rfl, rfl⟩
  · rw [if_neg h]
    rw [zf] at HR ⊢
    refine .ofW ?_
    refine qR (T := TTab) qe Tryz.func19 (by kernel_rfl) rfl rfl rfl ?_
    (repeat refine qb ?_); refine qa ?_
    repeat (first | refine zR ?_ | refine zK ?_ | refine zM ?_ | refine zB ?_ | refine zA ?_ | refine zS ?_ | refine zL ?_)
    refine qc ?_
    (repeat refine qb ?_); refine qa ?_
    repeat (first | refine zR ?_ | refine zK ?_ | refine zM ?_ | refine zB ?_ | refine zA ?_ | refine zS ?_ | refine zL ?_)
    refine qn rfl (qg rfl rfl rfl rfl (HR) rfl rfl ?_)
    repeat (first | refine zR ?_ | refine zK ?_ | refine zM ?_ | refine zB ?_ | refine zA ?_ | refine zS ?_ | refine zL ?_)
    rw [show (zb p != 0) = true by simpa using h]
    refine qc ?_
    (repeat refine qb ?_); refine qf rfl (fun hc => ?_) (fun hc => ?_)
    · (repeat refine qb ?_); refine qa ?_
      repeat (first | refine zR ?_ | refine zK ?_ | refine zM ?_ | refine zB ?_ | refine zA ?_ | refine zS ?_ | refine zL ?_)
      refine qc ?_
      (repeat refine qb ?_); refine qk ?_
      exact ⟨Or.inr rfl, _, _, [], _, Wk.refl _, rfl, rfl, .two (CvL.agg (.cons (.refl _) (.cons (.nil 3) .nil))) (.refl _), rfl, rfl⟩
    · cases hc
end Go.Proofs.YtppfcacnofjmdaaGreatDoor
namespace Go.Proofs.YtppfcacnofjmdaaGreatDoor
set_option linter.unusedVariables false
set_option linter.unusedSimpArgs false
open Go.RowKit
set_option maxHeartbeats 4000000
theorem sameObls_h (l : List Obli) (hn : l.length ≤ 1000000) : Holds Tryz.prog 49 [zQ l, zQ l] (.p (pB true)) [] := by
  refine qA (ts := [4]) Tryz.func49 (by kernel_rfl) rfl rfl rfl ?_
  (repeat refine qb ?_); refine qa ?_
  repeat (first | refine zR ?_ | refine zK ?_ | refine zM ?_ | refine zB ?_ | refine zA ?_ | refine zS ?_ | refine zL ?_)
  refine qc ?_
  (repeat refine qb ?_); refine qa ?_
  repeat (first | refine zR ?_ | refine zK ?_ | refine zM ?_ | refine zB ?_ | refine zA ?_ | refine zS ?_ | refine zL ?_)
  refine qc ?_
  (repeat refine qb ?_); refine qf rfl (fun h0 => ?_) (fun h0 => ?_)
  · exfalso
    simp at h0
  refine qm ?_
  (repeat refine qb ?_); refine qa ?_
  repeat (first | refine zR ?_ | refine zK ?_ | refine zM ?_ | refine zB ?_ | refine zA ?_ | refine zS ?_ | refine zL ?_)
  refine qc ?_
  (repeat refine qb ?_); refine ql ?_
  refine SW.wk (qq [0, 1, 4, 5] [] rfl rfl) ?_
  refine qO (fun m s => ∃ (k : Nat) (kk : Int), k ≤ l.length ∧ m = l.length - k ∧ kk = k ∧ s = ⟨26, [(0, .p (zQ l)), (1, .p (zQ l)), (4, .p (pB false)), (5, .p (pI kk))], []⟩) l.length ⟨0, 0, Nat.zero_le _, rfl, rfl, rfl⟩ ?_
  rintro m s ⟨k, _, hk, rfl, rfl, rfl⟩
  (repeat refine qb ?_); refine qa ?_
  repeat (first | refine zR ?_ | refine zK ?_ | refine zM ?_ | refine zB ?_ | refine zA ?_ | refine zS ?_ | refine zL ?_)
  refine qc ?_
  (repeat refine qb ?_); refine qf rfl (fun hlt => ?_) (fun hlt => ?_)
  · refine qm ?_
    simp only [List.length_map, decide_eq_true_eq] at hlt
    have hlt' : k < l.length := by omega
    obtain ⟨x, hx⟩ : ∃ x, x = l[k] := ⟨_, rfl⟩
    (repeat refine qb ?_); refine ql ?_
    (repeat refine qb ?_); refine zl [] [(0, true), (1, true), (2, true), (3, true), (4, true), (5, true), (6, true), (7, true), (8, true)] (by kernel_rfl) (by kernel_rfl) (by kernel_rfl) ?_
    repeat (first | refine yR ?_ | refine yK ?_ | refine yM ?_ | refine yB ?_ | refine yA ?_ | refine yS ?_ | refine yL ?_)
    refine zi qe rfl rfl rfl (by simp only [List.length_map]; omega) rfl ?_
    rw [qJ hlt', ← hx]
    repeat (first | refine yR ?_ | refine yK ?_ | refine yM ?_ | refine yB ?_ | refine yA ?_ | refine yS ?_ | refine yL ?_)
    refine zi qe rfl rfl rfl (by simp only [List.length_map]; omega) rfl ?_
    rw [qJ hlt', ← hx]
    repeat (first | refine yR ?_ | refine yK ?_ | refine yM ?_ | refine yB ?_ | refine yA ?_ | refine yS ?_ | refine yL ?_)
    refine zi qe rfl rfl rfl (rfl) rfl ?_
    repeat (first | refine yR ?_ | refine yK ?_ | refine yM ?_ | refine yB ?_ | refine yA ?_ | refine yS ?_ | refine yL ?_)
    refine swm_nil ?_
    (repeat refine qb ?_); refine qf rfl (fun hp => ?_) (fun hp => ?_)
    · exfalso
      simp at hp
    refine qm ?_
    (repeat refine qb ?_); refine qa ?_
    repeat (first | refine zR ?_ | refine zK ?_ | refine zM ?_ | refine zB ?_ | refine zA ?_ | refine zS ?_ | refine zL ?_)
    refine qc ?_
    refine ⟨_, _, ?_, qq [0, 1, 4, 5] [] rfl rfl, k + 1, _, hlt', rfl, qz hlt' (by omega), rfl⟩
    omega
  · refine qK ?_
    (repeat refine qb ?_); refine qa ?_
    repeat (first | refine zR ?_ | refine zK ?_ | refine zM ?_ | refine zB ?_ | refine zA ?_ | refine zS ?_ | refine zL ?_)
    refine qc ?_
    (repeat refine qb ?_); refine qk ?_
    exact wS rfl rfl
theorem results_h (x : Rs) (hm : x.m ∈ mks) (hl : x.obls.length ≤ 1000000) : Holds Tryz.prog 23 [.agg (rsP x), .agg (rsP x)] (.p (pB true)) [] := by
  have H := sameObls_h x.obls hl
  have hE : mkE x.m x.m = true := by rw [mkE_eq hm hm]; simp
  obtain ⟨m, o⟩ := x
  simp only at H hE ⊢
  refine qA (ts := [4]) Tryz.func23 (by kernel_rfl) rfl rfl rfl ?_
  (repeat refine qb ?_); refine qa ?_
  repeat (first | refine zR ?_ | refine zK ?_ | refine zM ?_ | refine zB ?_ | refine zA ?_ | refine zS ?_ | refine zL ?_)
  refine qc ?_
  (repeat refine qb ?_); refine qa ?_
  repeat (first | refine zR ?_ | refine zK ?_ | refine zM ?_ | refine zB ?_ | refine zA ?_ | refine zS ?_ | refine zL ?_)
  change SWT _ _ _ _ (St.put _ _ (.p (pB (mkE m m))))
  rw [hE]
  repeat (first | refine zR ?_ | refine zK ?_ | refine zM ?_ | refine zB ?_ | refine zA ?_ | refine zS ?_ | refine zL ?_)
  refine qn rfl (qg rfl rfl rfl rfl (H) rfl rfl ?_)
  repeat (first | refine zR ?_ | refine zK ?_ | refine zM ?_ | refine zB ?_ | refine zA ?_ | refine zS ?_ | refine zL ?_)
  refine qc ?_
  (repeat refine qb ?_); refine qk ?_
  exact wS rfl rfl
theorem resultsN_h (m : Mk) (hm : m ∈ mks) : Holds Tryz.prog 23 [.agg (rsP ⟨m, []⟩), .agg [mkP m, nilV]] (.p (pB true)) [] :=
  (results_h ⟨m, []⟩ hm (Nat.zero_le _)).cv (.cons (.refl _) (.cons (CvL.agg (.cons (.refl _) (.cons (.nil 3) .nil))) .nil))
theorem mkE_pp : mkE (2, 0) (2, 0) = true := by decide +kernel
theorem mkE_dp : mkE (0, 2) (2, 0) = false := by decide +kernel
theorem mkE_dd : mkE (0, 2) (0, 2) = true := by decide +kernel
theorem evalS_right {p : Pol} {g : List Giv} (h : zb p = 0) : evalS p g = (qF g 4 p, 0) := by unfold evalS; rw [if_pos h]
end Go.Proofs.YtppfcacnofjmdaaGreatDoor
namespace Go.Proofs.YtppfcacnofjmdaaGreatDoor
set_option linter.unusedVariables false
set_option linter.unusedSimpArgs false
open Go.RowKit
set_option maxHeartbeats 4000000
theorem ktarget_h (t : Tar) (h : TarL t) : Holds Tryz.prog 50 [tgtP t] (.row 0) [(0, .row 64 1 (t.map fun x => [anyP x]))] := by
  have lm : (t.map fun x => [anyP x]).length = t.length := by simp
  have h1 := h.1
  refine qA (ts := [2]) Tryz.func50 (by kernel_rfl) rfl rfl rfl ?_
  (repeat refine qb ?_); refine qa ?_
  repeat (first | refine zR ?_ | refine zK ?_ | refine zM ?_ | refine zB ?_ | refine zA ?_ | refine zS ?_ | refine zL ?_)
  refine qc ?_
  (repeat refine qb ?_); refine qa ?_
  repeat (first | refine zR ?_ | refine zK ?_ | refine zM ?_ | refine zB ?_ | refine zA ?_ | refine zS ?_ | refine zL ?_)
  refine qc ?_
  (repeat refine qb ?_); refine qa ?_
  repeat (first | refine zR ?_ | refine zK ?_ | refine zM ?_ | refine zB ?_ | refine zA ?_ | refine zS ?_ | refine zL ?_)
  refine qc ?_
  (repeat refine qb ?_); refine ql ?_
  refine SW.wk (jP 3 900 64 1 rfl rfl) ?_
  refine SW.wk (qq [3, 9, 10, 11] [(900, 0)] rfl rfl) ?_
  refine qO (fun m s => ∃ (k : Nat) (kk : Int), k ≤ t.length ∧ m = t.length - k ∧ kk = k ∧ s = ⟨34, [(3, .row 0), (9, .p (tgtP t)), (10, .p (pI (t.map fun x => [anyP x]).length)), (11, .p (pI kk))], [(0, .row 64 1 ((t.take k).map fun x => [anyP x]))]⟩) t.length ⟨0, 0, Nat.zero_le _, rfl, rfl, rfl⟩ ?_
  rintro m s ⟨k, _, hk, rfl, rfl, rfl⟩
  (repeat refine qb ?_); refine qa ?_
  repeat (first | refine zR ?_ | refine zK ?_ | refine zM ?_ | refine zB ?_ | refine zA ?_ | refine zS ?_ | refine zL ?_)
  refine qc ?_
  (repeat refine qb ?_); refine qf rfl (fun hlt => ?_) (fun hlt => ?_)
  · refine qm ?_
    rw [lm] at hlt
    simp only [decide_eq_true_eq] at hlt
    have hlt' : k < t.length := by omega
    (repeat refine qb ?_); refine ql ?_
    (repeat refine qb ?_); refine qa ?_
    repeat (first | refine zR ?_ | refine zK ?_ | refine zM ?_ | refine zB ?_ | refine zA ?_ | refine zS ?_ | refine zL ?_)
    refine qw qe rfl rfl (by rw [lm]; omega) rfl ?_
    rw [qJ hlt']
    repeat (first | refine zR ?_ | refine zK ?_ | refine zM ?_ | refine zB ?_ | refine zA ?_ | refine zS ?_ | refine zL ?_)
    refine qc ?_
    obtain ⟨x, hx⟩ : ∃ x, x = t[k] := ⟨_, rfl⟩
    have hxl := h.2 _ (List.getElem_mem hlt')
    rw [← hx] at hxl ⊢
    have hxl1 := hxl.1
    have lx : (x.map fun y => [matsP y]).length = x.length := by simp
    (repeat refine qb ?_); refine qa ?_
    repeat (first | refine zR ?_ | refine zK ?_ | refine zM ?_ | refine zB ?_ | refine zA ?_ | refine zS ?_ | refine zL ?_)
    refine qc ?_
    (repeat refine qb ?_); refine qa ?_
    repeat (first | refine zR ?_ | refine zK ?_ | refine zM ?_ | refine zB ?_ | refine zA ?_ | refine zS ?_ | refine zL ?_)
    refine qc ?_
    (repeat refine qb ?_); refine ql ?_
    refine SW.wk (jP 6 900 63 1 rfl rfl) ?_
    refine SW.wk (qq [3, 6, 9, 10, 11, 15, 16, 17] [(0, 0), (900, 1)] rfl rfl) ?_
    refine qO (fun m s => ∃ (j : Nat) (jj : Int), j ≤ x.length ∧ m = x.length - j ∧ jj = j ∧ s = ⟨34, [(3, .row 0), (6, .row 1), (9, .p (tgtP t)), (10, .p (pI (t.map fun x => [anyP x]).length)), (11, .p (pI k)), (15, .p (anyP x)), (16, .p (pI (x.map fun y => [matsP y]).length)), (17, .p (pI jj))], [(0, .row 64 1 ((t.take k).map fun x => [anyP x])), (1, .row 63 1 ((x.take j).map fun y => [matsP y]))]⟩) x.length ⟨0, 0, Nat.zero_le _, rfl, rfl, rfl⟩ ?_
    rintro m s ⟨j, _, hj, rfl, rfl, rfl⟩
    (repeat refine qb ?_); refine qa ?_
    repeat (first | refine zR ?_ | refine zK ?_ | refine zM ?_ | refine zB ?_ | refine zA ?_ | refine zS ?_ | refine zL ?_)
    refine qc ?_
    (repeat refine qb ?_); refine qf rfl (fun hlj => ?_) (fun hlj => ?_)
    · refine qm ?_
      rw [lx] at hlj
      simp only [decide_eq_true_eq] at hlj
      have hlj' : j < x.length := by omega
      (repeat refine qb ?_); refine ql ?_
      (repeat refine qb ?_); refine qa ?_
      repeat (first | refine zR ?_ | refine zK ?_ | refine zM ?_ | refine zB ?_ | refine zA ?_ | refine zS ?_ | refine zL ?_)
      refine qw qe rfl rfl (by rw [lx]; omega) rfl ?_
      rw [qJ hlj']
      repeat (first | refine zR ?_ | refine zK ?_ | refine zM ?_ | refine zB ?_ | refine zA ?_ | refine zS ?_ | refine zL ?_)
      refine qc ?_
      have hyl := hxl.2 _ (List.getElem_mem hlj')
      (repeat refine qb ?_); refine qa ?_
      repeat (first | refine zR ?_ | refine zK ?_ | refine zM ?_ | refine zB ?_ | refine zA ?_ | refine zS ?_ | refine zL ?_)
      refine qn rfl (qp qe rfl rfl rfl rfl rfl rfl rfl rfl rfl rfl rfl rfl rfl rfl rfl rfl (by simp only [List.length_append, List.length_map, List.length_take, List.length_cons, List.length_nil]; unfold reachBytes; omega) (by simp only [List.length_append, List.length_map, List.length_take, List.length_cons, List.length_nil]; omega) ?_)
      refine SWT.wk (zN (k := 24) rfl) ?_
      repeat (first | refine zR ?_ | refine zK ?_ | refine zM ?_ | refine zB ?_ | refine zA ?_ | refine zS ?_ | refine zL ?_)
      refine qn rfl (qp qe rfl rfl rfl rfl rfl rfl rfl rfl rfl rfl rfl rfl rfl rfl rfl rfl (by simp only [List.length_append, List.length_map, List.length_take, List.length_cons, List.length_nil]; unfold reachBytes; omega) (by simp only [List.length_append, List.length_map, List.length_take, List.length_cons, List.length_nil]; omega) ?_)
      repeat (first | refine zR ?_ | refine zK ?_ | refine zM ?_ | refine zB ?_ | refine zA ?_ | refine zS ?_ | refine zL ?_)
      refine qc ?_
      (repeat refine qb ?_); refine qa ?_
      repeat (first | refine zR ?_ | refine zK ?_ | refine zM ?_ | refine zB ?_ | refine zA ?_ | refine zS ?_ | refine zL ?_)
      refine qc ?_
      refine ⟨_, _, ?_, qq [3, 6, 9, 10, 11, 15, 16, 17] [(0, 0), (26, 1)] rfl rfl, j + 1, _, hlj', rfl, qz hlj' (by omega), ?_⟩
      · omega
      · rw [List.take_succ_eq_append_getElem hlj', List.map_append]; rfl
    · refine qK ?_
      rw [lx] at hlj
      simp only [decide_eq_false_iff_not] at hlj
      have hjj : j = x.length := by omega
      subst hjj
      rw [List.take_length]
      (repeat refine qb ?_); refine qa ?_
      repeat (first | refine zR ?_ | refine zK ?_ | refine zM ?_ | refine zB ?_ | refine zA ?_ | refine zS ?_ | refine zL ?_)
      refine SWT.wk (zN (k := 1) rfl) ?_
      repeat (first | refine zR ?_ | refine zK ?_ | refine zM ?_ | refine zB ?_ | refine zA ?_ | refine zS ?_ | refine zL ?_)
      refine qn rfl (qp qe rfl rfl rfl rfl rfl rfl rfl rfl rfl rfl rfl rfl rfl rfl rfl rfl (by simp only [List.length_append, List.length_map, List.length_take, List.length_cons, List.length_nil]; unfold reachBytes; omega) (by simp only [List.length_append, List.length_map, List.length_take, List.length_cons, List.length_nil]; omega) ?_)
      repeat (first | refine zR ?_ | refine zK ?_ | refine zM ?_ | refine zB ?_ | refine zA ?_ | refine zS ?_ | refine zL ?_)
      refine qc ?_
      (repeat refine qb ?_); refine qa ?_
      repeat (first | refine zR ?_ | refine zK ?_ | refine zM ?_ | refine zB ?_ | refine zA ?_ | refine zS ?_ | refine zL ?_)
      refine qc ?_
      refine ⟨_, _, ?_, qq [3, 9, 10, 11] [(31, 0)] rfl rfl, k + 1, _, hlt', rfl, qz hlt' (by omega), ?_⟩
      · omega
      · rw [List.take_succ_eq_append_getElem hlt', List.map_append, hx]; rfl
  · refine qK ?_
    rw [lm] at hlt
    simp only [decide_eq_false_iff_not] at hlt
    have hkk : k = t.length := by omega
    subst hkk
    rw [List.take_length]
    (repeat refine qb ?_); refine qa ?_
    repeat (first | refine zR ?_ | refine zK ?_ | refine zM ?_ | refine zB ?_ | refine zA ?_ | refine zS ?_ | refine zL ?_)
    refine qc ?_
    (repeat refine qb ?_); refine qk ?_
    exact ⟨Or.inr rfl, _, _, [(0, 0)], Wk.refl _, rfl, rfl, rfl, rfl⟩
def copyR (p : Pol) : SV := .agg [.p (pS p.id), .p (pB p.set), .p (pI p.alg), .p (tgtP p.target), .row 0, .row 1, .p (zQ p.obls)]
def copyO (p : Pol) : List (Nat × Box) := [(0, .row 59 5 (p.rules.map zt)), (1, .row 28 7 (p.kids.map polP))]
def CopyOk (n : Nat) : Prop := ∀ (p : Pol), PolF n p → p.sz ≤ 3000 → Holds Tryz.prog 26 [.agg (polP p)] (copyR p) (copyO p)
theorem copy_step (n : Nat) (hn : CopyOk n) : CopyOk (n + 1) := by
    intro p hf hsz
    obtain ⟨ht, hr, hk, ho, hru, hks⟩ := sz_facts hsz (Nat.le_refl _)
    have IH := fun k (hk : k ∈ p.kids) => hn k (hf.2.2 k hk) (hks k hk)
    have HT := ktarget_h p.target ht
    have l1 : ((p.rules.map zt).length) = p.rules.length := by simp
    have l2 : ((p.kids.map polP).length) = p.kids.length := by simp
    have lo : (p.obls.map Obli.pv).length = p.obls.length := by simp
    rw [zf]
    refine .ofW ?_
    refine qR (T := TTab) qe Tryz.func26 (by kernel_rfl) rfl rfl rfl ?_
    (repeat refine qb ?_); refine qa ?_
    repeat (first | refine zR ?_ | refine zK ?_ | refine zM ?_ | refine zB ?_ | refine zA ?_ | refine zS ?_ | refine zL ?_)
    refine qc ?_
    (repeat refine qb ?_); refine zH 11 rfl (by kernel_rfl) ?_
    refine qy (i := 0) (K := [12]) (by kernel_rfl) (by kernel_rfl) rfl rfl (qi qe rfl (by exact True.intro)) rfl ?_
    refine qy (i := 1) (K := [12]) (by kernel_rfl) (by kernel_rfl) rfl rfl (qi qe rfl (by exact True.intro)) rfl ?_
    refine qy (i := 4) (K := [12]) (by kernel_rfl) (by kernel_rfl) rfl rfl (qi qe rfl (by exact True.intro)) rfl ?_
    refine qy (i := 5) (K := [12]) (by kernel_rfl) (by kernel_rfl) rfl rfl (qi qe rfl (by exact True.intro)) rfl ?_
    refine zE 2 3 (by kernel_rfl) ?_ ?_
    refine qd rfl rfl rfl (qD rfl rfl rfl rfl (HT) rfl rfl rfl ?_)
    refine qy (i := 7) (K := [12]) (by kernel_rfl) (by kernel_rfl) rfl rfl (qi qe rfl (by exact True.intro)) rfl ?_
    refine qo 3 (by kernel_rfl) ?_
    first | refine qd rfl rfl rfl (aM (h := ?_)) | refine qd rfl rfl rfl (aB (h := ?_)) | refine qd rfl rfl rfl (aA (h := ?_)) | refine qd rfl rfl rfl (aS (h := ?_)) | refine qd rfl rfl rfl (aL (h := ?_)) | refine qd rfl rfl rfl (qv (K := []) (qi qe rfl (by exact True.intro)) rfl ?_)
    refine qo 6 (by kernel_rfl) ?_
    refine qd rfl rfl rfl (qp qe rfl rfl rfl rfl rfl rfl rfl rfl rfl rfl rfl rfl rfl rfl rfl rfl (by simp only [List.length_append, List.length_map, List.length_take, List.length_cons, List.length_nil]; unfold reachBytes; omega) (by simp only [List.length_append, List.length_map, List.length_take, List.length_cons, List.length_nil]; omega) ?_)
    refine qo 8 (by kernel_rfl) ?_
    first | refine qd rfl rfl rfl (aM (h := ?_)) | refine qd rfl rfl rfl (aB (h := ?_)) | refine qd rfl rfl rfl (aA (h := ?_)) | refine qd rfl rfl rfl (aS (h := ?_)) | refine qd rfl rfl rfl (aL (h := ?_)) | refine qd rfl rfl rfl (qv (K := []) (qi qe rfl (by exact True.intro)) rfl ?_)
    refine qy (i := 9) (K := [12]) (by kernel_rfl) (by kernel_rfl) rfl rfl (qi qe rfl (by exact True.intro)) rfl ?_
    refine qo 10 (by kernel_rfl) ?_
    first | refine qd rfl rfl rfl (aM (h := ?_)) | refine qd rfl rfl rfl (aB (h := ?_)) | refine qd rfl rfl rfl (aA (h := ?_)) | refine qd rfl rfl rfl (aS (h := ?_)) | refine qd rfl rfl rfl (aL (h := ?_)) | refine qd rfl rfl rfl (qv (K := []) (qi qe rfl (by exact True.intro)) rfl ?_)
    refine zd (by kernel_rfl) ?_
    refine SW.wk (qq [1, 2] [(1, 1), (2, 2), (12000, 12000), (15, 15)] rfl rfl) ?_
    refine ?fk1_140
    rotate_left
    first | refine qd rfl rfl rfl (aM (h := ?_)) | refine qd rfl rfl rfl (aB (h := ?_)) | refine qd rfl rfl rfl (aA (h := ?_)) | refine qd rfl rfl rfl (aS (h := ?_)) | refine qd rfl rfl rfl (aL (h := ?_)) | refine qd rfl rfl rfl (qv (K := []) (qi qe rfl (by exact True.intro)) rfl ?_)
    refine qo 2 (by kernel_rfl) ?_
    refine qd rfl rfl rfl (qD rfl rfl rfl rfl (HT) rfl rfl rfl ?_)
    refine qy (i := 7) (K := [12]) (by kernel_rfl) (by kernel_rfl) rfl rfl (qi qe rfl (by exact True.intro)) rfl ?_
    refine qo 6 (by kernel_rfl) ?_
    refine qd rfl rfl rfl (qp qe rfl rfl rfl rfl rfl rfl rfl rfl rfl rfl rfl rfl rfl rfl rfl rfl (by simp only [List.length_append, List.length_map, List.length_take, List.length_cons, List.length_nil]; unfold reachBytes; omega) (by simp only [List.length_append, List.length_map, List.length_take, List.length_cons, List.length_nil]; omega) ?_)
    refine qo 8 (by kernel_rfl) ?_
    first | refine qd rfl rfl rfl (aM (h := ?_)) | refine qd rfl rfl rfl (aB (h := ?_)) | refine qd rfl rfl rfl (aA (h := ?_)) | refine qd rfl rfl rfl (aS (h := ?_)) | refine qd rfl rfl rfl (aL (h := ?_)) | refine qd rfl rfl rfl (qv (K := []) (qi qe rfl (by exact True.intro)) rfl ?_)
    refine qy (i := 9) (K := [12]) (by kernel_rfl) (by kernel_rfl) rfl rfl (qi qe rfl (by exact True.intro)) rfl ?_
    refine qo 10 (by kernel_rfl) ?_
    first | refine qd rfl rfl rfl (aM (h := ?_)) | refine qd rfl rfl rfl (aB (h := ?_)) | refine qd rfl rfl rfl (aA (h := ?_)) | refine qd rfl rfl rfl (aS (h := ?_)) | refine qd rfl rfl rfl (aL (h := ?_)) | refine qd rfl rfl rfl (qv (K := []) (qi qe rfl (by exact True.intro)) rfl ?_)
    refine zd (by kernel_rfl) ?_
    refine SW.wk (qq [1, 2] [(1, 1), (2, 2), (12000, 12000), (15, 15)] rfl rfl) ?_
    exact ?fk1_140
    refine SW.wk ((zN (k := 12000) rfl).trans (zN (k := 15) rfl)) ?_
    refine SW.wk (qq [1, 2] [(1, 1), (2, 2)] rfl rfl) ?_
    change SW _ _ _ ⟨62, [(1, .ptr 1 0), (2, .ptr 2 0)], [(1, .cells [.p (pS p.id), .p (pB p.set), .p (pI p.alg), .p (tgtP p.target), .p (.sl 5 (p.rules.map zt)), .p (.sl 7 (p.kids.map polP)), .p (zQ p.obls)]), (2, .cells [.p (pS ⟨#[]⟩), .p (pB false), .p (pI 0), .p nilV, .p nilV, .p nilV, .p nilV])]⟩
    (repeat refine qb ?_); refine qa ?_
    repeat (first | refine zR ?_ | refine zK ?_ | refine zM ?_ | refine zB ?_ | refine zA ?_ | refine zS ?_ | refine zL ?_)
    refine qc ?_
    (repeat refine qb ?_); refine qa ?_
    repeat (first | refine zR ?_ | refine zK ?_ | refine zM ?_ | refine zB ?_ | refine zA ?_ | refine zS ?_ | refine zL ?_)
    refine qc ?_
    (repeat refine qb ?_); refine ql ?_
    refine SW.wk (jP 3 900 59 5 rfl rfl) ?_
    refine SW.wk (qq [1, 2, 3, 19, 20, 21] [(1, 1), (2, 2), (900, 0)] rfl rfl) ?_
    refine qO (fun m s => ∃ (k : Nat) (kk : Int), k ≤ p.rules.length ∧ m = p.rules.length - k ∧ kk = k ∧ s = ⟨62, [(1, .ptr 1 0), (2, .ptr 2 0), (3, .row 0), (19, .p (.sl 5 (p.rules.map zt))), (20, .p (pI (p.rules.map zt).length)), (21, .p (pI kk))], [(1, .cells [.p (pS p.id), .p (pB p.set), .p (pI p.alg), .p (tgtP p.target), .p (.sl 5 (p.rules.map zt)), .p (.sl 7 (p.kids.map polP)), .p (zQ p.obls)]), (2, .cells [.p (pS ⟨#[]⟩), .p (pB false), .p (pI 0), .p nilV, .p nilV, .p nilV, .p nilV]), (0, .row 59 5 ((p.rules.take k).map zt))]⟩) p.rules.length ⟨0, 0, Nat.zero_le _, rfl, rfl, rfl⟩ ?_
    rintro m s ⟨k, _, hk', rfl, rfl, rfl⟩
    (repeat refine qb ?_); refine qa ?_
    repeat (first | refine zR ?_ | refine zK ?_ | refine zM ?_ | refine zB ?_ | refine zA ?_ | refine zS ?_ | refine zL ?_)
    refine qc ?_
    (repeat refine qb ?_); refine qf rfl (fun hlt => ?_) (fun hlt => ?_)
    · refine qm ?_
      rw [l1] at hlt
      simp only [decide_eq_true_eq] at hlt
      have hlt' : k < p.rules.length := by omega
      obtain ⟨x, hx⟩ : ∃ x, x = p.rules[k] := ⟨_, rfl⟩
      obtain ⟨tx, cx, ox⟩ := hru _ (List.getElem_mem hlt')
      rw [← hx] at tx cx ox
      have HT2 := ktarget_h x.target tx
      (repeat refine qb ?_); refine ql ?_
      (repeat refine qb ?_); refine qa ?_
      repeat (first | refine zR ?_ | refine zK ?_ | refine zM ?_ | refine zB ?_ | refine zA ?_ | refine zS ?_ | refine zL ?_)
      refine qw qe rfl rfl (by rw [l1]; omega) rfl ?_
      rw [qJ hlt', ← hx]
      repeat (first | refine zR ?_ | refine zK ?_ | refine zM ?_ | refine zB ?_ | refine zA ?_ | refine zS ?_ | refine zL ?_)
      refine qc ?_
      (repeat refine qb ?_); refine zH 17 rfl (by kernel_rfl) ?_
      refine qy (i := 0) (K := [28, 32]) (by kernel_rfl) (by kernel_rfl) rfl rfl (qi qe rfl (by exact True.intro)) rfl ?_
      refine qy (i := 1) (K := [28, 32]) (by kernel_rfl) (by kernel_rfl) rfl rfl (qi qe rfl (by exact True.intro)) rfl ?_
      refine qy (i := 4) (K := [28, 32]) (by kernel_rfl) (by kernel_rfl) rfl rfl (qi qe rfl (by exact True.intro)) rfl ?_
      refine qy (i := 5) (K := [28, 32]) (by kernel_rfl) (by kernel_rfl) rfl rfl (qi qe rfl (by exact True.intro)) rfl ?_
      refine qy (i := 8) (K := [28, 32]) (by kernel_rfl) (by kernel_rfl) rfl rfl (qi qe rfl (by exact True.intro)) rfl ?_
      refine qy (i := 9) (K := [28, 32]) (by kernel_rfl) (by kernel_rfl) rfl rfl (qi qe rfl (by exact True.intro)) rfl ?_
      refine swb_fork3 2 3 7 (by kernel_rfl) ?_ ?_ ?_
      refine qd rfl rfl rfl (qD rfl rfl rfl rfl (HT2) rfl rfl rfl ?_)
      refine qy (i := 11) (K := [28, 32]) (by kernel_rfl) (by kernel_rfl) rfl rfl (qi qe rfl (by exact True.intro)) rfl ?_
      refine zE 3 7 (by kernel_rfl) ?_ ?_
      first | refine qd rfl rfl rfl (aM (h := ?_)) | refine qd rfl rfl rfl (aB (h := ?_)) | refine qd rfl rfl rfl (aA (h := ?_)) | refine qd rfl rfl rfl (aS (h := ?_)) | refine qd rfl rfl rfl (aL (h := ?_)) | refine qd rfl rfl rfl (qv (K := []) (qi qe rfl (by exact True.intro)) rfl ?_)
      refine zE 6 7 (by kernel_rfl) ?_ ?_
      refine qd rfl rfl rfl (qp qe rfl rfl rfl rfl rfl rfl rfl rfl rfl rfl rfl rfl rfl rfl rfl rfl (by simp only [List.length_append, List.length_map, List.length_take, List.length_cons, List.length_nil]; unfold reachBytes; omega) (by simp only [List.length_append, List.length_map, List.length_take, List.length_cons, List.length_nil]; omega) ?_)
      refine qo 7 (by kernel_rfl) ?_
      first | refine qd rfl rfl rfl (aM (h := ?_)) | refine qd rfl rfl rfl (aB (h := ?_)) | refine qd rfl rfl rfl (aA (h := ?_)) | refine qd rfl rfl rfl (aS (h := ?_)) | refine qd rfl rfl rfl (aL (h := ?_)) | refine qd rfl rfl rfl (qv (K := []) (qi qe rfl (by exact True.intro)) rfl ?_)
      refine qo 10 (by kernel_rfl) ?_
      refine qd rfl rfl rfl (qp qe rfl rfl rfl rfl rfl rfl rfl rfl rfl rfl rfl rfl rfl rfl rfl rfl (by simp only [List.length_append, List.length_map, List.length_take, List.length_cons, List.length_nil]; unfold reachBytes; omega) (by simp only [List.length_append, List.length_map, List.length_take, List.length_cons, List.length_nil]; omega) ?_)
      refine qo 12 (by kernel_rfl) ?_
      first | refine qd rfl rfl rfl (aM (h := ?_)) | refine qd rfl rfl rfl (aB (h := ?_)) | refine qd rfl rfl rfl (aA (h := ?_)) | refine qd rfl rfl rfl (aS (h := ?_)) | refine qd rfl rfl rfl (aL (h := ?_)) | refine qd rfl rfl rfl (qv (K := []) (qi qe rfl (by exact True.intro)) rfl ?_)
      refine qy (i := 13) (K := [28, 32]) (by kernel_rfl) (by kernel_rfl) rfl rfl (qi qe rfl (by exact True.intro)) rfl ?_
      refine qo 14 (by kernel_rfl) ?_
      first | refine qd rfl rfl rfl (aM (h := ?_)) | refine qd rfl rfl rfl (aB (h := ?_)) | refine qd rfl rfl rfl (aA (h := ?_)) | refine qd rfl rfl rfl (aS (h := ?_)) | refine qd rfl rfl rfl (aL (h := ?_)) | refine qd rfl rfl rfl (qv (K := []) (qi qe rfl (by exact True.intro)) rfl ?_)
      refine qy (i := 15) (K := [28, 32]) (by kernel_rfl) (by kernel_rfl) rfl rfl (qi qe rfl (by exact True.intro)) rfl ?_
      refine qo 16 (by kernel_rfl) ?_
      first | refine qd rfl rfl rfl (aM (h := ?_)) | refine qd rfl rfl rfl (aB (h := ?_)) | refine qd rfl rfl rfl (aA (h := ?_)) | refine qd rfl rfl rfl (aS (h := ?_)) | refine qd rfl rfl rfl (aL (h := ?_)) | refine qd rfl rfl rfl (qv (K := []) (qi qe rfl (by exact True.intro)) rfl ?_)
      refine zd (by kernel_rfl) ?_
      refine SW.wk (qq [1, 2, 3, 5, 19, 20, 21] [(1, 1), (2, 2), (0, 0), (5, 5), (28000, 28000), (31, 31), (35, 35)] rfl rfl) ?_
      refine ?fk6_208
      rotate_left
      first | refine qd rfl rfl rfl (aM (h := ?_)) | refine qd rfl rfl rfl (aB (h := ?_)) | refine qd rfl rfl rfl (aA (h := ?_)) | refine qd rfl rfl rfl (aS (h := ?_)) | refine qd rfl rfl rfl (aL (h := ?_)) | refine qd rfl rfl rfl (qv (K := []) (qi qe rfl (by exact True.intro)) rfl ?_)
      refine qo 6 (by kernel_rfl) ?_
      refine qd rfl rfl rfl (qp qe rfl rfl rfl rfl rfl rfl rfl rfl rfl rfl rfl rfl rfl rfl rfl rfl (by simp only [List.length_append, List.length_map, List.length_take, List.length_cons, List.length_nil]; unfold reachBytes; omega) (by simp only [List.length_append, List.length_map, List.length_take, List.length_cons, List.length_nil]; omega) ?_)
      refine qo 10 (by kernel_rfl) ?_
      refine qd rfl rfl rfl (qp qe rfl rfl rfl rfl rfl rfl rfl rfl rfl rfl rfl rfl rfl rfl rfl rfl (by simp only [List.length_append, List.length_map, List.length_take, List.length_cons, List.length_nil]; unfold reachBytes; omega) (by simp only [List.length_append, List.length_map, List.length_take, List.length_cons, List.length_nil]; omega) ?_)
      refine qo 12 (by kernel_rfl) ?_
      first | refine qd rfl rfl rfl (aM (h := ?_)) | refine qd rfl rfl rfl (aB (h := ?_)) | refine qd rfl rfl rfl (aA (h := ?_)) | refine qd rfl rfl rfl (aS (h := ?_)) | refine qd rfl rfl rfl (aL (h := ?_)) | refine qd rfl rfl rfl (qv (K := []) (qi qe rfl (by exact True.intro)) rfl ?_)
      refine qy (i := 13) (K := [28, 32]) (by kernel_rfl) (by kernel_rfl) rfl rfl (qi qe rfl (by exact True.intro)) rfl ?_
      refine qo 14 (by kernel_rfl) ?_
      first | refine qd rfl rfl rfl (aM (h := ?_)) | refine qd rfl rfl rfl (aB (h := ?_)) | refine qd rfl rfl rfl (aA (h := ?_)) | refine qd rfl rfl rfl (aS (h := ?_)) | refine qd rfl rfl rfl (aL (h := ?_)) | refine qd rfl rfl rfl (qv (K := []) (qi qe rfl (by exact True.intro)) rfl ?_)
      refine qy (i := 15) (K := [28, 32]) (by kernel_rfl) (by kernel_rfl) rfl rfl (qi qe rfl (by exact True.intro)) rfl ?_
      refine qo 16 (by kernel_rfl) ?_
      first | refine qd rfl rfl rfl (aM (h := ?_)) | refine qd rfl rfl rfl (aB (h := ?_)) | refine qd rfl rfl rfl (aA (h := ?_)) | refine qd rfl rfl rfl (aS (h := ?_)) | refine qd rfl rfl rfl (aL (h := ?_)) | refine qd rfl rfl rfl (qv (K := []) (qi qe rfl (by exact True.intro)) rfl ?_)
      refine zd (by kernel_rfl) ?_
      refine SW.wk (qq [1, 2, 3, 5, 19, 20, 21] [(1, 1), (2, 2), (0, 0), (5, 5), (28000, 28000), (31, 31), (35, 35)] rfl rfl) ?_
      exact ?fk6_208
      first | refine qd rfl rfl rfl (aM (h := ?_)) | refine qd rfl rfl rfl (aB (h := ?_)) | refine qd rfl rfl rfl (aA (h := ?_)) | refine qd rfl rfl rfl (aS (h := ?_)) | refine qd rfl rfl rfl (aL (h := ?_)) | refine qd rfl rfl rfl (qv (K := []) (qi qe rfl (by exact True.intro)) rfl ?_)
      refine qo 3 (by kernel_rfl) ?_
      first | refine qd rfl rfl rfl (aM (h := ?_)) | refine qd rfl rfl rfl (aB (h := ?_)) | refine qd rfl rfl rfl (aA (h := ?_)) | refine qd rfl rfl rfl (aS (h := ?_)) | refine qd rfl rfl rfl (aL (h := ?_)) | refine qd rfl rfl rfl (qv (K := []) (qi qe rfl (by exact True.intro)) rfl ?_)
      refine qo 6 (by kernel_rfl) ?_
      refine qd rfl rfl rfl (qp qe rfl rfl rfl rfl rfl rfl rfl rfl rfl rfl rfl rfl rfl rfl rfl rfl (by simp only [List.length_append, List.length_map, List.length_take, List.length_cons, List.length_nil]; unfold reachBytes; omega) (by simp only [List.length_append, List.length_map, List.length_take, List.length_cons, List.length_nil]; omega) ?_)
      refine qo 10 (by kernel_rfl) ?_
      refine qd rfl rfl rfl (qp qe rfl rfl rfl rfl rfl rfl rfl rfl rfl rfl rfl rfl rfl rfl rfl rfl (by simp only [List.length_append, List.length_map, List.length_take, List.length_cons, List.length_nil]; unfold reachBytes; omega) (by simp only [List.length_append, List.length_map, List.length_take, List.length_cons, List.length_nil]; omega) ?_)
      refine qo 12 (by kernel_rfl) ?_
      first | refine qd rfl rfl rfl (aM (h := ?_)) | refine qd rfl rfl rfl (aB (h := ?_)) | refine qd rfl rfl rfl (aA (h := ?_)) | refine qd rfl rfl rfl (aS (h := ?_)) | refine qd rfl rfl rfl (aL (h := ?_)) | refine qd rfl rfl rfl (qv (K := []) (qi qe rfl (by exact True.intro)) rfl ?_)
      refine qy (i := 13) (K := [28, 32]) (by kernel_rfl) (by kernel_rfl) rfl rfl (qi qe rfl (by exact True.intro)) rfl ?_
      refine qo 14 (by kernel_rfl) ?_
      first | refine qd rfl rfl rfl (aM (h := ?_)) | refine qd rfl rfl rfl (aB (h := ?_)) | refine qd rfl rfl rfl (aA (h := ?_)) | refine qd rfl rfl rfl (aS (h := ?_)) | refine qd rfl rfl rfl (aL (h := ?_)) | refine qd rfl rfl rfl (qv (K := []) (qi qe rfl (by exact True.intro)) rfl ?_)
      refine qy (i := 15) (K := [28, 32]) (by kernel_rfl) (by kernel_rfl) rfl rfl (qi qe rfl (by exact True.intro)) rfl ?_
      refine qo 16 (by kernel_rfl) ?_
      first | refine qd rfl rfl rfl (aM (h := ?_)) | refine qd rfl rfl rfl (aB (h := ?_)) | refine qd rfl rfl rfl (aA (h := ?_)) | refine qd rfl rfl rfl (aS (h := ?_)) | refine qd rfl rfl rfl (aL (h := ?_)) | refine qd rfl rfl rfl (qv (K := []) (qi qe rfl (by exact True.intro)) rfl ?_)
      refine zd (by kernel_rfl) ?_
      refine SW.wk (qq [1, 2, 3, 5, 19, 20, 21] [(1, 1), (2, 2), (0, 0), (5, 5), (28000, 28000), (31, 31), (35, 35)] rfl rfl) ?_
      exact ?fk6_208
      first | refine qd rfl rfl rfl (aM (h := ?_)) | refine qd rfl rfl rfl (aB (h := ?_)) | refine qd rfl rfl rfl (aA (h := ?_)) | refine qd rfl rfl rfl (aS (h := ?_)) | refine qd rfl rfl rfl (aL (h := ?_)) | refine qd rfl rfl rfl (qv (K := []) (qi qe rfl (by exact True.intro)) rfl ?_)
      refine zE 2 7 (by kernel_rfl) ?_ ?_
      refine qd rfl rfl rfl (qD rfl rfl rfl rfl (HT2) rfl rfl rfl ?_)
      refine qy (i := 11) (K := [28, 32]) (by kernel_rfl) (by kernel_rfl) rfl rfl (qi qe rfl (by exact True.intro)) rfl ?_
      refine zE 6 7 (by kernel_rfl) ?_ ?_
      refine qd rfl rfl rfl (qp qe rfl rfl rfl rfl rfl rfl rfl rfl rfl rfl rfl rfl rfl rfl rfl rfl (by simp only [List.length_append, List.length_map, List.length_take, List.length_cons, List.length_nil]; unfold reachBytes; omega) (by simp only [List.length_append, List.length_map, List.length_take, List.length_cons, List.length_nil]; omega) ?_)
      refine qo 7 (by kernel_rfl) ?_
      first | refine qd rfl rfl rfl (aM (h := ?_)) | refine qd rfl rfl rfl (aB (h := ?_)) | refine qd rfl rfl rfl (aA (h := ?_)) | refine qd rfl rfl rfl (aS (h := ?_)) | refine qd rfl rfl rfl (aL (h := ?_)) | refine qd rfl rfl rfl (qv (K := []) (qi qe rfl (by exact True.intro)) rfl ?_)
      refine qo 10 (by kernel_rfl) ?_
      refine qd rfl rfl rfl (qp qe rfl rfl rfl rfl rfl rfl rfl rfl rfl rfl rfl rfl rfl rfl rfl rfl (by simp only [List.length_append, List.length_map, List.length_take, List.length_cons, List.length_nil]; unfold reachBytes; omega) (by simp only [List.length_append, List.length_map, List.length_take, List.length_cons, List.length_nil]; omega) ?_)
      refine qo 12 (by kernel_rfl) ?_
      first | refine qd rfl rfl rfl (aM (h := ?_)) | refine qd rfl rfl rfl (aB (h := ?_)) | refine qd rfl rfl rfl (aA (h := ?_)) | refine qd rfl rfl rfl (aS (h := ?_)) | refine qd rfl rfl rfl (aL (h := ?_)) | refine qd rfl rfl rfl (qv (K := []) (qi qe rfl (by exact True.intro)) rfl ?_)
      refine qy (i := 13) (K := [28, 32]) (by kernel_rfl) (by kernel_rfl) rfl rfl (qi qe rfl (by exact True.intro)) rfl ?_
      refine qo 14 (by kernel_rfl) ?_
      first | refine qd rfl rfl rfl (aM (h := ?_)) | refine qd rfl rfl rfl (aB (h := ?_)) | refine qd rfl rfl rfl (aA (h := ?_)) | refine qd rfl rfl rfl (aS (h := ?_)) | refine qd rfl rfl rfl (aL (h := ?_)) | refine qd rfl rfl rfl (qv (K := []) (qi qe rfl (by exact True.intro)) rfl ?_)
      refine qy (i := 15) (K := [28, 32]) (by kernel_rfl) (by kernel_rfl) rfl rfl (qi qe rfl (by exact True.intro)) rfl ?_
      refine qo 16 (by kernel_rfl) ?_
      first | refine qd rfl rfl rfl (aM (h := ?_)) | refine qd rfl rfl rfl (aB (h := ?_)) | refine qd rfl rfl rfl (aA (h := ?_)) | refine qd rfl rfl rfl (aS (h := ?_)) | refine qd rfl rfl rfl (aL (h := ?_)) | refine qd rfl rfl rfl (qv (K := []) (qi qe rfl (by exact True.intro)) rfl ?_)
      refine zd (by kernel_rfl) ?_
      refine SW.wk (qq [1, 2, 3, 5, 19, 20, 21] [(1, 1), (2, 2), (0, 0), (5, 5), (28000, 28000), (31, 31), (35, 35)] rfl rfl) ?_
      exact ?fk6_208
      first | refine qd rfl rfl rfl (aM (h := ?_)) | refine qd rfl rfl rfl (aB (h := ?_)) | refine qd rfl rfl rfl (aA (h := ?_)) | refine qd rfl rfl rfl (aS (h := ?_)) | refine qd rfl rfl rfl (aL (h := ?_)) | refine qd rfl rfl rfl (qv (K := []) (qi qe rfl (by exact True.intro)) rfl ?_)
      refine qo 6 (by kernel_rfl) ?_
      refine qd rfl rfl rfl (qp qe rfl rfl rfl rfl rfl rfl rfl rfl rfl rfl rfl rfl rfl rfl rfl rfl (by simp only [List.length_append, List.length_map, List.length_take, List.length_cons, List.length_nil]; unfold reachBytes; omega) (by simp only [List.length_append, List.length_map, List.length_take, List.length_cons, List.length_nil]; omega) ?_)
      refine qo 10 (by kernel_rfl) ?_
      refine qd rfl rfl rfl (qp qe rfl rfl rfl rfl rfl rfl rfl rfl rfl rfl rfl rfl rfl rfl rfl rfl (by simp only [List.length_append, List.length_map, List.length_take, List.length_cons, List.length_nil]; unfold reachBytes; omega) (by simp only [List.length_append, List.length_map, List.length_take, List.length_cons, List.length_nil]; omega) ?_)
      refine qo 12 (by kernel_rfl) ?_
      first | refine qd rfl rfl rfl (aM (h := ?_)) | refine qd rfl rfl rfl (aB (h := ?_)) | refine qd rfl rfl rfl (aA (h := ?_)) | refine qd rfl rfl rfl (aS (h := ?_)) | refine qd rfl rfl rfl (aL (h := ?_)) | refine qd rfl rfl rfl (qv (K := []) (qi qe rfl (by exact True.intro)) rfl ?_)
      refine qy (i := 13) (K := [28, 32]) (by kernel_rfl) (by kernel_rfl) rfl rfl (qi qe rfl (by exact True.intro)) rfl ?_
      refine qo 14 (by kernel_rfl) ?_
      first | refine qd rfl rfl rfl (aM (h := ?_)) | refine qd rfl rfl rfl (aB (h := ?_)) | refine qd rfl rfl rfl (aA (h := ?_)) | refine qd rfl rfl rfl (aS (h := ?_)) | refine qd rfl rfl rfl (aL (h := ?_)) | refine qd rfl rfl rfl (qv (K := []) (qi qe rfl (by exact True.intro)) rfl ?_)
      refine qy (i := 15) (K := [28, 32]) (by kernel_rfl) (by kernel_rfl) rfl rfl (qi qe rfl (by exact True.intro)) rfl ?_
      refine qo 16 (by kernel_rfl) ?_
      first | refine qd rfl rfl rfl (aM (h := ?_)) | refine qd rfl rfl rfl (aB (h := ?_)) | refine qd rfl rfl rfl (aA (h := ?_)) | refine qd rfl rfl rfl (aS (h := ?_)) | refine qd rfl rfl rfl (aL (h := ?_)) | refine qd rfl rfl rfl (qv (K := []) (qi qe rfl (by exact True.intro)) rfl ?_)
      refine zd (by kernel_rfl) ?_
      refine SW.wk (qq [1, 2, 3, 5, 19, 20, 21] [(1, 1), (2, 2), (0, 0), (5, 5), (28000, 28000), (31, 31), (35, 35)] rfl rfl) ?_
      exact ?fk6_208
      first | refine qd rfl rfl rfl (aM (h := ?_)) | refine qd rfl rfl rfl (aB (h := ?_)) | refine qd rfl rfl rfl (aA (h := ?_)) | refine qd rfl rfl rfl (aS (h := ?_)) | refine qd rfl rfl rfl (aL (h := ?_)) | refine qd rfl rfl rfl (qv (K := []) (qi qe rfl (by exact True.intro)) rfl ?_)
      refine qo 2 (by kernel_rfl) ?_
      refine qd rfl rfl rfl (qD rfl rfl rfl rfl (HT2) rfl rfl rfl ?_)
      refine qy (i := 11) (K := [28, 32]) (by kernel_rfl) (by kernel_rfl) rfl rfl (qi qe rfl (by exact True.intro)) rfl ?_
      refine qo 6 (by kernel_rfl) ?_
      refine qd rfl rfl rfl (qp qe rfl rfl rfl rfl rfl rfl rfl rfl rfl rfl rfl rfl rfl rfl rfl rfl (by simp only [List.length_append, List.length_map, List.length_take, List.length_cons, List.length_nil]; unfold reachBytes; omega) (by simp only [List.length_append, List.length_map, List.length_take, List.length_cons, List.length_nil]; omega) ?_)
      refine qo 10 (by kernel_rfl) ?_
      refine qd rfl rfl rfl (qp qe rfl rfl rfl rfl rfl rfl rfl rfl rfl rfl rfl rfl rfl rfl rfl rfl (by simp only [List.length_append, List.length_map, List.length_take, List.length_cons, List.length_nil]; unfold reachBytes; omega) (by simp only [List.length_append, List.length_map, List.length_take, List.length_cons, List.length_nil]; omega) ?_)
      refine qo 12 (by kernel_rfl) ?_
      first | refine qd rfl rfl rfl (aM (h := ?_)) | refine qd rfl rfl rfl (aB (h := ?_)) | refine qd rfl rfl rfl (aA (h := ?_)) | refine qd rfl rfl rfl (aS (h := ?_)) | refine qd rfl rfl rfl (aL (h := ?_)) | refine qd rfl rfl rfl (qv (K := []) (qi qe rfl (by exact True.intro)) rfl ?_)
      refine qy (i := 13) (K := [28, 32]) (by kernel_rfl) (by kernel_rfl) rfl rfl (qi qe rfl (by exact True.intro)) rfl ?_
      refine qo 14 (by kernel_rfl) ?_
      first | refine qd rfl rfl rfl (aM (h := ?_)) | refine qd rfl rfl rfl (aB (h := ?_)) | refine qd rfl rfl rfl (aA (h := ?_)) | refine qd rfl rfl rfl (aS (h := ?_)) | refine qd rfl rfl rfl (aL (h := ?_)) | refine qd rfl rfl rfl (qv (K := []) (qi qe rfl (by exact True.intro)) rfl ?_)
      refine qy (i := 15) (K := [28, 32]) (by kernel_rfl) (by kernel_rfl) rfl rfl (qi qe rfl (by exact True.intro)) rfl ?_
      refine qo 16 (by kernel_rfl) ?_
      first | refine qd rfl rfl rfl (aM (h := ?_)) | refine qd rfl rfl rfl (aB (h := ?_)) | refine qd rfl rfl rfl (aA (h := ?_)) | refine qd rfl rfl rfl (aS (h := ?_)) | refine qd rfl rfl rfl (aL (h := ?_)) | refine qd rfl rfl rfl (qv (K := []) (qi qe rfl (by exact True.intro)) rfl ?_)
      refine zd (by kernel_rfl) ?_
      refine SW.wk (qq [1, 2, 3, 5, 19, 20, 21] [(1, 1), (2, 2), (0, 0), (5, 5), (28000, 28000), (31, 31), (35, 35)] rfl rfl) ?_
      exact ?fk6_208
      first | refine qd rfl rfl rfl (aM (h := ?_)) | refine qd rfl rfl rfl (aB (h := ?_)) | refine qd rfl rfl rfl (aA (h := ?_)) | refine qd rfl rfl rfl (aS (h := ?_)) | refine qd rfl rfl rfl (aL (h := ?_)) | refine qd rfl rfl rfl (qv (K := []) (qi qe rfl (by exact True.intro)) rfl ?_)
      refine zE 2 3 (by kernel_rfl) ?_ ?_
      refine qd rfl rfl rfl (qD rfl rfl rfl rfl (HT2) rfl rfl rfl ?_)
      refine qy (i := 11) (K := [28, 32]) (by kernel_rfl) (by kernel_rfl) rfl rfl (qi qe rfl (by exact True.intro)) rfl ?_
      refine qo 3 (by kernel_rfl) ?_
      first | refine qd rfl rfl rfl (aM (h := ?_)) | refine qd rfl rfl rfl (aB (h := ?_)) | refine qd rfl rfl rfl (aA (h := ?_)) | refine qd rfl rfl rfl (aS (h := ?_)) | refine qd rfl rfl rfl (aL (h := ?_)) | refine qd rfl rfl rfl (qv (K := []) (qi qe rfl (by exact True.intro)) rfl ?_)
      refine qo 6 (by kernel_rfl) ?_
      refine qd rfl rfl rfl (qp qe rfl rfl rfl rfl rfl rfl rfl rfl rfl rfl rfl rfl rfl rfl rfl rfl (by simp only [List.length_append, List.length_map, List.length_take, List.length_cons, List.length_nil]; unfold reachBytes; omega) (by simp only [List.length_append, List.length_map, List.length_take, List.length_cons, List.length_nil]; omega) ?_)
      refine qo 10 (by kernel_rfl) ?_
      refine qd rfl rfl rfl (qp qe rfl rfl rfl rfl rfl rfl rfl rfl rfl rfl rfl rfl rfl rfl rfl rfl (by simp only [List.length_append, List.length_map, List.length_take, List.length_cons, List.length_nil]; unfold reachBytes; omega) (by simp only [List.length_append, List.length_map, List.length_take, List.length_cons, List.length_nil]; omega) ?_)
      refine qo 12 (by kernel_rfl) ?_
      first | refine qd rfl rfl rfl (aM (h := ?_)) | refine qd rfl rfl rfl (aB (h := ?_)) | refine qd rfl rfl rfl (aA (h := ?_)) | refine qd rfl rfl rfl (aS (h := ?_)) | refine qd rfl rfl rfl (aL (h := ?_)) | refine qd rfl rfl rfl (qv (K := []) (qi qe rfl (by exact True.intro)) rfl ?_)
      refine qy (i := 13) (K := [28, 32]) (by kernel_rfl) (by kernel_rfl) rfl rfl (qi qe rfl (by exact True.intro)) rfl ?_
      refine qo 14 (by kernel_rfl) ?_
      first | refine qd rfl rfl rfl (aM (h := ?_)) | refine qd rfl rfl rfl (aB (h := ?_)) | refine qd rfl rfl rfl (aA (h := ?_)) | refine qd rfl rfl rfl (aS (h := ?_)) | refine qd rfl rfl rfl (aL (h := ?_)) | refine qd rfl rfl rfl (qv (K := []) (qi qe rfl (by exact True.intro)) rfl ?_)
      refine qy (i := 15) (K := [28, 32]) (by kernel_rfl) (by kernel_rfl) rfl rfl (qi qe rfl (by exact True.intro)) rfl ?_
      refine qo 16 (by kernel_rfl) ?_
      first | refine qd rfl rfl rfl (aM (h := ?_)) | refine qd rfl rfl rfl (aB (h := ?_)) | refine qd rfl rfl rfl (aA (h := ?_)) | refine qd rfl rfl rfl (aS (h := ?_)) | refine qd rfl rfl rfl (aL (h := ?_)) | refine qd rfl rfl rfl (qv (K := []) (qi qe rfl (by exact True.intro)) rfl ?_)
      refine zd (by kernel_rfl) ?_
      refine SW.wk (qq [1, 2, 3, 5, 19, 20, 21] [(1, 1), (2, 2), (0, 0), (5, 5), (28000, 28000), (31, 31), (35, 35)] rfl rfl) ?_
      exact ?fk6_208
      first | refine qd rfl rfl rfl (aM (h := ?_)) | refine qd rfl rfl rfl (aB (h := ?_)) | refine qd rfl rfl rfl (aA (h := ?_)) | refine qd rfl rfl rfl (aS (h := ?_)) | refine qd rfl rfl rfl (aL (h := ?_)) | refine qd rfl rfl rfl (qv (K := []) (qi qe rfl (by exact True.intro)) rfl ?_)
      refine qo 2 (by kernel_rfl) ?_
      refine qd rfl rfl rfl (qD rfl rfl rfl rfl (HT2) rfl rfl rfl ?_)
      refine qy (i := 11) (K := [28, 32]) (by kernel_rfl) (by kernel_rfl) rfl rfl (qi qe rfl (by exact True.intro)) rfl ?_
      refine qo 6 (by kernel_rfl) ?_
      refine qd rfl rfl rfl (qp qe rfl rfl rfl rfl rfl rfl rfl rfl rfl rfl rfl rfl rfl rfl rfl rfl (by simp only [List.length_append, List.length_map, List.length_take, List.length_cons, List.length_nil]; unfold reachBytes; omega) (by simp only [List.length_append, List.length_map, List.length_take, List.length_cons, List.length_nil]; omega) ?_)
      refine qo 10 (by kernel_rfl) ?_
      refine qd rfl rfl rfl (qp qe rfl rfl rfl rfl rfl rfl rfl rfl rfl rfl rfl rfl rfl rfl rfl rfl (by simp only [List.length_append, List.length_map, List.length_take, List.length_cons, List.length_nil]; unfold reachBytes; omega) (by simp only [List.length_append, List.length_map, List.length_take, List.length_cons, List.length_nil]; omega) ?_)
      refine qo 12 (by kernel_rfl) ?_
      first | refine qd rfl rfl rfl (aM (h := ?_)) | refine qd rfl rfl rfl (aB (h := ?_)) | refine qd rfl rfl rfl (aA (h := ?_)) | refine qd rfl rfl rfl (aS (h := ?_)) | refine qd rfl rfl rfl (aL (h := ?_)) | refine qd rfl rfl rfl (qv (K := []) (qi qe rfl (by exact True.intro)) rfl ?_)
      refine qy (i := 13) (K := [28, 32]) (by kernel_rfl) (by kernel_rfl) rfl rfl (qi qe rfl (by exact True.intro)) rfl ?_
      refine qo 14 (by kernel_rfl) ?_
      first | refine qd rfl rfl rfl (aM (h := ?_)) | refine qd rfl rfl rfl (aB (h := ?_)) | refine qd rfl rfl rfl (aA (h := ?_)) | refine qd rfl rfl rfl (aS (h := ?_)) | refine qd rfl rfl rfl (aL (h := ?_)) | refine qd rfl rfl rfl (qv (K := []) (qi qe rfl (by exact True.intro)) rfl ?_)
      refine qy (i := 15) (K := [28, 32]) (by kernel_rfl) (by kernel_rfl) rfl rfl (qi qe rfl (by exact True.intro)) rfl ?_
      refine qo 16 (by kernel_rfl) ?_
      first | refine qd rfl rfl rfl (aM (h := ?_)) | refine qd rfl rfl rfl (aB (h := ?_)) | refine qd rfl rfl rfl (aA (h := ?_)) | refine qd rfl rfl rfl (aS (h := ?_)) | refine qd rfl rfl rfl (aL (h := ?_)) | refine qd rfl rfl rfl (qv (K := []) (qi qe rfl (by exact True.intro)) rfl ?_)
      refine zd (by kernel_rfl) ?_
      refine SW.wk (qq [1, 2, 3, 5, 19, 20, 21] [(1, 1), (2, 2), (0, 0), (5, 5), (28000, 28000), (31, 31), (35, 35)] rfl rfl) ?_
      exact ?fk6_208
      refine SW.wk ((zN (k := 28000) rfl).trans ((zN (k := 31) rfl).trans (zN (k := 35) rfl))) ?_
      refine SW.wk (qq [1, 2, 3, 5, 19, 20, 21] [(1, 1), (2, 2), (0, 0), (5, 5)] rfl rfl) ?_
      change SW _ _ _ ⟨62, [(1, .ptr 1 0), (2, .ptr 2 0), (3, .row 0), (5, .ptr 5 0), (19, .p (.sl 5 (p.rules.map zt))), (20, .p (pI (p.rules.map zt).length)), (21, .p (pI k))], [(1, .cells [.p (pS p.id), .p (pB p.set), .p (pI p.alg), .p (tgtP p.target), .p (.sl 5 (p.rules.map zt)), .p (.sl 7 (p.kids.map polP)), .p (zQ p.obls)]), (2, .cells [.p (pS ⟨#[]⟩), .p (pB false), .p (pI 0), .p nilV, .p nilV, .p nilV, .p nilV]), (0, .row 59 5 ((p.rules.take k).map zt)), (5, .cells ((zt x).map .p))]⟩
      (repeat refine qb ?_); refine qa ?_
      repeat (first | refine zR ?_ | refine zK ?_ | refine zM ?_ | refine zB ?_ | refine zA ?_ | refine zS ?_ | refine zL ?_)
      refine qn rfl (qp qe rfl rfl rfl rfl rfl rfl rfl rfl rfl rfl rfl rfl rfl rfl rfl rfl (by simp only [List.length_append, List.length_map, List.length_take, List.length_cons, List.length_nil]; unfold reachBytes; omega) (by simp only [List.length_append, List.length_map, List.length_take, List.length_cons, List.length_nil]; omega) ?_)
      repeat (first | refine zR ?_ | refine zK ?_ | refine zM ?_ | refine zB ?_ | refine zA ?_ | refine zS ?_ | refine zL ?_)
      refine qc ?_
      (repeat refine qb ?_); refine qa ?_
      repeat (first | refine zR ?_ | refine zK ?_ | refine zM ?_ | refine zB ?_ | refine zA ?_ | refine zS ?_ | refine zL ?_)
      refine qc ?_
      refine ⟨_, _, ?_, qq [1, 2, 3, 19, 20, 21] [(1, 1), (2, 2), (42, 0)] rfl rfl, k + 1, _, hlt', rfl, qz hlt' (by omega), ?_⟩
      · omega
      · rw [List.take_succ_eq_append_getElem hlt', List.map_append, ← hx]; rfl
    · refine qK ?_
      rw [l1] at hlt
      simp only [decide_eq_false_iff_not] at hlt
      have hkk : k = p.rules.length := by omega
      subst hkk
      rw [List.take_length]
      (repeat refine qb ?_); refine qa ?_
      repeat (first | refine zR ?_ | refine zK ?_ | refine zM ?_ | refine zB ?_ | refine zA ?_ | refine zS ?_ | refine zL ?_)
      refine qc ?_
      (repeat refine qb ?_); refine qa ?_
      repeat (first | refine zR ?_ | refine zK ?_ | refine zM ?_ | refine zB ?_ | refine zA ?_ | refine zS ?_ | refine zL ?_)
      refine qc ?_
      (repeat refine qb ?_); refine ql ?_
      refine SW.wk (jP 6 900 28 7 rfl rfl) ?_
      refine SW.wk (qq [1, 2, 3, 6, 45, 46, 47] [(1, 1), (2, 2), (0, 0), (900, 3)] rfl rfl) ?_
      refine qO (fun m s => ∃ (k : Nat) (kk : Int), k ≤ p.kids.length ∧ m = p.kids.length - k ∧ kk = k ∧ s = ⟨62, [(1, .ptr 1 0), (2, .ptr 2 0), (3, .row 0), (6, .row 3), (45, .p (.sl 7 (p.kids.map polP))), (46, .p (pI (p.kids.map polP).length)), (47, .p (pI kk))], [(1, .cells [.p (pS p.id), .p (pB p.set), .p (pI p.alg), .p (tgtP p.target), .p (.sl 5 (p.rules.map zt)), .p (.sl 7 (p.kids.map polP)), .p (zQ p.obls)]), (2, .cells [.p (pS ⟨#[]⟩), .p (pB false), .p (pI 0), .p nilV, .p nilV, .p nilV, .p nilV]), (0, .row 59 5 (p.rules.map zt)), (3, .row 28 7 ((p.kids.take k).map polP))]⟩) p.kids.length ⟨0, 0, Nat.zero_le _, rfl, rfl, rfl⟩ ?_
      rintro m s ⟨k, _, hk', rfl, rfl, rfl⟩
      (repeat refine qb ?_); refine qa ?_
      repeat (first | refine zR ?_ | refine zK ?_ | refine zM ?_ | refine zB ?_ | refine zA ?_ | refine zS ?_ | refine zL ?_)
      refine qc ?_
      (repeat refine qb ?_); refine qf rfl (fun hlt => ?_) (fun hlt => ?_)
      · refine qm ?_
        rw [l2] at hlt
        simp only [decide_eq_true_eq] at hlt
        have hlt' : k < p.kids.length := by omega
        have H2 := IH _ (List.getElem_mem hlt')
        obtain ⟨x, hx⟩ : ∃ x, x = p.kids[k] := ⟨_, rfl⟩
        rw [← hx, zf] at H2
        (repeat refine qb ?_); refine ql ?_
        (repeat refine qb ?_); refine qa ?_
        repeat (first | refine zR ?_ | refine zK ?_ | refine zM ?_ | refine zB ?_ | refine zA ?_ | refine zS ?_ | refine zL ?_)
        refine qw qe rfl rfl (by rw [l2]; omega) rfl ?_
        rw [qJ hlt', ← hx, zf x]
        repeat (first | refine zR ?_ | refine zK ?_ | refine zM ?_ | refine zB ?_ | refine zA ?_ | refine zS ?_ | refine zL ?_)
        refine qc ?_
        (repeat refine qb ?_); refine qa ?_
        repeat (first | refine zR ?_ | refine zK ?_ | refine zM ?_ | refine zB ?_ | refine zA ?_ | refine zS ?_ | refine zL ?_)
        refine qn rfl (qD rfl rfl rfl rfl (H2) rfl rfl rfl ?_)
        repeat (first | refine zR ?_ | refine zK ?_ | refine zM ?_ | refine zB ?_ | refine zA ?_ | refine zS ?_ | refine zL ?_)
        refine SWT.wk ((zN (k := 54000) rfl).trans (zN (k := 54001) rfl)) ?_
        repeat (first | refine zR ?_ | refine zK ?_ | refine zM ?_ | refine zB ?_ | refine zA ?_ | refine zS ?_ | refine zL ?_)
        refine qn rfl (qp qe rfl rfl rfl rfl rfl rfl rfl rfl rfl rfl rfl rfl rfl rfl rfl rfl (by simp only [List.length_append, List.length_map, List.length_take, List.length_cons, List.length_nil]; unfold reachBytes; omega) (by simp only [List.length_append, List.length_map, List.length_take, List.length_cons, List.length_nil]; omega) ?_)
        repeat (first | refine zR ?_ | refine zK ?_ | refine zM ?_ | refine zB ?_ | refine zA ?_ | refine zS ?_ | refine zL ?_)
        refine qc ?_
        (repeat refine qb ?_); refine qa ?_
        repeat (first | refine zR ?_ | refine zK ?_ | refine zM ?_ | refine zB ?_ | refine zA ?_ | refine zS ?_ | refine zL ?_)
        refine qc ?_
        refine ⟨_, _, ?_, qq [1, 2, 3, 6, 45, 46, 47] [(1, 1), (2, 2), (0, 0), (55, 3)] rfl rfl, k + 1, _, hlt', rfl, qz hlt' (by omega), ?_⟩
        · omega
        · have e : (p.kids.take (k + 1)).map polP = (p.kids.take k).map polP ++ [[pS x.id, pB x.set, pI x.alg, tgtP x.target, .sl 5 (x.rules.map zt), .sl 7 (x.kids.map polP), zQ x.obls]] := by
            rw [List.take_succ_eq_append_getElem hlt', List.map_append, ← hx]
            exact congrArg (fun q => (p.kids.take k).map polP ++ [q]) (zf x)
          rw [e]; rfl
      · refine qK ?_
        rw [l2] at hlt
        simp only [decide_eq_false_iff_not] at hlt
        have hkk : k = p.kids.length := by omega
        subst hkk
        rw [List.take_length]
        (repeat refine qb ?_); refine qa ?_
        repeat (first | refine zR ?_ | refine zK ?_ | refine zM ?_ | refine zB ?_ | refine zA ?_ | refine zS ?_ | refine zL ?_)
        refine qc ?_
        (repeat refine qb ?_); refine qa ?_
        repeat (first | refine zR ?_ | refine zK ?_ | refine zM ?_ | refine zB ?_ | refine zA ?_ | refine zS ?_ | refine zL ?_)
        refine qc ?_
        (repeat refine qb ?_); refine qk ?_
        exact ⟨Or.inr rfl, _, _, [(0, 0), (3, 1)], _, Wk.refl _, rfl, rfl, .refl _, rfl, rfl⟩
theorem copy_h : ∀ (n : Nat), CopyOk n
  | 0 => fun _ h => h.elim
  | n + 1 => copy_step n (copy_h n)
end Go.Proofs.YtppfcacnofjmdaaGreatDoor
namespace Go.Proofs.YtppfcacnofjmdaaGreatDoor
set_option linter.unusedVariables false
set_option linter.unusedSimpArgs false
open Go.RowKit
def Upto (k m : Nat) (r : SV) : Prop := ∃ b : Bool, r = .p (pB b) ∧ (b = true → k ≤ m)
theorem upto_ok {k m : Nat} {w : World} {e : Ending} {w' : World} (h : upTo k m w e w') : ∃ r, Upto k m r ∧ flatS r = true ∧ e = .returned (valS r) ∧ Below w.heap.size w w' ∧ RelS (fun _ => True) (fun _ => none) w' r (valS r) := by
  rcases h with ⟨rfl, hb⟩ | ⟨rfl, hk, hb⟩
  · exact ⟨.p (pB false), ⟨false, rfl, fun h => by cases h⟩, rfl, rfl, hb, .p (.v rfl)⟩
  · exact ⟨.p (pB true), ⟨true, rfl, fun _ => hk.out⟩, rfl, rfl, hb, .p (.v rfl)⟩
theorem few_h (l : List Giv) (hf : ∀ x ∈ l, x.Fit) : HoldsE Tryz.prog 16 [zP l] (Upto (fsz l) 1200) :=
  .of_calls Tryz.func16 (by kernel_rfl) rfl fun w vs hl hr => by
    obtain ⟨u, rfl⟩ := one_arg hl
    obtain ⟨A, c, rfl, h1, h2, h3⟩ := givs_typed (hr 0 _ u rfl rfl) hf
    exact (few_any l A c w h2.1 h3).mono fun e w' h => upto_ok h
theorem few_len {l : List Giv} (h : fsz l ≤ 1200) : l.length ≤ 600 ∧ ∀ g ∈ l, g.bag.length ≤ 1200 := by
  refine ⟨by unfold fsz at h; omega, fun g hg => ?_⟩
  have h2 : gsz g ≤ fsz l := by have := wb (f := gsz) hg; unfold fsz; omega
  have h3 : g.bag.length ≤ gsz g := by unfold gsz; omega
  omega
end Go.Proofs.YtppfcacnofjmdaaGreatDoor
namespace Go.Proofs.YtppfcacnofjmdaaGreatDoor
set_option linter.unusedVariables false
set_option linter.unusedSimpArgs false
open Go.RowKit
theorem rPV_get {ok : Nat → Prop} {w : World} {cs : List Value} {ps : List PV} (h : rPV ok w cs ps) {j : Nat} {p : PV} (hp : ps[j]? = some p) : ∃ u, cs[j]? = some u ∧ RelP ok w p u := by
  have hl : j < cs.length := by rw [h.1]; exact (List.getElem?_eq_some_iff.1 hp).1
  exact ⟨_, List.getElem?_eq_getElem hl, h.2 j p _ hp (List.getElem?_eq_getElem hl)⟩
theorem nod_back {ok : Nat → Prop} {w : World} {cs : List Value} {x : Nod} (h : rPV ok w cs x.pv) (hf : x.Fit) : rNod w cs x :=
  ⟨rPV_plain (xs := [.int .i64 x.op, .int .i64 x.val.kind, .int .i64 x.val.n, .string x.val.s, .int .i64 x.attr.cat, .string x.attr.name, .bool x.attr.must]) h, hf⟩
theorem obl_back {ok : Nat → Prop} {w : World} {cs : List Value} {x : Obli} (h : rPV ok w cs x.pv) (hf : x.Fit) : rObl w cs x :=
  ⟨rPV_plain (xs := [.int .i64 x.on, .int .i64 x.kind, .string x.arg]) h, hf⟩
theorem slv_back {α : Type} {R : Rp α} {f : α → List PV} {z : Nat} {ok : Nat → Prop} {w : World} {u : Value} {l : List α} (h : RelP ok w (.sl z (l.map f)) u) (hf : ∀ x ∈ l, ∀ cs, rPV ok w cs (f x) → R w cs x) : SlV R z w u l := by
  obtain ⟨A, c, rfl, h1, h2, h3⟩ := sl_typed h hf
  exact ⟨A, c, rfl, h1, h2, h3⟩
theorem tar_back {ok : Nat → Prop} {w : World} {u : Value} {t : Tar} (h : RelP ok w (tgtP t) u) (hf : TarFit t) : SlV rTar' 1 w u t := by
  obtain ⟨A, c, rfl, h1, h2, h3⟩ := tgt_typed h hf
  exact ⟨A, c, rfl, h1, h2, h3⟩
theorem rul_back {ok : Nat → Prop} {w : World} {cs : List Value} {x : Rul} (h : rPV ok w cs (zt x)) (hf : RulFit x) : rRul w cs x := by
  have hl : cs.length = 5 := h.1
  match cs, hl with
  | [c0, c1, c2, c3, c4], _ =>
    have e0 := zX (h.2 0 _ c0 rfl rfl) rfl
    have e1 := zX (h.2 1 _ c1 rfl rfl) rfl
    subst e0 e1
    exact ⟨c2, c3, c4, rfl, hf.id, tar_back (h.2 2 _ c2 rfl rfl) hf.tgt, slv_back (h.2 3 _ c3 rfl rfl) (fun x hx cs hcs => nod_back hcs (hf.cond x hx)), slv_back (h.2 4 _ c4 rfl rfl) (fun x hx cs hcs => obl_back hcs (hf.obls x hx))⟩
theorem pol_back : ∀ {n : Nat} {ok : Nat → Prop} {w : World} {cs : List Value} {p : Pol}, rPV ok w cs (polP p) → PolF n p → rPolN n w cs p
  | n + 1, ok, w, cs, p, h, hf => by
    rw [zf] at h
    have hl : cs.length = 7 := h.1
    match cs, hl with
    | [c0, c1, c2, c3, c4, c5, c6], _ =>
      have e0 := zX (h.2 0 _ c0 rfl rfl) rfl
      have e1 := zX (h.2 1 _ c1 rfl rfl) rfl
      have e2 := zX (h.2 2 _ c2 rfl rfl) rfl
      subst e0 e1 e2
      exact ⟨c3, c4, c5, c6, rfl, hf.1.id, hf.2.1, tar_back (h.2 3 _ c3 rfl rfl) hf.1.tgt, slv_back (h.2 4 _ c4 rfl rfl) (fun x hx cs hcs => rul_back hcs (hf.1.rules x hx)),
        slv_back (h.2 5 _ c5 rfl rfl) (fun x hx cs hcs => pol_back hcs (hf.2.2 x hx)), slv_back (h.2 6 _ c6 rfl rfl) (fun x hx cs hcs => obl_back hcs (hf.1.obls x hx))⟩
theorem small_h {n : Nat} (p : Pol) (hf : PolF n p) : HoldsE Tryz.prog 15 [.agg (polP p)] (Upto p.sz 3000) :=
  .of_calls Tryz.func15 (by kernel_rfl) rfl fun w vs hl hr => by
    obtain ⟨u, rfl⟩ := one_arg hl
    have h := hr 0 _ u rfl rfl
    cases h with
    | @agg _ us hl2 hr2 =>
      have hp := pol_back ⟨hl2, hr2⟩ hf
      match n, hf, hp with
      | n + 1, _, ⟨c3, c4, c5, c6, he, h1⟩ =>
        subst he
        exact (small_any (n + 1) p w c3 c4 c5 c6 ⟨c3, c4, c5, c6, rfl, h1⟩).mono fun e w' h => upto_ok h
end Go.Proofs.YtppfcacnofjmdaaGreatDoor
namespace Go.Proofs.YtppfcacnofjmdaaGreatDoor
set_option linter.unusedVariables false
set_option linter.unusedSimpArgs false
open Go.RowKit
theorem givOk_of {g : List Giv} (hg : ∀ x ∈ g, x.Fit) (h : fsz g ≤ 1200) : GivOk g := by
  obtain ⟨g1, g2⟩ := few_len h
  exact ⟨hg, by omega, fun x hx => by have := g2 x hx; omega⟩
end Go.Proofs.YtppfcacnofjmdaaGreatDoor
namespace Go.Proofs.YtppfcacnofjmdaaGreatDoor
set_option linter.unusedVariables false
set_option linter.unusedSimpArgs false
open Go.RowKit
set_option maxHeartbeats 4000000
def bare (p : Pol) (a : Int) : Pol := .mk p.id p.set a [] p.rules p.kids p.obls
theorem bare_f {n : Nat} {p : Pol} (h : PolF n p) {a : Int} (ha : R64 a) : PolF n (bare p a) := by
  cases n with
  | zero => exact h.elim
  | succ n => exact ⟨⟨h.1.id, (fun x hx => by cases hx), h.1.rules, h.1.obls, h.1.nr, h.1.nk⟩, ha, h.2.2⟩
theorem bare_sz (p : Pol) (a : Int) : (bare p a).sz ≤ p.sz := by
  have h1 := Pol.sz_eq p
  have h2 : (bare p a).sz = 1 + p.rules.length + txt p.id + tsz [] + osz p.obls + qT rusz p.rules + qT Pol.sz p.kids := Pol.sz_eq (bare p a)
  have h3 : tsz ([] : Tar) = 1 := rfl
  have h4 : 1 ≤ tsz p.target := by unfold tsz; omega
  omega
theorem bare_cv (p : Pol) (a : Int) : CvL [.agg [pS p.id, pB p.set, pI a, nilV, .sl 5 (p.rules.map zt), .sl 7 (p.kids.map polP), zQ p.obls]] [.agg (polP (bare p a))] := by
  rw [zf (bare p a)]
  exact .cons (CvL.agg (.cons (.refl _) (.cons (.refl _) (.cons (.refl _) (.cons (.nil 1) (.cons (.refl _) (.cons (.refl _) (.cons (.refl _) .nil)))))))) .nil
theorem bareG_cv (p : Pol) (a : Int) (g : List Giv) : CvL [.agg [pS p.id, pB p.set, pI a, nilV, .sl 5 (p.rules.map zt), .sl 7 (p.kids.map polP), zQ p.obls], zP g] [.agg (polP (bare p a)), zP g] := by
  rw [zf (bare p a)]
  exact .cons (CvL.agg (.cons (.refl _) (.cons (.refl _) (.cons (.refl _) (.cons (.nil 1) (.cons (.refl _) (.cons (.refl _) (.cons (.refl _) .nil)))))))) (.cons (.refl _) .nil)
theorem polF_alg {n : Nat} {p : Pol} (h : PolF n p) : R64 p.alg := by
  cases n with
  | zero => exact h.elim
  | succ n => exact h.2.1
theorem bare_put (p : Pol) : bare p p.alg = p.putTarget [] := rfl
theorem decide_obls {g : List Giv} {p : Pol} (h : p.sz ≤ 3000) : (qF g 4 p).obls.length ≤ 1000000 := by have := decideS_len g 4 p; omega
end Go.Proofs.YtppfcacnofjmdaaGreatDoor
namespace Go.Proofs.YtppfcacnofjmdaaGreatDoor
open Go.RowKit
noncomputable def fnsev46 : FnI := ⟨6, Tryz.f46.body.getD .skip, [.tmp 2], []⟩
theorem fnsev46_ok : FnOk Tryz.prog 46 fnsev46 := ⟨_, Tryz.func46, by kernel_rfl, by kernel_rfl, by kernel_rfl, by kernel_rfl, by kernel_rfl, by kernel_rfl⟩
noncomputable def fnsev45 : FnI := ⟨13, Tryz.f45.body.getD .skip, [.cell 2 28], []⟩
theorem fnsev45_ok : FnOk Tryz.prog 45 fnsev45 := ⟨_, Tryz.func45, by kernel_rfl, by kernel_rfl, by kernel_rfl, by kernel_rfl, by kernel_rfl, by kernel_rfl⟩
noncomputable def fnsev61 : FnI := ⟨61, Tryz.f61.body.getD .skip, [.cell 2 28, .tmp 3, .tmp 4], [(11, [(0, true), (1, true), (2, true), (3, true), (4, true), (5, true), (6, true), (7, true), (8, true), (9, false), (10, false), (11, false)])]⟩
theorem fnsev61_ok : FnOk Tryz.prog 61 fnsev61 := ⟨_, Tryz.func61, by kernel_rfl, by kernel_rfl, by kernel_rfl, by kernel_rfl, by kernel_rfl, by kernel_rfl⟩
noncomputable def fnsev80 : FnI := ⟨19, Tryz.f80.body.getD .skip, [], []⟩
theorem fnsev80_ok : FnOk Tryz.prog 80 fnsev80 := ⟨_, Tryz.func80, by kernel_rfl, by kernel_rfl, by kernel_rfl, by kernel_rfl, by kernel_rfl, by kernel_rfl⟩
noncomputable def fnsev17 : FnI := ⟨10, Tryz.f17.body.getD .skip, [.tmp 2], []⟩
theorem fnsev17_ok : FnOk Tryz.prog 17 fnsev17 := ⟨_, Tryz.func17, by kernel_rfl, by kernel_rfl, by kernel_rfl, by kernel_rfl, by kernel_rfl, by kernel_rfl⟩
noncomputable def fnsev44 : FnI := ⟨52, Tryz.f44.body.getD .skip, [.tmp 6], []⟩
theorem fnsev44_ok : FnOk Tryz.prog 44 fnsev44 := ⟨_, Tryz.func44, by kernel_rfl, by kernel_rfl, by kernel_rfl, by kernel_rfl, by kernel_rfl, by kernel_rfl⟩
noncomputable def fnsev68 : FnI := ⟨39, Tryz.f68.body.getD .skip, [.tmp 4], []⟩
theorem fnsev68_ok : FnOk Tryz.prog 68 fnsev68 := ⟨_, Tryz.func68, by kernel_rfl, by kernel_rfl, by kernel_rfl, by kernel_rfl, by kernel_rfl, by kernel_rfl⟩
noncomputable def fnsev86 : FnI := ⟨39, Tryz.f86.body.getD .skip, [.tmp 2], []⟩
theorem fnsev86_ok : FnOk Tryz.prog 86 fnsev86 := ⟨_, Tryz.func86, by kernel_rfl, by kernel_rfl, by kernel_rfl, by kernel_rfl, by kernel_rfl, by kernel_rfl⟩
noncomputable def fnsev105 : FnI := ⟨49, Tryz.f105.body.getD .skip, [.tmp 2], []⟩
theorem fnsev105_ok : FnOk Tryz.prog 105 fnsev105 := ⟨_, Tryz.func105, by kernel_rfl, by kernel_rfl, by kernel_rfl, by kernel_rfl, by kernel_rfl, by kernel_rfl⟩
noncomputable def fnsev73 : FnI := ⟨38, Tryz.f73.body.getD .skip, [.tmp 2], []⟩
theorem fnsev73_ok : FnOk Tryz.prog 73 fnsev73 := ⟨_, Tryz.func73, by kernel_rfl, by kernel_rfl, by kernel_rfl, by kernel_rfl, by kernel_rfl, by kernel_rfl⟩
noncomputable def fnsev89 : FnI := ⟨60, Tryz.f89.body.getD .skip, [.tmp 4, .tmp 5], [(11, [(0, true), (1, true), (2, true), (3, false), (4, false), (5, false), (6, false), (7, false), (8, false), (9, false)])]⟩
theorem fnsev89_ok : FnOk Tryz.prog 89 fnsev89 := ⟨_, Tryz.func89, by kernel_rfl, by kernel_rfl, by kernel_rfl, by kernel_rfl, by kernel_rfl, by kernel_rfl⟩
noncomputable def fnsev114 : FnI := ⟨37, Tryz.f114.body.getD .skip, [.tmp 2], []⟩
theorem fnsev114_ok : FnOk Tryz.prog 114 fnsev114 := ⟨_, Tryz.func114, by kernel_rfl, by kernel_rfl, by kernel_rfl, by kernel_rfl, by kernel_rfl, by kernel_rfl⟩
noncomputable def fnsev143 : FnI := ⟨16, Tryz.f143.body.getD .skip, [.tmp 2], []⟩
theorem fnsev143_ok : FnOk Tryz.prog 143 fnsev143 := ⟨_, Tryz.func143, by kernel_rfl, by kernel_rfl, by kernel_rfl, by kernel_rfl, by kernel_rfl, by kernel_rfl⟩
noncomputable def fnsev103 : FnI := ⟨61, Tryz.f103.body.getD .skip, [.tmp 2], []⟩
theorem fnsev103_ok : FnOk Tryz.prog 103 fnsev103 := ⟨_, Tryz.func103, by kernel_rfl, by kernel_rfl, by kernel_rfl, by kernel_rfl, by kernel_rfl, by kernel_rfl⟩
noncomputable def fnsev113 : FnI := ⟨35, Tryz.f113.body.getD .skip, [.tmp 2, .tmp 3], []⟩
theorem fnsev113_ok : FnOk Tryz.prog 113 fnsev113 := ⟨_, Tryz.func113, by kernel_rfl, by kernel_rfl, by kernel_rfl, by kernel_rfl, by kernel_rfl, by kernel_rfl⟩
noncomputable def fnsev85 : FnI := ⟨21, Tryz.f85.body.getD .skip, [.tmp 2], []⟩
theorem fnsev85_ok : FnOk Tryz.prog 85 fnsev85 := ⟨_, Tryz.func85, by kernel_rfl, by kernel_rfl, by kernel_rfl, by kernel_rfl, by kernel_rfl, by kernel_rfl⟩
noncomputable def fnsev106 : FnI := ⟨25, Tryz.f106.body.getD .skip, [.tmp 2], []⟩
theorem fnsev106_ok : FnOk Tryz.prog 106 fnsev106 := ⟨_, Tryz.func106, by kernel_rfl, by kernel_rfl, by kernel_rfl, by kernel_rfl, by kernel_rfl, by kernel_rfl⟩
noncomputable def fnsev135 : FnI := ⟨22, Tryz.f135.body.getD .skip, [.tmp 2], []⟩
theorem fnsev135_ok : FnOk Tryz.prog 135 fnsev135 := ⟨_, Tryz.func135, by kernel_rfl, by kernel_rfl, by kernel_rfl, by kernel_rfl, by kernel_rfl, by kernel_rfl⟩
noncomputable def fnsev153 : FnI := ⟨21, Tryz.f153.body.getD .skip, [.tmp 2], []⟩
theorem fnsev153_ok : FnOk Tryz.prog 153 fnsev153 := ⟨_, Tryz.func153, by kernel_rfl, by kernel_rfl, by kernel_rfl, by kernel_rfl, by kernel_rfl, by kernel_rfl⟩
noncomputable def fnsev134 : FnI := ⟨9, Tryz.f134.body.getD .skip, [.tmp 2], []⟩
theorem fnsev134_ok : FnOk Tryz.prog 134 fnsev134 := ⟨_, Tryz.func134, by kernel_rfl, by kernel_rfl, by kernel_rfl, by kernel_rfl, by kernel_rfl, by kernel_rfl⟩
noncomputable def fnsev84 : FnI := ⟨28, Tryz.f84.body.getD .skip, [.tmp 4], []⟩
theorem fnsev84_ok : FnOk Tryz.prog 84 fnsev84 := ⟨_, Tryz.func84, by kernel_rfl, by kernel_rfl, by kernel_rfl, by kernel_rfl, by kernel_rfl, by kernel_rfl⟩
noncomputable def fnsev67 : FnI := ⟨68, Tryz.f67.body.getD .skip, [.tmp 4], []⟩
theorem fnsev67_ok : FnOk Tryz.prog 67 fnsev67 := ⟨_, Tryz.func67, by kernel_rfl, by kernel_rfl, by kernel_rfl, by kernel_rfl, by kernel_rfl, by kernel_rfl⟩
noncomputable def fnsev79 : FnI := ⟨7, Tryz.f79.body.getD .skip, [], []⟩
theorem fnsev79_ok : FnOk Tryz.prog 79 fnsev79 := ⟨_, Tryz.func79, by kernel_rfl, by kernel_rfl, by kernel_rfl, by kernel_rfl, by kernel_rfl, by kernel_rfl⟩
noncomputable def fnsev78 : FnI := ⟨13, Tryz.f78.body.getD .skip, [.cell 2 143], [(1, [(0, true), (1, true), (2, true), (3, true), (4, false), (5, false), (6, false), (7, false), (8, false), (9, false), (10, false)])]⟩
theorem fnsev78_ok : FnOk Tryz.prog 78 fnsev78 := ⟨_, Tryz.func78, by kernel_rfl, by kernel_rfl, by kernel_rfl, by kernel_rfl, by kernel_rfl, by kernel_rfl⟩
noncomputable def fnsev77 : FnI := ⟨39, Tryz.f77.body.getD .skip, [.cell 4 28], []⟩
theorem fnsev77_ok : FnOk Tryz.prog 77 fnsev77 := ⟨_, Tryz.func77, by kernel_rfl, by kernel_rfl, by kernel_rfl, by kernel_rfl, by kernel_rfl, by kernel_rfl⟩
noncomputable def fnsev100 : FnI := ⟨28, Tryz.f100.body.getD .skip, [.tmp 2], []⟩
theorem fnsev100_ok : FnOk Tryz.prog 100 fnsev100 := ⟨_, Tryz.func100, by kernel_rfl, by kernel_rfl, by kernel_rfl, by kernel_rfl, by kernel_rfl, by kernel_rfl⟩
noncomputable def fnsev131 : FnI := ⟨10, Tryz.f131.body.getD .skip, [], []⟩
theorem fnsev131_ok : FnOk Tryz.prog 131 fnsev131 := ⟨_, Tryz.func131, by kernel_rfl, by kernel_rfl, by kernel_rfl, by kernel_rfl, by kernel_rfl, by kernel_rfl⟩
noncomputable def fnsev95 : FnI := ⟨25, Tryz.f95.body.getD .skip, [.tmp 2], []⟩
theorem fnsev95_ok : FnOk Tryz.prog 95 fnsev95 := ⟨_, Tryz.func95, by kernel_rfl, by kernel_rfl, by kernel_rfl, by kernel_rfl, by kernel_rfl, by kernel_rfl⟩
noncomputable def fnsev94 : FnI := ⟨28, Tryz.f94.body.getD .skip, [.tmp 4], []⟩
theorem fnsev94_ok : FnOk Tryz.prog 94 fnsev94 := ⟨_, Tryz.func94, by kernel_rfl, by kernel_rfl, by kernel_rfl, by kernel_rfl, by kernel_rfl, by kernel_rfl⟩
noncomputable def fnsev129 : FnI := ⟨18, Tryz.f129.body.getD .skip, [.tmp 4], []⟩
theorem fnsev129_ok : FnOk Tryz.prog 129 fnsev129 := ⟨_, Tryz.func129, by kernel_rfl, by kernel_rfl, by kernel_rfl, by kernel_rfl, by kernel_rfl, by kernel_rfl⟩
noncomputable def fnsev132 : FnI := ⟨29, Tryz.f132.body.getD .skip, [.tmp 4], []⟩
theorem fnsev132_ok : FnOk Tryz.prog 132 fnsev132 := ⟨_, Tryz.func132, by kernel_rfl, by kernel_rfl, by kernel_rfl, by kernel_rfl, by kernel_rfl, by kernel_rfl⟩
noncomputable def fnsev128 : FnI := ⟨19, Tryz.f128.body.getD .skip, [.tmp 4], []⟩
theorem fnsev128_ok : FnOk Tryz.prog 128 fnsev128 := ⟨_, Tryz.func128, by kernel_rfl, by kernel_rfl, by kernel_rfl, by kernel_rfl, by kernel_rfl, by kernel_rfl⟩
noncomputable def fnsev99 : FnI := ⟨51, Tryz.f99.body.getD .skip, [.tmp 2], []⟩
theorem fnsev99_ok : FnOk Tryz.prog 99 fnsev99 := ⟨_, Tryz.func99, by kernel_rfl, by kernel_rfl, by kernel_rfl, by kernel_rfl, by kernel_rfl, by kernel_rfl⟩
noncomputable def fnsev133 : FnI := ⟨23, Tryz.f133.body.getD .skip, [.cell 4 59], []⟩
theorem fnsev133_ok : FnOk Tryz.prog 133 fnsev133 := ⟨_, Tryz.func133, by kernel_rfl, by kernel_rfl, by kernel_rfl, by kernel_rfl, by kernel_rfl, by kernel_rfl⟩
noncomputable def fnsev97 : FnI := ⟨10, Tryz.f97.body.getD .skip, [], []⟩
theorem fnsev97_ok : FnOk Tryz.prog 97 fnsev97 := ⟨_, Tryz.func97, by kernel_rfl, by kernel_rfl, by kernel_rfl, by kernel_rfl, by kernel_rfl, by kernel_rfl⟩
noncomputable def fnsev152 : FnI := ⟨25, Tryz.f152.body.getD .skip, [.tmp 6], []⟩
theorem fnsev152_ok : FnOk Tryz.prog 152 fnsev152 := ⟨_, Tryz.func152, by kernel_rfl, by kernel_rfl, by kernel_rfl, by kernel_rfl, by kernel_rfl, by kernel_rfl⟩
noncomputable def fnsev160 : FnI := ⟨52, Tryz.f160.body.getD .skip, [.tmp 4, .tmp 5], [(10, [(0, true), (1, true), (2, true), (3, true), (4, false), (5, false)])]⟩
theorem fnsev160_ok : FnOk Tryz.prog 160 fnsev160 := ⟨_, Tryz.func160, by kernel_rfl, by kernel_rfl, by kernel_rfl, by kernel_rfl, by kernel_rfl, by kernel_rfl⟩
noncomputable def fnsev167 : FnI := ⟨56, Tryz.f167.body.getD .skip, [.cell 2 52], []⟩
theorem fnsev167_ok : FnOk Tryz.prog 167 fnsev167 := ⟨_, Tryz.func167, by kernel_rfl, by kernel_rfl, by kernel_rfl, by kernel_rfl, by kernel_rfl, by kernel_rfl⟩
noncomputable def fnsev166 : FnI := ⟨17, Tryz.f166.body.getD .skip, [.cell 2 54], []⟩
theorem fnsev166_ok : FnOk Tryz.prog 166 fnsev166 := ⟨_, Tryz.func166, by kernel_rfl, by kernel_rfl, by kernel_rfl, by kernel_rfl, by kernel_rfl, by kernel_rfl⟩
noncomputable def fnsev168 : FnI := ⟨36, Tryz.f168.body.getD .skip, [.tmp 4, .cell 5 56], [(9, [(0, true), (1, true), (2, false), (3, false)])]⟩
theorem fnsev168_ok : FnOk Tryz.prog 168 fnsev168 := ⟨_, Tryz.func168, by kernel_rfl, by kernel_rfl, by kernel_rfl, by kernel_rfl, by kernel_rfl, by kernel_rfl⟩
noncomputable def fnsev173 : FnI := ⟨15, Tryz.f173.body.getD .skip, [.tmp 2], []⟩
theorem fnsev173_ok : FnOk Tryz.prog 173 fnsev173 := ⟨_, Tryz.func173, by kernel_rfl, by kernel_rfl, by kernel_rfl, by kernel_rfl, by kernel_rfl, by kernel_rfl⟩
noncomputable def fnsev96 : FnI := ⟨23, Tryz.f96.body.getD .skip, [.tmp 2], []⟩
theorem fnsev96_ok : FnOk Tryz.prog 96 fnsev96 := ⟨_, Tryz.func96, by kernel_rfl, by kernel_rfl, by kernel_rfl, by kernel_rfl, by kernel_rfl, by kernel_rfl⟩
noncomputable def fnsev130 : FnI := ⟨24, Tryz.f130.body.getD .skip, [.tmp 2], []⟩
theorem fnsev130_ok : FnOk Tryz.prog 130 fnsev130 := ⟨_, Tryz.func130, by kernel_rfl, by kernel_rfl, by kernel_rfl, by kernel_rfl, by kernel_rfl, by kernel_rfl⟩
noncomputable def fnsev151 : FnI := ⟨20, Tryz.f151.body.getD .skip, [.tmp 2], []⟩
theorem fnsev151_ok : FnOk Tryz.prog 151 fnsev151 := ⟨_, Tryz.func151, by kernel_rfl, by kernel_rfl, by kernel_rfl, by kernel_rfl, by kernel_rfl, by kernel_rfl⟩
noncomputable def fnsev159 : FnI := ⟨32, Tryz.f159.body.getD .skip, [.cell 2 62], []⟩
theorem fnsev159_ok : FnOk Tryz.prog 159 fnsev159 := ⟨_, Tryz.func159, by kernel_rfl, by kernel_rfl, by kernel_rfl, by kernel_rfl, by kernel_rfl, by kernel_rfl⟩
noncomputable def fnsev98 : FnI := ⟨33, Tryz.f98.body.getD .skip, [.tmp 4], []⟩
theorem fnsev98_ok : FnOk Tryz.prog 98 fnsev98 := ⟨_, Tryz.func98, by kernel_rfl, by kernel_rfl, by kernel_rfl, by kernel_rfl, by kernel_rfl, by kernel_rfl⟩
noncomputable def fnsev76 : FnI := ⟨52, Tryz.f76.body.getD .skip, [.tmp 2, .tmp 3, .tmp 4], []⟩
theorem fnsev76_ok : FnOk Tryz.prog 76 fnsev76 := ⟨_, Tryz.func76, by kernel_rfl, by kernel_rfl, by kernel_rfl, by kernel_rfl, by kernel_rfl, by kernel_rfl⟩
noncomputable def fnsev93 : FnI := ⟨106, Tryz.f93.body.getD .skip, [.cell 2 143, .tmp 3], [(30, [(0, true), (1, true), (2, false), (3, false), (4, false), (5, false), (6, false)])]⟩
theorem fnsev93_ok : FnOk Tryz.prog 93 fnsev93 := ⟨_, Tryz.func93, by kernel_rfl, by kernel_rfl, by kernel_rfl, by kernel_rfl, by kernel_rfl, by kernel_rfl⟩
noncomputable def fnsev126 : FnI := ⟨50, Tryz.f126.body.getD .skip, [.tmp 2, .tmp 3], []⟩
theorem fnsev126_ok : FnOk Tryz.prog 126 fnsev126 := ⟨_, Tryz.func126, by kernel_rfl, by kernel_rfl, by kernel_rfl, by kernel_rfl, by kernel_rfl, by kernel_rfl⟩
noncomputable def fnsev149 : FnI := ⟨38, Tryz.f149.body.getD .skip, [.tmp 2, .tmp 3], [(3, [(0, true), (1, true), (4, true), (5, true), (2, false), (3, true), (6, false), (7, false), (8, false), (9, false)])]⟩
theorem fnsev149_ok : FnOk Tryz.prog 149 fnsev149 := ⟨_, Tryz.func149, by kernel_rfl, by kernel_rfl, by kernel_rfl, by kernel_rfl, by kernel_rfl, by kernel_rfl⟩
noncomputable def fnsev148 : FnI := ⟨17, Tryz.f148.body.getD .skip, [.tmp 2], []⟩
theorem fnsev148_ok : FnOk Tryz.prog 148 fnsev148 := ⟨_, Tryz.func148, by kernel_rfl, by kernel_rfl, by kernel_rfl, by kernel_rfl, by kernel_rfl, by kernel_rfl⟩
noncomputable def fnsev157 : FnI := ⟨20, Tryz.f157.body.getD .skip, [.tmp 2], []⟩
theorem fnsev157_ok : FnOk Tryz.prog 157 fnsev157 := ⟨_, Tryz.func157, by kernel_rfl, by kernel_rfl, by kernel_rfl, by kernel_rfl, by kernel_rfl, by kernel_rfl⟩
noncomputable def fnsev124 : FnI := ⟨9, Tryz.f124.body.getD .skip, [.tmp 2], []⟩
theorem fnsev124_ok : FnOk Tryz.prog 124 fnsev124 := ⟨_, Tryz.func124, by kernel_rfl, by kernel_rfl, by kernel_rfl, by kernel_rfl, by kernel_rfl, by kernel_rfl⟩
noncomputable def fnsev125 : FnI := ⟨35, Tryz.f125.body.getD .skip, [.tmp 4, .tmp 5], []⟩
theorem fnsev125_ok : FnOk Tryz.prog 125 fnsev125 := ⟨_, Tryz.func125, by kernel_rfl, by kernel_rfl, by kernel_rfl, by kernel_rfl, by kernel_rfl, by kernel_rfl⟩
noncomputable def fnsev145 : FnI := ⟨20, Tryz.f145.body.getD .skip, [.tmp 4], []⟩
theorem fnsev145_ok : FnOk Tryz.prog 145 fnsev145 := ⟨_, Tryz.func145, by kernel_rfl, by kernel_rfl, by kernel_rfl, by kernel_rfl, by kernel_rfl, by kernel_rfl⟩
noncomputable def fnsev123 : FnI := ⟨12, Tryz.f123.body.getD .skip, [.tmp 2], []⟩
theorem fnsev123_ok : FnOk Tryz.prog 123 fnsev123 := ⟨_, Tryz.func123, by kernel_rfl, by kernel_rfl, by kernel_rfl, by kernel_rfl, by kernel_rfl, by kernel_rfl⟩
noncomputable def fnsev146 : FnI := ⟨17, Tryz.f146.body.getD .skip, [.tmp 2], []⟩
theorem fnsev146_ok : FnOk Tryz.prog 146 fnsev146 := ⟨_, Tryz.func146, by kernel_rfl, by kernel_rfl, by kernel_rfl, by kernel_rfl, by kernel_rfl, by kernel_rfl⟩
noncomputable def fnsev23 : FnI := ⟨17, Tryz.f23.body.getD .skip, [.tmp 4], []⟩
theorem fnsev23_ok : FnOk Tryz.prog 23 fnsev23 := ⟨_, Tryz.func23, by kernel_rfl, by kernel_rfl, by kernel_rfl, by kernel_rfl, by kernel_rfl, by kernel_rfl⟩
noncomputable def fnsev49 : FnI := ⟨26, Tryz.f49.body.getD .skip, [.tmp 4], [(6, [(0, true), (1, true), (2, true), (3, true), (4, true), (5, false), (6, false), (7, false), (8, false)])]⟩
theorem fnsev49_ok : FnOk Tryz.prog 49 fnsev49 := ⟨_, Tryz.func49, by kernel_rfl, by kernel_rfl, by kernel_rfl, by kernel_rfl, by kernel_rfl, by kernel_rfl⟩
noncomputable def fnsev19 : FnI := ⟨13, Tryz.f19.body.getD .skip, [.cell 4 38, .tmp 5], []⟩
theorem fnsev19_ok : FnOk Tryz.prog 19 fnsev19 := ⟨_, Tryz.func19, by kernel_rfl, by kernel_rfl, by kernel_rfl, by kernel_rfl, by kernel_rfl, by kernel_rfl⟩
noncomputable def fnsev47 : FnI := ⟨50, Tryz.f47.body.getD .skip, [.cell 4 38], []⟩
theorem fnsev47_ok : FnOk Tryz.prog 47 fnsev47 := ⟨_, Tryz.func47, by kernel_rfl, by kernel_rfl, by kernel_rfl, by kernel_rfl, by kernel_rfl, by kernel_rfl⟩
noncomputable def fnsev69 : FnI := ⟨84, Tryz.f69.body.getD .skip, [.cell 6 38], [(22, [(0, true), (1, true), (2, true), (3, true), (4, false), (5, false), (6, false), (7, false), (8, false)])]⟩
theorem fnsev69_ok : FnOk Tryz.prog 69 fnsev69 := ⟨_, Tryz.func69, by kernel_rfl, by kernel_rfl, by kernel_rfl, by kernel_rfl, by kernel_rfl, by kernel_rfl⟩
noncomputable def fnsev70 : FnI := ⟨36, Tryz.f70.body.getD .skip, [.tmp 4], []⟩
theorem fnsev70_ok : FnOk Tryz.prog 70 fnsev70 := ⟨_, Tryz.func70, by kernel_rfl, by kernel_rfl, by kernel_rfl, by kernel_rfl, by kernel_rfl, by kernel_rfl⟩
noncomputable def fnsev25 : FnI := ⟨9, Tryz.f25.body.getD .skip, [.tmp 2], []⟩
theorem fnsev25_ok : FnOk Tryz.prog 25 fnsev25 := ⟨_, Tryz.func25, by kernel_rfl, by kernel_rfl, by kernel_rfl, by kernel_rfl, by kernel_rfl, by kernel_rfl⟩
noncomputable def fnsev87 : FnI := ⟨49, Tryz.f87.body.getD .skip, [.tmp 4, .tmp 5], []⟩
theorem fnsev87_ok : FnOk Tryz.prog 87 fnsev87 := ⟨_, Tryz.func87, by kernel_rfl, by kernel_rfl, by kernel_rfl, by kernel_rfl, by kernel_rfl, by kernel_rfl⟩
noncomputable def fnsev112 : FnI := ⟨12, Tryz.f112.body.getD .skip, [.tmp 6], []⟩
theorem fnsev112_ok : FnOk Tryz.prog 112 fnsev112 := ⟨_, Tryz.func112, by kernel_rfl, by kernel_rfl, by kernel_rfl, by kernel_rfl, by kernel_rfl, by kernel_rfl⟩
noncomputable def fnsev142 : FnI := ⟨9, Tryz.f142.body.getD .skip, [.tmp 4], []⟩
theorem fnsev142_ok : FnOk Tryz.prog 142 fnsev142 := ⟨_, Tryz.func142, by kernel_rfl, by kernel_rfl, by kernel_rfl, by kernel_rfl, by kernel_rfl, by kernel_rfl⟩
noncomputable def fnsev154 : FnI := ⟨19, Tryz.f154.body.getD .skip, [.tmp 4], []⟩
theorem fnsev154_ok : FnOk Tryz.prog 154 fnsev154 := ⟨_, Tryz.func154, by kernel_rfl, by kernel_rfl, by kernel_rfl, by kernel_rfl, by kernel_rfl, by kernel_rfl⟩
noncomputable def fnsev111 : FnI := ⟨20, Tryz.f111.body.getD .skip, [.tmp 2], []⟩
theorem fnsev111_ok : FnOk Tryz.prog 111 fnsev111 := ⟨_, Tryz.func111, by kernel_rfl, by kernel_rfl, by kernel_rfl, by kernel_rfl, by kernel_rfl, by kernel_rfl⟩
noncomputable def fnsev141 : FnI := ⟨31, Tryz.f141.body.getD .skip, [.tmp 6], []⟩
theorem fnsev141_ok : FnOk Tryz.prog 141 fnsev141 := ⟨_, Tryz.func141, by kernel_rfl, by kernel_rfl, by kernel_rfl, by kernel_rfl, by kernel_rfl, by kernel_rfl⟩
noncomputable def fnsev107 : FnI := ⟨26, Tryz.f107.body.getD .skip, [.tmp 4], []⟩
theorem fnsev107_ok : FnOk Tryz.prog 107 fnsev107 := ⟨_, Tryz.func107, by kernel_rfl, by kernel_rfl, by kernel_rfl, by kernel_rfl, by kernel_rfl, by kernel_rfl⟩
noncomputable def fnsev137 : FnI := ⟨8, Tryz.f137.body.getD .skip, [.tmp 4], []⟩
theorem fnsev137_ok : FnOk Tryz.prog 137 fnsev137 := ⟨_, Tryz.func137, by kernel_rfl, by kernel_rfl, by kernel_rfl, by kernel_rfl, by kernel_rfl, by kernel_rfl⟩
noncomputable def fnsev136 : FnI := ⟨10, Tryz.f136.body.getD .skip, [.tmp 2, .tmp 3], []⟩
theorem fnsev136_ok : FnOk Tryz.prog 136 fnsev136 := ⟨_, Tryz.func136, by kernel_rfl, by kernel_rfl, by kernel_rfl, by kernel_rfl, by kernel_rfl, by kernel_rfl⟩
noncomputable def fnsev140 : FnI := ⟨13, Tryz.f140.body.getD .skip, [.tmp 2], []⟩
theorem fnsev140_ok : FnOk Tryz.prog 140 fnsev140 := ⟨_, Tryz.func140, by kernel_rfl, by kernel_rfl, by kernel_rfl, by kernel_rfl, by kernel_rfl, by kernel_rfl⟩
noncomputable def fnsev110 : FnI := ⟨12, Tryz.f110.body.getD .skip, [.tmp 2], []⟩
theorem fnsev110_ok : FnOk Tryz.prog 110 fnsev110 := ⟨_, Tryz.func110, by kernel_rfl, by kernel_rfl, by kernel_rfl, by kernel_rfl, by kernel_rfl, by kernel_rfl⟩
noncomputable def fnsev139 : FnI := ⟨5, Tryz.f139.body.getD .skip, [.tmp 2], []⟩
theorem fnsev139_ok : FnOk Tryz.prog 139 fnsev139 := ⟨_, Tryz.func139, by kernel_rfl, by kernel_rfl, by kernel_rfl, by kernel_rfl, by kernel_rfl, by kernel_rfl⟩
noncomputable def fnsev138 : FnI := ⟨19, Tryz.f138.body.getD .skip, [.tmp 4], []⟩
theorem fnsev138_ok : FnOk Tryz.prog 138 fnsev138 := ⟨_, Tryz.func138, by kernel_rfl, by kernel_rfl, by kernel_rfl, by kernel_rfl, by kernel_rfl, by kernel_rfl⟩
noncomputable def fnsev109 : FnI := ⟨13, Tryz.f109.body.getD .skip, [.tmp 2], []⟩
theorem fnsev109_ok : FnOk Tryz.prog 109 fnsev109 := ⟨_, Tryz.func109, by kernel_rfl, by kernel_rfl, by kernel_rfl, by kernel_rfl, by kernel_rfl, by kernel_rfl⟩
noncomputable def fnsev108 : FnI := ⟨29, Tryz.f108.body.getD .skip, [.tmp 2], []⟩
theorem fnsev108_ok : FnOk Tryz.prog 108 fnsev108 := ⟨_, Tryz.func108, by kernel_rfl, by kernel_rfl, by kernel_rfl, by kernel_rfl, by kernel_rfl, by kernel_rfl⟩
noncomputable def fnsev20 : FnI := ⟨6, Tryz.f20.body.getD .skip, [.tmp 2], []⟩
theorem fnsev20_ok : FnOk Tryz.prog 20 fnsev20 := ⟨_, Tryz.func20, by kernel_rfl, by kernel_rfl, by kernel_rfl, by kernel_rfl, by kernel_rfl, by kernel_rfl⟩
noncomputable def fnsev48 : FnI := ⟨16, Tryz.f48.body.getD .skip, [.tmp 2], []⟩
theorem fnsev48_ok : FnOk Tryz.prog 48 fnsev48 := ⟨_, Tryz.func48, by kernel_rfl, by kernel_rfl, by kernel_rfl, by kernel_rfl, by kernel_rfl, by kernel_rfl⟩
noncomputable def fnsev27 : FnI := ⟨15, Tryz.f27.body.getD .skip, [.cell 4 38], [(1, [(0, true), (1, true), (2, true), (3, true), (5, true), (6, true), (7, true), (4, false), (8, false), (9, false), (10, false)])]⟩
theorem fnsev27_ok : FnOk Tryz.prog 27 fnsev27 := ⟨_, Tryz.func27, by kernel_rfl, by kernel_rfl, by kernel_rfl, by kernel_rfl, by kernel_rfl, by kernel_rfl⟩
noncomputable def fnsev51 : FnI := ⟨38, Tryz.f51.body.getD .skip, [.cell 6 38], []⟩
theorem fnsev51_ok : FnOk Tryz.prog 51 fnsev51 := ⟨_, Tryz.func51, by kernel_rfl, by kernel_rfl, by kernel_rfl, by kernel_rfl, by kernel_rfl, by kernel_rfl⟩
noncomputable def fnsev34 : FnI := ⟨26, Tryz.f34.body.getD .skip, [.tmp 4], []⟩
theorem fnsev34_ok : FnOk Tryz.prog 34 fnsev34 := ⟨_, Tryz.func34, by kernel_rfl, by kernel_rfl, by kernel_rfl, by kernel_rfl, by kernel_rfl, by kernel_rfl⟩
noncomputable def fnsev60 : FnI := ⟨15, Tryz.f60.body.getD .skip, [.tmp 4], []⟩
theorem fnsev60_ok : FnOk Tryz.prog 60 fnsev60 := ⟨_, Tryz.func60, by kernel_rfl, by kernel_rfl, by kernel_rfl, by kernel_rfl, by kernel_rfl, by kernel_rfl⟩
noncomputable def fnsev59 : FnI := ⟨51, Tryz.f59.body.getD .skip, [.cell 4 52, .tmp 5], [(8, [(0, true), (1, true), (2, true), (3, true), (4, true), (5, true), (6, true), (7, false), (8, false), (9, false), (10, false), (11, false)]), (10, [(0, true), (1, true), (2, true), (3, true), (4, true), (5, true), (6, true), (7, true), (8, false), (9, false)])]⟩
theorem fnsev59_ok : FnOk Tryz.prog 59 fnsev59 := ⟨_, Tryz.func59, by kernel_rfl, by kernel_rfl, by kernel_rfl, by kernel_rfl, by kernel_rfl, by kernel_rfl⟩
noncomputable def fnsev75 : FnI := ⟨122, Tryz.f75.body.getD .skip, [.cell 6 115], [(28, [(0, true), (1, true), (2, true), (3, true), (4, false), (5, false), (6, false), (7, false), (8, false), (9, false), (10, false)])]⟩
theorem fnsev75_ok : FnOk Tryz.prog 75 fnsev75 := ⟨_, Tryz.func75, by kernel_rfl, by kernel_rfl, by kernel_rfl, by kernel_rfl, by kernel_rfl, by kernel_rfl⟩
noncomputable def fnsev92 : FnI := ⟨111, Tryz.f92.body.getD .skip, [.cell 4 52, .tmp 5], [(5, [(0, true), (1, true), (2, true), (3, true), (4, false), (5, false), (6, false), (7, false), (8, false)]), (7, [(0, true), (1, true), (2, true), (3, false), (4, false), (5, false), (6, false), (7, false), (8, false), (9, false)]), (9, [(0, true), (1, true), (2, true), (3, false), (4, false), (5, false), (6, false), (7, false), (8, true), (9, true), (10, false), (11, false)])]⟩
theorem fnsev92_ok : FnOk Tryz.prog 92 fnsev92 := ⟨_, Tryz.func92, by kernel_rfl, by kernel_rfl, by kernel_rfl, by kernel_rfl, by kernel_rfl, by kernel_rfl⟩
noncomputable def fnsev122 : FnI := ⟨18, Tryz.f122.body.getD .skip, [.tmp 4], []⟩
theorem fnsev122_ok : FnOk Tryz.prog 122 fnsev122 := ⟨_, Tryz.func122, by kernel_rfl, by kernel_rfl, by kernel_rfl, by kernel_rfl, by kernel_rfl, by kernel_rfl⟩
noncomputable def fnsev121 : FnI := ⟨36, Tryz.f121.body.getD .skip, [.tmp 4, .tmp 5], []⟩
theorem fnsev121_ok : FnOk Tryz.prog 121 fnsev121 := ⟨_, Tryz.func121, by kernel_rfl, by kernel_rfl, by kernel_rfl, by kernel_rfl, by kernel_rfl, by kernel_rfl⟩
noncomputable def fnsev120 : FnI := ⟨27, Tryz.f120.body.getD .skip, [.tmp 4, .tmp 5], []⟩
theorem fnsev120_ok : FnOk Tryz.prog 120 fnsev120 := ⟨_, Tryz.func120, by kernel_rfl, by kernel_rfl, by kernel_rfl, by kernel_rfl, by kernel_rfl, by kernel_rfl⟩
noncomputable def fnsev119 : FnI := ⟨27, Tryz.f119.body.getD .skip, [.tmp 4, .tmp 5], []⟩
theorem fnsev119_ok : FnOk Tryz.prog 119 fnsev119 := ⟨_, Tryz.func119, by kernel_rfl, by kernel_rfl, by kernel_rfl, by kernel_rfl, by kernel_rfl, by kernel_rfl⟩
noncomputable def fnsev118 : FnI := ⟨31, Tryz.f118.body.getD .skip, [.cell 4 52, .tmp 5], [(3, [(0, true), (1, true), (2, true), (3, true), (4, true), (5, false), (6, false), (7, false), (8, false), (9, false), (10, false), (11, true), (12, true), (13, false), (14, false)])]⟩
theorem fnsev118_ok : FnOk Tryz.prog 118 fnsev118 := ⟨_, Tryz.func118, by kernel_rfl, by kernel_rfl, by kernel_rfl, by kernel_rfl, by kernel_rfl, by kernel_rfl⟩
noncomputable def fnsev83 : FnI := ⟨40, Tryz.f83.body.getD .skip, [.tmp 4, .tmp 5], []⟩
theorem fnsev83_ok : FnOk Tryz.prog 83 fnsev83 := ⟨_, Tryz.func83, by kernel_rfl, by kernel_rfl, by kernel_rfl, by kernel_rfl, by kernel_rfl, by kernel_rfl⟩
noncomputable def fnsev104 : FnI := ⟨9, Tryz.f104.body.getD .skip, [.tmp 2], []⟩
theorem fnsev104_ok : FnOk Tryz.prog 104 fnsev104 := ⟨_, Tryz.func104, by kernel_rfl, by kernel_rfl, by kernel_rfl, by kernel_rfl, by kernel_rfl, by kernel_rfl⟩
noncomputable def fnsev117 : FnI := ⟨8, Tryz.f117.body.getD .skip, [.cell 2 52], []⟩
theorem fnsev117_ok : FnOk Tryz.prog 117 fnsev117 := ⟨_, Tryz.func117, by kernel_rfl, by kernel_rfl, by kernel_rfl, by kernel_rfl, by kernel_rfl, by kernel_rfl⟩
noncomputable def fnsev116 : FnI := ⟨32, Tryz.f116.body.getD .skip, [.tmp 4], []⟩
theorem fnsev116_ok : FnOk Tryz.prog 116 fnsev116 := ⟨_, Tryz.func116, by kernel_rfl, by kernel_rfl, by kernel_rfl, by kernel_rfl, by kernel_rfl, by kernel_rfl⟩
noncomputable def fnsev91 : FnI := ⟨8, Tryz.f91.body.getD .skip, [.tmp 4], []⟩
theorem fnsev91_ok : FnOk Tryz.prog 91 fnsev91 := ⟨_, Tryz.func91, by kernel_rfl, by kernel_rfl, by kernel_rfl, by kernel_rfl, by kernel_rfl, by kernel_rfl⟩
noncomputable def fnsev115 : FnI := ⟨9, Tryz.f115.body.getD .skip, [.tmp 4], []⟩
theorem fnsev115_ok : FnOk Tryz.prog 115 fnsev115 := ⟨_, Tryz.func115, by kernel_rfl, by kernel_rfl, by kernel_rfl, by kernel_rfl, by kernel_rfl, by kernel_rfl⟩
noncomputable def fnsev144 : FnI := ⟨19, Tryz.f144.body.getD .skip, [.tmp 4], [(4, [(0, true), (1, true), (2, false), (3, false), (4, false), (5, false)])]⟩
theorem fnsev144_ok : FnOk Tryz.prog 144 fnsev144 := ⟨_, Tryz.func144, by kernel_rfl, by kernel_rfl, by kernel_rfl, by kernel_rfl, by kernel_rfl, by kernel_rfl⟩
noncomputable def fnsev90 : FnI := ⟨10, Tryz.f90.body.getD .skip, [.cell 2 115], []⟩
theorem fnsev90_ok : FnOk Tryz.prog 90 fnsev90 := ⟨_, Tryz.func90, by kernel_rfl, by kernel_rfl, by kernel_rfl, by kernel_rfl, by kernel_rfl, by kernel_rfl⟩
noncomputable def fnsev62 : FnI := ⟨30, Tryz.f62.body.getD .skip, [.tmp 4, .tmp 5], []⟩
theorem fnsev62_ok : FnOk Tryz.prog 62 fnsev62 := ⟨_, Tryz.func62, by kernel_rfl, by kernel_rfl, by kernel_rfl, by kernel_rfl, by kernel_rfl, by kernel_rfl⟩
noncomputable def fnsev82 : FnI := ⟨8, Tryz.f82.body.getD .skip, [.tmp 2], []⟩
theorem fnsev82_ok : FnOk Tryz.prog 82 fnsev82 := ⟨_, Tryz.func82, by kernel_rfl, by kernel_rfl, by kernel_rfl, by kernel_rfl, by kernel_rfl, by kernel_rfl⟩
noncomputable def fnsev81 : FnI := ⟨10, Tryz.f81.body.getD .skip, [.tmp 6], []⟩
theorem fnsev81_ok : FnOk Tryz.prog 81 fnsev81 := ⟨_, Tryz.func81, by kernel_rfl, by kernel_rfl, by kernel_rfl, by kernel_rfl, by kernel_rfl, by kernel_rfl⟩
noncomputable def fnsev101 : FnI := ⟨19, Tryz.f101.body.getD .skip, [.tmp 4], []⟩
theorem fnsev101_ok : FnOk Tryz.prog 101 fnsev101 := ⟨_, Tryz.func101, by kernel_rfl, by kernel_rfl, by kernel_rfl, by kernel_rfl, by kernel_rfl, by kernel_rfl⟩
noncomputable def fnsev102 : FnI := ⟨15, Tryz.f102.body.getD .skip, [.tmp 4], []⟩
theorem fnsev102_ok : FnOk Tryz.prog 102 fnsev102 := ⟨_, Tryz.func102, by kernel_rfl, by kernel_rfl, by kernel_rfl, by kernel_rfl, by kernel_rfl, by kernel_rfl⟩
noncomputable def fnsev74 : FnI := ⟨11, Tryz.f74.body.getD .skip, [.tmp 2], []⟩
theorem fnsev74_ok : FnOk Tryz.prog 74 fnsev74 := ⟨_, Tryz.func74, by kernel_rfl, by kernel_rfl, by kernel_rfl, by kernel_rfl, by kernel_rfl, by kernel_rfl⟩
noncomputable def fnsev28 : FnI := ⟨34, Tryz.f28.body.getD .skip, [.tmp 4], []⟩
theorem fnsev28_ok : FnOk Tryz.prog 28 fnsev28 := ⟨_, Tryz.func28, by kernel_rfl, by kernel_rfl, by kernel_rfl, by kernel_rfl, by kernel_rfl, by kernel_rfl⟩
noncomputable def fnsev52 : FnI := ⟨21, Tryz.f52.body.getD .skip, [.tmp 4], []⟩
theorem fnsev52_ok : FnOk Tryz.prog 52 fnsev52 := ⟨_, Tryz.func52, by kernel_rfl, by kernel_rfl, by kernel_rfl, by kernel_rfl, by kernel_rfl, by kernel_rfl⟩
noncomputable def fnsev37 : FnI := ⟨38, Tryz.f37.body.getD .skip, [.tmp 4], []⟩
theorem fnsev37_ok : FnOk Tryz.prog 37 fnsev37 := ⟨_, Tryz.func37, by kernel_rfl, by kernel_rfl, by kernel_rfl, by kernel_rfl, by kernel_rfl, by kernel_rfl⟩
noncomputable def fnsev63 : FnI := ⟨42, Tryz.f63.body.getD .skip, [.tmp 4, .tmp 5], []⟩
theorem fnsev63_ok : FnOk Tryz.prog 63 fnsev63 := ⟨_, Tryz.func63, by kernel_rfl, by kernel_rfl, by kernel_rfl, by kernel_rfl, by kernel_rfl, by kernel_rfl⟩
noncomputable def FnsEvF : List (FuncId × FnI) := [(46, fnsev46),
  (45, fnsev45),
  (61, fnsev61),
  (80, fnsev80),
  (17, fnsev17),
  (44, fnsev44),
  (68, fnsev68),
  (86, fnsev86),
  (105, fnsev105),
  (73, fnsev73),
  (89, fnsev89),
  (114, fnsev114),
  (143, fnsev143),
  (103, fnsev103),
  (113, fnsev113),
  (85, fnsev85),
  (106, fnsev106),
  (135, fnsev135),
  (153, fnsev153),
  (134, fnsev134),
  (84, fnsev84),
  (67, fnsev67),
  (79, fnsev79),
  (78, fnsev78),
  (77, fnsev77),
  (100, fnsev100),
  (131, fnsev131),
  (95, fnsev95),
  (94, fnsev94),
  (129, fnsev129),
  (132, fnsev132),
  (128, fnsev128),
  (99, fnsev99),
  (133, fnsev133),
  (97, fnsev97),
  (152, fnsev152),
  (160, fnsev160),
  (167, fnsev167),
  (166, fnsev166),
  (168, fnsev168),
  (173, fnsev173),
  (96, fnsev96),
  (130, fnsev130),
  (151, fnsev151),
  (159, fnsev159),
  (98, fnsev98),
  (76, fnsev76),
  (93, fnsev93),
  (126, fnsev126),
  (149, fnsev149),
  (148, fnsev148),
  (157, fnsev157),
  (124, fnsev124),
  (125, fnsev125),
  (145, fnsev145),
  (123, fnsev123),
  (146, fnsev146),
  (23, fnsev23),
  (49, fnsev49),
  (19, fnsev19),
  (47, fnsev47),
  (69, fnsev69),
  (70, fnsev70),
  (25, fnsev25),
  (87, fnsev87),
  (112, fnsev112),
  (142, fnsev142),
  (154, fnsev154),
  (111, fnsev111),
  (141, fnsev141),
  (107, fnsev107),
  (137, fnsev137),
  (136, fnsev136),
  (140, fnsev140),
  (110, fnsev110),
  (139, fnsev139),
  (138, fnsev138),
  (109, fnsev109),
  (108, fnsev108),
  (20, fnsev20),
  (48, fnsev48),
  (27, fnsev27),
  (51, fnsev51),
  (34, fnsev34),
  (60, fnsev60),
  (59, fnsev59),
  (75, fnsev75),
  (92, fnsev92),
  (122, fnsev122),
  (121, fnsev121),
  (120, fnsev120),
  (119, fnsev119),
  (118, fnsev118),
  (83, fnsev83),
  (104, fnsev104),
  (117, fnsev117),
  (116, fnsev116),
  (91, fnsev91),
  (115, fnsev115),
  (144, fnsev144),
  (90, fnsev90),
  (62, fnsev62),
  (82, fnsev82),
  (81, fnsev81),
  (101, fnsev101),
  (102, fnsev102),
  (74, fnsev74),
  (28, fnsev28),
  (52, fnsev52),
  (37, fnsev37),
  (63, fnsev63)]
theorem jr (C : FuncId → List PV → Option SV) : FOk Tryz.prog ⟨TTab, FnsEvF, C⟩ := qj fnsev46_ok <|
  qj fnsev45_ok <|
  qj fnsev61_ok <|
  qj fnsev80_ok <|
  qj fnsev17_ok <|
  qj fnsev44_ok <|
  qj fnsev68_ok <|
  qj fnsev86_ok <|
  qj fnsev105_ok <|
  qj fnsev73_ok <|
  qj fnsev89_ok <|
  qj fnsev114_ok <|
  qj fnsev143_ok <|
  qj fnsev103_ok <|
  qj fnsev113_ok <|
  qj fnsev85_ok <|
  qj fnsev106_ok <|
  qj fnsev135_ok <|
  qj fnsev153_ok <|
  qj fnsev134_ok <|
  qj fnsev84_ok <|
  qj fnsev67_ok <|
  qj fnsev79_ok <|
  qj fnsev78_ok <|
  qj fnsev77_ok <|
  qj fnsev100_ok <|
  qj fnsev131_ok <|
  qj fnsev95_ok <|
  qj fnsev94_ok <|
  qj fnsev129_ok <|
  qj fnsev132_ok <|
  qj fnsev128_ok <|
  qj fnsev99_ok <|
  qj fnsev133_ok <|
  qj fnsev97_ok <|
  qj fnsev152_ok <|
  qj fnsev160_ok <|
  qj fnsev167_ok <|
  qj fnsev166_ok <|
  qj fnsev168_ok <|
  qj fnsev173_ok <|
  qj fnsev96_ok <|
  qj fnsev130_ok <|
  qj fnsev151_ok <|
  qj fnsev159_ok <|
  qj fnsev98_ok <|
  qj fnsev76_ok <|
  qj fnsev93_ok <|
  qj fnsev126_ok <|
  qj fnsev149_ok <|
  qj fnsev148_ok <|
  qj fnsev157_ok <|
  qj fnsev124_ok <|
  qj fnsev125_ok <|
  qj fnsev145_ok <|
  qj fnsev123_ok <|
  qj fnsev146_ok <|
  qj fnsev23_ok <|
  qj fnsev49_ok <|
  qj fnsev19_ok <|
  qj fnsev47_ok <|
  qj fnsev69_ok <|
  qj fnsev70_ok <|
  qj fnsev25_ok <|
  qj fnsev87_ok <|
  qj fnsev112_ok <|
  qj fnsev142_ok <|
  qj fnsev154_ok <|
  qj fnsev111_ok <|
  qj fnsev141_ok <|
  qj fnsev107_ok <|
  qj fnsev137_ok <|
  qj fnsev136_ok <|
  qj fnsev140_ok <|
  qj fnsev110_ok <|
  qj fnsev139_ok <|
  qj fnsev138_ok <|
  qj fnsev109_ok <|
  qj fnsev108_ok <|
  qj fnsev20_ok <|
  qj fnsev48_ok <|
  qj fnsev27_ok <|
  qj fnsev51_ok <|
  qj fnsev34_ok <|
  qj fnsev60_ok <|
  qj fnsev59_ok <|
  qj fnsev75_ok <|
  qj fnsev92_ok <|
  qj fnsev122_ok <|
  qj fnsev121_ok <|
  qj fnsev120_ok <|
  qj fnsev119_ok <|
  qj fnsev118_ok <|
  qj fnsev83_ok <|
  qj fnsev104_ok <|
  qj fnsev117_ok <|
  qj fnsev116_ok <|
  qj fnsev91_ok <|
  qj fnsev115_ok <|
  qj fnsev144_ok <|
  qj fnsev90_ok <|
  qj fnsev62_ok <|
  qj fnsev82_ok <|
  qj fnsev81_ok <|
  qj fnsev101_ok <|
  qj fnsev102_ok <|
  qj fnsev74_ok <|
  qj fnsev28_ok <|
  qj fnsev52_ok <|
  qj fnsev37_ok <|
  qj fnsev63_ok <| fok_nil
end Go.Proofs.YtppfcacnofjmdaaGreatDoor
namespace Go.Proofs.YtppfcacnofjmdaaGreatDoor
set_option linter.unusedVariables false
set_option linter.unusedSimpArgs false
open Go.RowKit
set_option maxHeartbeats 2000000
set_option maxRecDepth 100000
def pEv : PV := (.agg [(.v (.string ⟨#[112]⟩)), (.v (.bool false)), (.v (.int .i64 1)), (.v (.slice none 0 0)), (.sl 5 [[(.v (.string ⟨#[114]⟩)), (.v (.bool false)), (.v (.slice none 0 0)), (.v (.slice none 0 0)), (.sl 3 [[(.v (.int .i64 1)), (.v (.int .i64 1)), (.v (.string ⟨#[97]⟩))]])], [(.v (.string ⟨#[100]⟩)), (.v (.bool true)), (.sl 1 [[(.sl 1 [[(.sl 7 [[(.v (.int .i64 3)), (.v (.string ⟨#[120]⟩)), (.v (.bool false)), (.v (.int .i64 1)), (.v (.int .i64 2)), (.v (.int .i64 1)), (.v (.string ⟨#[]⟩))]])]])]]), (.v (.slice none 0 0)), (.sl 3 [[(.v (.int .i64 2)), (.v (.int .i64 4)), (.v (.string ⟨#[98]⟩))]])]]), (.v (.slice none 0 0)), (.sl 3 [[(.v (.int .i64 1)), (.v (.int .i64 3)), (.v (.string ⟨#[99]⟩))]])])
theorem evRead : Holds Tryz.prog 45 [.v (.string ⟨#[112, 111, 108, 105, 99, 121, 32, 112, 32, 100, 101, 110, 121, 111, 118, 101, 114, 32, 123, 32, 112, 101, 114, 109, 105, 116, 32, 114, 32, 111, 110, 32, 112, 101, 114, 109, 105, 116, 32, 108, 111, 103, 32, 97, 59, 32, 100, 101, 110, 121, 32, 100, 32, 119, 104, 101, 110, 32, 40, 99, 97, 115, 101, 46, 120, 32, 61, 32, 49, 41, 32, 111, 110, 32, 100, 101, 110, 121, 32, 110, 111, 116, 105, 102, 121, 32, 98, 59, 32, 125, 32, 111, 110, 32, 112, 101, 114, 109, 105, 116, 32, 114, 101, 118, 105, 101, 119, 32, 99]⟩)] (.agg [.p (.v (.string ⟨#[112]⟩)), .p (.v (.bool false)), .p (.v (.int .i64 1)), .p (.v (.slice none 0 0)), .row 1, .p (.v (.slice none 0 0)), .row 0]) [(0, .row 43 3 [[(.v (.int .i64 1)), (.v (.int .i64 3)), (.v (.string ⟨#[99]⟩))]]), (1, .row 59 5 [[(.v (.string ⟨#[114]⟩)), (.v (.bool false)), (.v (.slice none 0 0)), (.v (.slice none 0 0)), (.sl 3 [[(.v (.int .i64 1)), (.v (.int .i64 1)), (.v (.string ⟨#[97]⟩))]])], [(.v (.string ⟨#[100]⟩)), (.v (.bool true)), (.sl 1 [[(.sl 1 [[(.sl 7 [[(.v (.int .i64 3)), (.v (.string ⟨#[120]⟩)), (.v (.bool false)), (.v (.int .i64 1)), (.v (.int .i64 2)), (.v (.int .i64 1)), (.v (.string ⟨#[]⟩))]])]])]]), (.v (.slice none 0 0)), (.sl 3 [[(.v (.int .i64 2)), (.v (.int .i64 4)), (.v (.string ⟨#[98]⟩))]])]])] :=
  .ofW (zT (n := 5000) qe (zU _) (jr ctab) (by kernel_rfl) (by kernel_rfl))
theorem evPol0 : Holds Tryz.prog 19 [(.agg [(.v (.string ⟨#[112]⟩)), (.v (.bool false)), (.v (.int .i64 1)), (.v (.slice none 0 0)), (.sl 5 [[(.v (.string ⟨#[114]⟩)), (.v (.bool false)), (.v (.slice none 0 0)), (.v (.slice none 0 0)), (.sl 3 [[(.v (.int .i64 1)), (.v (.int .i64 1)), (.v (.string ⟨#[97]⟩))]])], [(.v (.string ⟨#[100]⟩)), (.v (.bool true)), (.sl 1 [[(.sl 1 [[(.sl 7 [[(.v (.int .i64 3)), (.v (.string ⟨#[120]⟩)), (.v (.bool false)), (.v (.int .i64 1)), (.v (.int .i64 2)), (.v (.int .i64 1)), (.v (.string ⟨#[]⟩))]])]])]]), (.v (.slice none 0 0)), (.sl 3 [[(.v (.int .i64 2)), (.v (.int .i64 4)), (.v (.string ⟨#[98]⟩))]])]]), (.v (.slice none 0 0)), (.sl 3 [[(.v (.int .i64 1)), (.v (.int .i64 3)), (.v (.string ⟨#[99]⟩))]])]), (.v (.slice none 0 0))] (.tup [.agg [.p (.v (.complex .f64 4607182418800017408 0)), .row 0], .p (.v (.int .i64 0))]) [(0, .row 43 3 [[(.v (.int .i64 1)), (.v (.int .i64 1)), (.v (.string ⟨#[97]⟩))], [(.v (.int .i64 1)), (.v (.int .i64 3)), (.v (.string ⟨#[99]⟩))]])] :=
  .ofW (zT (n := 5000) qe (zU _) (jr ctab) (by kernel_rfl) (by kernel_rfl))
theorem evPol1 : Holds Tryz.prog 19 [(.agg [(.v (.string ⟨#[112]⟩)), (.v (.bool false)), (.v (.int .i64 1)), (.v (.slice none 0 0)), (.sl 5 [[(.v (.string ⟨#[114]⟩)), (.v (.bool false)), (.v (.slice none 0 0)), (.v (.slice none 0 0)), (.sl 3 [[(.v (.int .i64 1)), (.v (.int .i64 1)), (.v (.string ⟨#[97]⟩))]])], [(.v (.string ⟨#[100]⟩)), (.v (.bool true)), (.sl 1 [[(.sl 1 [[(.sl 7 [[(.v (.int .i64 3)), (.v (.string ⟨#[120]⟩)), (.v (.bool false)), (.v (.int .i64 1)), (.v (.int .i64 2)), (.v (.int .i64 1)), (.v (.string ⟨#[]⟩))]])]])]]), (.v (.slice none 0 0)), (.sl 3 [[(.v (.int .i64 2)), (.v (.int .i64 4)), (.v (.string ⟨#[98]⟩))]])]]), (.v (.slice none 0 0)), (.sl 3 [[(.v (.int .i64 1)), (.v (.int .i64 3)), (.v (.string ⟨#[99]⟩))]])]), (.sl 3 [[(.v (.int .i64 3)), (.v (.string ⟨#[120]⟩)), (.sl 3 [[(.v (.int .i64 2)), (.v (.int .i64 1)), (.v (.string ⟨#[]⟩))]])]])] (.tup [.agg [.p (.v (.complex .f64 0 4607182418800017408)), .row 0], .p (.v (.int .i64 0))]) [(0, .row 43 3 [[(.v (.int .i64 2)), (.v (.int .i64 4)), (.v (.string ⟨#[98]⟩))]])] :=
  .ofW (zT (n := 5000) qe (zU _) (jr ctab) (by kernel_rfl) (by kernel_rfl))
theorem evPol2 : Holds Tryz.prog 19 [(.agg [(.v (.string ⟨#[112]⟩)), (.v (.bool false)), (.v (.int .i64 1)), (.v (.slice none 0 0)), (.sl 5 [[(.v (.string ⟨#[114]⟩)), (.v (.bool false)), (.v (.slice none 0 0)), (.v (.slice none 0 0)), (.sl 3 [[(.v (.int .i64 1)), (.v (.int .i64 1)), (.v (.string ⟨#[97]⟩))]])], [(.v (.string ⟨#[100]⟩)), (.v (.bool true)), (.sl 1 [[(.sl 1 [[(.sl 7 [[(.v (.int .i64 3)), (.v (.string ⟨#[120]⟩)), (.v (.bool false)), (.v (.int .i64 1)), (.v (.int .i64 2)), (.v (.int .i64 1)), (.v (.string ⟨#[]⟩))]])]])]]), (.v (.slice none 0 0)), (.sl 3 [[(.v (.int .i64 2)), (.v (.int .i64 4)), (.v (.string ⟨#[98]⟩))]])]]), (.v (.slice none 0 0)), (.sl 3 [[(.v (.int .i64 1)), (.v (.int .i64 3)), (.v (.string ⟨#[99]⟩))]])]), (.sl 3 [[(.v (.int .i64 3)), (.v (.string ⟨#[120]⟩)), (.sl 3 [[(.v (.int .i64 3)), (.v (.int .i64 0)), (.v (.string ⟨#[97]⟩))]])]])] (.tup [.p (.agg [(.v (.complex .f64 4602678819172646912 4602678819172646912)), (.v (.slice none 0 0))]), .p (.v (.int .i64 0))]) [] :=
  .ofW (zT (n := 5000) qe (zU _) (jr ctab) (by kernel_rfl) (by kernel_rfl))
theorem evX0 : Holds Tryz.prog 46 [(.sl 3 [[(.v (.int .i64 2)), (.v (.int .i64 1)), (.v (.string ⟨#[]⟩))]])] ((.row 0)) [(0, .row 88 3 [[(.v (.int .i64 3)), (.v (.string ⟨#[120]⟩)), .sl 3 [[(.v (.int .i64 2)), (.v (.int .i64 1)), (.v (.string ⟨#[]⟩))]]]])] :=
  .ofW (zT (n := 5000) qe (zU _) (jr ctab) (by kernel_rfl) (by kernel_rfl))
theorem evX1 : Holds Tryz.prog 46 [(.sl 3 [[(.v (.int .i64 3)), (.v (.int .i64 0)), (.v (.string ⟨#[97]⟩))]])] ((.row 0)) [(0, .row 88 3 [[(.v (.int .i64 3)), (.v (.string ⟨#[120]⟩)), .sl 3 [[(.v (.int .i64 3)), (.v (.int .i64 0)), (.v (.string ⟨#[97]⟩))]]]])] :=
  .ofW (zT (n := 5000) qe (zU _) (jr ctab) (by kernel_rfl) (by kernel_rfl))
theorem evRes0 : Holds Tryz.prog 23 [.agg [(.v (.complex .f64 4607182418800017408 0)), (.sl 3 [[(.v (.int .i64 1)), (.v (.int .i64 1)), (.v (.string ⟨#[97]⟩))], [(.v (.int .i64 1)), (.v (.int .i64 3)), (.v (.string ⟨#[99]⟩))]])], .agg [(.v (.complex .f64 4607182418800017408 0)), (.sl 3 [[(.v (.int .i64 1)), (.v (.int .i64 1)), (.v (.string ⟨#[97]⟩))], [(.v (.int .i64 1)), (.v (.int .i64 3)), (.v (.string ⟨#[99]⟩))]])]] (.p (.v (.bool true))) [] :=
  .ofW (zT (n := 5000) qe (zU _) (jr ctab) (by kernel_rfl) (by kernel_rfl))
theorem evRes1 : Holds Tryz.prog 23 [.agg [(.v (.complex .f64 0 4607182418800017408)), (.sl 3 [[(.v (.int .i64 2)), (.v (.int .i64 4)), (.v (.string ⟨#[98]⟩))]])], .agg [(.v (.complex .f64 0 4607182418800017408)), (.sl 3 [[(.v (.int .i64 2)), (.v (.int .i64 4)), (.v (.string ⟨#[98]⟩))]])]] (.p (.v (.bool true))) [] :=
  .ofW (zT (n := 5000) qe (zU _) (jr ctab) (by kernel_rfl) (by kernel_rfl))
theorem evRes2 : Holds Tryz.prog 23 [.agg [(.v (.complex .f64 4602678819172646912 4602678819172646912)), (.v (.slice none 0 0))], .agg [(.v (.complex .f64 4602678819172646912 4602678819172646912)), (.v (.slice none 0 0))]] (.p (.v (.bool true))) [] :=
  .ofW (zT (n := 5000) qe (zU _) (jr ctab) (by kernel_rfl) (by kernel_rfl))
theorem jB : Holds Tryz.prog 18 [] (.p (.v (.bool true))) [] := by
  refine qA (ts := [0]) Tryz.func18 (by kernel_rfl) rfl rfl rfl ?_
  (repeat refine qb ?_); refine qa ?_
  repeat (first | refine zR ?_ | refine zK ?_ | refine zM ?_ | refine zB ?_ | refine zA ?_ | refine zS ?_ | refine zL ?_)
  refine qc ?_
  (repeat refine qb ?_); refine qa ?_
  repeat (first | refine zR ?_ | refine zK ?_ | refine zM ?_ | refine zB ?_ | refine zA ?_ | refine zS ?_ | refine zL ?_)
  refine qn rfl (qD rfl rfl rfl rfl (evRead) rfl rfl rfl ?_)
  repeat (first | refine zR ?_ | refine zK ?_ | refine zM ?_ | refine zB ?_ | refine zA ?_ | refine zS ?_ | refine zL ?_)
  refine qc ?_
  refine SW.wk ((zN (k := 10000) rfl).trans (zN (k := 10001) rfl)) ?_
  refine SW.wk (qq [1] [(1, 1)] rfl rfl) ?_
  (repeat refine qb ?_); refine qa ?_
  repeat (first | refine zR ?_ | refine zK ?_ | refine zM ?_ | refine zB ?_ | refine zA ?_ | refine zS ?_ | refine zL ?_)
  refine qn rfl (qD rfl rfl rfl rfl (evPol0) rfl rfl rfl ?_)
  repeat (first | refine zR ?_ | refine zK ?_ | refine zM ?_ | refine zB ?_ | refine zA ?_ | refine zS ?_ | refine zL ?_)
  refine qc ?_
  refine SW.wk (zN (k := 13000) rfl) ?_
  refine SW.wk (qq [1, 2, 3] [(1, 1), (2, 2)] rfl rfl) ?_
  (repeat refine qb ?_); refine zH 11 rfl (by kernel_rfl) ?_
  refine qy (i := 0) (K := [18, 19, 4, 20000, 21000]) (by kernel_rfl) (by kernel_rfl) rfl rfl (qi qe rfl (by exact True.intro)) rfl ?_
  refine qy (i := 1) (K := [18, 19, 4, 20000, 21000]) (by kernel_rfl) (by kernel_rfl) rfl rfl (qi qe rfl (by exact True.intro)) rfl ?_
  refine zE 2 8 (by kernel_rfl) ?_ ?_
  first | refine qd rfl rfl rfl (aM (h := ?_)) | refine qd rfl rfl rfl (aB (h := ?_)) | refine qd rfl rfl rfl (aA (h := ?_)) | refine qd rfl rfl rfl (aS (h := ?_)) | refine qd rfl rfl rfl (aL (h := ?_)) | refine qd rfl rfl rfl (qv (K := []) (qi qe rfl (by exact True.intro)) rfl ?_)
  refine zE 3 8 (by kernel_rfl) ?_ ?_
  refine qd rfl rfl rfl (ActOk.frz (i := 18) rfl (qD rfl rfl rfl rfl evX0 rfl rfl rfl ?_))
  refine zE 4 8 (by kernel_rfl) ?_ ?_
  refine qd rfl rfl rfl (ActOk.frz (i := 20000) rfl (qD rfl rfl rfl rfl evPol1 rfl rfl rfl ?_))
  refine qy (i := 5) (K := [18, 19, 4, 20000, 21000]) (by kernel_rfl) (by kernel_rfl) rfl rfl (qi qe rfl (by exact True.intro)) rfl ?_
  refine qy (i := 6) (K := [18, 19, 4, 20000, 21000]) (by kernel_rfl) (by kernel_rfl) rfl rfl (qi qe rfl (by exact True.intro)) rfl ?_
  refine qy (i := 7) (K := [18, 19, 4, 20000, 21000]) (by kernel_rfl) (by kernel_rfl) rfl rfl (qi qe rfl (by exact True.intro)) rfl ?_
  refine qo 8 (by kernel_rfl) ?_
  first | refine qd rfl rfl rfl (aM (h := ?_)) | refine qd rfl rfl rfl (aB (h := ?_)) | refine qd rfl rfl rfl (aA (h := ?_)) | refine qd rfl rfl rfl (aS (h := ?_)) | refine qd rfl rfl rfl (aL (h := ?_)) | refine qd rfl rfl rfl (qv (K := []) (qi qe rfl (by exact True.intro)) rfl ?_)
  refine qo 9 (by kernel_rfl) ?_
  first | refine qd rfl rfl rfl (aM (h := ?_)) | refine qd rfl rfl rfl (aB (h := ?_)) | refine qd rfl rfl rfl (aA (h := ?_)) | refine qd rfl rfl rfl (aS (h := ?_)) | refine qd rfl rfl rfl (aL (h := ?_)) | refine qd rfl rfl rfl (qv (K := []) (qi qe rfl (by exact True.intro)) rfl ?_)
  refine qy (i := 10) (K := [18, 19, 4, 20000, 21000]) (by kernel_rfl) (by kernel_rfl) rfl rfl (qi qe rfl (by exact True.intro)) rfl ?_
  refine zd (by kernel_rfl) ?_
  refine SW.wk (qq [1, 2, 3, 4, 5] [(1, 1), (2, 2), (4, 4), (21000, 700)] rfl rfl) ?_
  refine ?fk3_51
  rotate_left
  first | refine qd rfl rfl rfl (aM (h := ?_)) | refine qd rfl rfl rfl (aB (h := ?_)) | refine qd rfl rfl rfl (aA (h := ?_)) | refine qd rfl rfl rfl (aS (h := ?_)) | refine qd rfl rfl rfl (aL (h := ?_)) | refine qd rfl rfl rfl (qv (K := []) (qi qe rfl (by exact True.intro)) rfl ?_)
  refine qo 4 (by kernel_rfl) ?_
  refine qd rfl rfl rfl (ActOk.frz (i := 20000) rfl (qD rfl rfl rfl rfl evPol1 rfl rfl rfl ?_))
  refine qy (i := 5) (K := [18, 19, 4, 20000, 21000]) (by kernel_rfl) (by kernel_rfl) rfl rfl (qi qe rfl (by exact True.intro)) rfl ?_
  refine qy (i := 6) (K := [18, 19, 4, 20000, 21000]) (by kernel_rfl) (by kernel_rfl) rfl rfl (qi qe rfl (by exact True.intro)) rfl ?_
  refine qy (i := 7) (K := [18, 19, 4, 20000, 21000]) (by kernel_rfl) (by kernel_rfl) rfl rfl (qi qe rfl (by exact True.intro)) rfl ?_
  refine qo 9 (by kernel_rfl) ?_
  first | refine qd rfl rfl rfl (aM (h := ?_)) | refine qd rfl rfl rfl (aB (h := ?_)) | refine qd rfl rfl rfl (aA (h := ?_)) | refine qd rfl rfl rfl (aS (h := ?_)) | refine qd rfl rfl rfl (aL (h := ?_)) | refine qd rfl rfl rfl (qv (K := []) (qi qe rfl (by exact True.intro)) rfl ?_)
  refine qy (i := 10) (K := [18, 19, 4, 20000, 21000]) (by kernel_rfl) (by kernel_rfl) rfl rfl (qi qe rfl (by exact True.intro)) rfl ?_
  refine zd (by kernel_rfl) ?_
  refine SW.wk (qq [1, 2, 3, 4, 5] [(1, 1), (2, 2), (4, 4), (21000, 700)] rfl rfl) ?_
  exact ?fk3_51
  first | refine qd rfl rfl rfl (aM (h := ?_)) | refine qd rfl rfl rfl (aB (h := ?_)) | refine qd rfl rfl rfl (aA (h := ?_)) | refine qd rfl rfl rfl (aS (h := ?_)) | refine qd rfl rfl rfl (aL (h := ?_)) | refine qd rfl rfl rfl (qv (K := []) (qi qe rfl (by exact True.intro)) rfl ?_)
  refine qo 3 (by kernel_rfl) ?_
  refine qd rfl rfl rfl (ActOk.frz (i := 18) rfl (qD rfl rfl rfl rfl evX0 rfl rfl rfl ?_))
  refine qo 4 (by kernel_rfl) ?_
  refine qd rfl rfl rfl (ActOk.frz (i := 20000) rfl (qD rfl rfl rfl rfl evPol1 rfl rfl rfl ?_))
  refine qy (i := 5) (K := [18, 19, 4, 20000, 21000]) (by kernel_rfl) (by kernel_rfl) rfl rfl (qi qe rfl (by exact True.intro)) rfl ?_
  refine qy (i := 6) (K := [18, 19, 4, 20000, 21000]) (by kernel_rfl) (by kernel_rfl) rfl rfl (qi qe rfl (by exact True.intro)) rfl ?_
  refine qy (i := 7) (K := [18, 19, 4, 20000, 21000]) (by kernel_rfl) (by kernel_rfl) rfl rfl (qi qe rfl (by exact True.intro)) rfl ?_
  refine qo 9 (by kernel_rfl) ?_
  first | refine qd rfl rfl rfl (aM (h := ?_)) | refine qd rfl rfl rfl (aB (h := ?_)) | refine qd rfl rfl rfl (aA (h := ?_)) | refine qd rfl rfl rfl (aS (h := ?_)) | refine qd rfl rfl rfl (aL (h := ?_)) | refine qd rfl rfl rfl (qv (K := []) (qi qe rfl (by exact True.intro)) rfl ?_)
  refine qy (i := 10) (K := [18, 19, 4, 20000, 21000]) (by kernel_rfl) (by kernel_rfl) rfl rfl (qi qe rfl (by exact True.intro)) rfl ?_
  refine zd (by kernel_rfl) ?_
  refine SW.wk (qq [1, 2, 3, 4, 5] [(1, 1), (2, 2), (4, 4), (21000, 700)] rfl rfl) ?_
  exact ?fk3_51
  first | refine qd rfl rfl rfl (aM (h := ?_)) | refine qd rfl rfl rfl (aB (h := ?_)) | refine qd rfl rfl rfl (aA (h := ?_)) | refine qd rfl rfl rfl (aS (h := ?_)) | refine qd rfl rfl rfl (aL (h := ?_)) | refine qd rfl rfl rfl (qv (K := []) (qi qe rfl (by exact True.intro)) rfl ?_)
  refine qo 2 (by kernel_rfl) ?_
  first | refine qd rfl rfl rfl (aM (h := ?_)) | refine qd rfl rfl rfl (aB (h := ?_)) | refine qd rfl rfl rfl (aA (h := ?_)) | refine qd rfl rfl rfl (aS (h := ?_)) | refine qd rfl rfl rfl (aL (h := ?_)) | refine qd rfl rfl rfl (qv (K := []) (qi qe rfl (by exact True.intro)) rfl ?_)
  refine qo 3 (by kernel_rfl) ?_
  refine qd rfl rfl rfl (ActOk.frz (i := 18) rfl (qD rfl rfl rfl rfl evX0 rfl rfl rfl ?_))
  refine qo 4 (by kernel_rfl) ?_
  refine qd rfl rfl rfl (ActOk.frz (i := 20000) rfl (qD rfl rfl rfl rfl evPol1 rfl rfl rfl ?_))
  refine qy (i := 5) (K := [18, 19, 4, 20000, 21000]) (by kernel_rfl) (by kernel_rfl) rfl rfl (qi qe rfl (by exact True.intro)) rfl ?_
  refine qy (i := 6) (K := [18, 19, 4, 20000, 21000]) (by kernel_rfl) (by kernel_rfl) rfl rfl (qi qe rfl (by exact True.intro)) rfl ?_
  refine qy (i := 7) (K := [18, 19, 4, 20000, 21000]) (by kernel_rfl) (by kernel_rfl) rfl rfl (qi qe rfl (by exact True.intro)) rfl ?_
  refine qo 9 (by kernel_rfl) ?_
  first | refine qd rfl rfl rfl (aM (h := ?_)) | refine qd rfl rfl rfl (aB (h := ?_)) | refine qd rfl rfl rfl (aA (h := ?_)) | refine qd rfl rfl rfl (aS (h := ?_)) | refine qd rfl rfl rfl (aL (h := ?_)) | refine qd rfl rfl rfl (qv (K := []) (qi qe rfl (by exact True.intro)) rfl ?_)
  refine qy (i := 10) (K := [18, 19, 4, 20000, 21000]) (by kernel_rfl) (by kernel_rfl) rfl rfl (qi qe rfl (by exact True.intro)) rfl ?_
  refine zd (by kernel_rfl) ?_
  refine SW.wk (qq [1, 2, 3, 4, 5] [(1, 1), (2, 2), (4, 4), (21000, 700)] rfl rfl) ?_
  exact ?fk3_51
  refine SW.wk (zN (k := 700) rfl) ?_
  refine SW.wk (qq [1, 2, 3, 4, 5] [(1, 1), (2, 2), (4, 4)] rfl rfl) ?_
  (repeat refine qb ?_); refine zH 11 rfl (by kernel_rfl) ?_
  refine qy (i := 0) (K := [26, 27, 6, 28000, 29000]) (by kernel_rfl) (by kernel_rfl) rfl rfl (qi qe rfl (by exact True.intro)) rfl ?_
  refine qy (i := 1) (K := [26, 27, 6, 28000, 29000]) (by kernel_rfl) (by kernel_rfl) rfl rfl (qi qe rfl (by exact True.intro)) rfl ?_
  refine zE 2 8 (by kernel_rfl) ?_ ?_
  first | refine qd rfl rfl rfl (aM (h := ?_)) | refine qd rfl rfl rfl (aB (h := ?_)) | refine qd rfl rfl rfl (aA (h := ?_)) | refine qd rfl rfl rfl (aS (h := ?_)) | refine qd rfl rfl rfl (aL (h := ?_)) | refine qd rfl rfl rfl (qv (K := []) (qi qe rfl (by exact True.intro)) rfl ?_)
  refine zE 3 8 (by kernel_rfl) ?_ ?_
  refine qd rfl rfl rfl (ActOk.frz (i := 26) rfl (qD rfl rfl rfl rfl evX1 rfl rfl rfl ?_))
  refine zE 4 8 (by kernel_rfl) ?_ ?_
  refine qd rfl rfl rfl (ActOk.frz (i := 28000) rfl (qD rfl rfl rfl rfl evPol2 rfl rfl rfl ?_))
  refine qy (i := 5) (K := [26, 27, 6, 28000, 29000]) (by kernel_rfl) (by kernel_rfl) rfl rfl (qi qe rfl (by exact True.intro)) rfl ?_
  refine qy (i := 6) (K := [26, 27, 6, 28000, 29000]) (by kernel_rfl) (by kernel_rfl) rfl rfl (qi qe rfl (by exact True.intro)) rfl ?_
  refine qy (i := 7) (K := [26, 27, 6, 28000, 29000]) (by kernel_rfl) (by kernel_rfl) rfl rfl (qi qe rfl (by exact True.intro)) rfl ?_
  refine qo 8 (by kernel_rfl) ?_
  first | refine qd rfl rfl rfl (aM (h := ?_)) | refine qd rfl rfl rfl (aB (h := ?_)) | refine qd rfl rfl rfl (aA (h := ?_)) | refine qd rfl rfl rfl (aS (h := ?_)) | refine qd rfl rfl rfl (aL (h := ?_)) | refine qd rfl rfl rfl (qv (K := []) (qi qe rfl (by exact True.intro)) rfl ?_)
  refine qo 9 (by kernel_rfl) ?_
  first | refine qd rfl rfl rfl (aM (h := ?_)) | refine qd rfl rfl rfl (aB (h := ?_)) | refine qd rfl rfl rfl (aA (h := ?_)) | refine qd rfl rfl rfl (aS (h := ?_)) | refine qd rfl rfl rfl (aL (h := ?_)) | refine qd rfl rfl rfl (qv (K := []) (qi qe rfl (by exact True.intro)) rfl ?_)
  refine qy (i := 10) (K := [26, 27, 6, 28000, 29000]) (by kernel_rfl) (by kernel_rfl) rfl rfl (qi qe rfl (by exact True.intro)) rfl ?_
  refine zd (by kernel_rfl) ?_
  refine SW.wk (qq [1, 2, 3, 4, 5, 6, 7] [(1, 1), (2, 2), (4, 4), (6, 6)] rfl rfl) ?_
  refine ?fk4_116
  rotate_left
  first | refine qd rfl rfl rfl (aM (h := ?_)) | refine qd rfl rfl rfl (aB (h := ?_)) | refine qd rfl rfl rfl (aA (h := ?_)) | refine qd rfl rfl rfl (aS (h := ?_)) | refine qd rfl rfl rfl (aL (h := ?_)) | refine qd rfl rfl rfl (qv (K := []) (qi qe rfl (by exact True.intro)) rfl ?_)
  refine qo 4 (by kernel_rfl) ?_
  refine qd rfl rfl rfl (ActOk.frz (i := 28000) rfl (qD rfl rfl rfl rfl evPol2 rfl rfl rfl ?_))
  refine qy (i := 5) (K := [26, 27, 6, 28000, 29000]) (by kernel_rfl) (by kernel_rfl) rfl rfl (qi qe rfl (by exact True.intro)) rfl ?_
  refine qy (i := 6) (K := [26, 27, 6, 28000, 29000]) (by kernel_rfl) (by kernel_rfl) rfl rfl (qi qe rfl (by exact True.intro)) rfl ?_
  refine qy (i := 7) (K := [26, 27, 6, 28000, 29000]) (by kernel_rfl) (by kernel_rfl) rfl rfl (qi qe rfl (by exact True.intro)) rfl ?_
  refine qo 9 (by kernel_rfl) ?_
  first | refine qd rfl rfl rfl (aM (h := ?_)) | refine qd rfl rfl rfl (aB (h := ?_)) | refine qd rfl rfl rfl (aA (h := ?_)) | refine qd rfl rfl rfl (aS (h := ?_)) | refine qd rfl rfl rfl (aL (h := ?_)) | refine qd rfl rfl rfl (qv (K := []) (qi qe rfl (by exact True.intro)) rfl ?_)
  refine qy (i := 10) (K := [26, 27, 6, 28000, 29000]) (by kernel_rfl) (by kernel_rfl) rfl rfl (qi qe rfl (by exact True.intro)) rfl ?_
  refine zd (by kernel_rfl) ?_
  refine SW.wk (qq [1, 2, 3, 4, 5, 6, 7] [(1, 1), (2, 2), (4, 4), (6, 6)] rfl rfl) ?_
  exact ?fk4_116
  first | refine qd rfl rfl rfl (aM (h := ?_)) | refine qd rfl rfl rfl (aB (h := ?_)) | refine qd rfl rfl rfl (aA (h := ?_)) | refine qd rfl rfl rfl (aS (h := ?_)) | refine qd rfl rfl rfl (aL (h := ?_)) | refine qd rfl rfl rfl (qv (K := []) (qi qe rfl (by exact True.intro)) rfl ?_)
  refine qo 3 (by kernel_rfl) ?_
  refine qd rfl rfl rfl (ActOk.frz (i := 26) rfl (qD rfl rfl rfl rfl evX1 rfl rfl rfl ?_))
  refine qo 4 (by kernel_rfl) ?_
  refine qd rfl rfl rfl (ActOk.frz (i := 28000) rfl (qD rfl rfl rfl rfl evPol2 rfl rfl rfl ?_))
  refine qy (i := 5) (K := [26, 27, 6, 28000, 29000]) (by kernel_rfl) (by kernel_rfl) rfl rfl (qi qe rfl (by exact True.intro)) rfl ?_
  refine qy (i := 6) (K := [26, 27, 6, 28000, 29000]) (by kernel_rfl) (by kernel_rfl) rfl rfl (qi qe rfl (by exact True.intro)) rfl ?_
  refine qy (i := 7) (K := [26, 27, 6, 28000, 29000]) (by kernel_rfl) (by kernel_rfl) rfl rfl (qi qe rfl (by exact True.intro)) rfl ?_
  refine qo 9 (by kernel_rfl) ?_
  first | refine qd rfl rfl rfl (aM (h := ?_)) | refine qd rfl rfl rfl (aB (h := ?_)) | refine qd rfl rfl rfl (aA (h := ?_)) | refine qd rfl rfl rfl (aS (h := ?_)) | refine qd rfl rfl rfl (aL (h := ?_)) | refine qd rfl rfl rfl (qv (K := []) (qi qe rfl (by exact True.intro)) rfl ?_)
  refine qy (i := 10) (K := [26, 27, 6, 28000, 29000]) (by kernel_rfl) (by kernel_rfl) rfl rfl (qi qe rfl (by exact True.intro)) rfl ?_
  refine zd (by kernel_rfl) ?_
  refine SW.wk (qq [1, 2, 3, 4, 5, 6, 7] [(1, 1), (2, 2), (4, 4), (6, 6)] rfl rfl) ?_
  exact ?fk4_116
  first | refine qd rfl rfl rfl (aM (h := ?_)) | refine qd rfl rfl rfl (aB (h := ?_)) | refine qd rfl rfl rfl (aA (h := ?_)) | refine qd rfl rfl rfl (aS (h := ?_)) | refine qd rfl rfl rfl (aL (h := ?_)) | refine qd rfl rfl rfl (qv (K := []) (qi qe rfl (by exact True.intro)) rfl ?_)
  refine qo 2 (by kernel_rfl) ?_
  first | refine qd rfl rfl rfl (aM (h := ?_)) | refine qd rfl rfl rfl (aB (h := ?_)) | refine qd rfl rfl rfl (aA (h := ?_)) | refine qd rfl rfl rfl (aS (h := ?_)) | refine qd rfl rfl rfl (aL (h := ?_)) | refine qd rfl rfl rfl (qv (K := []) (qi qe rfl (by exact True.intro)) rfl ?_)
  refine qo 3 (by kernel_rfl) ?_
  refine qd rfl rfl rfl (ActOk.frz (i := 26) rfl (qD rfl rfl rfl rfl evX1 rfl rfl rfl ?_))
  refine qo 4 (by kernel_rfl) ?_
  refine qd rfl rfl rfl (ActOk.frz (i := 28000) rfl (qD rfl rfl rfl rfl evPol2 rfl rfl rfl ?_))
  refine qy (i := 5) (K := [26, 27, 6, 28000, 29000]) (by kernel_rfl) (by kernel_rfl) rfl rfl (qi qe rfl (by exact True.intro)) rfl ?_
  refine qy (i := 6) (K := [26, 27, 6, 28000, 29000]) (by kernel_rfl) (by kernel_rfl) rfl rfl (qi qe rfl (by exact True.intro)) rfl ?_
  refine qy (i := 7) (K := [26, 27, 6, 28000, 29000]) (by kernel_rfl) (by kernel_rfl) rfl rfl (qi qe rfl (by exact True.intro)) rfl ?_
  refine qo 9 (by kernel_rfl) ?_
  first | refine qd rfl rfl rfl (aM (h := ?_)) | refine qd rfl rfl rfl (aB (h := ?_)) | refine qd rfl rfl rfl (aA (h := ?_)) | refine qd rfl rfl rfl (aS (h := ?_)) | refine qd rfl rfl rfl (aL (h := ?_)) | refine qd rfl rfl rfl (qv (K := []) (qi qe rfl (by exact True.intro)) rfl ?_)
  refine qy (i := 10) (K := [26, 27, 6, 28000, 29000]) (by kernel_rfl) (by kernel_rfl) rfl rfl (qi qe rfl (by exact True.intro)) rfl ?_
  refine zd (by kernel_rfl) ?_
  refine SW.wk (qq [1, 2, 3, 4, 5, 6, 7] [(1, 1), (2, 2), (4, 4), (6, 6)] rfl rfl) ?_
  exact ?fk4_116
  (repeat refine qb ?_); refine qa ?_
  repeat (first | refine zR ?_ | refine zK ?_ | refine zM ?_ | refine zB ?_ | refine zA ?_ | refine zS ?_ | refine zL ?_)
  refine qc ?_
  (repeat refine qb ?_); refine qa ?_
  repeat (first | refine zR ?_ | refine zK ?_ | refine zM ?_ | refine zB ?_ | refine zA ?_ | refine zS ?_ | refine zL ?_)
  refine qn rfl (ActOk.frz (i := 33) rfl (qg rfl rfl rfl rfl evRes0 rfl rfl ?_))
  repeat (first | refine zR ?_ | refine zK ?_ | refine zM ?_ | refine zB ?_ | refine zA ?_ | refine zS ?_ | refine zL ?_)
  refine qn rfl (ActOk.frz (i := 53) rfl (qg rfl rfl rfl rfl evRes1 rfl rfl ?_))
  repeat (first | refine zR ?_ | refine zK ?_ | refine zM ?_ | refine zB ?_ | refine zA ?_ | refine zS ?_ | refine zL ?_)
  refine qn rfl (qg rfl rfl rfl rfl (evRes2) rfl rfl ?_)
  repeat (first | refine zR ?_ | refine zK ?_ | refine zM ?_ | refine zB ?_ | refine zA ?_ | refine zS ?_ | refine zL ?_)
  refine qc ?_
  (repeat refine qb ?_); refine qk ?_
  exact ⟨Or.inr rfl, _, _, [], Wk.refl _, rfl, rfl, rfl, rfl⟩
end Go.Proofs.YtppfcacnofjmdaaGreatDoor
