/-
  What the statement leans on, part 6: EvD, EvM, FnsEv, EvalRuns, Within, EvRules, LawKit0, LawL, Laid.
-/
import Derived.Test.YtppfcacnofjmdaaGreatDoorRows
import Derived.Lib.LaidTab
import Derived.LaidLaws
import Derived.LaidHandle
import Derived.Stop.Joined
import Derived.ChangeSame
import Derived.ChangeVars
import Derived.JoinedOf
import Derived.RowKitTokens
import Derived.Test.YtppfcacnofjmdaaGreatDoorPk1
import Derived.Test.YtppfcacnofjmdaaGreatDoorPk2
import Derived.Test.YtppfcacnofjmdaaGreatDoorPk3
import Derived.Test.YtppfcacnofjmdaaGreatDoorPk4
import Derived.Test.YtppfcacnofjmdaaGreatDoorPk5
namespace Go.Proofs.YtppfcacnofjmdaaGreatDoor
set_option linter.unusedVariables false
set_option linter.unusedSimpArgs false
open Go.RowKit
set_option maxHeartbeats 4000000
theorem partsO_len (alg : Int) (m : Mk) : ∀ l : List Rs, (wF alg m l).length ≤ oblN l
  | [] => Nat.le_refl _
  | x :: l => by
    have ih := partsO_len alg m l
    have e : oblN (x :: l) = x.obls.length + oblN l := by unfold oblN qT; rw [List.map_cons, List.sum_cons]
    rw [wF, e]
    split
    · split
      · omega
      · rw [List.length_append]; omega
    · omega
theorem oblN_append (a b : List Rs) : oblN (a ++ b) = oblN a + oblN b := by unfold oblN qT; rw [List.map_append, List.sum_append]
theorem oblN_map {α : Type} {f : α → Rs} {c : α → Nat} (h : ∀ x, (f x).obls.length ≤ c x) : ∀ l : List α, oblN (l.map f) ≤ qT c l
  | [] => Nat.le_refl _
  | x :: l => by
    have ih := oblN_map h l
    have h1 := h x
    unfold oblN qT at ih ⊢
    rw [List.map_cons, List.map_cons, List.sum_cons, List.map_cons, List.sum_cons]
    omega
theorem effectS_len (r : Rul) (t c : Int) : (jW r t c).obls.length ≤ r.obls.length := by
  unfold jW
  repeat' split
  · exact Nat.zero_le _
  · exact Nat.zero_le _
  · exact wq _ _
theorem ruleR_len (g : List Giv) (r : Rul) : (qaw g r).obls.length ≤ rusz r := by
  have h1 := effectS_len r (metT r.target g) (qam r.cond g)
  have h2 : r.obls.length ≤ osz r.obls := by unfold osz; omega
  have h3 : rusz r = txt r.id + tsz r.target + r.cond.length + osz r.obls + qT nsz r.cond := rfl
  unfold qaw
  omega
theorem parts_len (g : List Giv) (n : Nat) (h : ∀ p, (qF g n p).obls.length ≤ p.sz) (p : Pol) : oblN (p.rules.map (qaw g) ++ p.kids.map (qF g n)) + p.obls.length ≤ p.sz := by
  have h1 := Pol.sz_eq p
  have h2 := oblN_map (ruleR_len g) p.rules
  have h3 := oblN_map h p.kids
  have h4 : p.obls.length ≤ osz p.obls := by unfold osz; omega
  rw [oblN_append]
  omega
theorem decideS_len (g : List Giv) : ∀ (n : Nat) (p : Pol), (qF g n p).obls.length ≤ p.sz
  | 0, p => Nat.zero_le _
  | n + 1, p => by
    have h1 := parts_len g n (decideS_len g n) p
    rw [qF]
    split
    · exact Nat.zero_le _
    · unfold wM
      repeat' split
      · exact Nat.zero_le _
      · exact Nat.zero_le _
      · exact Nat.zero_le _
      · have h2 := partsO_len p.alg (allM p.alg ((p.rules.map (qaw g) ++ p.kids.map (qF g n)).map Rs.m)) (p.rules.map (qaw g) ++ p.kids.map (qF g n))
        have h3 := wq p.obls (allM p.alg ((p.rules.map (qaw g) ++ p.kids.map (qF g n)).map Rs.m))
        simp only [List.length_append]
        omega
theorem tarSm_sz {t : Tar} {n : Nat} (h : tsz t ≤ n) (hn : n ≤ 100000) : TarSm t := by
  refine ⟨by unfold tsz at h; omega, fun x hx => ?_⟩
  have h1 := xsz_le hx
  refine ⟨by unfold xsz at h1; omega, fun y hy => ?_⟩
  have h4 : asz y ≤ xsz x := by have := wb (f := asz) hy; unfold xsz; omega
  unfold asz at h4
  omega
theorem sz_big {p : Pol} {n : Nat} (h : p.sz ≤ n) (hn : n ≤ 100000) : TarSm p.target ∧ p.rules.length ≤ 100000 ∧ p.kids.length ≤ 100000 ∧ p.obls.length ≤ 100000 ∧ (∀ r ∈ p.rules, TarSm r.target ∧ r.cond.length ≤ 100000 ∧ r.obls.length ≤ 100000) ∧ ∀ k ∈ p.kids, k.sz ≤ n := by
  have h1 := Pol.sz_eq p
  have h2 := len_sumBy Pol.sz (fun p => by rw [Pol.sz_eq]; omega) p.kids
  have h3 : p.obls.length ≤ osz p.obls := by unfold osz; omega
  refine ⟨tarSm_sz (n := n) (by omega) hn, by omega, by omega, by omega, fun r hr => ?_, fun k hk => ?_⟩
  · have h4 := wb (f := rusz) hr
    have h5 : r.obls.length ≤ osz r.obls := by unfold osz; omega
    have h6 : rusz r = txt r.id + tsz r.target + r.cond.length + osz r.obls + qT nsz r.cond := rfl
    exact ⟨tarSm_sz (n := n) (by omega) hn, by omega, by omega⟩
  · have := wb (f := Pol.sz) hk
    omega
def DecOk (g : List Giv) (n : Nat) : Prop := ∀ (p : Pol), PolF n p → p.sz ≤ 100000 → Holds Tryz.prog 47 [.agg (polP p), zP g] (.p (.agg (rsP (qF g n p)))) []
theorem tarSm_of {t : Tar} (h : TarL t) : TarSm t := ⟨by have := h.1; omega, fun x hx => ⟨by have := (h.2 x hx).1; omega, fun y hy => by have := (h.2 x hx).2 y hy; omega⟩⟩
theorem dec_step {g : List Giv} (hg : GivOk g) (n : Nat) (IH : DecOk g n) : DecOk g (n + 1) := by
  intro p hf hsz
  obtain ⟨ht, hr, hk, ho, hru, hks⟩ := sz_big hsz (Nat.le_refl _)
  have hpl := parts_len g n (decideS_len g n) p
  have HK := fun k (hk : k ∈ p.kids) => IH k (hf.2.2 k hk) (hks k hk)
  have HM := metT_h p.target g hf.1.tgt ht hg.fit hg.len hg.bags
  have HR := fun r (hr : r ∈ p.rules) => ruleR_h r g (hf.1.rules r hr) (hru r hr).1 (by have := (hru r hr).2.2; omega) hg.fit hg.len hg.bags
  have HJ := join_h p (metT p.target g) (p.rules.map (qaw g) ++ p.kids.map (qF g n)) (by simp; omega) (fun x hx => by
    rcases List.mem_append.1 hx with hx | hx
    · obtain ⟨r, _, rfl⟩ := List.mem_map.1 hx; exact qan _ _ _
    · obtain ⟨k, _, rfl⟩ := List.mem_map.1 hx; exact qaa g n k) (by omega) (by omega)
  have eD : qF g (n + 1) p = if metT p.target g = 0 then noRs else wM p (metT p.target g) (p.rules.map (qaw g) ++ p.kids.map (qF g n)) := rfl
  rw [eD]
  clear eD
  rw [zf] at HJ ⊢
  generalize metT p.target g = t at *
  obtain ⟨id, set, alg, tg, rules, kids, obls⟩ := p
  simp only [Pol.id, Pol.set, Pol.alg, Pol.target, Pol.rules, Pol.kids, Pol.obls] at *
  have l1 : ((rules.map zt).length) = rules.length := by simp
  have l2 : ((kids.map polP).length) = kids.length := by simp
  refine .ofW ?_
  refine qR (T := TTab) qe Tryz.func47 (by kernel_rfl) rfl rfl rfl ?_
  (repeat refine qb ?_); refine qa ?_
  repeat (first | refine zR ?_ | refine zK ?_ | refine zM ?_ | refine zB ?_ | refine zA ?_ | refine zS ?_ | refine zL ?_)
  refine qc ?_
  (repeat refine qb ?_); refine qa ?_
  repeat (first | refine zR ?_ | refine zK ?_ | refine zM ?_ | refine zB ?_ | refine zA ?_ | refine zS ?_ | refine zL ?_)
  refine qn rfl (qg rfl rfl rfl rfl (HM) rfl rfl ?_)
  repeat (first | refine zR ?_ | refine zK ?_ | refine zM ?_ | refine zB ?_ | refine zA ?_ | refine zS ?_ | refine zL ?_)
  refine qc ?_
  (repeat refine qb ?_); refine qa ?_
  repeat (first | refine zR ?_ | refine zK ?_ | refine zM ?_ | refine zB ?_ | refine zA ?_ | refine zS ?_ | refine zL ?_)
  refine qc ?_
  (repeat refine qb ?_); refine qf rfl (fun h0 => ?_) (fun h0 => ?_)
  · have e : t = 0 := by simpa using h0
    rw [if_pos e]
    (repeat refine qb ?_); refine qa ?_
    repeat (first | refine zR ?_ | refine zK ?_ | refine zM ?_ | refine zB ?_ | refine zA ?_ | refine zS ?_ | refine zL ?_)
    refine qc ?_
    (repeat refine qb ?_); refine qk ?_
    exact ⟨Or.inr rfl, _, _, [], _, Wk.refl _, rfl, rfl, .p (CvL.agg (.cons (.refl _) (.cons (.nil 3) .nil))), rfl, rfl⟩
  have n0 : ¬ t = 0 := by simpa using h0
  rw [if_neg n0]
  refine qm ?_
  (repeat refine qb ?_); refine qa ?_
  repeat (first | refine zR ?_ | refine zK ?_ | refine zM ?_ | refine zB ?_ | refine zA ?_ | refine zS ?_ | refine zL ?_)
  refine qc ?_
  (repeat refine qb ?_); refine qa ?_
  repeat (first | refine zR ?_ | refine zK ?_ | refine zM ?_ | refine zB ?_ | refine zA ?_ | refine zS ?_ | refine zL ?_)
  refine qc ?_
  (repeat refine qb ?_); refine ql ?_
  refine SW.wk (jP 6 900 38 2 rfl rfl) ?_
  refine SW.wk (qq [1, 2, 4, 5, 6, 19, 20, 21] [(2, 2), (4, 4), (900, 0)] rfl rfl) ?_
  refine qO (fun m s => ∃ (k : Nat) (kk : Int), k ≤ rules.length ∧ m = rules.length - k ∧ kk = k ∧ s = ⟨50, [(1, .p (zP g)), (2, .ptr 2 0), (4, .ptr 4 0), (5, .p (pI t)), (6, .row 0), (19, .p (.sl 5 (rules.map zt))), (20, .p (pI (rules.map zt).length)), (21, .p (pI kk))], [(2, .cells [.p (pS id), .p (pB set), .p (pI alg), .p (tgtP tg), .p (.sl 5 (rules.map zt)), .p (.sl 7 (kids.map polP)), .p (zQ obls)]), (4, .cells [.p (.v (.complex .f64 0 0)), .p nilV]), (0, .row 38 2 (((rules.take k).map (qaw g)).map rsP))]⟩) rules.length ⟨0, 0, Nat.zero_le _, rfl, rfl, rfl⟩ ?_
  rintro m s ⟨k, _, hk', rfl, rfl, rfl⟩
  (repeat refine qb ?_); refine qa ?_
  repeat (first | refine zR ?_ | refine zK ?_ | refine zM ?_ | refine zB ?_ | refine zA ?_ | refine zS ?_ | refine zL ?_)
  refine qc ?_
  (repeat refine qb ?_); refine qf rfl (fun hlt => ?_) (fun hlt => ?_)
  · refine qm ?_
    rw [l1] at hlt
    simp only [decide_eq_true_eq] at hlt
    have hlt' : k < rules.length := by omega
    have H := HR _ (List.getElem_mem hlt')
    obtain ⟨x, hx⟩ : ∃ x, x = rules[k] := ⟨_, rfl⟩
    rw [← hx] at H
    (repeat refine qb ?_); refine ql ?_
    (repeat refine qb ?_); refine qa ?_
    repeat (first | refine zR ?_ | refine zK ?_ | refine zM ?_ | refine zB ?_ | refine zA ?_ | refine zS ?_ | refine zL ?_)
    refine qw qe rfl rfl (by rw [l1]; omega) rfl ?_
    rw [qJ hlt', ← hx]
    repeat (first | refine zR ?_ | refine zK ?_ | refine zM ?_ | refine zB ?_ | refine zA ?_ | refine zS ?_ | refine zL ?_)
    refine qc ?_
    (repeat refine qb ?_); refine qa ?_
    repeat (first | refine zR ?_ | refine zK ?_ | refine zM ?_ | refine zB ?_ | refine zA ?_ | refine zS ?_ | refine zL ?_)
    refine qn rfl (qD rfl rfl rfl rfl (H) rfl rfl rfl ?_)
    repeat (first | refine zR ?_ | refine zK ?_ | refine zM ?_ | refine zB ?_ | refine zA ?_ | refine zS ?_ | refine zL ?_)
    refine qn rfl (qp qe rfl rfl rfl rfl rfl rfl rfl rfl rfl rfl rfl rfl rfl rfl rfl rfl (by simp only [List.length_append, List.length_map, List.length_take, List.length_cons, List.length_nil]; unfold reachBytes; omega) (by simp only [List.length_append, List.length_map, List.length_take, List.length_cons, List.length_nil]; omega) ?_)
    repeat (first | refine zR ?_ | refine zK ?_ | refine zM ?_ | refine zB ?_ | refine zA ?_ | refine zS ?_ | refine zL ?_)
    refine qc ?_
    (repeat refine qb ?_); refine qa ?_
    repeat (first | refine zR ?_ | refine zK ?_ | refine zM ?_ | refine zB ?_ | refine zA ?_ | refine zS ?_ | refine zL ?_)
    refine qc ?_
    refine ⟨_, _, ?_, qq [1, 2, 4, 5, 6, 19, 20, 21] [(2, 2), (4, 4), (30, 0)] rfl rfl, k + 1, _, hlt', rfl, qz hlt' (by omega), ?_⟩
    · omega
    · rw [List.take_succ_eq_append_getElem hlt', ← hx, List.map_append, List.map_append]; rfl
  · refine qK ?_
    rw [l1] at hlt
    simp only [decide_eq_false_iff_not] at hlt
    have hkk : k = rules.length := by omega
    subst hkk
    rw [List.take_length]
    (repeat refine qb ?_); refine qa ?_
    repeat (first | refine zR ?_ | refine zK ?_ | refine zM ?_ | refine zB ?_ | refine zA ?_ | refine zS ?_ | refine zL ?_)
    refine qc ?_
    (repeat refine qb ?_); refine ql ?_
    refine SW.wk (qq [1, 2, 4, 5, 6, 33, 34, 35] [(2, 2), (4, 4), (0, 0)] rfl rfl) ?_
    refine qO (fun m s => ∃ (k : Nat) (kk : Int) (L : List Rs), k ≤ kids.length ∧ m = kids.length - k ∧ kk = k ∧ L = rules.map (qaw g) ++ (kids.take k).map (qF g n) ∧ s = ⟨50, [(1, .p (zP g)), (2, .ptr 2 0), (4, .ptr 4 0), (5, .p (pI t)), (6, .row 0), (33, .p (.sl 7 (kids.map polP))), (34, .p (pI (kids.map polP).length)), (35, .p (pI kk))], [(2, .cells [.p (pS id), .p (pB set), .p (pI alg), .p (tgtP tg), .p (.sl 5 (rules.map zt)), .p (.sl 7 (kids.map polP)), .p (zQ obls)]), (4, .cells [.p (.v (.complex .f64 0 0)), .p nilV]), (0, .row 38 2 (L.map rsP))]⟩) kids.length ⟨0, 0, rules.map (qaw g), Nat.zero_le _, rfl, rfl, by simp, rfl⟩ ?_
    rintro m s ⟨k, _, L, hk', rfl, rfl, hL, rfl⟩
    have hLl : L.length = rules.length + min k kids.length := by rw [hL]; simp
    (repeat refine qb ?_); refine qa ?_
    repeat (first | refine zR ?_ | refine zK ?_ | refine zM ?_ | refine zB ?_ | refine zA ?_ | refine zS ?_ | refine zL ?_)
    refine qc ?_
    (repeat refine qb ?_); refine qf rfl (fun hlt => ?_) (fun hlt => ?_)
    · refine qm ?_
      rw [l2] at hlt
      simp only [decide_eq_true_eq] at hlt
      have hlt' : k < kids.length := by omega
      have H := HK _ (List.getElem_mem hlt')
      obtain ⟨x, hx⟩ : ∃ x, x = kids[k] := ⟨_, rfl⟩
      rw [← hx, zf] at H
      (repeat refine qb ?_); refine ql ?_
      (repeat refine qb ?_); refine qa ?_
      repeat (first | refine zR ?_ | refine zK ?_ | refine zM ?_ | refine zB ?_ | refine zA ?_ | refine zS ?_ | refine zL ?_)
      refine qw qe rfl rfl (by rw [l2]; omega) rfl ?_
      rw [qJ hlt', ← hx, zf]
      repeat (first | refine zR ?_ | refine zK ?_ | refine zM ?_ | refine zB ?_ | refine zA ?_ | refine zS ?_ | refine zL ?_)
      refine qc ?_
      (repeat refine qb ?_); refine qa ?_
      repeat (first | refine zR ?_ | refine zK ?_ | refine zM ?_ | refine zB ?_ | refine zA ?_ | refine zS ?_ | refine zL ?_)
      refine qn rfl (qD rfl rfl rfl rfl (H) rfl rfl rfl ?_)
      repeat (first | refine zR ?_ | refine zK ?_ | refine zM ?_ | refine zB ?_ | refine zA ?_ | refine zS ?_ | refine zL ?_)
      refine qn rfl (qp qe rfl rfl rfl rfl rfl rfl rfl rfl rfl rfl rfl rfl rfl rfl rfl rfl (by simp only [List.length_append, List.length_map, List.length_take, List.length_cons, List.length_nil]; unfold reachBytes; omega) (by simp only [List.length_append, List.length_map, List.length_take, List.length_cons, List.length_nil]; omega) ?_)
      repeat (first | refine zR ?_ | refine zK ?_ | refine zM ?_ | refine zB ?_ | refine zA ?_ | refine zS ?_ | refine zL ?_)
      refine qc ?_
      (repeat refine qb ?_); refine qa ?_
      repeat (first | refine zR ?_ | refine zK ?_ | refine zM ?_ | refine zB ?_ | refine zA ?_ | refine zS ?_ | refine zL ?_)
      refine qc ?_
      refine ⟨_, _, ?_, qq [1, 2, 4, 5, 6, 33, 34, 35] [(2, 2), (4, 4), (44, 0)] rfl rfl, k + 1, _, L ++ [qF g n x], hlt', rfl, qz hlt' (by omega), ?_, ?_⟩
      · omega
      · rw [hL, List.append_assoc, List.take_succ_eq_append_getElem hlt', List.map_append, ← hx]; rfl
      · rw [List.map_append]; rfl
    · refine qK ?_
      rw [l2] at hlt
      simp only [decide_eq_false_iff_not] at hlt
      have hkk : k = kids.length := by omega
      subst hkk
      rw [List.take_length] at hL
      rw [← hL] at HJ ⊢
      refine SW.wk (zN (k := 0) rfl) ?_
      (repeat refine qb ?_); refine qa ?_
      repeat (first | refine zR ?_ | refine zK ?_ | refine zM ?_ | refine zB ?_ | refine zA ?_ | refine zS ?_ | refine zL ?_)
      refine qn rfl (qD rfl rfl rfl rfl (HJ) rfl rfl rfl ?_)
      repeat (first | refine zR ?_ | refine zK ?_ | refine zM ?_ | refine zB ?_ | refine zA ?_ | refine zS ?_ | refine zL ?_)
      refine qc ?_
      (repeat refine qb ?_); refine qk ?_
      exact ⟨Or.inr rfl, _, _, [], _, Wk.refl _, rfl, rfl, .refl _, rfl, rfl⟩
theorem dec_all {g : List Giv} (hg : GivOk g) : ∀ n, DecOk g n
  | 0 => fun _ h => h.elim
  | n + 1 => dec_step hg n (dec_all hg n)
theorem polF_dp : ∀ {n : Nat} {p : Pol}, PolF n p → Dp n p
  | n + 1, p, h => fun k hk => polF_dp (h.2.2 k hk)
theorem decideS_any (g : List Giv) {n m : Nat} {p : Pol} (hn : Dp n p) (hm : Dp m p) : qF g n p = qF g m p := by
  rcases Nat.le_total n m with h | h
  · exact (decideS_dp g hn h).symm
  · exact decideS_dp g hm h
theorem evPol_h {n : Nat} (p : Pol) (hf : PolF n p) (hsz : p.sz ≤ 100000) (g : List Giv) (hg : GivOk g) : Holds Tryz.prog 19 [.agg (polP p), zP g] (.tup [.p (.agg (rsP (evalS p g).1)), .p (pI (evalS p g).2)]) [] := by
  have HR := right_h p (polF_fit 4 hf)
  have HD := dec_all hg n p hf hsz
  unfold evalS
  by_cases h : zb p = 0
  · rw [if_pos h]
    rw [decideS_any g (polF_dp hf) (right_dp h)] at HD
    rw [h] at HR
    generalize qF g 4 p = x at *
    rw [zf] at HR HD ⊢
    refine .ofW ?_
    refine qR (T := TTab) qe Tryz.func19 (by kernel_rfl) rfl rfl rfl ?_
    (repeat refine qb ?_); refine qa ?_
    repeat (first | refine zR ?_ | refine zK ?_ | refine zM ?_ | refine zB ?_ | refine zA ?_ | refine zS ?_ | refine zL ?_)
    refine qc ?_
    (repeat refine qb ?_); refine qa ?_
    repeat (first | refine zR ?_ | refine zK ?_ | refine zM ?_ | refine zB ?_ | refine zA ?_ | refine zS ?_ | refine zL ?_)
    refine qn rfl (qg rfl rfl rfl rfl (HR) rfl rfl ?_)
    repeat (first | refine zR ?_ | refine zK ?_ | refine zM ?_ | refine zB ?_ | refine zA ?_ | refine zS ?_ | refine zL ?_)
    refine qc ?_
    (repeat refine qb ?_); refine qf rfl (fun hc => ?_) (fun hc => ?_)
    · cases hc
    refine qm ?_
    (repeat refine qb ?_); refine qa ?_
    repeat (first | refine zR ?_ | refine zK ?_ | refine zM ?_ | refine zB ?_ | refine zA ?_ | refine zS ?_ | refine zL ?_)
    refine qn rfl (qD rfl rfl rfl rfl (HD) rfl rfl rfl ?_)
    repeat (first | refine zR ?_ | refine zK ?_ | refine zM ?_ | refine zB ?_ | refine zA ?_ | refine zS ?_ | refine zL ?_)
    refine qc ?_
    (repeat refine qb ?_); refine qk ?_
    exact ⟨Or.inr rfl, _, _, [], _, Wk.refl _, rfl, rfl, .refl _, rfl, rfl⟩
  · rw [if_neg h]
    rw [zf] at HR ⊢
    refine .ofW ?_
    refine qR (T := TTab) qe Tryz.func19 (by kernel_rfl) rfl rfl rfl ?_
    (repeat refine qb ?_); refine qa ?_
    repeat (first | refine zR ?_ | refine zK ?_ | refine zM ?_ | refine zB ?_ | refine zA ?_ | refine zS ?_ | refine zL ?_)
    refine qc ?_
    (repeat refine qb ?_); refine qa ?_
    repeat (first | refine zR ?_ | refine zK ?_ | refine zM ?_ | refine zB ?_ | refine zA ?_ | refine zS ?_ | refine zL ?_)
    refine qn rfl (qg rfl rfl rfl rfl (HR) rfl rfl ?_)
    repeat (first | refine zR ?_ | refine zK ?_ | refine zM ?_ | refine zB ?_ | refine zA ?_ | refine zS ?_ | refine zL ?_)
    rw [show (zb p != 0) = true by simpa using h]
    refine qc ?_
    (repeat refine qb ?_); refine qf rfl (fun hc => ?_) (fun hc => ?_)
    · (repeat refine qb ?_); refine qa ?_
      repeat (first | refine zR ?_ | refine zK ?_ | refine zM ?_ | refine zB ?_ | refine zA ?_ | refine zS ?_ | refine zL ?_)
      refine qc ?_
      (repeat refine qb ?_); refine qk ?_
      exact ⟨Or.inr rfl, _, _, [], _, Wk.refl _, rfl, rfl, .two (CvL.agg (.cons (.refl _) (.cons (.nil 3) .nil))) (.refl _), rfl, rfl⟩
    · cases hc
end Go.Proofs.YtppfcacnofjmdaaGreatDoor
namespace Go.Proofs.YtppfcacnofjmdaaGreatDoor
set_option linter.unusedVariables false
set_option linter.unusedSimpArgs false
open Go.RowKit
set_option maxHeartbeats 4000000
theorem sameObls_h (l : List Obli) (hn : l.length ≤ 1000000) : Holds Tryz.prog 49 [zQ l, zQ l] (.p (pB true)) [] := by
  refine qA (ts := [4]) Tryz.func49 (by kernel_rfl) rfl rfl rfl ?_
  (repeat refine qb ?_); refine qa ?_
  repeat (first | refine zR ?_ | refine zK ?_ | refine zM ?_ | refine zB ?_ | refine zA ?_ | refine zS ?_ | refine zL ?_)
  refine qc ?_
  (repeat refine qb ?_); refine qa ?_
  repeat (first | refine zR ?_ | refine zK ?_ | refine zM ?_ | refine zB ?_ | refine zA ?_ | refine zS ?_ | refine zL ?_)
  refine qc ?_
  (repeat refine qb ?_); refine qf rfl (fun h0 => ?_) (fun h0 => ?_)
  · exfalso
    simp at h0
  refine qm ?_
  (repeat refine qb ?_); refine qa ?_
  repeat (first | refine zR ?_ | refine zK ?_ | refine zM ?_ | refine zB ?_ | refine zA ?_ | refine zS ?_ | refine zL ?_)
  refine qc ?_
  (repeat refine qb ?_); refine ql ?_
  refine SW.wk (qq [0, 1, 4, 5] [] rfl rfl) ?_
  refine qO (fun m s => ∃ (k : Nat) (kk : Int), k ≤ l.length ∧ m = l.length - k ∧ kk = k ∧ s = ⟨26, [(0, .p (zQ l)), (1, .p (zQ l)), (4, .p (pB false)), (5, .p (pI kk))], []⟩) l.length ⟨0, 0, Nat.zero_le _, rfl, rfl, rfl⟩ ?_
  rintro m s ⟨k, _, hk, rfl, rfl, rfl⟩
  (repeat refine qb ?_); refine qa ?_
  repeat (first | refine zR ?_ | refine zK ?_ | refine zM ?_ | refine zB ?_ | refine zA ?_ | refine zS ?_ | refine zL ?_)
  refine qc ?_
  (repeat refine qb ?_); refine qf rfl (fun hlt => ?_) (fun hlt => ?_)
  · refine qm ?_
    simp only [List.length_map, decide_eq_true_eq] at hlt
    have hlt' : k < l.length := by omega
    obtain ⟨x, hx⟩ : ∃ x, x = l[k] := ⟨_, rfl⟩
    (repeat refine qb ?_); refine ql ?_
    (repeat refine qb ?_); refine zl [] [(0, true), (1, true), (2, true), (3, true), (4, true), (5, true), (6, true), (7, true), (8, true)] (by kernel_rfl) (by kernel_rfl) (by kernel_rfl) ?_
    repeat (first | refine yR ?_ | refine yK ?_ | refine yM ?_ | refine yB ?_ | refine yA ?_ | refine yS ?_ | refine yL ?_)
    refine zi qe rfl rfl rfl (by simp only [List.length_map]; omega) rfl ?_
    rw [qJ hlt', ← hx]
    repeat (first | refine yR ?_ | refine yK ?_ | refine yM ?_ | refine yB ?_ | refine yA ?_ | refine yS ?_ | refine yL ?_)
    refine zi qe rfl rfl rfl (by simp only [List.length_map]; omega) rfl ?_
    rw [qJ hlt', ← hx]
    repeat (first | refine yR ?_ | refine yK ?_ | refine yM ?_ | refine yB ?_ | refine yA ?_ | refine yS ?_ | refine yL ?_)
    refine zi qe rfl rfl rfl (rfl) rfl ?_
    repeat (first | refine yR ?_ | refine yK ?_ | refine yM ?_ | refine yB ?_ | refine yA ?_ | refine yS ?_ | refine yL ?_)
    refine swm_nil ?_
    (repeat refine qb ?_); refine qf rfl (fun hp => ?_) (fun hp => ?_)
    · exfalso
      simp at hp
    refine qm ?_
    (repeat refine qb ?_); refine qa ?_
    repeat (first | refine zR ?_ | refine zK ?_ | refine zM ?_ | refine zB ?_ | refine zA ?_ | refine zS ?_ | refine zL ?_)
    refine qc ?_
    refine ⟨_, _, ?_, qq [0, 1, 4, 5] [] rfl rfl, k + 1, _, hlt', rfl, qz hlt' (by omega), rfl⟩
    omega
  · refine qK ?_
    (repeat refine qb ?_); refine qa ?_
    repeat (first | refine zR ?_ | refine zK ?_ | refine zM ?_ | refine zB ?_ | refine zA ?_ | refine zS ?_ | refine zL ?_)
    refine qc ?_
    (repeat refine qb ?_); refine qk ?_
    exact wS rfl rfl
theorem qav (x : Rs) (hm : x.m ∈ mks) (hl : x.obls.length ≤ 1000000) : Holds Tryz.prog 23 [.agg (rsP x), .agg (rsP x)] (.p (pB true)) [] := by
  have H := sameObls_h x.obls hl
  have hE : mkE x.m x.m = true := by rw [mkE_eq hm hm]; simp
  obtain ⟨m, o⟩ := x
  simp only at H hE ⊢
  refine qA (ts := [4]) Tryz.func23 (by kernel_rfl) rfl rfl rfl ?_
  (repeat refine qb ?_); refine qa ?_
  repeat (first | refine zR ?_ | refine zK ?_ | refine zM ?_ | refine zB ?_ | refine zA ?_ | refine zS ?_ | refine zL ?_)
  refine qc ?_
  (repeat refine qb ?_); refine qa ?_
  repeat (first | refine zR ?_ | refine zK ?_ | refine zM ?_ | refine zB ?_ | refine zA ?_ | refine zS ?_ | refine zL ?_)
  change SWT _ _ _ _ (St.put _ _ (.p (pB (mkE m m))))
  rw [hE]
  repeat (first | refine zR ?_ | refine zK ?_ | refine zM ?_ | refine zB ?_ | refine zA ?_ | refine zS ?_ | refine zL ?_)
  refine qn rfl (qg rfl rfl rfl rfl (H) rfl rfl ?_)
  repeat (first | refine zR ?_ | refine zK ?_ | refine zM ?_ | refine zB ?_ | refine zA ?_ | refine zS ?_ | refine zL ?_)
  refine qc ?_
  (repeat refine qb ?_); refine qk ?_
  exact wS rfl rfl
theorem qaq (m : Mk) (hm : m ∈ mks) : Holds Tryz.prog 23 [.agg (rsP ⟨m, []⟩), .agg [mkP m, nilV]] (.p (pB true)) [] :=
  (qav ⟨m, []⟩ hm (Nat.zero_le _)).cv (.cons (.refl _) (.cons (CvL.agg (.cons (.refl _) (.cons (.nil 3) .nil))) .nil))
theorem mkE_pp : mkE (2, 0) (2, 0) = true := by decide +kernel
theorem mkE_dp : mkE (0, 2) (2, 0) = false := by decide +kernel
theorem mkE_dd : mkE (0, 2) (0, 2) = true := by decide +kernel
theorem evalS_right {p : Pol} {g : List Giv} (h : zb p = 0) : evalS p g = (qF g 4 p, 0) := by unfold evalS; rw [if_pos h]
end Go.Proofs.YtppfcacnofjmdaaGreatDoor
namespace Go.Proofs.YtppfcacnofjmdaaGreatDoor
open Go.RowKit
noncomputable def fnsev46 : FnI := ⟨6, Tryz.f46.body.getD .skip, [.tmp 2], []⟩
theorem fnsev46_ok : FnOk Tryz.prog 46 fnsev46 := ⟨_, Tryz.func46, by kernel_rfl, by kernel_rfl, by kernel_rfl, by kernel_rfl, by kernel_rfl, by kernel_rfl⟩
noncomputable def fnsev45 : FnI := ⟨13, Tryz.f45.body.getD .skip, [.cell 2 28], []⟩
theorem fnsev45_ok : FnOk Tryz.prog 45 fnsev45 := ⟨_, Tryz.func45, by kernel_rfl, by kernel_rfl, by kernel_rfl, by kernel_rfl, by kernel_rfl, by kernel_rfl⟩
noncomputable def fnsev61 : FnI := ⟨61, Tryz.f61.body.getD .skip, [.cell 2 28, .tmp 3, .tmp 4], [(11, [(0, true), (1, true), (2, true), (3, true), (4, true), (5, true), (6, true), (7, true), (8, true), (9, false), (10, false), (11, false)])]⟩
theorem fnsev61_ok : FnOk Tryz.prog 61 fnsev61 := ⟨_, Tryz.func61, by kernel_rfl, by kernel_rfl, by kernel_rfl, by kernel_rfl, by kernel_rfl, by kernel_rfl⟩
noncomputable def fnsev80 : FnI := ⟨19, Tryz.f80.body.getD .skip, [], []⟩
theorem fnsev80_ok : FnOk Tryz.prog 80 fnsev80 := ⟨_, Tryz.func80, by kernel_rfl, by kernel_rfl, by kernel_rfl, by kernel_rfl, by kernel_rfl, by kernel_rfl⟩
noncomputable def fnsev17 : FnI := ⟨10, Tryz.f17.body.getD .skip, [.tmp 2], []⟩
theorem fnsev17_ok : FnOk Tryz.prog 17 fnsev17 := ⟨_, Tryz.func17, by kernel_rfl, by kernel_rfl, by kernel_rfl, by kernel_rfl, by kernel_rfl, by kernel_rfl⟩
noncomputable def fnsev44 : FnI := ⟨52, Tryz.f44.body.getD .skip, [.tmp 6], []⟩
theorem fnsev44_ok : FnOk Tryz.prog 44 fnsev44 := ⟨_, Tryz.func44, by kernel_rfl, by kernel_rfl, by kernel_rfl, by kernel_rfl, by kernel_rfl, by kernel_rfl⟩
noncomputable def fnsev68 : FnI := ⟨39, Tryz.f68.body.getD .skip, [.tmp 4], []⟩
theorem fnsev68_ok : FnOk Tryz.prog 68 fnsev68 := ⟨_, Tryz.func68, by kernel_rfl, by kernel_rfl, by kernel_rfl, by kernel_rfl, by kernel_rfl, by kernel_rfl⟩
noncomputable def fnsev86 : FnI := ⟨39, Tryz.f86.body.getD .skip, [.tmp 2], []⟩
theorem fnsev86_ok : FnOk Tryz.prog 86 fnsev86 := ⟨_, Tryz.func86, by kernel_rfl, by kernel_rfl, by kernel_rfl, by kernel_rfl, by kernel_rfl, by kernel_rfl⟩
noncomputable def fnsev105 : FnI := ⟨49, Tryz.f105.body.getD .skip, [.tmp 2], []⟩
theorem fnsev105_ok : FnOk Tryz.prog 105 fnsev105 := ⟨_, Tryz.func105, by kernel_rfl, by kernel_rfl, by kernel_rfl, by kernel_rfl, by kernel_rfl, by kernel_rfl⟩
noncomputable def fnsev73 : FnI := ⟨38, Tryz.f73.body.getD .skip, [.tmp 2], []⟩
theorem fnsev73_ok : FnOk Tryz.prog 73 fnsev73 := ⟨_, Tryz.func73, by kernel_rfl, by kernel_rfl, by kernel_rfl, by kernel_rfl, by kernel_rfl, by kernel_rfl⟩
noncomputable def fnsev89 : FnI := ⟨60, Tryz.f89.body.getD .skip, [.tmp 4, .tmp 5], [(11, [(0, true), (1, true), (2, true), (3, false), (4, false), (5, false), (6, false), (7, false), (8, false), (9, false)])]⟩
theorem fnsev89_ok : FnOk Tryz.prog 89 fnsev89 := ⟨_, Tryz.func89, by kernel_rfl, by kernel_rfl, by kernel_rfl, by kernel_rfl, by kernel_rfl, by kernel_rfl⟩
noncomputable def fnsev114 : FnI := ⟨37, Tryz.f114.body.getD .skip, [.tmp 2], []⟩
theorem fnsev114_ok : FnOk Tryz.prog 114 fnsev114 := ⟨_, Tryz.func114, by kernel_rfl, by kernel_rfl, by kernel_rfl, by kernel_rfl, by kernel_rfl, by kernel_rfl⟩
noncomputable def fnsev143 : FnI := ⟨16, Tryz.f143.body.getD .skip, [.tmp 2], []⟩
theorem fnsev143_ok : FnOk Tryz.prog 143 fnsev143 := ⟨_, Tryz.func143, by kernel_rfl, by kernel_rfl, by kernel_rfl, by kernel_rfl, by kernel_rfl, by kernel_rfl⟩
noncomputable def fnsev103 : FnI := ⟨61, Tryz.f103.body.getD .skip, [.tmp 2], []⟩
theorem fnsev103_ok : FnOk Tryz.prog 103 fnsev103 := ⟨_, Tryz.func103, by kernel_rfl, by kernel_rfl, by kernel_rfl, by kernel_rfl, by kernel_rfl, by kernel_rfl⟩
noncomputable def fnsev113 : FnI := ⟨35, Tryz.f113.body.getD .skip, [.tmp 2, .tmp 3], []⟩
theorem fnsev113_ok : FnOk Tryz.prog 113 fnsev113 := ⟨_, Tryz.func113, by kernel_rfl, by kernel_rfl, by kernel_rfl, by kernel_rfl, by kernel_rfl, by kernel_rfl⟩
noncomputable def fnsev85 : FnI := ⟨21, Tryz.f85.body.getD .skip, [.tmp 2], []⟩
theorem fnsev85_ok : FnOk Tryz.prog 85 fnsev85 := ⟨_, Tryz.func85, by kernel_rfl, by kernel_rfl, by kernel_rfl, by kernel_rfl, by kernel_rfl, by kernel_rfl⟩
noncomputable def fnsev106 : FnI := ⟨25, Tryz.f106.body.getD .skip, [.tmp 2], []⟩
theorem fnsev106_ok : FnOk Tryz.prog 106 fnsev106 := ⟨_, Tryz.func106, by kernel_rfl, by kernel_rfl, by kernel_rfl, by kernel_rfl, by kernel_rfl, by kernel_rfl⟩
noncomputable def fnsev135 : FnI := ⟨22, Tryz.f135.body.getD .skip, [.tmp 2], []⟩
theorem fnsev135_ok : FnOk Tryz.prog 135 fnsev135 := ⟨_, Tryz.func135, by kernel_rfl, by kernel_rfl, by kernel_rfl, by kernel_rfl, by kernel_rfl, by kernel_rfl⟩
noncomputable def fnsev153 : FnI := ⟨21, Tryz.f153.body.getD .skip, [.tmp 2], []⟩
theorem fnsev153_ok : FnOk Tryz.prog 153 fnsev153 := ⟨_, Tryz.func153, by kernel_rfl, by kernel_rfl, by kernel_rfl, by kernel_rfl, by kernel_rfl, by kernel_rfl⟩
noncomputable def fnsev134 : FnI := ⟨9, Tryz.f134.body.getD .skip, [.tmp 2], []⟩
theorem fnsev134_ok : FnOk Tryz.prog 134 fnsev134 := ⟨_, Tryz.func134, by kernel_rfl, by kernel_rfl, by kernel_rfl, by kernel_rfl, by kernel_rfl, by kernel_rfl⟩
noncomputable def fnsev84 : FnI := ⟨28, Tryz.f84.body.getD .skip, [.tmp 4], []⟩
theorem fnsev84_ok : FnOk Tryz.prog 84 fnsev84 := ⟨_, Tryz.func84, by kernel_rfl, by kernel_rfl, by kernel_rfl, by kernel_rfl, by kernel_rfl, by kernel_rfl⟩
noncomputable def fnsev67 : FnI := ⟨68, Tryz.f67.body.getD .skip, [.tmp 4], []⟩
theorem fnsev67_ok : FnOk Tryz.prog 67 fnsev67 := ⟨_, Tryz.func67, by kernel_rfl, by kernel_rfl, by kernel_rfl, by kernel_rfl, by kernel_rfl, by kernel_rfl⟩
noncomputable def fnsev79 : FnI := ⟨7, Tryz.f79.body.getD .skip, [], []⟩
theorem fnsev79_ok : FnOk Tryz.prog 79 fnsev79 := ⟨_, Tryz.func79, by kernel_rfl, by kernel_rfl, by kernel_rfl, by kernel_rfl, by kernel_rfl, by kernel_rfl⟩
noncomputable def fnsev78 : FnI := ⟨13, Tryz.f78.body.getD .skip, [.cell 2 143], [(1, [(0, true), (1, true), (2, true), (3, true), (4, false), (5, false), (6, false), (7, false), (8, false), (9, false), (10, false)])]⟩
theorem fnsev78_ok : FnOk Tryz.prog 78 fnsev78 := ⟨_, Tryz.func78, by kernel_rfl, by kernel_rfl, by kernel_rfl, by kernel_rfl, by kernel_rfl, by kernel_rfl⟩
noncomputable def fnsev77 : FnI := ⟨39, Tryz.f77.body.getD .skip, [.cell 4 28], []⟩
theorem fnsev77_ok : FnOk Tryz.prog 77 fnsev77 := ⟨_, Tryz.func77, by kernel_rfl, by kernel_rfl, by kernel_rfl, by kernel_rfl, by kernel_rfl, by kernel_rfl⟩
noncomputable def fnsev100 : FnI := ⟨28, Tryz.f100.body.getD .skip, [.tmp 2], []⟩
theorem fnsev100_ok : FnOk Tryz.prog 100 fnsev100 := ⟨_, Tryz.func100, by kernel_rfl, by kernel_rfl, by kernel_rfl, by kernel_rfl, by kernel_rfl, by kernel_rfl⟩
noncomputable def fnsev131 : FnI := ⟨10, Tryz.f131.body.getD .skip, [], []⟩
theorem fnsev131_ok : FnOk Tryz.prog 131 fnsev131 := ⟨_, Tryz.func131, by kernel_rfl, by kernel_rfl, by kernel_rfl, by kernel_rfl, by kernel_rfl, by kernel_rfl⟩
noncomputable def fnsev95 : FnI := ⟨25, Tryz.f95.body.getD .skip, [.tmp 2], []⟩
theorem fnsev95_ok : FnOk Tryz.prog 95 fnsev95 := ⟨_, Tryz.func95, by kernel_rfl, by kernel_rfl, by kernel_rfl, by kernel_rfl, by kernel_rfl, by kernel_rfl⟩
noncomputable def fnsev94 : FnI := ⟨28, Tryz.f94.body.getD .skip, [.tmp 4], []⟩
theorem fnsev94_ok : FnOk Tryz.prog 94 fnsev94 := ⟨_, Tryz.func94, by kernel_rfl, by kernel_rfl, by kernel_rfl, by kernel_rfl, by kernel_rfl, by kernel_rfl⟩
noncomputable def fnsev129 : FnI := ⟨18, Tryz.f129.body.getD .skip, [.tmp 4], []⟩
theorem fnsev129_ok : FnOk Tryz.prog 129 fnsev129 := ⟨_, Tryz.func129, by kernel_rfl, by kernel_rfl, by kernel_rfl, by kernel_rfl, by kernel_rfl, by kernel_rfl⟩
noncomputable def fnsev132 : FnI := ⟨29, Tryz.f132.body.getD .skip, [.tmp 4], []⟩
theorem fnsev132_ok : FnOk Tryz.prog 132 fnsev132 := ⟨_, Tryz.func132, by kernel_rfl, by kernel_rfl, by kernel_rfl, by kernel_rfl, by kernel_rfl, by kernel_rfl⟩
noncomputable def fnsev128 : FnI := ⟨19, Tryz.f128.body.getD .skip, [.tmp 4], []⟩
theorem fnsev128_ok : FnOk Tryz.prog 128 fnsev128 := ⟨_, Tryz.func128, by kernel_rfl, by kernel_rfl, by kernel_rfl, by kernel_rfl, by kernel_rfl, by kernel_rfl⟩
noncomputable def fnsev99 : FnI := ⟨51, Tryz.f99.body.getD .skip, [.tmp 2], []⟩
theorem fnsev99_ok : FnOk Tryz.prog 99 fnsev99 := ⟨_, Tryz.func99, by kernel_rfl, by kernel_rfl, by kernel_rfl, by kernel_rfl, by kernel_rfl, by kernel_rfl⟩
noncomputable def fnsev133 : FnI := ⟨23, Tryz.f133.body.getD .skip, [.cell 4 59], []⟩
theorem fnsev133_ok : FnOk Tryz.prog 133 fnsev133 := ⟨_, Tryz.func133, by kernel_rfl, by kernel_rfl, by kernel_rfl, by kernel_rfl, by kernel_rfl, by kernel_rfl⟩
noncomputable def fnsev97 : FnI := ⟨10, Tryz.f97.body.getD .skip, [], []⟩
theorem fnsev97_ok : FnOk Tryz.prog 97 fnsev97 := ⟨_, Tryz.func97, by kernel_rfl, by kernel_rfl, by kernel_rfl, by kernel_rfl, by kernel_rfl, by kernel_rfl⟩
noncomputable def fnsev152 : FnI := ⟨25, Tryz.f152.body.getD .skip, [.tmp 6], []⟩
theorem fnsev152_ok : FnOk Tryz.prog 152 fnsev152 := ⟨_, Tryz.func152, by kernel_rfl, by kernel_rfl, by kernel_rfl, by kernel_rfl, by kernel_rfl, by kernel_rfl⟩
noncomputable def fnsev160 : FnI := ⟨52, Tryz.f160.body.getD .skip, [.tmp 4, .tmp 5], [(10, [(0, true), (1, true), (2, true), (3, true), (4, false), (5, false)])]⟩
theorem fnsev160_ok : FnOk Tryz.prog 160 fnsev160 := ⟨_, Tryz.func160, by kernel_rfl, by kernel_rfl, by kernel_rfl, by kernel_rfl, by kernel_rfl, by kernel_rfl⟩
noncomputable def fnsev167 : FnI := ⟨56, Tryz.f167.body.getD .skip, [.cell 2 52], []⟩
theorem fnsev167_ok : FnOk Tryz.prog 167 fnsev167 := ⟨_, Tryz.func167, by kernel_rfl, by kernel_rfl, by kernel_rfl, by kernel_rfl, by kernel_rfl, by kernel_rfl⟩
noncomputable def fnsev166 : FnI := ⟨17, Tryz.f166.body.getD .skip, [.cell 2 54], []⟩
theorem fnsev166_ok : FnOk Tryz.prog 166 fnsev166 := ⟨_, Tryz.func166, by kernel_rfl, by kernel_rfl, by kernel_rfl, by kernel_rfl, by kernel_rfl, by kernel_rfl⟩
noncomputable def fnsev168 : FnI := ⟨36, Tryz.f168.body.getD .skip, [.tmp 4, .cell 5 56], [(9, [(0, true), (1, true), (2, false), (3, false)])]⟩
theorem fnsev168_ok : FnOk Tryz.prog 168 fnsev168 := ⟨_, Tryz.func168, by kernel_rfl, by kernel_rfl, by kernel_rfl, by kernel_rfl, by kernel_rfl, by kernel_rfl⟩
noncomputable def fnsev173 : FnI := ⟨15, Tryz.f173.body.getD .skip, [.tmp 2], []⟩
theorem fnsev173_ok : FnOk Tryz.prog 173 fnsev173 := ⟨_, Tryz.func173, by kernel_rfl, by kernel_rfl, by kernel_rfl, by kernel_rfl, by kernel_rfl, by kernel_rfl⟩
noncomputable def fnsev96 : FnI := ⟨23, Tryz.f96.body.getD .skip, [.tmp 2], []⟩
theorem fnsev96_ok : FnOk Tryz.prog 96 fnsev96 := ⟨_, Tryz.func96, by kernel_rfl, by kernel_rfl, by kernel_rfl, by kernel_rfl, by kernel_rfl, by kernel_rfl⟩
noncomputable def fnsev130 : FnI := ⟨24, Tryz.f130.body.getD .skip, [.tmp 2], []⟩
theorem fnsev130_ok : FnOk Tryz.prog 130 fnsev130 := ⟨_, Tryz.func130, by kernel_rfl, by kernel_rfl, by kernel_rfl, by kernel_rfl, by kernel_rfl, by kernel_rfl⟩
noncomputable def fnsev151 : FnI := ⟨20, Tryz.f151.body.getD .skip, [.tmp 2], []⟩
theorem fnsev151_ok : FnOk Tryz.prog 151 fnsev151 := ⟨_, Tryz.func151, by kernel_rfl, by kernel_rfl, by kernel_rfl, by kernel_rfl, by kernel_rfl, by kernel_rfl⟩
noncomputable def fnsev159 : FnI := ⟨32, Tryz.f159.body.getD .skip, [.cell 2 62], []⟩
theorem fnsev159_ok : FnOk Tryz.prog 159 fnsev159 := ⟨_, Tryz.func159, by kernel_rfl, by kernel_rfl, by kernel_rfl, by kernel_rfl, by kernel_rfl, by kernel_rfl⟩
noncomputable def fnsev98 : FnI := ⟨33, Tryz.f98.body.getD .skip, [.tmp 4], []⟩
theorem fnsev98_ok : FnOk Tryz.prog 98 fnsev98 := ⟨_, Tryz.func98, by kernel_rfl, by kernel_rfl, by kernel_rfl, by kernel_rfl, by kernel_rfl, by kernel_rfl⟩
noncomputable def fnsev76 : FnI := ⟨52, Tryz.f76.body.getD .skip, [.tmp 2, .tmp 3, .tmp 4], []⟩
theorem fnsev76_ok : FnOk Tryz.prog 76 fnsev76 := ⟨_, Tryz.func76, by kernel_rfl, by kernel_rfl, by kernel_rfl, by kernel_rfl, by kernel_rfl, by kernel_rfl⟩
noncomputable def fnsev93 : FnI := ⟨106, Tryz.f93.body.getD .skip, [.cell 2 143, .tmp 3], [(30, [(0, true), (1, true), (2, false), (3, false), (4, false), (5, false), (6, false)])]⟩
theorem fnsev93_ok : FnOk Tryz.prog 93 fnsev93 := ⟨_, Tryz.func93, by kernel_rfl, by kernel_rfl, by kernel_rfl, by kernel_rfl, by kernel_rfl, by kernel_rfl⟩
noncomputable def fnsev126 : FnI := ⟨50, Tryz.f126.body.getD .skip, [.tmp 2, .tmp 3], []⟩
theorem fnsev126_ok : FnOk Tryz.prog 126 fnsev126 := ⟨_, Tryz.func126, by kernel_rfl, by kernel_rfl, by kernel_rfl, by kernel_rfl, by kernel_rfl, by kernel_rfl⟩
noncomputable def fnsev149 : FnI := ⟨38, Tryz.f149.body.getD .skip, [.tmp 2, .tmp 3], [(3, [(0, true), (1, true), (4, true), (5, true), (2, false), (3, true), (6, false), (7, false), (8, false), (9, false)])]⟩
theorem fnsev149_ok : FnOk Tryz.prog 149 fnsev149 := ⟨_, Tryz.func149, by kernel_rfl, by kernel_rfl, by kernel_rfl, by kernel_rfl, by kernel_rfl, by kernel_rfl⟩
noncomputable def fnsev148 : FnI := ⟨17, Tryz.f148.body.getD .skip, [.tmp 2], []⟩
theorem fnsev148_ok : FnOk Tryz.prog 148 fnsev148 := ⟨_, Tryz.func148, by kernel_rfl, by kernel_rfl, by kernel_rfl, by kernel_rfl, by kernel_rfl, by kernel_rfl⟩
noncomputable def fnsev157 : FnI := ⟨20, Tryz.f157.body.getD .skip, [.tmp 2], []⟩
theorem fnsev157_ok : FnOk Tryz.prog 157 fnsev157 := ⟨_, Tryz.func157, by kernel_rfl, by kernel_rfl, by kernel_rfl, by kernel_rfl, by kernel_rfl, by kernel_rfl⟩
noncomputable def fnsev124 : FnI := ⟨9, Tryz.f124.body.getD .skip, [.tmp 2], []⟩
theorem fnsev124_ok : FnOk Tryz.prog 124 fnsev124 := ⟨_, Tryz.func124, by kernel_rfl, by kernel_rfl, by kernel_rfl, by kernel_rfl, by kernel_rfl, by kernel_rfl⟩
noncomputable def fnsev125 : FnI := ⟨35, Tryz.f125.body.getD .skip, [.tmp 4, .tmp 5], []⟩
theorem fnsev125_ok : FnOk Tryz.prog 125 fnsev125 := ⟨_, Tryz.func125, by kernel_rfl, by kernel_rfl, by kernel_rfl, by kernel_rfl, by kernel_rfl, by kernel_rfl⟩
noncomputable def fnsev145 : FnI := ⟨20, Tryz.f145.body.getD .skip, [.tmp 4], []⟩
theorem fnsev145_ok : FnOk Tryz.prog 145 fnsev145 := ⟨_, Tryz.func145, by kernel_rfl, by kernel_rfl, by kernel_rfl, by kernel_rfl, by kernel_rfl, by kernel_rfl⟩
noncomputable def fnsev123 : FnI := ⟨12, Tryz.f123.body.getD .skip, [.tmp 2], []⟩
theorem fnsev123_ok : FnOk Tryz.prog 123 fnsev123 := ⟨_, Tryz.func123, by kernel_rfl, by kernel_rfl, by kernel_rfl, by kernel_rfl, by kernel_rfl, by kernel_rfl⟩
noncomputable def fnsev146 : FnI := ⟨17, Tryz.f146.body.getD .skip, [.tmp 2], []⟩
theorem fnsev146_ok : FnOk Tryz.prog 146 fnsev146 := ⟨_, Tryz.func146, by kernel_rfl, by kernel_rfl, by kernel_rfl, by kernel_rfl, by kernel_rfl, by kernel_rfl⟩
noncomputable def fnsev23 : FnI := ⟨17, Tryz.f23.body.getD .skip, [.tmp 4], []⟩
theorem fnsev23_ok : FnOk Tryz.prog 23 fnsev23 := ⟨_, Tryz.func23, by kernel_rfl, by kernel_rfl, by kernel_rfl, by kernel_rfl, by kernel_rfl, by kernel_rfl⟩
noncomputable def fnsev49 : FnI := ⟨26, Tryz.f49.body.getD .skip, [.tmp 4], [(6, [(0, true), (1, true), (2, true), (3, true), (4, true), (5, false), (6, false), (7, false), (8, false)])]⟩
theorem fnsev49_ok : FnOk Tryz.prog 49 fnsev49 := ⟨_, Tryz.func49, by kernel_rfl, by kernel_rfl, by kernel_rfl, by kernel_rfl, by kernel_rfl, by kernel_rfl⟩
noncomputable def fnsev19 : FnI := ⟨13, Tryz.f19.body.getD .skip, [.cell 4 38, .tmp 5], []⟩
theorem fnsev19_ok : FnOk Tryz.prog 19 fnsev19 := ⟨_, Tryz.func19, by kernel_rfl, by kernel_rfl, by kernel_rfl, by kernel_rfl, by kernel_rfl, by kernel_rfl⟩
noncomputable def fnsev47 : FnI := ⟨50, Tryz.f47.body.getD .skip, [.cell 4 38], []⟩
theorem fnsev47_ok : FnOk Tryz.prog 47 fnsev47 := ⟨_, Tryz.func47, by kernel_rfl, by kernel_rfl, by kernel_rfl, by kernel_rfl, by kernel_rfl, by kernel_rfl⟩
noncomputable def fnsev69 : FnI := ⟨84, Tryz.f69.body.getD .skip, [.cell 6 38], [(22, [(0, true), (1, true), (2, true), (3, true), (4, false), (5, false), (6, false), (7, false), (8, false)])]⟩
theorem fnsev69_ok : FnOk Tryz.prog 69 fnsev69 := ⟨_, Tryz.func69, by kernel_rfl, by kernel_rfl, by kernel_rfl, by kernel_rfl, by kernel_rfl, by kernel_rfl⟩
noncomputable def fnsev70 : FnI := ⟨36, Tryz.f70.body.getD .skip, [.tmp 4], []⟩
theorem fnsev70_ok : FnOk Tryz.prog 70 fnsev70 := ⟨_, Tryz.func70, by kernel_rfl, by kernel_rfl, by kernel_rfl, by kernel_rfl, by kernel_rfl, by kernel_rfl⟩
noncomputable def fnsev25 : FnI := ⟨9, Tryz.f25.body.getD .skip, [.tmp 2], []⟩
theorem fnsev25_ok : FnOk Tryz.prog 25 fnsev25 := ⟨_, Tryz.func25, by kernel_rfl, by kernel_rfl, by kernel_rfl, by kernel_rfl, by kernel_rfl, by kernel_rfl⟩
noncomputable def fnsev87 : FnI := ⟨49, Tryz.f87.body.getD .skip, [.tmp 4, .tmp 5], []⟩
theorem fnsev87_ok : FnOk Tryz.prog 87 fnsev87 := ⟨_, Tryz.func87, by kernel_rfl, by kernel_rfl, by kernel_rfl, by kernel_rfl, by kernel_rfl, by kernel_rfl⟩
noncomputable def fnsev112 : FnI := ⟨12, Tryz.f112.body.getD .skip, [.tmp 6], []⟩
theorem fnsev112_ok : FnOk Tryz.prog 112 fnsev112 := ⟨_, Tryz.func112, by kernel_rfl, by kernel_rfl, by kernel_rfl, by kernel_rfl, by kernel_rfl, by kernel_rfl⟩
noncomputable def fnsev142 : FnI := ⟨9, Tryz.f142.body.getD .skip, [.tmp 4], []⟩
theorem fnsev142_ok : FnOk Tryz.prog 142 fnsev142 := ⟨_, Tryz.func142, by kernel_rfl, by kernel_rfl, by kernel_rfl, by kernel_rfl, by kernel_rfl, by kernel_rfl⟩
noncomputable def fnsev154 : FnI := ⟨19, Tryz.f154.body.getD .skip, [.tmp 4], []⟩
theorem fnsev154_ok : FnOk Tryz.prog 154 fnsev154 := ⟨_, Tryz.func154, by kernel_rfl, by kernel_rfl, by kernel_rfl, by kernel_rfl, by kernel_rfl, by kernel_rfl⟩
noncomputable def fnsev111 : FnI := ⟨20, Tryz.f111.body.getD .skip, [.tmp 2], []⟩
theorem fnsev111_ok : FnOk Tryz.prog 111 fnsev111 := ⟨_, Tryz.func111, by kernel_rfl, by kernel_rfl, by kernel_rfl, by kernel_rfl, by kernel_rfl, by kernel_rfl⟩
noncomputable def fnsev141 : FnI := ⟨31, Tryz.f141.body.getD .skip, [.tmp 6], []⟩
theorem fnsev141_ok : FnOk Tryz.prog 141 fnsev141 := ⟨_, Tryz.func141, by kernel_rfl, by kernel_rfl, by kernel_rfl, by kernel_rfl, by kernel_rfl, by kernel_rfl⟩
noncomputable def fnsev107 : FnI := ⟨26, Tryz.f107.body.getD .skip, [.tmp 4], []⟩
theorem fnsev107_ok : FnOk Tryz.prog 107 fnsev107 := ⟨_, Tryz.func107, by kernel_rfl, by kernel_rfl, by kernel_rfl, by kernel_rfl, by kernel_rfl, by kernel_rfl⟩
noncomputable def fnsev137 : FnI := ⟨8, Tryz.f137.body.getD .skip, [.tmp 4], []⟩
theorem fnsev137_ok : FnOk Tryz.prog 137 fnsev137 := ⟨_, Tryz.func137, by kernel_rfl, by kernel_rfl, by kernel_rfl, by kernel_rfl, by kernel_rfl, by kernel_rfl⟩
noncomputable def fnsev136 : FnI := ⟨10, Tryz.f136.body.getD .skip, [.tmp 2, .tmp 3], []⟩
theorem fnsev136_ok : FnOk Tryz.prog 136 fnsev136 := ⟨_, Tryz.func136, by kernel_rfl, by kernel_rfl, by kernel_rfl, by kernel_rfl, by kernel_rfl, by kernel_rfl⟩
noncomputable def fnsev140 : FnI := ⟨13, Tryz.f140.body.getD .skip, [.tmp 2], []⟩
theorem fnsev140_ok : FnOk Tryz.prog 140 fnsev140 := ⟨_, Tryz.func140, by kernel_rfl, by kernel_rfl, by kernel_rfl, by kernel_rfl, by kernel_rfl, by kernel_rfl⟩
noncomputable def fnsev110 : FnI := ⟨12, Tryz.f110.body.getD .skip, [.tmp 2], []⟩
theorem fnsev110_ok : FnOk Tryz.prog 110 fnsev110 := ⟨_, Tryz.func110, by kernel_rfl, by kernel_rfl, by kernel_rfl, by kernel_rfl, by kernel_rfl, by kernel_rfl⟩
noncomputable def fnsev139 : FnI := ⟨5, Tryz.f139.body.getD .skip, [.tmp 2], []⟩
theorem fnsev139_ok : FnOk Tryz.prog 139 fnsev139 := ⟨_, Tryz.func139, by kernel_rfl, by kernel_rfl, by kernel_rfl, by kernel_rfl, by kernel_rfl, by kernel_rfl⟩
noncomputable def fnsev138 : FnI := ⟨19, Tryz.f138.body.getD .skip, [.tmp 4], []⟩
theorem fnsev138_ok : FnOk Tryz.prog 138 fnsev138 := ⟨_, Tryz.func138, by kernel_rfl, by kernel_rfl, by kernel_rfl, by kernel_rfl, by kernel_rfl, by kernel_rfl⟩
noncomputable def fnsev109 : FnI := ⟨13, Tryz.f109.body.getD .skip, [.tmp 2], []⟩
theorem fnsev109_ok : FnOk Tryz.prog 109 fnsev109 := ⟨_, Tryz.func109, by kernel_rfl, by kernel_rfl, by kernel_rfl, by kernel_rfl, by kernel_rfl, by kernel_rfl⟩
noncomputable def fnsev108 : FnI := ⟨29, Tryz.f108.body.getD .skip, [.tmp 2], []⟩
theorem fnsev108_ok : FnOk Tryz.prog 108 fnsev108 := ⟨_, Tryz.func108, by kernel_rfl, by kernel_rfl, by kernel_rfl, by kernel_rfl, by kernel_rfl, by kernel_rfl⟩
noncomputable def fnsev20 : FnI := ⟨6, Tryz.f20.body.getD .skip, [.tmp 2], []⟩
theorem fnsev20_ok : FnOk Tryz.prog 20 fnsev20 := ⟨_, Tryz.func20, by kernel_rfl, by kernel_rfl, by kernel_rfl, by kernel_rfl, by kernel_rfl, by kernel_rfl⟩
noncomputable def fnsev48 : FnI := ⟨16, Tryz.f48.body.getD .skip, [.tmp 2], []⟩
theorem fnsev48_ok : FnOk Tryz.prog 48 fnsev48 := ⟨_, Tryz.func48, by kernel_rfl, by kernel_rfl, by kernel_rfl, by kernel_rfl, by kernel_rfl, by kernel_rfl⟩
noncomputable def fnsev27 : FnI := ⟨15, Tryz.f27.body.getD .skip, [.cell 4 38], [(1, [(0, true), (1, true), (2, true), (3, true), (5, true), (6, true), (7, true), (4, false), (8, false), (9, false), (10, false)])]⟩
theorem fnsev27_ok : FnOk Tryz.prog 27 fnsev27 := ⟨_, Tryz.func27, by kernel_rfl, by kernel_rfl, by kernel_rfl, by kernel_rfl, by kernel_rfl, by kernel_rfl⟩
noncomputable def fnsev51 : FnI := ⟨38, Tryz.f51.body.getD .skip, [.cell 6 38], []⟩
theorem fnsev51_ok : FnOk Tryz.prog 51 fnsev51 := ⟨_, Tryz.func51, by kernel_rfl, by kernel_rfl, by kernel_rfl, by kernel_rfl, by kernel_rfl, by kernel_rfl⟩
noncomputable def fnsev34 : FnI := ⟨26, Tryz.f34.body.getD .skip, [.tmp 4], []⟩
theorem fnsev34_ok : FnOk Tryz.prog 34 fnsev34 := ⟨_, Tryz.func34, by kernel_rfl, by kernel_rfl, by kernel_rfl, by kernel_rfl, by kernel_rfl, by kernel_rfl⟩
noncomputable def fnsev60 : FnI := ⟨15, Tryz.f60.body.getD .skip, [.tmp 4], []⟩
theorem fnsev60_ok : FnOk Tryz.prog 60 fnsev60 := ⟨_, Tryz.func60, by kernel_rfl, by kernel_rfl, by kernel_rfl, by kernel_rfl, by kernel_rfl, by kernel_rfl⟩
noncomputable def fnsev59 : FnI := ⟨51, Tryz.f59.body.getD .skip, [.cell 4 52, .tmp 5], [(8, [(0, true), (1, true), (2, true), (3, true), (4, true), (5, true), (6, true), (7, false), (8, false), (9, false), (10, false), (11, false)]), (10, [(0, true), (1, true), (2, true), (3, true), (4, true), (5, true), (6, true), (7, true), (8, false), (9, false)])]⟩
theorem fnsev59_ok : FnOk Tryz.prog 59 fnsev59 := ⟨_, Tryz.func59, by kernel_rfl, by kernel_rfl, by kernel_rfl, by kernel_rfl, by kernel_rfl, by kernel_rfl⟩
noncomputable def fnsev75 : FnI := ⟨122, Tryz.f75.body.getD .skip, [.cell 6 115], [(28, [(0, true), (1, true), (2, true), (3, true), (4, false), (5, false), (6, false), (7, false), (8, false), (9, false), (10, false)])]⟩
theorem fnsev75_ok : FnOk Tryz.prog 75 fnsev75 := ⟨_, Tryz.func75, by kernel_rfl, by kernel_rfl, by kernel_rfl, by kernel_rfl, by kernel_rfl, by kernel_rfl⟩
noncomputable def fnsev92 : FnI := ⟨111, Tryz.f92.body.getD .skip, [.cell 4 52, .tmp 5], [(5, [(0, true), (1, true), (2, true), (3, true), (4, false), (5, false), (6, false), (7, false), (8, false)]), (7, [(0, true), (1, true), (2, true), (3, false), (4, false), (5, false), (6, false), (7, false), (8, false), (9, false)]), (9, [(0, true), (1, true), (2, true), (3, false), (4, false), (5, false), (6, false), (7, false), (8, true), (9, true), (10, false), (11, false)])]⟩
theorem fnsev92_ok : FnOk Tryz.prog 92 fnsev92 := ⟨_, Tryz.func92, by kernel_rfl, by kernel_rfl, by kernel_rfl, by kernel_rfl, by kernel_rfl, by kernel_rfl⟩
noncomputable def fnsev122 : FnI := ⟨18, Tryz.f122.body.getD .skip, [.tmp 4], []⟩
theorem fnsev122_ok : FnOk Tryz.prog 122 fnsev122 := ⟨_, Tryz.func122, by kernel_rfl, by kernel_rfl, by kernel_rfl, by kernel_rfl, by kernel_rfl, by kernel_rfl⟩
noncomputable def fnsev121 : FnI := ⟨36, Tryz.f121.body.getD .skip, [.tmp 4, .tmp 5], []⟩
theorem fnsev121_ok : FnOk Tryz.prog 121 fnsev121 := ⟨_, Tryz.func121, by kernel_rfl, by kernel_rfl, by kernel_rfl, by kernel_rfl, by kernel_rfl, by kernel_rfl⟩
noncomputable def fnsev120 : FnI := ⟨27, Tryz.f120.body.getD .skip, [.tmp 4, .tmp 5], []⟩
theorem fnsev120_ok : FnOk Tryz.prog 120 fnsev120 := ⟨_, Tryz.func120, by kernel_rfl, by kernel_rfl, by kernel_rfl, by kernel_rfl, by kernel_rfl, by kernel_rfl⟩
noncomputable def fnsev119 : FnI := ⟨27, Tryz.f119.body.getD .skip, [.tmp 4, .tmp 5], []⟩
theorem fnsev119_ok : FnOk Tryz.prog 119 fnsev119 := ⟨_, Tryz.func119, by kernel_rfl, by kernel_rfl, by kernel_rfl, by kernel_rfl, by kernel_rfl, by kernel_rfl⟩
noncomputable def fnsev118 : FnI := ⟨31, Tryz.f118.body.getD .skip, [.cell 4 52, .tmp 5], [(3, [(0, true), (1, true), (2, true), (3, true), (4, true), (5, false), (6, false), (7, false), (8, false), (9, false), (10, false), (11, true), (12, true), (13, false), (14, false)])]⟩
theorem fnsev118_ok : FnOk Tryz.prog 118 fnsev118 := ⟨_, Tryz.func118, by kernel_rfl, by kernel_rfl, by kernel_rfl, by kernel_rfl, by kernel_rfl, by kernel_rfl⟩
noncomputable def fnsev83 : FnI := ⟨40, Tryz.f83.body.getD .skip, [.tmp 4, .tmp 5], []⟩
theorem fnsev83_ok : FnOk Tryz.prog 83 fnsev83 := ⟨_, Tryz.func83, by kernel_rfl, by kernel_rfl, by kernel_rfl, by kernel_rfl, by kernel_rfl, by kernel_rfl⟩
noncomputable def fnsev104 : FnI := ⟨9, Tryz.f104.body.getD .skip, [.tmp 2], []⟩
theorem fnsev104_ok : FnOk Tryz.prog 104 fnsev104 := ⟨_, Tryz.func104, by kernel_rfl, by kernel_rfl, by kernel_rfl, by kernel_rfl, by kernel_rfl, by kernel_rfl⟩
noncomputable def fnsev117 : FnI := ⟨8, Tryz.f117.body.getD .skip, [.cell 2 52], []⟩
theorem fnsev117_ok : FnOk Tryz.prog 117 fnsev117 := ⟨_, Tryz.func117, by kernel_rfl, by kernel_rfl, by kernel_rfl, by kernel_rfl, by kernel_rfl, by kernel_rfl⟩
noncomputable def fnsev116 : FnI := ⟨32, Tryz.f116.body.getD .skip, [.tmp 4], []⟩
theorem fnsev116_ok : FnOk Tryz.prog 116 fnsev116 := ⟨_, Tryz.func116, by kernel_rfl, by kernel_rfl, by kernel_rfl, by kernel_rfl, by kernel_rfl, by kernel_rfl⟩
noncomputable def fnsev91 : FnI := ⟨8, Tryz.f91.body.getD .skip, [.tmp 4], []⟩
theorem fnsev91_ok : FnOk Tryz.prog 91 fnsev91 := ⟨_, Tryz.func91, by kernel_rfl, by kernel_rfl, by kernel_rfl, by kernel_rfl, by kernel_rfl, by kernel_rfl⟩
noncomputable def fnsev115 : FnI := ⟨9, Tryz.f115.body.getD .skip, [.tmp 4], []⟩
theorem fnsev115_ok : FnOk Tryz.prog 115 fnsev115 := ⟨_, Tryz.func115, by kernel_rfl, by kernel_rfl, by kernel_rfl, by kernel_rfl, by kernel_rfl, by kernel_rfl⟩
noncomputable def fnsev144 : FnI := ⟨19, Tryz.f144.body.getD .skip, [.tmp 4], [(4, [(0, true), (1, true), (2, false), (3, false), (4, false), (5, false)])]⟩
theorem fnsev144_ok : FnOk Tryz.prog 144 fnsev144 := ⟨_, Tryz.func144, by kernel_rfl, by kernel_rfl, by kernel_rfl, by kernel_rfl, by kernel_rfl, by kernel_rfl⟩
noncomputable def fnsev90 : FnI := ⟨10, Tryz.f90.body.getD .skip, [.cell 2 115], []⟩
theorem fnsev90_ok : FnOk Tryz.prog 90 fnsev90 := ⟨_, Tryz.func90, by kernel_rfl, by kernel_rfl, by kernel_rfl, by kernel_rfl, by kernel_rfl, by kernel_rfl⟩
noncomputable def fnsev62 : FnI := ⟨30, Tryz.f62.body.getD .skip, [.tmp 4, .tmp 5], []⟩
theorem fnsev62_ok : FnOk Tryz.prog 62 fnsev62 := ⟨_, Tryz.func62, by kernel_rfl, by kernel_rfl, by kernel_rfl, by kernel_rfl, by kernel_rfl, by kernel_rfl⟩
noncomputable def fnsev82 : FnI := ⟨8, Tryz.f82.body.getD .skip, [.tmp 2], []⟩
theorem fnsev82_ok : FnOk Tryz.prog 82 fnsev82 := ⟨_, Tryz.func82, by kernel_rfl, by kernel_rfl, by kernel_rfl, by kernel_rfl, by kernel_rfl, by kernel_rfl⟩
noncomputable def fnsev81 : FnI := ⟨10, Tryz.f81.body.getD .skip, [.tmp 6], []⟩
theorem fnsev81_ok : FnOk Tryz.prog 81 fnsev81 := ⟨_, Tryz.func81, by kernel_rfl, by kernel_rfl, by kernel_rfl, by kernel_rfl, by kernel_rfl, by kernel_rfl⟩
noncomputable def fnsev101 : FnI := ⟨19, Tryz.f101.body.getD .skip, [.tmp 4], []⟩
theorem fnsev101_ok : FnOk Tryz.prog 101 fnsev101 := ⟨_, Tryz.func101, by kernel_rfl, by kernel_rfl, by kernel_rfl, by kernel_rfl, by kernel_rfl, by kernel_rfl⟩
noncomputable def fnsev102 : FnI := ⟨15, Tryz.f102.body.getD .skip, [.tmp 4], []⟩
theorem fnsev102_ok : FnOk Tryz.prog 102 fnsev102 := ⟨_, Tryz.func102, by kernel_rfl, by kernel_rfl, by kernel_rfl, by kernel_rfl, by kernel_rfl, by kernel_rfl⟩
noncomputable def fnsev74 : FnI := ⟨11, Tryz.f74.body.getD .skip, [.tmp 2], []⟩
theorem fnsev74_ok : FnOk Tryz.prog 74 fnsev74 := ⟨_, Tryz.func74, by kernel_rfl, by kernel_rfl, by kernel_rfl, by kernel_rfl, by kernel_rfl, by kernel_rfl⟩
noncomputable def fnsev28 : FnI := ⟨34, Tryz.f28.body.getD .skip, [.tmp 4], []⟩
theorem fnsev28_ok : FnOk Tryz.prog 28 fnsev28 := ⟨_, Tryz.func28, by kernel_rfl, by kernel_rfl, by kernel_rfl, by kernel_rfl, by kernel_rfl, by kernel_rfl⟩
noncomputable def fnsev52 : FnI := ⟨21, Tryz.f52.body.getD .skip, [.tmp 4], []⟩
theorem fnsev52_ok : FnOk Tryz.prog 52 fnsev52 := ⟨_, Tryz.func52, by kernel_rfl, by kernel_rfl, by kernel_rfl, by kernel_rfl, by kernel_rfl, by kernel_rfl⟩
noncomputable def fnsev37 : FnI := ⟨38, Tryz.f37.body.getD .skip, [.tmp 4], []⟩
theorem fnsev37_ok : FnOk Tryz.prog 37 fnsev37 := ⟨_, Tryz.func37, by kernel_rfl, by kernel_rfl, by kernel_rfl, by kernel_rfl, by kernel_rfl, by kernel_rfl⟩
noncomputable def fnsev63 : FnI := ⟨42, Tryz.f63.body.getD .skip, [.tmp 4, .tmp 5], []⟩
theorem fnsev63_ok : FnOk Tryz.prog 63 fnsev63 := ⟨_, Tryz.func63, by kernel_rfl, by kernel_rfl, by kernel_rfl, by kernel_rfl, by kernel_rfl, by kernel_rfl⟩
noncomputable def FnsEvF : List (FuncId × FnI) := [(46, fnsev46),
  (45, fnsev45),
  (61, fnsev61),
  (80, fnsev80),
  (17, fnsev17),
  (44, fnsev44),
  (68, fnsev68),
  (86, fnsev86),
  (105, fnsev105),
  (73, fnsev73),
  (89, fnsev89),
  (114, fnsev114),
  (143, fnsev143),
  (103, fnsev103),
  (113, fnsev113),
  (85, fnsev85),
  (106, fnsev106),
  (135, fnsev135),
  (153, fnsev153),
  (134, fnsev134),
  (84, fnsev84),
  (67, fnsev67),
  (79, fnsev79),
  (78, fnsev78),
  (77, fnsev77),
  (100, fnsev100),
  (131, fnsev131),
  (95, fnsev95),
  (94, fnsev94),
  (129, fnsev129),
  (132, fnsev132),
  (128, fnsev128),
  (99, fnsev99),
  (133, fnsev133),
  (97, fnsev97),
  (152, fnsev152),
  (160, fnsev160),
  (167, fnsev167),
  (166, fnsev166),
  (168, fnsev168),
  (173, fnsev173),
  (96, fnsev96),
  (130, fnsev130),
  (151, fnsev151),
  (159, fnsev159),
  (98, fnsev98),
  (76, fnsev76),
  (93, fnsev93),
  (126, fnsev126),
  (149, fnsev149),
  (148, fnsev148),
  (157, fnsev157),
  (124, fnsev124),
  (125, fnsev125),
  (145, fnsev145),
  (123, fnsev123),
  (146, fnsev146),
  (23, fnsev23),
  (49, fnsev49),
  (19, fnsev19),
  (47, fnsev47),
  (69, fnsev69),
  (70, fnsev70),
  (25, fnsev25),
  (87, fnsev87),
  (112, fnsev112),
  (142, fnsev142),
  (154, fnsev154),
  (111, fnsev111),
  (141, fnsev141),
  (107, fnsev107),
  (137, fnsev137),
  (136, fnsev136),
  (140, fnsev140),
  (110, fnsev110),
  (139, fnsev139),
  (138, fnsev138),
  (109, fnsev109),
  (108, fnsev108),
  (20, fnsev20),
  (48, fnsev48),
  (27, fnsev27),
  (51, fnsev51),
  (34, fnsev34),
  (60, fnsev60),
  (59, fnsev59),
  (75, fnsev75),
  (92, fnsev92),
  (122, fnsev122),
  (121, fnsev121),
  (120, fnsev120),
  (119, fnsev119),
  (118, fnsev118),
  (83, fnsev83),
  (104, fnsev104),
  (117, fnsev117),
  (116, fnsev116),
  (91, fnsev91),
  (115, fnsev115),
  (144, fnsev144),
  (90, fnsev90),
  (62, fnsev62),
  (82, fnsev82),
  (81, fnsev81),
  (101, fnsev101),
  (102, fnsev102),
  (74, fnsev74),
  (28, fnsev28),
  (52, fnsev52),
  (37, fnsev37),
  (63, fnsev63)]
theorem jr (C : FuncId → List PV → Option SV) : FOk Tryz.prog ⟨TTab, FnsEvF, C⟩ := qj fnsev46_ok <|
  qj fnsev45_ok <|
  qj fnsev61_ok <|
  qj fnsev80_ok <|
  qj fnsev17_ok <|
  qj fnsev44_ok <|
  qj fnsev68_ok <|
  qj fnsev86_ok <|
  qj fnsev105_ok <|
  qj fnsev73_ok <|
  qj fnsev89_ok <|
  qj fnsev114_ok <|
  qj fnsev143_ok <|
  qj fnsev103_ok <|
  qj fnsev113_ok <|
  qj fnsev85_ok <|
  qj fnsev106_ok <|
  qj fnsev135_ok <|
  qj fnsev153_ok <|
  qj fnsev134_ok <|
  qj fnsev84_ok <|
  qj fnsev67_ok <|
  qj fnsev79_ok <|
  qj fnsev78_ok <|
  qj fnsev77_ok <|
  qj fnsev100_ok <|
  qj fnsev131_ok <|
  qj fnsev95_ok <|
  qj fnsev94_ok <|
  qj fnsev129_ok <|
  qj fnsev132_ok <|
  qj fnsev128_ok <|
  qj fnsev99_ok <|
  qj fnsev133_ok <|
  qj fnsev97_ok <|
  qj fnsev152_ok <|
  qj fnsev160_ok <|
  qj fnsev167_ok <|
  qj fnsev166_ok <|
  qj fnsev168_ok <|
  qj fnsev173_ok <|
  qj fnsev96_ok <|
  qj fnsev130_ok <|
  qj fnsev151_ok <|
  qj fnsev159_ok <|
  qj fnsev98_ok <|
  qj fnsev76_ok <|
  qj fnsev93_ok <|
  qj fnsev126_ok <|
  qj fnsev149_ok <|
  qj fnsev148_ok <|
  qj fnsev157_ok <|
  qj fnsev124_ok <|
  qj fnsev125_ok <|
  qj fnsev145_ok <|
  qj fnsev123_ok <|
  qj fnsev146_ok <|
  qj fnsev23_ok <|
  qj fnsev49_ok <|
  qj fnsev19_ok <|
  qj fnsev47_ok <|
  qj fnsev69_ok <|
  qj fnsev70_ok <|
  qj fnsev25_ok <|
  qj fnsev87_ok <|
  qj fnsev112_ok <|
  qj fnsev142_ok <|
  qj fnsev154_ok <|
  qj fnsev111_ok <|
  qj fnsev141_ok <|
  qj fnsev107_ok <|
  qj fnsev137_ok <|
  qj fnsev136_ok <|
  qj fnsev140_ok <|
  qj fnsev110_ok <|
  qj fnsev139_ok <|
  qj fnsev138_ok <|
  qj fnsev109_ok <|
  qj fnsev108_ok <|
  qj fnsev20_ok <|
  qj fnsev48_ok <|
  qj fnsev27_ok <|
  qj fnsev51_ok <|
  qj fnsev34_ok <|
  qj fnsev60_ok <|
  qj fnsev59_ok <|
  qj fnsev75_ok <|
  qj fnsev92_ok <|
  qj fnsev122_ok <|
  qj fnsev121_ok <|
  qj fnsev120_ok <|
  qj fnsev119_ok <|
  qj fnsev118_ok <|
  qj fnsev83_ok <|
  qj fnsev104_ok <|
  qj fnsev117_ok <|
  qj fnsev116_ok <|
  qj fnsev91_ok <|
  qj fnsev115_ok <|
  qj fnsev144_ok <|
  qj fnsev90_ok <|
  qj fnsev62_ok <|
  qj fnsev82_ok <|
  qj fnsev81_ok <|
  qj fnsev101_ok <|
  qj fnsev102_ok <|
  qj fnsev74_ok <|
  qj fnsev28_ok <|
  qj fnsev52_ok <|
  qj fnsev37_ok <|
  qj fnsev63_ok <| fok_nil
end Go.Proofs.YtppfcacnofjmdaaGreatDoor
namespace Go.Proofs.YtppfcacnofjmdaaGreatDoor
set_option linter.unusedVariables false
set_option linter.unusedSimpArgs false
open Go.RowKit
set_option maxHeartbeats 2000000
set_option maxRecDepth 100000
def pEv : PV := (.agg [(.v (.string ⟨#[112]⟩)), (.v (.bool false)), (.v (.int .i64 1)), (.v (.slice none 0 0)), (.sl 5 [[(.v (.string ⟨#[114]⟩)), (.v (.bool false)), (.v (.slice none 0 0)), (.v (.slice none 0 0)), (.sl 3 [[(.v (.int .i64 1)), (.v (.int .i64 1)), (.v (.string ⟨#[97]⟩))]])], [(.v (.string ⟨#[100]⟩)), (.v (.bool true)), (.sl 1 [[(.sl 1 [[(.sl 7 [[(.v (.int .i64 3)), (.v (.string ⟨#[120]⟩)), (.v (.bool false)), (.v (.int .i64 1)), (.v (.int .i64 2)), (.v (.int .i64 1)), (.v (.string ⟨#[]⟩))]])]])]]), (.v (.slice none 0 0)), (.sl 3 [[(.v (.int .i64 2)), (.v (.int .i64 4)), (.v (.string ⟨#[98]⟩))]])]]), (.v (.slice none 0 0)), (.sl 3 [[(.v (.int .i64 1)), (.v (.int .i64 3)), (.v (.string ⟨#[99]⟩))]])])
theorem evRead : Holds Tryz.prog 45 [.v (.string ⟨#[112, 111, 108, 105, 99, 121, 32, 112, 32, 100, 101, 110, 121, 111, 118, 101, 114, 32, 123, 32, 112, 101, 114, 109, 105, 116, 32, 114, 32, 111, 110, 32, 112, 101, 114, 109, 105, 116, 32, 108, 111, 103, 32, 97, 59, 32, 100, 101, 110, 121, 32, 100, 32, 119, 104, 101, 110, 32, 40, 99, 97, 115, 101, 46, 120, 32, 61, 32, 49, 41, 32, 111, 110, 32, 100, 101, 110, 121, 32, 110, 111, 116, 105, 102, 121, 32, 98, 59, 32, 125, 32, 111, 110, 32, 112, 101, 114, 109, 105, 116, 32, 114, 101, 118, 105, 101, 119, 32, 99]⟩)] (.agg [.p (.v (.string ⟨#[112]⟩)), .p (.v (.bool false)), .p (.v (.int .i64 1)), .p (.v (.slice none 0 0)), .row 1, .p (.v (.slice none 0 0)), .row 0]) [(0, .row 43 3 [[(.v (.int .i64 1)), (.v (.int .i64 3)), (.v (.string ⟨#[99]⟩))]]), (1, .row 59 5 [[(.v (.string ⟨#[114]⟩)), (.v (.bool false)), (.v (.slice none 0 0)), (.v (.slice none 0 0)), (.sl 3 [[(.v (.int .i64 1)), (.v (.int .i64 1)), (.v (.string ⟨#[97]⟩))]])], [(.v (.string ⟨#[100]⟩)), (.v (.bool true)), (.sl 1 [[(.sl 1 [[(.sl 7 [[(.v (.int .i64 3)), (.v (.string ⟨#[120]⟩)), (.v (.bool false)), (.v (.int .i64 1)), (.v (.int .i64 2)), (.v (.int .i64 1)), (.v (.string ⟨#[]⟩))]])]])]]), (.v (.slice none 0 0)), (.sl 3 [[(.v (.int .i64 2)), (.v (.int .i64 4)), (.v (.string ⟨#[98]⟩))]])]])] :=
  .ofW (zT (n := 5000) qe (zU _) (jr ctab) (by kernel_rfl) (by kernel_rfl))
theorem evPol0 : Holds Tryz.prog 19 [(.agg [(.v (.string ⟨#[112]⟩)), (.v (.bool false)), (.v (.int .i64 1)), (.v (.slice none 0 0)), (.sl 5 [[(.v (.string ⟨#[114]⟩)), (.v (.bool false)), (.v (.slice none 0 0)), (.v (.slice none 0 0)), (.sl 3 [[(.v (.int .i64 1)), (.v (.int .i64 1)), (.v (.string ⟨#[97]⟩))]])], [(.v (.string ⟨#[100]⟩)), (.v (.bool true)), (.sl 1 [[(.sl 1 [[(.sl 7 [[(.v (.int .i64 3)), (.v (.string ⟨#[120]⟩)), (.v (.bool false)), (.v (.int .i64 1)), (.v (.int .i64 2)), (.v (.int .i64 1)), (.v (.string ⟨#[]⟩))]])]])]]), (.v (.slice none 0 0)), (.sl 3 [[(.v (.int .i64 2)), (.v (.int .i64 4)), (.v (.string ⟨#[98]⟩))]])]]), (.v (.slice none 0 0)), (.sl 3 [[(.v (.int .i64 1)), (.v (.int .i64 3)), (.v (.string ⟨#[99]⟩))]])]), (.v (.slice none 0 0))] (.tup [.agg [.p (.v (.complex .f64 4607182418800017408 0)), .row 0], .p (.v (.int .i64 0))]) [(0, .row 43 3 [[(.v (.int .i64 1)), (.v (.int .i64 1)), (.v (.string ⟨#[97]⟩))], [(.v (.int .i64 1)), (.v (.int .i64 3)), (.v (.string ⟨#[99]⟩))]])] :=
  .ofW (zT (n := 5000) qe (zU _) (jr ctab) (by kernel_rfl) (by kernel_rfl))
theorem evPol1 : Holds Tryz.prog 19 [(.agg [(.v (.string ⟨#[112]⟩)), (.v (.bool false)), (.v (.int .i64 1)), (.v (.slice none 0 0)), (.sl 5 [[(.v (.string ⟨#[114]⟩)), (.v (.bool false)), (.v (.slice none 0 0)), (.v (.slice none 0 0)), (.sl 3 [[(.v (.int .i64 1)), (.v (.int .i64 1)), (.v (.string ⟨#[97]⟩))]])], [(.v (.string ⟨#[100]⟩)), (.v (.bool true)), (.sl 1 [[(.sl 1 [[(.sl 7 [[(.v (.int .i64 3)), (.v (.string ⟨#[120]⟩)), (.v (.bool false)), (.v (.int .i64 1)), (.v (.int .i64 2)), (.v (.int .i64 1)), (.v (.string ⟨#[]⟩))]])]])]]), (.v (.slice none 0 0)), (.sl 3 [[(.v (.int .i64 2)), (.v (.int .i64 4)), (.v (.string ⟨#[98]⟩))]])]]), (.v (.slice none 0 0)), (.sl 3 [[(.v (.int .i64 1)), (.v (.int .i64 3)), (.v (.string ⟨#[99]⟩))]])]), (.sl 3 [[(.v (.int .i64 3)), (.v (.string ⟨#[120]⟩)), (.sl 3 [[(.v (.int .i64 2)), (.v (.int .i64 1)), (.v (.string ⟨#[]⟩))]])]])] (.tup [.agg [.p (.v (.complex .f64 0 4607182418800017408)), .row 0], .p (.v (.int .i64 0))]) [(0, .row 43 3 [[(.v (.int .i64 2)), (.v (.int .i64 4)), (.v (.string ⟨#[98]⟩))]])] :=
  .ofW (zT (n := 5000) qe (zU _) (jr ctab) (by kernel_rfl) (by kernel_rfl))
theorem evPol2 : Holds Tryz.prog 19 [(.agg [(.v (.string ⟨#[112]⟩)), (.v (.bool false)), (.v (.int .i64 1)), (.v (.slice none 0 0)), (.sl 5 [[(.v (.string ⟨#[114]⟩)), (.v (.bool false)), (.v (.slice none 0 0)), (.v (.slice none 0 0)), (.sl 3 [[(.v (.int .i64 1)), (.v (.int .i64 1)), (.v (.string ⟨#[97]⟩))]])], [(.v (.string ⟨#[100]⟩)), (.v (.bool true)), (.sl 1 [[(.sl 1 [[(.sl 7 [[(.v (.int .i64 3)), (.v (.string ⟨#[120]⟩)), (.v (.bool false)), (.v (.int .i64 1)), (.v (.int .i64 2)), (.v (.int .i64 1)), (.v (.string ⟨#[]⟩))]])]])]]), (.v (.slice none 0 0)), (.sl 3 [[(.v (.int .i64 2)), (.v (.int .i64 4)), (.v (.string ⟨#[98]⟩))]])]]), (.v (.slice none 0 0)), (.sl 3 [[(.v (.int .i64 1)), (.v (.int .i64 3)), (.v (.string ⟨#[99]⟩))]])]), (.sl 3 [[(.v (.int .i64 3)), (.v (.string ⟨#[120]⟩)), (.sl 3 [[(.v (.int .i64 3)), (.v (.int .i64 0)), (.v (.string ⟨#[97]⟩))]])]])] (.tup [.p (.agg [(.v (.complex .f64 4602678819172646912 4602678819172646912)), (.v (.slice none 0 0))]), .p (.v (.int .i64 0))]) [] :=
  .ofW (zT (n := 5000) qe (zU _) (jr ctab) (by kernel_rfl) (by kernel_rfl))
theorem evX0 : Holds Tryz.prog 46 [(.sl 3 [[(.v (.int .i64 2)), (.v (.int .i64 1)), (.v (.string ⟨#[]⟩))]])] ((.row 0)) [(0, .row 88 3 [[(.v (.int .i64 3)), (.v (.string ⟨#[120]⟩)), .sl 3 [[(.v (.int .i64 2)), (.v (.int .i64 1)), (.v (.string ⟨#[]⟩))]]]])] :=
  .ofW (zT (n := 5000) qe (zU _) (jr ctab) (by kernel_rfl) (by kernel_rfl))
theorem evX1 : Holds Tryz.prog 46 [(.sl 3 [[(.v (.int .i64 3)), (.v (.int .i64 0)), (.v (.string ⟨#[97]⟩))]])] ((.row 0)) [(0, .row 88 3 [[(.v (.int .i64 3)), (.v (.string ⟨#[120]⟩)), .sl 3 [[(.v (.int .i64 3)), (.v (.int .i64 0)), (.v (.string ⟨#[97]⟩))]]]])] :=
  .ofW (zT (n := 5000) qe (zU _) (jr ctab) (by kernel_rfl) (by kernel_rfl))
theorem evRes0 : Holds Tryz.prog 23 [.agg [(.v (.complex .f64 4607182418800017408 0)), (.sl 3 [[(.v (.int .i64 1)), (.v (.int .i64 1)), (.v (.string ⟨#[97]⟩))], [(.v (.int .i64 1)), (.v (.int .i64 3)), (.v (.string ⟨#[99]⟩))]])], .agg [(.v (.complex .f64 4607182418800017408 0)), (.sl 3 [[(.v (.int .i64 1)), (.v (.int .i64 1)), (.v (.string ⟨#[97]⟩))], [(.v (.int .i64 1)), (.v (.int .i64 3)), (.v (.string ⟨#[99]⟩))]])]] (.p (.v (.bool true))) [] :=
  .ofW (zT (n := 5000) qe (zU _) (jr ctab) (by kernel_rfl) (by kernel_rfl))
theorem evRes1 : Holds Tryz.prog 23 [.agg [(.v (.complex .f64 0 4607182418800017408)), (.sl 3 [[(.v (.int .i64 2)), (.v (.int .i64 4)), (.v (.string ⟨#[98]⟩))]])], .agg [(.v (.complex .f64 0 4607182418800017408)), (.sl 3 [[(.v (.int .i64 2)), (.v (.int .i64 4)), (.v (.string ⟨#[98]⟩))]])]] (.p (.v (.bool true))) [] :=
  .ofW (zT (n := 5000) qe (zU _) (jr ctab) (by kernel_rfl) (by kernel_rfl))
theorem evRes2 : Holds Tryz.prog 23 [.agg [(.v (.complex .f64 4602678819172646912 4602678819172646912)), (.v (.slice none 0 0))], .agg [(.v (.complex .f64 4602678819172646912 4602678819172646912)), (.v (.slice none 0 0))]] (.p (.v (.bool true))) [] :=
  .ofW (zT (n := 5000) qe (zU _) (jr ctab) (by kernel_rfl) (by kernel_rfl))
theorem jB : Holds Tryz.prog 18 [] (.p (.v (.bool true))) [] := by
  refine qA (ts := [0]) Tryz.func18 (by kernel_rfl) rfl rfl rfl ?_
  (repeat refine qb ?_); refine qa ?_
  repeat (first | refine zR ?_ | refine zK ?_ | refine zM ?_ | refine zB ?_ | refine zA ?_ | refine zS ?_ | refine zL ?_)
  refine qc ?_
  (repeat refine qb ?_); refine qa ?_
  repeat (first | refine zR ?_ | refine zK ?_ | refine zM ?_ | refine zB ?_ | refine zA ?_ | refine zS ?_ | refine zL ?_)
  refine qn rfl (qD rfl rfl rfl rfl (evRead) rfl rfl rfl ?_)
  repeat (first | refine zR ?_ | refine zK ?_ | refine zM ?_ | refine zB ?_ | refine zA ?_ | refine zS ?_ | refine zL ?_)
  refine qc ?_
  refine SW.wk ((zN (k := 10000) rfl).trans (zN (k := 10001) rfl)) ?_
  refine SW.wk (qq [1] [(1, 1)] rfl rfl) ?_
  (repeat refine qb ?_); refine qa ?_
  repeat (first | refine zR ?_ | refine zK ?_ | refine zM ?_ | refine zB ?_ | refine zA ?_ | refine zS ?_ | refine zL ?_)
  refine qn rfl (qD rfl rfl rfl rfl (evPol0) rfl rfl rfl ?_)
  repeat (first | refine zR ?_ | refine zK ?_ | refine zM ?_ | refine zB ?_ | refine zA ?_ | refine zS ?_ | refine zL ?_)
  refine qc ?_
  refine SW.wk (zN (k := 13000) rfl) ?_
  refine SW.wk (qq [1, 2, 3] [(1, 1), (2, 2)] rfl rfl) ?_
  (repeat refine qb ?_); refine zH 11 rfl (by kernel_rfl) ?_
  refine qy (i := 0) (K := [18, 19, 4, 20000, 21000]) (by kernel_rfl) (by kernel_rfl) rfl rfl (qi qe rfl (by exact True.intro)) rfl ?_
  refine qy (i := 1) (K := [18, 19, 4, 20000, 21000]) (by kernel_rfl) (by kernel_rfl) rfl rfl (qi qe rfl (by exact True.intro)) rfl ?_
  refine zE 2 8 (by kernel_rfl) ?_ ?_
  first | refine qd rfl rfl rfl (aM (h := ?_)) | refine qd rfl rfl rfl (aB (h := ?_)) | refine qd rfl rfl rfl (aA (h := ?_)) | refine qd rfl rfl rfl (aS (h := ?_)) | refine qd rfl rfl rfl (aL (h := ?_)) | refine qd rfl rfl rfl (qv (K := []) (qi qe rfl (by exact True.intro)) rfl ?_)
  refine zE 3 8 (by kernel_rfl) ?_ ?_
  refine qd rfl rfl rfl (ActOk.frz (i := 18) rfl (qD rfl rfl rfl rfl evX0 rfl rfl rfl ?_))
  refine zE 4 8 (by kernel_rfl) ?_ ?_
  refine qd rfl rfl rfl (ActOk.frz (i := 20000) rfl (qD rfl rfl rfl rfl evPol1 rfl rfl rfl ?_))
  refine qy (i := 5) (K := [18, 19, 4, 20000, 21000]) (by kernel_rfl) (by kernel_rfl) rfl rfl (qi qe rfl (by exact True.intro)) rfl ?_
  refine qy (i := 6) (K := [18, 19, 4, 20000, 21000]) (by kernel_rfl) (by kernel_rfl) rfl rfl (qi qe rfl (by exact True.intro)) rfl ?_
  refine qy (i := 7) (K := [18, 19, 4, 20000, 21000]) (by kernel_rfl) (by kernel_rfl) rfl rfl (qi qe rfl (by exact True.intro)) rfl ?_
  refine qo 8 (by kernel_rfl) ?_
  first | refine qd rfl rfl rfl (aM (h := ?_)) | refine qd rfl rfl rfl (aB (h := ?_)) | refine qd rfl rfl rfl (aA (h := ?_)) | refine qd rfl rfl rfl (aS (h := ?_)) | refine qd rfl rfl rfl (aL (h := ?_)) | refine qd rfl rfl rfl (qv (K := []) (qi qe rfl (by exact True.intro)) rfl ?_)
  refine qo 9 (by kernel_rfl) ?_
  first | refine qd rfl rfl rfl (aM (h := ?_)) | refine qd rfl rfl rfl (aB (h := ?_)) | refine qd rfl rfl rfl (aA (h := ?_)) | refine qd rfl rfl rfl (aS (h := ?_)) | refine qd rfl rfl rfl (aL (h := ?_)) | refine qd rfl rfl rfl (qv (K := []) (qi qe rfl (by exact True.intro)) rfl ?_)
  refine qy (i := 10) (K := [18, 19, 4, 20000, 21000]) (by kernel_rfl) (by kernel_rfl) rfl rfl (qi qe rfl (by exact True.intro)) rfl ?_
  refine zd (by kernel_rfl) ?_
  refine SW.wk (qq [1, 2, 3, 4, 5] [(1, 1), (2, 2), (4, 4), (21000, 700)] rfl rfl) ?_
  refine ?fk3_51
  rotate_left
  first | refine qd rfl rfl rfl (aM (h := ?_)) | refine qd rfl rfl rfl (aB (h := ?_)) | refine qd rfl rfl rfl (aA (h := ?_)) | refine qd rfl rfl rfl (aS (h := ?_)) | refine qd rfl rfl rfl (aL (h := ?_)) | refine qd rfl rfl rfl (qv (K := []) (qi qe rfl (by exact True.intro)) rfl ?_)
  refine qo 4 (by kernel_rfl) ?_
  refine qd rfl rfl rfl (ActOk.frz (i := 20000) rfl (qD rfl rfl rfl rfl evPol1 rfl rfl rfl ?_))
  refine qy (i := 5) (K := [18, 19, 4, 20000, 21000]) (by kernel_rfl) (by kernel_rfl) rfl rfl (qi qe rfl (by exact True.intro)) rfl ?_
  refine qy (i := 6) (K := [18, 19, 4, 20000, 21000]) (by kernel_rfl) (by kernel_rfl) rfl rfl (qi qe rfl (by exact True.intro)) rfl ?_
  refine qy (i := 7) (K := [18, 19, 4, 20000, 21000]) (by kernel_rfl) (by kernel_rfl) rfl rfl (qi qe rfl (by exact True.intro)) rfl ?_
  refine qo 9 (by kernel_rfl) ?_
  first | refine qd rfl rfl rfl (aM (h := ?_)) | refine qd rfl rfl rfl (aB (h := ?_)) | refine qd rfl rfl rfl (aA (h := ?_)) | refine qd rfl rfl rfl (aS (h := ?_)) | refine qd rfl rfl rfl (aL (h := ?_)) | refine qd rfl rfl rfl (qv (K := []) (qi qe rfl (by exact True.intro)) rfl ?_)
  refine qy (i := 10) (K := [18, 19, 4, 20000, 21000]) (by kernel_rfl) (by kernel_rfl) rfl rfl (qi qe rfl (by exact True.intro)) rfl ?_
  refine zd (by kernel_rfl) ?_
  refine SW.wk (qq [1, 2, 3, 4, 5] [(1, 1), (2, 2), (4, 4), (21000, 700)] rfl rfl) ?_
  exact ?fk3_51
  first | refine qd rfl rfl rfl (aM (h := ?_)) | refine qd rfl rfl rfl (aB (h := ?_)) | refine qd rfl rfl rfl (aA (h := ?_)) | refine qd rfl rfl rfl (aS (h := ?_)) | refine qd rfl rfl rfl (aL (h := ?_)) | refine qd rfl rfl rfl (qv (K := []) (qi qe rfl (by exact True.intro)) rfl ?_)
  refine qo 3 (by kernel_rfl) ?_
  refine qd rfl rfl rfl (ActOk.frz (i := 18) rfl (qD rfl rfl rfl rfl evX0 rfl rfl rfl ?_))
  refine qo 4 (by kernel_rfl) ?_
  refine qd rfl rfl rfl (ActOk.frz (i := 20000) rfl (qD rfl rfl rfl rfl evPol1 rfl rfl rfl ?_))
  refine qy (i := 5) (K := [18, 19, 4, 20000, 21000]) (by kernel_rfl) (by kernel_rfl) rfl rfl (qi qe rfl (by exact True.intro)) rfl ?_
  refine qy (i := 6) (K := [18, 19, 4, 20000, 21000]) (by kernel_rfl) (by kernel_rfl) rfl rfl (qi qe rfl (by exact True.intro)) rfl ?_
  refine qy (i := 7) (K := [18, 19, 4, 20000, 21000]) (by kernel_rfl) (by kernel_rfl) rfl rfl (qi qe rfl (by exact True.intro)) rfl ?_
  refine qo 9 (by kernel_rfl) ?_
  first | refine qd rfl rfl rfl (aM (h := ?_)) | refine qd rfl rfl rfl (aB (h := ?_)) | refine qd rfl rfl rfl (aA (h := ?_)) | refine qd rfl rfl rfl (aS (h := ?_)) | refine qd rfl rfl rfl (aL (h := ?_)) | refine qd rfl rfl rfl (qv (K := []) (qi qe rfl (by exact True.intro)) rfl ?_)
  refine qy (i := 10) (K := [18, 19, 4, 20000, 21000]) (by kernel_rfl) (by kernel_rfl) rfl rfl (qi qe rfl (by exact True.intro)) rfl ?_
  refine zd (by kernel_rfl) ?_
  refine SW.wk (qq [1, 2, 3, 4, 5] [(1, 1), (2, 2), (4, 4), (21000, 700)] rfl rfl) ?_
  exact ?fk3_51
  first | refine qd rfl rfl rfl (aM (h := ?_)) | refine qd rfl rfl rfl (aB (h := ?_)) | refine qd rfl rfl rfl (aA (h := ?_)) | refine qd rfl rfl rfl (aS (h := ?_)) | refine qd rfl rfl rfl (aL (h := ?_)) | refine qd rfl rfl rfl (qv (K := []) (qi qe rfl (by exact True.intro)) rfl ?_)
  refine qo 2 (by kernel_rfl) ?_
  first | refine qd rfl rfl rfl (aM (h := ?_)) | refine qd rfl rfl rfl (aB (h := ?_)) | refine qd rfl rfl rfl (aA (h := ?_)) | refine qd rfl rfl rfl (aS (h := ?_)) | refine qd rfl rfl rfl (aL (h := ?_)) | refine qd rfl rfl rfl (qv (K := []) (qi qe rfl (by exact True.intro)) rfl ?_)
  refine qo 3 (by kernel_rfl) ?_
  refine qd rfl rfl rfl (ActOk.frz (i := 18) rfl (qD rfl rfl rfl rfl evX0 rfl rfl rfl ?_))
  refine qo 4 (by kernel_rfl) ?_
  refine qd rfl rfl rfl (ActOk.frz (i := 20000) rfl (qD rfl rfl rfl rfl evPol1 rfl rfl rfl ?_))
  refine qy (i := 5) (K := [18, 19, 4, 20000, 21000]) (by kernel_rfl) (by kernel_rfl) rfl rfl (qi qe rfl (by exact True.intro)) rfl ?_
  refine qy (i := 6) (K := [18, 19, 4, 20000, 21000]) (by kernel_rfl) (by kernel_rfl) rfl rfl (qi qe rfl (by exact True.intro)) rfl ?_
  refine qy (i := 7) (K := [18, 19, 4, 20000, 21000]) (by kernel_rfl) (by kernel_rfl) rfl rfl (qi qe rfl (by exact True.intro)) rfl ?_
  refine qo 9 (by kernel_rfl) ?_
  first | refine qd rfl rfl rfl (aM (h := ?_)) | refine qd rfl rfl rfl (aB (h := ?_)) | refine qd rfl rfl rfl (aA (h := ?_)) | refine qd rfl rfl rfl (aS (h := ?_)) | refine qd rfl rfl rfl (aL (h := ?_)) | refine qd rfl rfl rfl (qv (K := []) (qi qe rfl (by exact True.intro)) rfl ?_)
  refine qy (i := 10) (K := [18, 19, 4, 20000, 21000]) (by kernel_rfl) (by kernel_rfl) rfl rfl (qi qe rfl (by exact True.intro)) rfl ?_
  refine zd (by kernel_rfl) ?_
  refine SW.wk (qq [1, 2, 3, 4, 5] [(1, 1), (2, 2), (4, 4), (21000, 700)] rfl rfl) ?_
  exact ?fk3_51
  refine SW.wk (zN (k := 700) rfl) ?_
  refine SW.wk (qq [1, 2, 3, 4, 5] [(1, 1), (2, 2), (4, 4)] rfl rfl) ?_
  (repeat refine qb ?_); refine zH 11 rfl (by kernel_rfl) ?_
  refine qy (i := 0) (K := [26, 27, 6, 28000, 29000]) (by kernel_rfl) (by kernel_rfl) rfl rfl (qi qe rfl (by exact True.intro)) rfl ?_
  refine qy (i := 1) (K := [26, 27, 6, 28000, 29000]) (by kernel_rfl) (by kernel_rfl) rfl rfl (qi qe rfl (by exact True.intro)) rfl ?_
  refine zE 2 8 (by kernel_rfl) ?_ ?_
  first | refine qd rfl rfl rfl (aM (h := ?_)) | refine qd rfl rfl rfl (aB (h := ?_)) | refine qd rfl rfl rfl (aA (h := ?_)) | refine qd rfl rfl rfl (aS (h := ?_)) | refine qd rfl rfl rfl (aL (h := ?_)) | refine qd rfl rfl rfl (qv (K := []) (qi qe rfl (by exact True.intro)) rfl ?_)
  refine zE 3 8 (by kernel_rfl) ?_ ?_
  refine qd rfl rfl rfl (ActOk.frz (i := 26) rfl (qD rfl rfl rfl rfl evX1 rfl rfl rfl ?_))
  refine zE 4 8 (by kernel_rfl) ?_ ?_
  refine qd rfl rfl rfl (ActOk.frz (i := 28000) rfl (qD rfl rfl rfl rfl evPol2 rfl rfl rfl ?_))
  refine qy (i := 5) (K := [26, 27, 6, 28000, 29000]) (by kernel_rfl) (by kernel_rfl) rfl rfl (qi qe rfl (by exact True.intro)) rfl ?_
  refine qy (i := 6) (K := [26, 27, 6, 28000, 29000]) (by kernel_rfl) (by kernel_rfl) rfl rfl (qi qe rfl (by exact True.intro)) rfl ?_
  refine qy (i := 7) (K := [26, 27, 6, 28000, 29000]) (by kernel_rfl) (by kernel_rfl) rfl rfl (qi qe rfl (by exact True.intro)) rfl ?_
  refine qo 8 (by kernel_rfl) ?_
  first | refine qd rfl rfl rfl (aM (h := ?_)) | refine qd rfl rfl rfl (aB (h := ?_)) | refine qd rfl rfl rfl (aA (h := ?_)) | refine qd rfl rfl rfl (aS (h := ?_)) | refine qd rfl rfl rfl (aL (h := ?_)) | refine qd rfl rfl rfl (qv (K := []) (qi qe rfl (by exact True.intro)) rfl ?_)
  refine qo 9 (by kernel_rfl) ?_
  first | refine qd rfl rfl rfl (aM (h := ?_)) | refine qd rfl rfl rfl (aB (h := ?_)) | refine qd rfl rfl rfl (aA (h := ?_)) | refine qd rfl rfl rfl (aS (h := ?_)) | refine qd rfl rfl rfl (aL (h := ?_)) | refine qd rfl rfl rfl (qv (K := []) (qi qe rfl (by exact True.intro)) rfl ?_)
  refine qy (i := 10) (K := [26, 27, 6, 28000, 29000]) (by kernel_rfl) (by kernel_rfl) rfl rfl (qi qe rfl (by exact True.intro)) rfl ?_
  refine zd (by kernel_rfl) ?_
  refine SW.wk (qq [1, 2, 3, 4, 5, 6, 7] [(1, 1), (2, 2), (4, 4), (6, 6)] rfl rfl) ?_
  refine ?fk4_116
  rotate_left
  first | refine qd rfl rfl rfl (aM (h := ?_)) | refine qd rfl rfl rfl (aB (h := ?_)) | refine qd rfl rfl rfl (aA (h := ?_)) | refine qd rfl rfl rfl (aS (h := ?_)) | refine qd rfl rfl rfl (aL (h := ?_)) | refine qd rfl rfl rfl (qv (K := []) (qi qe rfl (by exact True.intro)) rfl ?_)
  refine qo 4 (by kernel_rfl) ?_
  refine qd rfl rfl rfl (ActOk.frz (i := 28000) rfl (qD rfl rfl rfl rfl evPol2 rfl rfl rfl ?_))
  refine qy (i := 5) (K := [26, 27, 6, 28000, 29000]) (by kernel_rfl) (by kernel_rfl) rfl rfl (qi qe rfl (by exact True.intro)) rfl ?_
  refine qy (i := 6) (K := [26, 27, 6, 28000, 29000]) (by kernel_rfl) (by kernel_rfl) rfl rfl (qi qe rfl (by exact True.intro)) rfl ?_
  refine qy (i := 7) (K := [26, 27, 6, 28000, 29000]) (by kernel_rfl) (by kernel_rfl) rfl rfl (qi qe rfl (by exact True.intro)) rfl ?_
  refine qo 9 (by kernel_rfl) ?_
  first | refine qd rfl rfl rfl (aM (h := ?_)) | refine qd rfl rfl rfl (aB (h := ?_)) | refine qd rfl rfl rfl (aA (h := ?_)) | refine qd rfl rfl rfl (aS (h := ?_)) | refine qd rfl rfl rfl (aL (h := ?_)) | refine qd rfl rfl rfl (qv (K := []) (qi qe rfl (by exact True.intro)) rfl ?_)
  refine qy (i := 10) (K := [26, 27, 6, 28000, 29000]) (by kernel_rfl) (by kernel_rfl) rfl rfl (qi qe rfl (by exact True.intro)) rfl ?_
  refine zd (by kernel_rfl) ?_
  refine SW.wk (qq [1, 2, 3, 4, 5, 6, 7] [(1, 1), (2, 2), (4, 4), (6, 6)] rfl rfl) ?_
  exact ?fk4_116
  first | refine qd rfl rfl rfl (aM (h := ?_)) | refine qd rfl rfl rfl (aB (h := ?_)) | refine qd rfl rfl rfl (aA (h := ?_)) | refine qd rfl rfl rfl (aS (h := ?_)) | refine qd rfl rfl rfl (aL (h := ?_)) | refine qd rfl rfl rfl (qv (K := []) (qi qe rfl (by exact True.intro)) rfl ?_)
  refine qo 3 (by kernel_rfl) ?_
  refine qd rfl rfl rfl (ActOk.frz (i := 26) rfl (qD rfl rfl rfl rfl evX1 rfl rfl rfl ?_))
  refine qo 4 (by kernel_rfl) ?_
  refine qd rfl rfl rfl (ActOk.frz (i := 28000) rfl (qD rfl rfl rfl rfl evPol2 rfl rfl rfl ?_))
  refine qy (i := 5) (K := [26, 27, 6, 28000, 29000]) (by kernel_rfl) (by kernel_rfl) rfl rfl (qi qe rfl (by exact True.intro)) rfl ?_
  refine qy (i := 6) (K := [26, 27, 6, 28000, 29000]) (by kernel_rfl) (by kernel_rfl) rfl rfl (qi qe rfl (by exact True.intro)) rfl ?_
  refine qy (i := 7) (K := [26, 27, 6, 28000, 29000]) (by kernel_rfl) (by kernel_rfl) rfl rfl (qi qe rfl (by exact True.intro)) rfl ?_
  refine qo 9 (by kernel_rfl) ?_
  first | refine qd rfl rfl rfl (aM (h := ?_)) | refine qd rfl rfl rfl (aB (h := ?_)) | refine qd rfl rfl rfl (aA (h := ?_)) | refine qd rfl rfl rfl (aS (h := ?_)) | refine qd rfl rfl rfl (aL (h := ?_)) | refine qd rfl rfl rfl (qv (K := []) (qi qe rfl (by exact True.intro)) rfl ?_)
  refine qy (i := 10) (K := [26, 27, 6, 28000, 29000]) (by kernel_rfl) (by kernel_rfl) rfl rfl (qi qe rfl (by exact True.intro)) rfl ?_
  refine zd (by kernel_rfl) ?_
  refine SW.wk (qq [1, 2, 3, 4, 5, 6, 7] [(1, 1), (2, 2), (4, 4), (6, 6)] rfl rfl) ?_
  exact ?fk4_116
  first | refine qd rfl rfl rfl (aM (h := ?_)) | refine qd rfl rfl rfl (aB (h := ?_)) | refine qd rfl rfl rfl (aA (h := ?_)) | refine qd rfl rfl rfl (aS (h := ?_)) | refine qd rfl rfl rfl (aL (h := ?_)) | refine qd rfl rfl rfl (qv (K := []) (qi qe rfl (by exact True.intro)) rfl ?_)
  refine qo 2 (by kernel_rfl) ?_
  first | refine qd rfl rfl rfl (aM (h := ?_)) | refine qd rfl rfl rfl (aB (h := ?_)) | refine qd rfl rfl rfl (aA (h := ?_)) | refine qd rfl rfl rfl (aS (h := ?_)) | refine qd rfl rfl rfl (aL (h := ?_)) | refine qd rfl rfl rfl (qv (K := []) (qi qe rfl (by exact True.intro)) rfl ?_)
  refine qo 3 (by kernel_rfl) ?_
  refine qd rfl rfl rfl (ActOk.frz (i := 26) rfl (qD rfl rfl rfl rfl evX1 rfl rfl rfl ?_))
  refine qo 4 (by kernel_rfl) ?_
  refine qd rfl rfl rfl (ActOk.frz (i := 28000) rfl (qD rfl rfl rfl rfl evPol2 rfl rfl rfl ?_))
  refine qy (i := 5) (K := [26, 27, 6, 28000, 29000]) (by kernel_rfl) (by kernel_rfl) rfl rfl (qi qe rfl (by exact True.intro)) rfl ?_
  refine qy (i := 6) (K := [26, 27, 6, 28000, 29000]) (by kernel_rfl) (by kernel_rfl) rfl rfl (qi qe rfl (by exact True.intro)) rfl ?_
  refine qy (i := 7) (K := [26, 27, 6, 28000, 29000]) (by kernel_rfl) (by kernel_rfl) rfl rfl (qi qe rfl (by exact True.intro)) rfl ?_
  refine qo 9 (by kernel_rfl) ?_
  first | refine qd rfl rfl rfl (aM (h := ?_)) | refine qd rfl rfl rfl (aB (h := ?_)) | refine qd rfl rfl rfl (aA (h := ?_)) | refine qd rfl rfl rfl (aS (h := ?_)) | refine qd rfl rfl rfl (aL (h := ?_)) | refine qd rfl rfl rfl (qv (K := []) (qi qe rfl (by exact True.intro)) rfl ?_)
  refine qy (i := 10) (K := [26, 27, 6, 28000, 29000]) (by kernel_rfl) (by kernel_rfl) rfl rfl (qi qe rfl (by exact True.intro)) rfl ?_
  refine zd (by kernel_rfl) ?_
  refine SW.wk (qq [1, 2, 3, 4, 5, 6, 7] [(1, 1), (2, 2), (4, 4), (6, 6)] rfl rfl) ?_
  exact ?fk4_116
  (repeat refine qb ?_); refine qa ?_
  repeat (first | refine zR ?_ | refine zK ?_ | refine zM ?_ | refine zB ?_ | refine zA ?_ | refine zS ?_ | refine zL ?_)
  refine qc ?_
  (repeat refine qb ?_); refine qa ?_
  repeat (first | refine zR ?_ | refine zK ?_ | refine zM ?_ | refine zB ?_ | refine zA ?_ | refine zS ?_ | refine zL ?_)
  refine qn rfl (ActOk.frz (i := 33) rfl (qg rfl rfl rfl rfl evRes0 rfl rfl ?_))
  repeat (first | refine zR ?_ | refine zK ?_ | refine zM ?_ | refine zB ?_ | refine zA ?_ | refine zS ?_ | refine zL ?_)
  refine qn rfl (ActOk.frz (i := 53) rfl (qg rfl rfl rfl rfl evRes1 rfl rfl ?_))
  repeat (first | refine zR ?_ | refine zK ?_ | refine zM ?_ | refine zB ?_ | refine zA ?_ | refine zS ?_ | refine zL ?_)
  refine qn rfl (qg rfl rfl rfl rfl (evRes2) rfl rfl ?_)
  repeat (first | refine zR ?_ | refine zK ?_ | refine zM ?_ | refine zB ?_ | refine zA ?_ | refine zS ?_ | refine zL ?_)
  refine qc ?_
  (repeat refine qb ?_); refine qk ?_
  exact ⟨Or.inr rfl, _, _, [], Wk.refl _, rfl, rfl, rfl, rfl⟩
end Go.Proofs.YtppfcacnofjmdaaGreatDoor
namespace Go.Proofs.YtppfcacnofjmdaaGreatDoor
set_option linter.unusedVariables false
set_option linter.unusedSimpArgs false
open Go.RowKit
set_option maxHeartbeats 1000000
theorem within_h (n lo hi : Int) (hn : R64 n) (h1 : 0 ≤ lo) (h2 : lo ≤ hi) (h3 : hi ≤ 4611686018427387904) : Holds Tryz.prog 22 [pI n, pI lo, pI hi] (.p (pI (lo + n % (hi - lo + 1)))) [] := by
  obtain ⟨hn, hn'⟩ := hn
  have r0 := Int.emod_nonneg n (show hi - lo + 1 ≠ 0 by omega)
  have r1 := Int.emod_lt_of_pos n (show 0 < hi - lo + 1 by omega)
  have e : (n.tmod (hi - lo + 1) = n % (hi - lo + 1) ∧ 0 ≤ n % (hi - lo + 1)) ∨ (n.tmod (hi - lo + 1) = n % (hi - lo + 1) - (hi - lo + 1) ∧ n % (hi - lo + 1) - (hi - lo + 1) < 0) := by
    rw [Int.tmod_eq_emod]
    have hab : ((hi - lo + 1).natAbs : Int) = hi - lo + 1 := by omega
    split
    · left; omega
    · right; omega
  generalize hr : n % (hi - lo + 1) = r at *
  have w1 : IntKind.i64.wrap (IntKind.i64.wrap (hi - lo) + 1) = hi - lo + 1 := by
    rw [IntWalk.i64_in (hi - lo) (by omega), IntWalk.i64_in _ (by omega)]
  refine qA (ts := [6]) Tryz.func22 (by kernel_rfl) rfl rfl rfl ?_
  (repeat refine qb ?_); refine qa ?_
  repeat (first | refine zR ?_ | refine zK ?_ | refine zM ?_ | refine zB ?_ | refine zA ?_ | refine zS ?_ | refine zL ?_)
  refine qc ?_
  (repeat refine qb ?_); refine qa ?_
  repeat (first | refine zR ?_ | refine zK ?_ | refine zM ?_ | refine zB ?_ | refine zA ?_ | refine zS ?_ | refine zL ?_)
  rw [w1]
  refine qw qe rfl rfl (by omega) rfl ?_
  repeat (first | refine zR ?_ | refine zK ?_ | refine zM ?_ | refine zB ?_ | refine zA ?_ | refine zS ?_ | refine zL ?_)
  refine qc ?_
  (repeat refine qb ?_); refine qa ?_
  repeat (first | refine zR ?_ | refine zK ?_ | refine zM ?_ | refine zB ?_ | refine zA ?_ | refine zS ?_ | refine zL ?_)
  refine qc ?_
  (repeat refine qb ?_); refine qf rfl (fun h => ?_) (fun h => ?_)
  · rcases e with ⟨e, hneg⟩ | ⟨e, hneg⟩
    · rw [e] at h; simp at h; omega
    · (repeat refine qb ?_); refine qa ?_
      repeat (first | refine zR ?_ | refine zK ?_ | refine zM ?_ | refine zB ?_ | refine zA ?_ | refine zS ?_ | refine zL ?_)
      refine qc ?_
      (repeat refine qb ?_); refine qa ?_
      repeat (first | refine zR ?_ | refine zK ?_ | refine zM ?_ | refine zB ?_ | refine zA ?_ | refine zS ?_ | refine zL ?_)
      refine qc ?_
      (repeat refine qb ?_); refine qk ?_
      refine zg rfl ?_
      rw [e, IntWalk.i64_in (r - (hi - lo + 1) + hi) (by omega), IntWalk.i64_in (r - (hi - lo + 1) + hi - lo) (by omega), IntWalk.i64_in (r - (hi - lo + 1) + hi - lo + 1) (by omega), IntWalk.i64_in _ (by omega)]
      omega
  · rcases e with ⟨e, hneg⟩ | ⟨e, hneg⟩
    · refine qm ?_
      (repeat refine qb ?_); refine qa ?_
      repeat (first | refine zR ?_ | refine zK ?_ | refine zM ?_ | refine zB ?_ | refine zA ?_ | refine zS ?_ | refine zL ?_)
      refine qc ?_
      (repeat refine qb ?_); refine qk ?_
      refine zg rfl ?_
      rw [e, IntWalk.i64_in _ (by omega)]
    · rw [e] at h; simp at h; omega
theorem slice_min {α : Type} (f : α → List PV) (l : List α) (N : Int) (n : Nat) (hN : N = n) : ((l.map f).drop (Int.toNat 0)).take (Int.toNat (if N < (l.map f).length then N else (l.map f).length) - Int.toNat 0) = (l.take n).map f := by
  subst hN
  simp only [List.length_map, Int.toNat_zero, List.drop_zero, Nat.sub_zero]
  rw [List.map_take]
  split
  · rfl
  · rw [List.take_of_length_le (by simp), List.take_of_length_le (by simp; omega)]
end Go.Proofs.YtppfcacnofjmdaaGreatDoor
namespace Go.Proofs.YtppfcacnofjmdaaGreatDoor
set_option linter.unusedVariables false
set_option linter.unusedSimpArgs false
open Go.RowKit
set_option maxHeartbeats 4000000
def oA : Obli := ⟨1, 1, ⟨#[97]⟩⟩
def oB : Obli := ⟨2, 1, ⟨#[98]⟩⟩
def rR (D : Bool) (c : List Nod) : Rul := ⟨⟨#[114]⟩, D, [], c, [oA, oB]⟩
def pR (K : Int) (D : Bool) (c : List Nod) (t : Tar) : Pol := .mk ⟨#[112]⟩ false K t [rR D c] [] []
def tN (n : Int) : List Nod := [⟨1, ⟨1, n, ⟨#[]⟩⟩, ⟨0, ⟨#[]⟩, false⟩⟩]
def tX : List Nod := [⟨2, ⟨0, 0, ⟨#[]⟩⟩, ⟨3, ⟨#[120]⟩, false⟩⟩, ⟨3, ⟨0, 0, ⟨#[]⟩⟩, ⟨0, ⟨#[]⟩, false⟩⟩]
def mY (b : Bool) : Mat := ⟨⟨4, ⟨#[121]⟩, b⟩, 1, ⟨2, 0, ⟨#[]⟩⟩⟩
theorem pR_eval {K : Int} (hK : 1 ≤ K ∧ K ≤ 3) (D : Bool) (c : List Nod) (t : Tar) : qF [] 4 (pR K D c t) = if metT t [] = 1 then ⟨qat (qaw [] (rR D c)).m, []⟩ else if metT t [] = 2 then qaw [] (rR D c) else noRs := by
  have h := eval_target [] 3 (pR K D c t)
  have e : qF [] (3 + 1) ((pR K D c t).putTarget []) = qaw [] (rR D c) := by
    have e1 : qF [] (3 + 1) ((pR K D c t).putTarget []) = wM (wW ⟨#[]⟩ K (pR K D c t)) 2 [qaw [] (rR D c)] := rfl
    rw [e1, join_one (x := qaw [] (rR D c)) (k := K) (by omega) (show (qaw [] (rR D c)).ok from effectS_ok _ _ _)]
    unfold wantSet
    rw [if_neg (by omega), if_neg (by omega), if_neg (by omega)]
  rw [e] at h
  exact h
theorem pR_right {K : Int} (hK : K = 1 ∨ K = 2 ∨ K = 3) (D : Bool) {c : List Nod} (hc : c = [] ∨ c = tN 1 ∨ c = tN 0 ∨ c = tX) {t : Tar} (ht : t = [] ∨ t = [[[mY true]]] ∨ t = [[[mY false]]]) : zb (pR K D c t) = 0 := by
  rcases hK with rfl | rfl | rfl <;> cases D <;> rcases hc with rfl | rfl | rfl | rfl <;> rcases ht with rfl | rfl | rfl <;> kernel_rfl
theorem nodF_fit (op k n : Int) (s : ByteArray) (c : Int) (a : ByteArray) (b : Bool) (h1 : R64 op) (h2 : R64 k) (h3 : R64 n) (h4 : s.size ≤ reachBytes) (h5 : R64 c) (h6 : a.size ≤ reachBytes) : (⟨op, ⟨k, n, s⟩, ⟨c, a, b⟩⟩ : Nod).Fit := ⟨h1, ⟨h2, h3, h4⟩, ⟨h5, h6⟩⟩
theorem n_fit {n : Int} (h : n = 0 ∨ n = 1) : ∀ x ∈ tN n, x.Fit := fun x hx => by
  unfold tN at hx
  rw [List.mem_singleton] at hx
  subst hx
  exact nodF_fit _ _ _ _ _ _ _ ⟨by decide, by decide⟩ ⟨by decide, by decide⟩ ⟨by omega, by omega⟩ (by decide) ⟨by decide, by decide⟩ (by decide)
theorem x_fit : ∀ x ∈ tX, x.Fit := fun x hx => by
  unfold tX at hx
  simp only [List.mem_cons, List.not_mem_nil, or_false] at hx
  rcases hx with rfl | rfl <;> exact nodF_fit _ _ _ _ _ _ _ ⟨by decide, by decide⟩ ⟨by decide, by decide⟩ ⟨by decide, by decide⟩ (by decide) ⟨by decide, by decide⟩ (by decide)
theorem pR_f {K : Int} (hK : 1 ≤ K ∧ K ≤ 3) (D : Bool) {c : List Nod} (hc : ∀ x ∈ c, x.Fit) {t : Tar} (ht : TarFit t) : PolF 1 (pR K D c t) := by
  refine ⟨⟨by show (⟨#[112]⟩ : ByteArray).size ≤ reachBytes; decide, ht, fun r hr => ?_, (fun x hx => by cases hx), by show 1 ≤ reachBytes; decide, by show 0 ≤ reachBytes; decide⟩, ⟨by show _ ≤ K; omega, by show K ≤ _; omega⟩, fun q hq => by cases hq⟩
  have hr' : r ∈ [rR D c] := hr
  rw [List.mem_singleton] at hr'
  subst hr'
  refine ⟨by show (⟨#[114]⟩ : ByteArray).size ≤ reachBytes; decide, (fun x hx => by cases hx), hc, fun o ho => ?_⟩
  have ho' : o ∈ [oA, oB] := ho
  simp only [List.mem_cons, List.not_mem_nil, or_false] at ho'
  rcases ho' with rfl | rfl <;> exact ⟨⟨by decide, by decide⟩, ⟨by decide, by decide⟩, by decide⟩
theorem nil_ok : GivOk [] := ⟨(fun x hx => by cases hx), Nat.zero_le _, (fun x hx => by cases hx)⟩
theorem mY_fit (b : Bool) : TarFit [[[mY b]]] := fun x hx y hy m hm => by
  rw [List.mem_singleton] at hx; subst hx
  rw [List.mem_singleton] at hy; subst hy
  rw [List.mem_singleton] at hm; subst hm
  cases b <;> exact ⟨⟨⟨by decide, by decide⟩, by decide⟩, ⟨by decide, by decide⟩, ⟨⟨by decide, by decide⟩, ⟨by decide, by decide⟩, by decide⟩⟩
theorem truthN_h (n : Int) : Holds Tryz.prog 24 [pI n] (.row 0) [(0, .row 56 7 ((tN n).map Nod.pv))] := by
  refine qA (ts := [2]) Tryz.func24 (by kernel_rfl) rfl rfl rfl ?_
  (repeat refine qb ?_); refine qa ?_
  repeat (first | refine zR ?_ | refine zK ?_ | refine zM ?_ | refine zB ?_ | refine zA ?_ | refine zS ?_ | refine zL ?_)
  refine qc ?_
  (repeat refine qb ?_); refine qa ?_
  repeat (first | refine zR ?_ | refine zK ?_ | refine zM ?_ | refine zB ?_ | refine zA ?_ | refine zS ?_ | refine zL ?_)
  refine qc ?_
  (repeat refine qb ?_); refine qk ?_
  exact ⟨Or.inr rfl, _, _, [(6, 0)], Wk.refl _, rfl, rfl, rfl, rfl⟩
theorem pR_sz (K : Int) (D : Bool) (c : List Nod) (t : Tar) (hc : c.length + qT nsz c ≤ 50) (ht : tsz t ≤ 50) : (pR K D c t).sz ≤ 100000 := by
  have h2 : (pR K D c t).sz = 1 + 1 + txt ⟨#[112]⟩ + tsz t + osz [] + qT rusz [rR D c] + qT Pol.sz [] := Pol.sz_eq (pR K D c t)
  have h3 : txt ⟨#[112]⟩ = 1 := rfl
  have h5 : osz ([] : List Obli) = 0 := rfl
  have h6 : qT rusz [rR D c] = rusz (rR D c) := by simp [qT]
  have h7 : qT Pol.sz [] = 0 := rfl
  have h8 : rusz (rR D c) = txt ⟨#[114]⟩ + tsz [] + c.length + osz [oA, oB] + qT nsz c := rfl
  have h9 : txt ⟨#[114]⟩ = 1 := rfl
  have h10 : tsz ([] : Tar) = 1 := rfl
  have h11 : osz [oA, oB] = 4 := rfl
  omega
theorem pR_cv (K : Int) (D : Bool) (c : List Nod) (cp : PV) (hc : Cv cp (qar c)) (t : Tar) (tp : PV) (ht : Cv tp (tgtP t)) : CvL [.agg [pS ⟨#[112]⟩, pB false, pI K, tp, .sl 5 [[pS ⟨#[114]⟩, pB D, nilV, cp, .sl 3 [oA.pv, oB.pv]]], nilV, nilV], nilV] [.agg (polP (pR K D c t)), zP []] := by
  have e : polP (pR K D c t) = [pS ⟨#[112]⟩, pB false, pI K, tgtP t, .sl 5 [zt (rR D c)], .sl 7 [], zQ []] := rfl
  rw [e]
  have er : zt (rR D c) = [pS ⟨#[114]⟩, pB D, tgtP [], qar c, .sl 3 [oA.pv, oB.pv]] := rfl
  rw [er]
  exact .cons (CvL.agg (.cons (.refl _) (.cons (.refl _) (.cons (.refl _) (.cons ht (.cons (CvM.sl (.cons (.cons (.refl _) (.cons (.refl _) (.cons (.nil 1) (.cons hc (.cons (.refl _) .nil))))) .nil)) (.cons (.nil 7) (.cons (.nil 3) .nil)))))))) (.cons (.nil 3) .nil)
theorem pR_h {K : Int} (hK : 1 ≤ K ∧ K ≤ 3) (D : Bool) {c : List Nod} (hc : c = [] ∨ c = tN 1 ∨ c = tN 0 ∨ c = tX) {cp : PV} (hcp : Cv cp (qar c)) {t : Tar} (ht : t = [] ∨ t = [[[mY true]]] ∨ t = [[[mY false]]]) {tp : PV} (htp : Cv tp (tgtP t)) {x : Rs}
    (hx : (if metT t [] = 1 then ⟨qat (qaw [] (rR D c)).m, []⟩ else if metT t [] = 2 then qaw [] (rR D c) else noRs) = x) :
    Holds Tryz.prog 19 [.agg [pS ⟨#[112]⟩, pB false, pI K, tp, .sl 5 [[pS ⟨#[114]⟩, pB D, nilV, cp, .sl 3 [oA.pv, oB.pv]]], nilV, nilV], nilV] (.tup [.p (.agg (rsP x)), .p (pI 0)]) [] := by
  have hcf : ∀ n ∈ c, n.Fit := by
    rcases hc with rfl | rfl | rfl | rfl
    · exact fun n hn => by cases hn
    · exact n_fit (.inr rfl)
    · exact n_fit (.inl rfl)
    · exact x_fit
  have htf : TarFit t := by
    rcases ht with rfl | rfl | rfl
    · exact fun n hn => by cases hn
    · exact mY_fit true
    · exact mY_fit false
  have hsz := pR_sz K D c t (by rcases hc with rfl | rfl | rfl | rfl <;> decide) (by rcases ht with rfl | rfl | rfl <;> decide)
  have hr := pR_right (K := K) (by omega) D hc ht
  have H := evPol_h (pR K D c t) (pR_f hK D hcf htf) hsz [] nil_ok
  rw [evalS_right hr, pR_eval hK, hx] at H
  exact H.cv (pR_cv K D c cp hcp t tp htp)
theorem evalRules_h (k : Int) (hk : R64 k) (D : Bool) (cc : Int) (hcc : R64 cc) (must : Bool) : Holds Tryz.prog 5 [pI k, pB D, pI cc, pB must] (.p (pB true)) [] := by
  have HW1 := within_h k 0 2 hk (by omega) (by omega) (by omega)
  have HW2 := within_h cc 0 3 hcc (by omega) (by omega) (by omega)
  obtain ⟨i, hi, hi3⟩ : ∃ i : Nat, 0 + k % (2 - 0 + 1) = (i : Int) ∧ i < 3 := ⟨(k % 3).toNat, by omega, by omega⟩
  obtain ⟨j, hje, hj⟩ : ∃ j : Int, 0 + cc % (3 - 0 + 1) = j ∧ (j = 0 ∨ j = 1 ∨ j = 2 ∨ j = 3) := ⟨_, rfl, by omega⟩
  rw [hi] at HW1
  rw [hje] at HW2
  obtain ⟨K, hK, hK3⟩ : ∃ K : Int, ([[pI 1], [pI 2], [pI 3]] : List (List PV)).getD (Int.toNat (i : Int)) [] = [pI K] ∧ (1 ≤ K ∧ K ≤ 3) := by
    rcases (show i = 0 ∨ i = 1 ∨ i = 2 by omega) with rfl | rfl | rfl
    · exact ⟨1, rfl, by omega, by omega⟩
    · exact ⟨2, rfl, by omega, by omega⟩
    · exact ⟨3, rfl, by omega, by omega⟩
  refine qA (ts := [8]) Tryz.func5 (by kernel_rfl) rfl rfl rfl ?_
  (repeat refine qb ?_); refine qa ?_
  repeat (first | refine zR ?_ | refine zK ?_ | refine zM ?_ | refine zB ?_ | refine zA ?_ | refine zS ?_ | refine zL ?_)
  refine qc ?_
  (repeat refine qb ?_); refine qa ?_
  repeat (first | refine zR ?_ | refine zK ?_ | refine zM ?_ | refine zB ?_ | refine zA ?_ | refine zS ?_ | refine zL ?_)
  refine qn rfl (qg rfl rfl rfl rfl (HW1) rfl rfl ?_)
  repeat (first | refine zR ?_ | refine zK ?_ | refine zM ?_ | refine zB ?_ | refine zA ?_ | refine zS ?_ | refine zL ?_)
  refine qw qe rfl rfl (by simp; omega) rfl ?_
  refine qw qe rfl (za rfl rfl rfl rfl rfl hK rfl) (by simp; omega) rfl ?_
  repeat (first | refine zR ?_ | refine zK ?_ | refine zM ?_ | refine zB ?_ | refine zA ?_ | refine zS ?_ | refine zL ?_)
  refine qc ?_
  refine SW.wk (qq [1, 2, 3, 9] [] rfl rfl) ?_
  (repeat refine qb ?_); refine qa ?_
  repeat (first | refine zR ?_ | refine zK ?_ | refine zM ?_ | refine zB ?_ | refine zA ?_ | refine zS ?_ | refine zL ?_)
  refine qc ?_
  (repeat refine qb ?_); refine qa ?_
  repeat (first | refine zR ?_ | refine zK ?_ | refine zM ?_ | refine zB ?_ | refine zA ?_ | refine zS ?_ | refine zL ?_)
  refine qn rfl (qg rfl rfl rfl rfl (HW2) rfl rfl ?_)
  repeat (first | refine zR ?_ | refine zK ?_ | refine zM ?_ | refine zB ?_ | refine zA ?_ | refine zS ?_ | refine zL ?_)
  refine qc ?_
  (repeat refine qb ?_); refine qa ?_
  repeat (first | refine zR ?_ | refine zK ?_ | refine zM ?_ | refine zB ?_ | refine zA ?_ | refine zS ?_ | refine zL ?_)
  refine qc ?_
  refine SW.wk (zN (k := 30) rfl) ?_
  refine SW.wk (qq [1, 3, 9, 10, 11, 12] [(12, 12)] rfl rfl) ?_
  (repeat refine qb ?_); refine qa ?_
  repeat (first | refine zR ?_ | refine zK ?_ | refine zM ?_ | refine zB ?_ | refine zA ?_ | refine zS ?_ | refine zL ?_)
  refine qc ?_
  (repeat refine qb ?_); refine ql ?_
  rcases hj with rfl | rfl | rfl | rfl <;> cases D
  · (repeat refine qb ?_); refine qa ?_
    repeat (first | refine zR ?_ | refine zK ?_ | refine zM ?_ | refine zB ?_ | refine zA ?_ | refine zS ?_ | refine zL ?_)
    refine qc ?_
    (repeat refine qb ?_); refine qf rfl (fun c1 => ?_) (fun c1 => ?_)
    · cases c1
    (repeat refine qb ?_); refine qa ?_
    repeat (first | refine zR ?_ | refine zK ?_ | refine zM ?_ | refine zB ?_ | refine zA ?_ | refine zS ?_ | refine zL ?_)
    refine qc ?_
    (repeat refine qb ?_); refine qf rfl (fun c2 => ?_) (fun c2 => ?_)
    · cases c2
    (repeat refine qb ?_); refine qa ?_
    repeat (first | refine zR ?_ | refine zK ?_ | refine zM ?_ | refine zB ?_ | refine zA ?_ | refine zS ?_ | refine zL ?_)
    refine qc ?_
    (repeat refine qb ?_); refine qf rfl (fun c3 => ?_) (fun c3 => ?_)
    · cases c3
    refine qm ?_
    refine SW.wk (qq [1, 3, 9, 11, 12] [(12, 12)] rfl rfl) ?_
    change SW _ _ _ ⟨115, [(1, .p (pB false)), (3, .p (pB must)), (9, .p (pI K)), (11, .p (pI 0)), (12, .ptr 12 0)], [(12, .cells [.p (pS ⟨#[114]⟩), .p (pB false), .p nilV, .p (nilV), .p (.sl 3 [oA.pv, oB.pv])])]⟩
    (repeat refine qb ?_); refine qa ?_
    repeat (first | refine zR ?_ | refine zK ?_ | refine zM ?_ | refine zB ?_ | refine zA ?_ | refine zS ?_ | refine zL ?_)
    refine qw qe rfl rfl (by decide) rfl ?_
    repeat (first | refine zR ?_ | refine zK ?_ | refine zM ?_ | refine zB ?_ | refine zA ?_ | refine zS ?_ | refine zL ?_)
    refine qc ?_
    (repeat refine qb ?_); refine qa ?_
    repeat (first | refine zR ?_ | refine zK ?_ | refine zM ?_ | refine zB ?_ | refine zA ?_ | refine zS ?_ | refine zL ?_)
    refine qc ?_
    (repeat refine qb ?_); refine qf rfl (fun d1 => ?_) (fun d1 => ?_)
    · cases d1
    refine qm ?_
    (repeat refine qb ?_); refine qa ?_
    repeat (first | refine zR ?_ | refine zK ?_ | refine zM ?_ | refine zB ?_ | refine zA ?_ | refine zS ?_ | refine zL ?_)
    refine qc ?_
    (repeat refine qb ?_); refine qf rfl (fun d2 => ?_) (fun d2 => ?_)
    · cases d2
    refine qm ?_
    (repeat refine qb ?_); refine qa ?_
    repeat (first | refine zR ?_ | refine zK ?_ | refine zM ?_ | refine zB ?_ | refine zA ?_ | refine zS ?_ | refine zL ?_)
    refine qc ?_
    (repeat refine qb ?_); refine qf rfl (fun d3 => ?_) (fun d3 => ?_)
    · cases d3
    refine qm ?_
    (repeat refine qb ?_); refine qa ?_
    repeat (first | refine zR ?_ | refine zK ?_ | refine zM ?_ | refine zB ?_ | refine zA ?_ | refine zS ?_ | refine zL ?_)
    refine qc ?_
    refine SW.wk (zN (k := 70) rfl) ?_
    refine SW.wk (qq [3, 9, 12, 13, 14] [(12, 12), (13, 13), (14, 14)] rfl rfl) ?_
    change SW _ _ _ ⟨115, [(3, .p (pB must)), (9, .p (pI K)), (12, .ptr 12 0), (13, .ptr 13 0), (14, .ptr 14 0)], [(12, .cells [.p (pS ⟨#[114]⟩), .p (pB false), .p nilV, .p (nilV), .p (.sl 3 [oA.pv, oB.pv])]), (13, .cells [.p (mkP (2, 0)), .p (.sl 3 [oA.pv])]), (14, .cells [.p (pS ⟨#[112]⟩), .p (pB false), .p (pI K), .p nilV, .p (.sl 5 [[pS ⟨#[114]⟩, pB false, nilV, nilV, .sl 3 [oA.pv, oB.pv]]]), .p nilV, .p nilV])]⟩
    have H1 := pR_h hK3 false (.inl rfl) (cp := nilV) (.nil 7) (t := []) (.inl rfl) (tp := nilV) (.nil 1) (x := ⟨(2, 0), [oA]⟩) (by kernel_rfl)
    (repeat refine qb ?_); refine qa ?_
    repeat (first | refine zR ?_ | refine zK ?_ | refine zM ?_ | refine zB ?_ | refine zA ?_ | refine zS ?_ | refine zL ?_)
    refine qn rfl (qD rfl rfl rfl rfl (H1) rfl rfl rfl ?_)
    repeat (first | refine zR ?_ | refine zK ?_ | refine zM ?_ | refine zB ?_ | refine zA ?_ | refine zS ?_ | refine zL ?_)
    refine qc ?_
    refine SW.wk (qq [3, 9, 12, 13, 14, 15, 16] [(12, 12), (13, 13), (14, 14), (15, 15)] rfl rfl) ?_
    cases must with
    | true =>
      have H2 := pR_h hK3 false (.inl rfl) (cp := nilV) (.nil 7) (t := [[[mY true]]]) (.inr (.inl rfl)) (.refl _) (x := ⟨qat (2, 0), []⟩) (by kernel_rfl)
      (repeat refine qb ?_); refine qa ?_
      repeat (first | refine zR ?_ | refine zK ?_ | refine zM ?_ | refine zB ?_ | refine zA ?_ | refine zS ?_ | refine zL ?_)
      refine SWT.wk (zN (k := 81) rfl) ?_
      repeat (first | refine zR ?_ | refine zK ?_ | refine zM ?_ | refine zB ?_ | refine zA ?_ | refine zS ?_ | refine zL ?_)
      refine SWT.wk (zN (k := 82) rfl) ?_
      repeat (first | refine zR ?_ | refine zK ?_ | refine zM ?_ | refine zB ?_ | refine zA ?_ | refine zS ?_ | refine zL ?_)
      refine SWT.wk (zN (k := 83) rfl) ?_
      repeat (first | refine zR ?_ | refine zK ?_ | refine zM ?_ | refine zB ?_ | refine zA ?_ | refine zS ?_ | refine zL ?_)
      refine qc ?_
      refine SW.wk (qq [3, 13, 14, 15, 16] [(13, 13), (14, 14), (15, 15)] rfl rfl) ?_
      change SW _ _ _ ⟨115, [(3, .p (pB true)), (13, .ptr 13 0), (14, .ptr 14 0), (15, .ptr 15 0), (16, .p (pI 0))], [(13, .cells [.p (mkP (2, 0)), .p (.sl 3 [oA.pv])]), (14, .cells [.p (pS ⟨#[112]⟩), .p (pB false), .p (pI K), .p (tgtP [[[mY true]]]), .p (.sl 5 [[pS ⟨#[114]⟩, pB false, nilV, nilV, .sl 3 [oA.pv, oB.pv]]]), .p nilV, .p nilV]), (15, .cells [.p (mkP (2, 0)), .p (zQ [oA])])]⟩
      (repeat refine qb ?_); refine qa ?_
      repeat (first | refine zR ?_ | refine zK ?_ | refine zM ?_ | refine zB ?_ | refine zA ?_ | refine zS ?_ | refine zL ?_)
      refine qn rfl (qD rfl rfl rfl rfl (H2) rfl rfl rfl ?_)
      repeat (first | refine zR ?_ | refine zK ?_ | refine zM ?_ | refine zB ?_ | refine zA ?_ | refine zS ?_ | refine zL ?_)
      refine qc ?_
      (repeat refine qb ?_); refine qa ?_
      repeat (first | refine zR ?_ | refine zK ?_ | refine zM ?_ | refine zB ?_ | refine zA ?_ | refine zS ?_ | refine zL ?_)
      refine qc ?_
      (repeat refine qb ?_); refine qa ?_
      repeat (first | refine zR ?_ | refine zK ?_ | refine zM ?_ | refine zB ?_ | refine zA ?_ | refine zS ?_ | refine zL ?_)
      refine qc ?_
      (repeat refine qb ?_); refine qf rfl (fun hm => ?_) (fun hm => ?_)
      · (repeat refine qb ?_); refine qa ?_
        repeat (first | refine zR ?_ | refine zK ?_ | refine zM ?_ | refine zB ?_ | refine zA ?_ | refine zS ?_ | refine zL ?_)
        refine qn rfl (qg rfl rfl rfl rfl (qas (2, 0) (by simp [mks])) rfl rfl ?_)
        repeat (first | refine zR ?_ | refine zK ?_ | refine zM ?_ | refine zB ?_ | refine zA ?_ | refine zS ?_ | refine zL ?_)
        refine qc ?_
        refine SW.wk (qq [13, 15, 16, 17, 18, 19] [(13, 13), (15, 15), (17, 17), (19, 19)] rfl rfl) ?_
        (repeat refine qb ?_); refine qa ?_
        repeat (first | refine zR ?_ | refine zK ?_ | refine zM ?_ | refine zB ?_ | refine zA ?_ | refine zS ?_ | refine zL ?_)
        refine qn rfl (qg rfl rfl rfl rfl ((qav ⟨(2, 0), [oA]⟩ (by simp [mks]) (by show 1 ≤ 1000000; omega))) rfl rfl ?_)
        repeat (first | refine zR ?_ | refine zK ?_ | refine zM ?_ | refine zB ?_ | refine zA ?_ | refine zS ?_ | refine zL ?_)
        refine qn rfl (qg rfl rfl rfl rfl ((qaq (qat (2, 0)) (qau (by simp [mks])))) rfl rfl ?_)
        repeat (first | refine zR ?_ | refine zK ?_ | refine zM ?_ | refine zB ?_ | refine zA ?_ | refine zS ?_ | refine zL ?_)
        refine qn rfl (qg rfl rfl rfl rfl (jB) rfl rfl ?_)
        repeat (first | refine zR ?_ | refine zK ?_ | refine zM ?_ | refine zB ?_ | refine zA ?_ | refine zS ?_ | refine zL ?_)
        refine qc ?_
        (repeat refine qb ?_); refine qk ?_
        exact wS rfl rfl
      · cases hm
    | false =>
      have H2 := pR_h hK3 false (.inl rfl) (cp := nilV) (.nil 7) (t := [[[mY false]]]) (.inr (.inr rfl)) (.refl _) (x := noRs) (by kernel_rfl)
      (repeat refine qb ?_); refine qa ?_
      repeat (first | refine zR ?_ | refine zK ?_ | refine zM ?_ | refine zB ?_ | refine zA ?_ | refine zS ?_ | refine zL ?_)
      refine SWT.wk (zN (k := 81) rfl) ?_
      repeat (first | refine zR ?_ | refine zK ?_ | refine zM ?_ | refine zB ?_ | refine zA ?_ | refine zS ?_ | refine zL ?_)
      refine SWT.wk (zN (k := 82) rfl) ?_
      repeat (first | refine zR ?_ | refine zK ?_ | refine zM ?_ | refine zB ?_ | refine zA ?_ | refine zS ?_ | refine zL ?_)
      refine SWT.wk (zN (k := 83) rfl) ?_
      repeat (first | refine zR ?_ | refine zK ?_ | refine zM ?_ | refine zB ?_ | refine zA ?_ | refine zS ?_ | refine zL ?_)
      refine qc ?_
      refine SW.wk (qq [3, 13, 14, 15, 16] [(13, 13), (14, 14), (15, 15)] rfl rfl) ?_
      change SW _ _ _ ⟨115, [(3, .p (pB false)), (13, .ptr 13 0), (14, .ptr 14 0), (15, .ptr 15 0), (16, .p (pI 0))], [(13, .cells [.p (mkP (2, 0)), .p (.sl 3 [oA.pv])]), (14, .cells [.p (pS ⟨#[112]⟩), .p (pB false), .p (pI K), .p (tgtP [[[mY false]]]), .p (.sl 5 [[pS ⟨#[114]⟩, pB false, nilV, nilV, .sl 3 [oA.pv, oB.pv]]]), .p nilV, .p nilV]), (15, .cells [.p (mkP (2, 0)), .p (zQ [oA])])]⟩
      (repeat refine qb ?_); refine qa ?_
      repeat (first | refine zR ?_ | refine zK ?_ | refine zM ?_ | refine zB ?_ | refine zA ?_ | refine zS ?_ | refine zL ?_)
      refine qn rfl (qD rfl rfl rfl rfl (H2) rfl rfl rfl ?_)
      repeat (first | refine zR ?_ | refine zK ?_ | refine zM ?_ | refine zB ?_ | refine zA ?_ | refine zS ?_ | refine zL ?_)
      refine qc ?_
      (repeat refine qb ?_); refine qa ?_
      repeat (first | refine zR ?_ | refine zK ?_ | refine zM ?_ | refine zB ?_ | refine zA ?_ | refine zS ?_ | refine zL ?_)
      refine qc ?_
      (repeat refine qb ?_); refine qa ?_
      repeat (first | refine zR ?_ | refine zK ?_ | refine zM ?_ | refine zB ?_ | refine zA ?_ | refine zS ?_ | refine zL ?_)
      refine qc ?_
      (repeat refine qb ?_); refine qf rfl (fun hm => ?_) (fun hm => ?_)
      · cases hm
      · refine qm ?_
        refine SW.wk (qq [13, 15, 16, 17, 18, 19] [(13, 13), (15, 15), (17, 17), (19, 19)] rfl rfl) ?_
        (repeat refine qb ?_); refine qa ?_
        repeat (first | refine zR ?_ | refine zK ?_ | refine zM ?_ | refine zB ?_ | refine zA ?_ | refine zS ?_ | refine zL ?_)
        refine qn rfl (qg rfl rfl rfl rfl ((qav ⟨(2, 0), [oA]⟩ (by simp [mks]) (by show 1 ≤ 1000000; omega))) rfl rfl ?_)
        repeat (first | refine zR ?_ | refine zK ?_ | refine zM ?_ | refine zB ?_ | refine zA ?_ | refine zS ?_ | refine zL ?_)
        refine qn rfl (qg rfl rfl rfl rfl ((qaq (0, 0) (by simp [mks]))) rfl rfl ?_)
        repeat (first | refine zR ?_ | refine zK ?_ | refine zM ?_ | refine zB ?_ | refine zA ?_ | refine zS ?_ | refine zL ?_)
        refine qn rfl (qg rfl rfl rfl rfl (jB) rfl rfl ?_)
        repeat (first | refine zR ?_ | refine zK ?_ | refine zM ?_ | refine zB ?_ | refine zA ?_ | refine zS ?_ | refine zL ?_)
        refine qc ?_
        (repeat refine qb ?_); refine qk ?_
        exact wS rfl rfl
  · (repeat refine qb ?_); refine qa ?_
    repeat (first | refine zR ?_ | refine zK ?_ | refine zM ?_ | refine zB ?_ | refine zA ?_ | refine zS ?_ | refine zL ?_)
    refine qc ?_
    (repeat refine qb ?_); refine qf rfl (fun c1 => ?_) (fun c1 => ?_)
    · cases c1
    (repeat refine qb ?_); refine qa ?_
    repeat (first | refine zR ?_ | refine zK ?_ | refine zM ?_ | refine zB ?_ | refine zA ?_ | refine zS ?_ | refine zL ?_)
    refine qc ?_
    (repeat refine qb ?_); refine qf rfl (fun c2 => ?_) (fun c2 => ?_)
    · cases c2
    (repeat refine qb ?_); refine qa ?_
    repeat (first | refine zR ?_ | refine zK ?_ | refine zM ?_ | refine zB ?_ | refine zA ?_ | refine zS ?_ | refine zL ?_)
    refine qc ?_
    (repeat refine qb ?_); refine qf rfl (fun c3 => ?_) (fun c3 => ?_)
    · cases c3
    refine qm ?_
    refine SW.wk (qq [1, 3, 9, 11, 12] [(12, 12)] rfl rfl) ?_
    change SW _ _ _ ⟨115, [(1, .p (pB true)), (3, .p (pB must)), (9, .p (pI K)), (11, .p (pI 0)), (12, .ptr 12 0)], [(12, .cells [.p (pS ⟨#[114]⟩), .p (pB true), .p nilV, .p (nilV), .p (.sl 3 [oA.pv, oB.pv])])]⟩
    (repeat refine qb ?_); refine qa ?_
    repeat (first | refine zR ?_ | refine zK ?_ | refine zM ?_ | refine zB ?_ | refine zA ?_ | refine zS ?_ | refine zL ?_)
    refine qw qe rfl rfl (by decide) rfl ?_
    repeat (first | refine zR ?_ | refine zK ?_ | refine zM ?_ | refine zB ?_ | refine zA ?_ | refine zS ?_ | refine zL ?_)
    refine qc ?_
    (repeat refine qb ?_); refine qa ?_
    repeat (first | refine zR ?_ | refine zK ?_ | refine zM ?_ | refine zB ?_ | refine zA ?_ | refine zS ?_ | refine zL ?_)
    refine qc ?_
    (repeat refine qb ?_); refine qf rfl (fun d1 => ?_) (fun d1 => ?_)
    rotate_left
    · cases d1
    (repeat refine qb ?_); refine qa ?_
    repeat (first | refine zR ?_ | refine zK ?_ | refine zM ?_ | refine zB ?_ | refine zA ?_ | refine zS ?_ | refine zL ?_)
    refine qw qe rfl rfl (by decide) rfl ?_
    repeat (first | refine zR ?_ | refine zK ?_ | refine zM ?_ | refine zB ?_ | refine zA ?_ | refine zS ?_ | refine zL ?_)
    refine qc ?_
    (repeat refine qb ?_); refine qa ?_
    repeat (first | refine zR ?_ | refine zK ?_ | refine zM ?_ | refine zB ?_ | refine zA ?_ | refine zS ?_ | refine zL ?_)
    refine qc ?_
    (repeat refine qb ?_); refine qf rfl (fun d2 => ?_) (fun d2 => ?_)
    · cases d2
    refine qm ?_
    (repeat refine qb ?_); refine qa ?_
    repeat (first | refine zR ?_ | refine zK ?_ | refine zM ?_ | refine zB ?_ | refine zA ?_ | refine zS ?_ | refine zL ?_)
    refine qc ?_
    (repeat refine qb ?_); refine qf rfl (fun d3 => ?_) (fun d3 => ?_)
    · cases d3
    refine qm ?_
    (repeat refine qb ?_); refine qa ?_
    repeat (first | refine zR ?_ | refine zK ?_ | refine zM ?_ | refine zB ?_ | refine zA ?_ | refine zS ?_ | refine zL ?_)
    refine qc ?_
    refine SW.wk (zN (k := 70) rfl) ?_
    refine SW.wk (qq [3, 9, 12, 13, 14] [(12, 12), (13, 13), (14, 14)] rfl rfl) ?_
    change SW _ _ _ ⟨115, [(3, .p (pB must)), (9, .p (pI K)), (12, .ptr 12 0), (13, .ptr 13 0), (14, .ptr 14 0)], [(12, .cells [.p (pS ⟨#[114]⟩), .p (pB true), .p nilV, .p (nilV), .p (.sl 3 [oA.pv, oB.pv])]), (13, .cells [.p (mkP (0, 2)), .p (.sl 3 [oB.pv])]), (14, .cells [.p (pS ⟨#[112]⟩), .p (pB false), .p (pI K), .p nilV, .p (.sl 5 [[pS ⟨#[114]⟩, pB true, nilV, nilV, .sl 3 [oA.pv, oB.pv]]]), .p nilV, .p nilV])]⟩
    have H1 := pR_h hK3 true (.inl rfl) (cp := nilV) (.nil 7) (t := []) (.inl rfl) (tp := nilV) (.nil 1) (x := ⟨(0, 2), [oB]⟩) (by kernel_rfl)
    (repeat refine qb ?_); refine qa ?_
    repeat (first | refine zR ?_ | refine zK ?_ | refine zM ?_ | refine zB ?_ | refine zA ?_ | refine zS ?_ | refine zL ?_)
    refine qn rfl (qD rfl rfl rfl rfl (H1) rfl rfl rfl ?_)
    repeat (first | refine zR ?_ | refine zK ?_ | refine zM ?_ | refine zB ?_ | refine zA ?_ | refine zS ?_ | refine zL ?_)
    refine qc ?_
    refine SW.wk (qq [3, 9, 12, 13, 14, 15, 16] [(12, 12), (13, 13), (14, 14), (15, 15)] rfl rfl) ?_
    cases must with
    | true =>
      have H2 := pR_h hK3 true (.inl rfl) (cp := nilV) (.nil 7) (t := [[[mY true]]]) (.inr (.inl rfl)) (.refl _) (x := ⟨qat (0, 2), []⟩) (by kernel_rfl)
      (repeat refine qb ?_); refine qa ?_
      repeat (first | refine zR ?_ | refine zK ?_ | refine zM ?_ | refine zB ?_ | refine zA ?_ | refine zS ?_ | refine zL ?_)
      refine SWT.wk (zN (k := 81) rfl) ?_
      repeat (first | refine zR ?_ | refine zK ?_ | refine zM ?_ | refine zB ?_ | refine zA ?_ | refine zS ?_ | refine zL ?_)
      refine SWT.wk (zN (k := 82) rfl) ?_
      repeat (first | refine zR ?_ | refine zK ?_ | refine zM ?_ | refine zB ?_ | refine zA ?_ | refine zS ?_ | refine zL ?_)
      refine SWT.wk (zN (k := 83) rfl) ?_
      repeat (first | refine zR ?_ | refine zK ?_ | refine zM ?_ | refine zB ?_ | refine zA ?_ | refine zS ?_ | refine zL ?_)
      refine qc ?_
      refine SW.wk (qq [3, 13, 14, 15, 16] [(13, 13), (14, 14), (15, 15)] rfl rfl) ?_
      change SW _ _ _ ⟨115, [(3, .p (pB true)), (13, .ptr 13 0), (14, .ptr 14 0), (15, .ptr 15 0), (16, .p (pI 0))], [(13, .cells [.p (mkP (0, 2)), .p (.sl 3 [oB.pv])]), (14, .cells [.p (pS ⟨#[112]⟩), .p (pB false), .p (pI K), .p (tgtP [[[mY true]]]), .p (.sl 5 [[pS ⟨#[114]⟩, pB true, nilV, nilV, .sl 3 [oA.pv, oB.pv]]]), .p nilV, .p nilV]), (15, .cells [.p (mkP (0, 2)), .p (zQ [oB])])]⟩
      (repeat refine qb ?_); refine qa ?_
      repeat (first | refine zR ?_ | refine zK ?_ | refine zM ?_ | refine zB ?_ | refine zA ?_ | refine zS ?_ | refine zL ?_)
      refine qn rfl (qD rfl rfl rfl rfl (H2) rfl rfl rfl ?_)
      repeat (first | refine zR ?_ | refine zK ?_ | refine zM ?_ | refine zB ?_ | refine zA ?_ | refine zS ?_ | refine zL ?_)
      refine qc ?_
      (repeat refine qb ?_); refine qa ?_
      repeat (first | refine zR ?_ | refine zK ?_ | refine zM ?_ | refine zB ?_ | refine zA ?_ | refine zS ?_ | refine zL ?_)
      refine qc ?_
      (repeat refine qb ?_); refine qa ?_
      repeat (first | refine zR ?_ | refine zK ?_ | refine zM ?_ | refine zB ?_ | refine zA ?_ | refine zS ?_ | refine zL ?_)
      refine qc ?_
      (repeat refine qb ?_); refine qf rfl (fun hm => ?_) (fun hm => ?_)
      · (repeat refine qb ?_); refine qa ?_
        repeat (first | refine zR ?_ | refine zK ?_ | refine zM ?_ | refine zB ?_ | refine zA ?_ | refine zS ?_ | refine zL ?_)
        refine qn rfl (qg rfl rfl rfl rfl (qas (0, 2) (by simp [mks])) rfl rfl ?_)
        repeat (first | refine zR ?_ | refine zK ?_ | refine zM ?_ | refine zB ?_ | refine zA ?_ | refine zS ?_ | refine zL ?_)
        refine qc ?_
        refine SW.wk (qq [13, 15, 16, 17, 18, 19] [(13, 13), (15, 15), (17, 17), (19, 19)] rfl rfl) ?_
        (repeat refine qb ?_); refine qa ?_
        repeat (first | refine zR ?_ | refine zK ?_ | refine zM ?_ | refine zB ?_ | refine zA ?_ | refine zS ?_ | refine zL ?_)
        refine qn rfl (qg rfl rfl rfl rfl ((qav ⟨(0, 2), [oB]⟩ (by simp [mks]) (by show 1 ≤ 1000000; omega))) rfl rfl ?_)
        repeat (first | refine zR ?_ | refine zK ?_ | refine zM ?_ | refine zB ?_ | refine zA ?_ | refine zS ?_ | refine zL ?_)
        refine qn rfl (qg rfl rfl rfl rfl ((qaq (qat (0, 2)) (qau (by simp [mks])))) rfl rfl ?_)
        repeat (first | refine zR ?_ | refine zK ?_ | refine zM ?_ | refine zB ?_ | refine zA ?_ | refine zS ?_ | refine zL ?_)
        refine qn rfl (qg rfl rfl rfl rfl (jB) rfl rfl ?_)
        repeat (first | refine zR ?_ | refine zK ?_ | refine zM ?_ | refine zB ?_ | refine zA ?_ | refine zS ?_ | refine zL ?_)
        refine qc ?_
        (repeat refine qb ?_); refine qk ?_
        exact wS rfl rfl
      · cases hm
    | false =>
      have H2 := pR_h hK3 true (.inl rfl) (cp := nilV) (.nil 7) (t := [[[mY false]]]) (.inr (.inr rfl)) (.refl _) (x := noRs) (by kernel_rfl)
      (repeat refine qb ?_); refine qa ?_
      repeat (first | refine zR ?_ | refine zK ?_ | refine zM ?_ | refine zB ?_ | refine zA ?_ | refine zS ?_ | refine zL ?_)
      refine SWT.wk (zN (k := 81) rfl) ?_
      repeat (first | refine zR ?_ | refine zK ?_ | refine zM ?_ | refine zB ?_ | refine zA ?_ | refine zS ?_ | refine zL ?_)
      refine SWT.wk (zN (k := 82) rfl) ?_
      repeat (first | refine zR ?_ | refine zK ?_ | refine zM ?_ | refine zB ?_ | refine zA ?_ | refine zS ?_ | refine zL ?_)
      refine SWT.wk (zN (k := 83) rfl) ?_
      repeat (first | refine zR ?_ | refine zK ?_ | refine zM ?_ | refine zB ?_ | refine zA ?_ | refine zS ?_ | refine zL ?_)
      refine qc ?_
      refine SW.wk (qq [3, 13, 14, 15, 16] [(13, 13), (14, 14), (15, 15)] rfl rfl) ?_
      change SW _ _ _ ⟨115, [(3, .p (pB false)), (13, .ptr 13 0), (14, .ptr 14 0), (15, .ptr 15 0), (16, .p (pI 0))], [(13, .cells [.p (mkP (0, 2)), .p (.sl 3 [oB.pv])]), (14, .cells [.p (pS ⟨#[112]⟩), .p (pB false), .p (pI K), .p (tgtP [[[mY false]]]), .p (.sl 5 [[pS ⟨#[114]⟩, pB true, nilV, nilV, .sl 3 [oA.pv, oB.pv]]]), .p nilV, .p nilV]), (15, .cells [.p (mkP (0, 2)), .p (zQ [oB])])]⟩
      (repeat refine qb ?_); refine qa ?_
      repeat (first | refine zR ?_ | refine zK ?_ | refine zM ?_ | refine zB ?_ | refine zA ?_ | refine zS ?_ | refine zL ?_)
      refine qn rfl (qD rfl rfl rfl rfl (H2) rfl rfl rfl ?_)
      repeat (first | refine zR ?_ | refine zK ?_ | refine zM ?_ | refine zB ?_ | refine zA ?_ | refine zS ?_ | refine zL ?_)
      refine qc ?_
      (repeat refine qb ?_); refine qa ?_
      repeat (first | refine zR ?_ | refine zK ?_ | refine zM ?_ | refine zB ?_ | refine zA ?_ | refine zS ?_ | refine zL ?_)
      refine qc ?_
      (repeat refine qb ?_); refine qa ?_
      repeat (first | refine zR ?_ | refine zK ?_ | refine zM ?_ | refine zB ?_ | refine zA ?_ | refine zS ?_ | refine zL ?_)
      refine qc ?_
      (repeat refine qb ?_); refine qf rfl (fun hm => ?_) (fun hm => ?_)
      · cases hm
      · refine qm ?_
        refine SW.wk (qq [13, 15, 16, 17, 18, 19] [(13, 13), (15, 15), (17, 17), (19, 19)] rfl rfl) ?_
        (repeat refine qb ?_); refine qa ?_
        repeat (first | refine zR ?_ | refine zK ?_ | refine zM ?_ | refine zB ?_ | refine zA ?_ | refine zS ?_ | refine zL ?_)
        refine qn rfl (qg rfl rfl rfl rfl ((qav ⟨(0, 2), [oB]⟩ (by simp [mks]) (by show 1 ≤ 1000000; omega))) rfl rfl ?_)
        repeat (first | refine zR ?_ | refine zK ?_ | refine zM ?_ | refine zB ?_ | refine zA ?_ | refine zS ?_ | refine zL ?_)
        refine qn rfl (qg rfl rfl rfl rfl ((qaq (0, 0) (by simp [mks]))) rfl rfl ?_)
        repeat (first | refine zR ?_ | refine zK ?_ | refine zM ?_ | refine zB ?_ | refine zA ?_ | refine zS ?_ | refine zL ?_)
        refine qn rfl (qg rfl rfl rfl rfl (jB) rfl rfl ?_)
        repeat (first | refine zR ?_ | refine zK ?_ | refine zM ?_ | refine zB ?_ | refine zA ?_ | refine zS ?_ | refine zL ?_)
        refine qc ?_
        (repeat refine qb ?_); refine qk ?_
        exact wS rfl rfl
  · (repeat refine qb ?_); refine qa ?_
    repeat (first | refine zR ?_ | refine zK ?_ | refine zM ?_ | refine zB ?_ | refine zA ?_ | refine zS ?_ | refine zL ?_)
    refine qc ?_
    (repeat refine qb ?_); refine qf rfl (fun c1 => ?_) (fun c1 => ?_)
    rotate_left
    · cases c1
    (repeat refine qb ?_); refine qa ?_
    repeat (first | refine zR ?_ | refine zK ?_ | refine zM ?_ | refine zB ?_ | refine zA ?_ | refine zS ?_ | refine zL ?_)
    refine qn rfl (qD rfl rfl rfl rfl (truthN_h 1) rfl rfl rfl ?_)
    repeat (first | refine zR ?_ | refine zK ?_ | refine zM ?_ | refine zB ?_ | refine zA ?_ | refine zS ?_ | refine zL ?_)
    refine qc ?_
    refine SW.wk (zN (k := 37000) rfl) ?_
    refine SW.wk (qq [1, 3, 9, 11, 12] [(12, 12)] rfl rfl) ?_
    change SW _ _ _ ⟨115, [(1, .p (pB false)), (3, .p (pB must)), (9, .p (pI K)), (11, .p (pI 1)), (12, .ptr 12 0)], [(12, .cells [.p (pS ⟨#[114]⟩), .p (pB false), .p nilV, .p (qar (tN 1)), .p (.sl 3 [oA.pv, oB.pv])])]⟩
    (repeat refine qb ?_); refine qa ?_
    repeat (first | refine zR ?_ | refine zK ?_ | refine zM ?_ | refine zB ?_ | refine zA ?_ | refine zS ?_ | refine zL ?_)
    refine qw qe rfl rfl (by decide) rfl ?_
    repeat (first | refine zR ?_ | refine zK ?_ | refine zM ?_ | refine zB ?_ | refine zA ?_ | refine zS ?_ | refine zL ?_)
    refine qc ?_
    (repeat refine qb ?_); refine qa ?_
    repeat (first | refine zR ?_ | refine zK ?_ | refine zM ?_ | refine zB ?_ | refine zA ?_ | refine zS ?_ | refine zL ?_)
    refine qc ?_
    (repeat refine qb ?_); refine qf rfl (fun d1 => ?_) (fun d1 => ?_)
    · cases d1
    refine qm ?_
    (repeat refine qb ?_); refine qa ?_
    repeat (first | refine zR ?_ | refine zK ?_ | refine zM ?_ | refine zB ?_ | refine zA ?_ | refine zS ?_ | refine zL ?_)
    refine qc ?_
    (repeat refine qb ?_); refine qf rfl (fun d2 => ?_) (fun d2 => ?_)
    · cases d2
    refine qm ?_
    (repeat refine qb ?_); refine qa ?_
    repeat (first | refine zR ?_ | refine zK ?_ | refine zM ?_ | refine zB ?_ | refine zA ?_ | refine zS ?_ | refine zL ?_)
    refine qc ?_
    (repeat refine qb ?_); refine qf rfl (fun d3 => ?_) (fun d3 => ?_)
    · cases d3
    refine qm ?_
    (repeat refine qb ?_); refine qa ?_
    repeat (first | refine zR ?_ | refine zK ?_ | refine zM ?_ | refine zB ?_ | refine zA ?_ | refine zS ?_ | refine zL ?_)
    refine qc ?_
    refine SW.wk (zN (k := 70) rfl) ?_
    refine SW.wk (qq [3, 9, 12, 13, 14] [(12, 12), (13, 13), (14, 14)] rfl rfl) ?_
    change SW _ _ _ ⟨115, [(3, .p (pB must)), (9, .p (pI K)), (12, .ptr 12 0), (13, .ptr 13 0), (14, .ptr 14 0)], [(12, .cells [.p (pS ⟨#[114]⟩), .p (pB false), .p nilV, .p (qar (tN 1)), .p (.sl 3 [oA.pv, oB.pv])]), (13, .cells [.p (mkP (2, 0)), .p (.sl 3 [oA.pv])]), (14, .cells [.p (pS ⟨#[112]⟩), .p (pB false), .p (pI K), .p nilV, .p (.sl 5 [[pS ⟨#[114]⟩, pB false, nilV, qar (tN 1), .sl 3 [oA.pv, oB.pv]]]), .p nilV, .p nilV])]⟩
    have H1 := pR_h hK3 false (.inr (.inl rfl)) (cp := qar (tN 1)) (.refl _) (t := []) (.inl rfl) (tp := nilV) (.nil 1) (x := ⟨(2, 0), [oA]⟩) (by kernel_rfl)
    (repeat refine qb ?_); refine qa ?_
    repeat (first | refine zR ?_ | refine zK ?_ | refine zM ?_ | refine zB ?_ | refine zA ?_ | refine zS ?_ | refine zL ?_)
    refine qn rfl (qD rfl rfl rfl rfl (H1) rfl rfl rfl ?_)
    repeat (first | refine zR ?_ | refine zK ?_ | refine zM ?_ | refine zB ?_ | refine zA ?_ | refine zS ?_ | refine zL ?_)
    refine qc ?_
    refine SW.wk (qq [3, 9, 12, 13, 14, 15, 16] [(12, 12), (13, 13), (14, 14), (15, 15)] rfl rfl) ?_
    cases must with
    | true =>
      have H2 := pR_h hK3 false (.inr (.inl rfl)) (cp := qar (tN 1)) (.refl _) (t := [[[mY true]]]) (.inr (.inl rfl)) (.refl _) (x := ⟨qat (2, 0), []⟩) (by kernel_rfl)
      (repeat refine qb ?_); refine qa ?_
      repeat (first | refine zR ?_ | refine zK ?_ | refine zM ?_ | refine zB ?_ | refine zA ?_ | refine zS ?_ | refine zL ?_)
      refine SWT.wk (zN (k := 81) rfl) ?_
      repeat (first | refine zR ?_ | refine zK ?_ | refine zM ?_ | refine zB ?_ | refine zA ?_ | refine zS ?_ | refine zL ?_)
      refine SWT.wk (zN (k := 82) rfl) ?_
      repeat (first | refine zR ?_ | refine zK ?_ | refine zM ?_ | refine zB ?_ | refine zA ?_ | refine zS ?_ | refine zL ?_)
      refine SWT.wk (zN (k := 83) rfl) ?_
      repeat (first | refine zR ?_ | refine zK ?_ | refine zM ?_ | refine zB ?_ | refine zA ?_ | refine zS ?_ | refine zL ?_)
      refine qc ?_
      refine SW.wk (qq [3, 13, 14, 15, 16] [(13, 13), (14, 14), (15, 15)] rfl rfl) ?_
      change SW _ _ _ ⟨115, [(3, .p (pB true)), (13, .ptr 13 0), (14, .ptr 14 0), (15, .ptr 15 0), (16, .p (pI 0))], [(13, .cells [.p (mkP (2, 0)), .p (.sl 3 [oA.pv])]), (14, .cells [.p (pS ⟨#[112]⟩), .p (pB false), .p (pI K), .p (tgtP [[[mY true]]]), .p (.sl 5 [[pS ⟨#[114]⟩, pB false, nilV, qar (tN 1), .sl 3 [oA.pv, oB.pv]]]), .p nilV, .p nilV]), (15, .cells [.p (mkP (2, 0)), .p (zQ [oA])])]⟩
      (repeat refine qb ?_); refine qa ?_
      repeat (first | refine zR ?_ | refine zK ?_ | refine zM ?_ | refine zB ?_ | refine zA ?_ | refine zS ?_ | refine zL ?_)
      refine qn rfl (qD rfl rfl rfl rfl (H2) rfl rfl rfl ?_)
      repeat (first | refine zR ?_ | refine zK ?_ | refine zM ?_ | refine zB ?_ | refine zA ?_ | refine zS ?_ | refine zL ?_)
      refine qc ?_
      (repeat refine qb ?_); refine qa ?_
      repeat (first | refine zR ?_ | refine zK ?_ | refine zM ?_ | refine zB ?_ | refine zA ?_ | refine zS ?_ | refine zL ?_)
      refine qc ?_
      (repeat refine qb ?_); refine qa ?_
      repeat (first | refine zR ?_ | refine zK ?_ | refine zM ?_ | refine zB ?_ | refine zA ?_ | refine zS ?_ | refine zL ?_)
      refine qc ?_
      (repeat refine qb ?_); refine qf rfl (fun hm => ?_) (fun hm => ?_)
      · (repeat refine qb ?_); refine qa ?_
        repeat (first | refine zR ?_ | refine zK ?_ | refine zM ?_ | refine zB ?_ | refine zA ?_ | refine zS ?_ | refine zL ?_)
        refine qn rfl (qg rfl rfl rfl rfl (qas (2, 0) (by simp [mks])) rfl rfl ?_)
        repeat (first | refine zR ?_ | refine zK ?_ | refine zM ?_ | refine zB ?_ | refine zA ?_ | refine zS ?_ | refine zL ?_)
        refine qc ?_
        refine SW.wk (qq [13, 15, 16, 17, 18, 19] [(13, 13), (15, 15), (17, 17), (19, 19)] rfl rfl) ?_
        (repeat refine qb ?_); refine qa ?_
        repeat (first | refine zR ?_ | refine zK ?_ | refine zM ?_ | refine zB ?_ | refine zA ?_ | refine zS ?_ | refine zL ?_)
        refine qn rfl (qg rfl rfl rfl rfl ((qav ⟨(2, 0), [oA]⟩ (by simp [mks]) (by show 1 ≤ 1000000; omega))) rfl rfl ?_)
        repeat (first | refine zR ?_ | refine zK ?_ | refine zM ?_ | refine zB ?_ | refine zA ?_ | refine zS ?_ | refine zL ?_)
        refine qn rfl (qg rfl rfl rfl rfl ((qaq (qat (2, 0)) (qau (by simp [mks])))) rfl rfl ?_)
        repeat (first | refine zR ?_ | refine zK ?_ | refine zM ?_ | refine zB ?_ | refine zA ?_ | refine zS ?_ | refine zL ?_)
        refine qn rfl (qg rfl rfl rfl rfl (jB) rfl rfl ?_)
        repeat (first | refine zR ?_ | refine zK ?_ | refine zM ?_ | refine zB ?_ | refine zA ?_ | refine zS ?_ | refine zL ?_)
        refine qc ?_
        (repeat refine qb ?_); refine qk ?_
        exact wS rfl rfl
      · cases hm
    | false =>
      have H2 := pR_h hK3 false (.inr (.inl rfl)) (cp := qar (tN 1)) (.refl _) (t := [[[mY false]]]) (.inr (.inr rfl)) (.refl _) (x := noRs) (by kernel_rfl)
      (repeat refine qb ?_); refine qa ?_
      repeat (first | refine zR ?_ | refine zK ?_ | refine zM ?_ | refine zB ?_ | refine zA ?_ | refine zS ?_ | refine zL ?_)
      refine SWT.wk (zN (k := 81) rfl) ?_
      repeat (first | refine zR ?_ | refine zK ?_ | refine zM ?_ | refine zB ?_ | refine zA ?_ | refine zS ?_ | refine zL ?_)
      refine SWT.wk (zN (k := 82) rfl) ?_
      repeat (first | refine zR ?_ | refine zK ?_ | refine zM ?_ | refine zB ?_ | refine zA ?_ | refine zS ?_ | refine zL ?_)
      refine SWT.wk (zN (k := 83) rfl) ?_
      repeat (first | refine zR ?_ | refine zK ?_ | refine zM ?_ | refine zB ?_ | refine zA ?_ | refine zS ?_ | refine zL ?_)
      refine qc ?_
      refine SW.wk (qq [3, 13, 14, 15, 16] [(13, 13), (14, 14), (15, 15)] rfl rfl) ?_
      change SW _ _ _ ⟨115, [(3, .p (pB false)), (13, .ptr 13 0), (14, .ptr 14 0), (15, .ptr 15 0), (16, .p (pI 0))], [(13, .cells [.p (mkP (2, 0)), .p (.sl 3 [oA.pv])]), (14, .cells [.p (pS ⟨#[112]⟩), .p (pB false), .p (pI K), .p (tgtP [[[mY false]]]), .p (.sl 5 [[pS ⟨#[114]⟩, pB false, nilV, qar (tN 1), .sl 3 [oA.pv, oB.pv]]]), .p nilV, .p nilV]), (15, .cells [.p (mkP (2, 0)), .p (zQ [oA])])]⟩
      (repeat refine qb ?_); refine qa ?_
      repeat (first | refine zR ?_ | refine zK ?_ | refine zM ?_ | refine zB ?_ | refine zA ?_ | refine zS ?_ | refine zL ?_)
      refine qn rfl (qD rfl rfl rfl rfl (H2) rfl rfl rfl ?_)
      repeat (first | refine zR ?_ | refine zK ?_ | refine zM ?_ | refine zB ?_ | refine zA ?_ | refine zS ?_ | refine zL ?_)
      refine qc ?_
      (repeat refine qb ?_); refine qa ?_
      repeat (first | refine zR ?_ | refine zK ?_ | refine zM ?_ | refine zB ?_ | refine zA ?_ | refine zS ?_ | refine zL ?_)
      refine qc ?_
      (repeat refine qb ?_); refine qa ?_
      repeat (first | refine zR ?_ | refine zK ?_ | refine zM ?_ | refine zB ?_ | refine zA ?_ | refine zS ?_ | refine zL ?_)
      refine qc ?_
      (repeat refine qb ?_); refine qf rfl (fun hm => ?_) (fun hm => ?_)
      · cases hm
      · refine qm ?_
        refine SW.wk (qq [13, 15, 16, 17, 18, 19] [(13, 13), (15, 15), (17, 17), (19, 19)] rfl rfl) ?_
        (repeat refine qb ?_); refine qa ?_
        repeat (first | refine zR ?_ | refine zK ?_ | refine zM ?_ | refine zB ?_ | refine zA ?_ | refine zS ?_ | refine zL ?_)
        refine qn rfl (qg rfl rfl rfl rfl ((qav ⟨(2, 0), [oA]⟩ (by simp [mks]) (by show 1 ≤ 1000000; omega))) rfl rfl ?_)
        repeat (first | refine zR ?_ | refine zK ?_ | refine zM ?_ | refine zB ?_ | refine zA ?_ | refine zS ?_ | refine zL ?_)
        refine qn rfl (qg rfl rfl rfl rfl ((qaq (0, 0) (by simp [mks]))) rfl rfl ?_)
        repeat (first | refine zR ?_ | refine zK ?_ | refine zM ?_ | refine zB ?_ | refine zA ?_ | refine zS ?_ | refine zL ?_)
        refine qn rfl (qg rfl rfl rfl rfl (jB) rfl rfl ?_)
        repeat (first | refine zR ?_ | refine zK ?_ | refine zM ?_ | refine zB ?_ | refine zA ?_ | refine zS ?_ | refine zL ?_)
        refine qc ?_
        (repeat refine qb ?_); refine qk ?_
        exact wS rfl rfl
  · (repeat refine qb ?_); refine qa ?_
    repeat (first | refine zR ?_ | refine zK ?_ | refine zM ?_ | refine zB ?_ | refine zA ?_ | refine zS ?_ | refine zL ?_)
    refine qc ?_
    (repeat refine qb ?_); refine qf rfl (fun c1 => ?_) (fun c1 => ?_)
    rotate_left
    · cases c1
    (repeat refine qb ?_); refine qa ?_
    repeat (first | refine zR ?_ | refine zK ?_ | refine zM ?_ | refine zB ?_ | refine zA ?_ | refine zS ?_ | refine zL ?_)
    refine qn rfl (qD rfl rfl rfl rfl (truthN_h 1) rfl rfl rfl ?_)
    repeat (first | refine zR ?_ | refine zK ?_ | refine zM ?_ | refine zB ?_ | refine zA ?_ | refine zS ?_ | refine zL ?_)
    refine qc ?_
    refine SW.wk (zN (k := 37000) rfl) ?_
    refine SW.wk (qq [1, 3, 9, 11, 12] [(12, 12)] rfl rfl) ?_
    change SW _ _ _ ⟨115, [(1, .p (pB true)), (3, .p (pB must)), (9, .p (pI K)), (11, .p (pI 1)), (12, .ptr 12 0)], [(12, .cells [.p (pS ⟨#[114]⟩), .p (pB true), .p nilV, .p (qar (tN 1)), .p (.sl 3 [oA.pv, oB.pv])])]⟩
    (repeat refine qb ?_); refine qa ?_
    repeat (first | refine zR ?_ | refine zK ?_ | refine zM ?_ | refine zB ?_ | refine zA ?_ | refine zS ?_ | refine zL ?_)
    refine qw qe rfl rfl (by decide) rfl ?_
    repeat (first | refine zR ?_ | refine zK ?_ | refine zM ?_ | refine zB ?_ | refine zA ?_ | refine zS ?_ | refine zL ?_)
    refine qc ?_
    (repeat refine qb ?_); refine qa ?_
    repeat (first | refine zR ?_ | refine zK ?_ | refine zM ?_ | refine zB ?_ | refine zA ?_ | refine zS ?_ | refine zL ?_)
    refine qc ?_
    (repeat refine qb ?_); refine qf rfl (fun d1 => ?_) (fun d1 => ?_)
    rotate_left
    · cases d1
    (repeat refine qb ?_); refine qa ?_
    repeat (first | refine zR ?_ | refine zK ?_ | refine zM ?_ | refine zB ?_ | refine zA ?_ | refine zS ?_ | refine zL ?_)
    refine qw qe rfl rfl (by decide) rfl ?_
    repeat (first | refine zR ?_ | refine zK ?_ | refine zM ?_ | refine zB ?_ | refine zA ?_ | refine zS ?_ | refine zL ?_)
    refine qc ?_
    (repeat refine qb ?_); refine qa ?_
    repeat (first | refine zR ?_ | refine zK ?_ | refine zM ?_ | refine zB ?_ | refine zA ?_ | refine zS ?_ | refine zL ?_)
    refine qc ?_
    (repeat refine qb ?_); refine qf rfl (fun d2 => ?_) (fun d2 => ?_)
    · cases d2
    refine qm ?_
    (repeat refine qb ?_); refine qa ?_
    repeat (first | refine zR ?_ | refine zK ?_ | refine zM ?_ | refine zB ?_ | refine zA ?_ | refine zS ?_ | refine zL ?_)
    refine qc ?_
    (repeat refine qb ?_); refine qf rfl (fun d3 => ?_) (fun d3 => ?_)
    · cases d3
    refine qm ?_
    (repeat refine qb ?_); refine qa ?_
    repeat (first | refine zR ?_ | refine zK ?_ | refine zM ?_ | refine zB ?_ | refine zA ?_ | refine zS ?_ | refine zL ?_)
    refine qc ?_
    refine SW.wk (zN (k := 70) rfl) ?_
    refine SW.wk (qq [3, 9, 12, 13, 14] [(12, 12), (13, 13), (14, 14)] rfl rfl) ?_
    change SW _ _ _ ⟨115, [(3, .p (pB must)), (9, .p (pI K)), (12, .ptr 12 0), (13, .ptr 13 0), (14, .ptr 14 0)], [(12, .cells [.p (pS ⟨#[114]⟩), .p (pB true), .p nilV, .p (qar (tN 1)), .p (.sl 3 [oA.pv, oB.pv])]), (13, .cells [.p (mkP (0, 2)), .p (.sl 3 [oB.pv])]), (14, .cells [.p (pS ⟨#[112]⟩), .p (pB false), .p (pI K), .p nilV, .p (.sl 5 [[pS ⟨#[114]⟩, pB true, nilV, qar (tN 1), .sl 3 [oA.pv, oB.pv]]]), .p nilV, .p nilV])]⟩
    have H1 := pR_h hK3 true (.inr (.inl rfl)) (cp := qar (tN 1)) (.refl _) (t := []) (.inl rfl) (tp := nilV) (.nil 1) (x := ⟨(0, 2), [oB]⟩) (by kernel_rfl)
    (repeat refine qb ?_); refine qa ?_
    repeat (first | refine zR ?_ | refine zK ?_ | refine zM ?_ | refine zB ?_ | refine zA ?_ | refine zS ?_ | refine zL ?_)
    refine qn rfl (qD rfl rfl rfl rfl (H1) rfl rfl rfl ?_)
    repeat (first | refine zR ?_ | refine zK ?_ | refine zM ?_ | refine zB ?_ | refine zA ?_ | refine zS ?_ | refine zL ?_)
    refine qc ?_
    refine SW.wk (qq [3, 9, 12, 13, 14, 15, 16] [(12, 12), (13, 13), (14, 14), (15, 15)] rfl rfl) ?_
    cases must with
    | true =>
      have H2 := pR_h hK3 true (.inr (.inl rfl)) (cp := qar (tN 1)) (.refl _) (t := [[[mY true]]]) (.inr (.inl rfl)) (.refl _) (x := ⟨qat (0, 2), []⟩) (by kernel_rfl)
      (repeat refine qb ?_); refine qa ?_
      repeat (first | refine zR ?_ | refine zK ?_ | refine zM ?_ | refine zB ?_ | refine zA ?_ | refine zS ?_ | refine zL ?_)
      refine SWT.wk (zN (k := 81) rfl) ?_
      repeat (first | refine zR ?_ | refine zK ?_ | refine zM ?_ | refine zB ?_ | refine zA ?_ | refine zS ?_ | refine zL ?_)
      refine SWT.wk (zN (k := 82) rfl) ?_
      repeat (first | refine zR ?_ | refine zK ?_ | refine zM ?_ | refine zB ?_ | refine zA ?_ | refine zS ?_ | refine zL ?_)
      refine SWT.wk (zN (k := 83) rfl) ?_
      repeat (first | refine zR ?_ | refine zK ?_ | refine zM ?_ | refine zB ?_ | refine zA ?_ | refine zS ?_ | refine zL ?_)
      refine qc ?_
      refine SW.wk (qq [3, 13, 14, 15, 16] [(13, 13), (14, 14), (15, 15)] rfl rfl) ?_
      change SW _ _ _ ⟨115, [(3, .p (pB true)), (13, .ptr 13 0), (14, .ptr 14 0), (15, .ptr 15 0), (16, .p (pI 0))], [(13, .cells [.p (mkP (0, 2)), .p (.sl 3 [oB.pv])]), (14, .cells [.p (pS ⟨#[112]⟩), .p (pB false), .p (pI K), .p (tgtP [[[mY true]]]), .p (.sl 5 [[pS ⟨#[114]⟩, pB true, nilV, qar (tN 1), .sl 3 [oA.pv, oB.pv]]]), .p nilV, .p nilV]), (15, .cells [.p (mkP (0, 2)), .p (zQ [oB])])]⟩
      (repeat refine qb ?_); refine qa ?_
      repeat (first | refine zR ?_ | refine zK ?_ | refine zM ?_ | refine zB ?_ | refine zA ?_ | refine zS ?_ | refine zL ?_)
      refine qn rfl (qD rfl rfl rfl rfl (H2) rfl rfl rfl ?_)
      repeat (first | refine zR ?_ | refine zK ?_ | refine zM ?_ | refine zB ?_ | refine zA ?_ | refine zS ?_ | refine zL ?_)
      refine qc ?_
      (repeat refine qb ?_); refine qa ?_
      repeat (first | refine zR ?_ | refine zK ?_ | refine zM ?_ | refine zB ?_ | refine zA ?_ | refine zS ?_ | refine zL ?_)
      refine qc ?_
      (repeat refine qb ?_); refine qa ?_
      repeat (first | refine zR ?_ | refine zK ?_ | refine zM ?_ | refine zB ?_ | refine zA ?_ | refine zS ?_ | refine zL ?_)
      refine qc ?_
      (repeat refine qb ?_); refine qf rfl (fun hm => ?_) (fun hm => ?_)
      · (repeat refine qb ?_); refine qa ?_
        repeat (first | refine zR ?_ | refine zK ?_ | refine zM ?_ | refine zB ?_ | refine zA ?_ | refine zS ?_ | refine zL ?_)
        refine qn rfl (qg rfl rfl rfl rfl (qas (0, 2) (by simp [mks])) rfl rfl ?_)
        repeat (first | refine zR ?_ | refine zK ?_ | refine zM ?_ | refine zB ?_ | refine zA ?_ | refine zS ?_ | refine zL ?_)
        refine qc ?_
        refine SW.wk (qq [13, 15, 16, 17, 18, 19] [(13, 13), (15, 15), (17, 17), (19, 19)] rfl rfl) ?_
        (repeat refine qb ?_); refine qa ?_
        repeat (first | refine zR ?_ | refine zK ?_ | refine zM ?_ | refine zB ?_ | refine zA ?_ | refine zS ?_ | refine zL ?_)
        refine qn rfl (qg rfl rfl rfl rfl ((qav ⟨(0, 2), [oB]⟩ (by simp [mks]) (by show 1 ≤ 1000000; omega))) rfl rfl ?_)
        repeat (first | refine zR ?_ | refine zK ?_ | refine zM ?_ | refine zB ?_ | refine zA ?_ | refine zS ?_ | refine zL ?_)
        refine qn rfl (qg rfl rfl rfl rfl ((qaq (qat (0, 2)) (qau (by simp [mks])))) rfl rfl ?_)
        repeat (first | refine zR ?_ | refine zK ?_ | refine zM ?_ | refine zB ?_ | refine zA ?_ | refine zS ?_ | refine zL ?_)
        refine qn rfl (qg rfl rfl rfl rfl (jB) rfl rfl ?_)
        repeat (first | refine zR ?_ | refine zK ?_ | refine zM ?_ | refine zB ?_ | refine zA ?_ | refine zS ?_ | refine zL ?_)
        refine qc ?_
        (repeat refine qb ?_); refine qk ?_
        exact wS rfl rfl
      · cases hm
    | false =>
      have H2 := pR_h hK3 true (.inr (.inl rfl)) (cp := qar (tN 1)) (.refl _) (t := [[[mY false]]]) (.inr (.inr rfl)) (.refl _) (x := noRs) (by kernel_rfl)
      (repeat refine qb ?_); refine qa ?_
      repeat (first | refine zR ?_ | refine zK ?_ | refine zM ?_ | refine zB ?_ | refine zA ?_ | refine zS ?_ | refine zL ?_)
      refine SWT.wk (zN (k := 81) rfl) ?_
      repeat (first | refine zR ?_ | refine zK ?_ | refine zM ?_ | refine zB ?_ | refine zA ?_ | refine zS ?_ | refine zL ?_)
      refine SWT.wk (zN (k := 82) rfl) ?_
      repeat (first | refine zR ?_ | refine zK ?_ | refine zM ?_ | refine zB ?_ | refine zA ?_ | refine zS ?_ | refine zL ?_)
      refine SWT.wk (zN (k := 83) rfl) ?_
      repeat (first | refine zR ?_ | refine zK ?_ | refine zM ?_ | refine zB ?_ | refine zA ?_ | refine zS ?_ | refine zL ?_)
      refine qc ?_
      refine SW.wk (qq [3, 13, 14, 15, 16] [(13, 13), (14, 14), (15, 15)] rfl rfl) ?_
      change SW _ _ _ ⟨115, [(3, .p (pB false)), (13, .ptr 13 0), (14, .ptr 14 0), (15, .ptr 15 0), (16, .p (pI 0))], [(13, .cells [.p (mkP (0, 2)), .p (.sl 3 [oB.pv])]), (14, .cells [.p (pS ⟨#[112]⟩), .p (pB false), .p (pI K), .p (tgtP [[[mY false]]]), .p (.sl 5 [[pS ⟨#[114]⟩, pB true, nilV, qar (tN 1), .sl 3 [oA.pv, oB.pv]]]), .p nilV, .p nilV]), (15, .cells [.p (mkP (0, 2)), .p (zQ [oB])])]⟩
      (repeat refine qb ?_); refine qa ?_
      repeat (first | refine zR ?_ | refine zK ?_ | refine zM ?_ | refine zB ?_ | refine zA ?_ | refine zS ?_ | refine zL ?_)
      refine qn rfl (qD rfl rfl rfl rfl (H2) rfl rfl rfl ?_)
      repeat (first | refine zR ?_ | refine zK ?_ | refine zM ?_ | refine zB ?_ | refine zA ?_ | refine zS ?_ | refine zL ?_)
      refine qc ?_
      (repeat refine qb ?_); refine qa ?_
      repeat (first | refine zR ?_ | refine zK ?_ | refine zM ?_ | refine zB ?_ | refine zA ?_ | refine zS ?_ | refine zL ?_)
      refine qc ?_
      (repeat refine qb ?_); refine qa ?_
      repeat (first | refine zR ?_ | refine zK ?_ | refine zM ?_ | refine zB ?_ | refine zA ?_ | refine zS ?_ | refine zL ?_)
      refine qc ?_
      (repeat refine qb ?_); refine qf rfl (fun hm => ?_) (fun hm => ?_)
      · cases hm
      · refine qm ?_
        refine SW.wk (qq [13, 15, 16, 17, 18, 19] [(13, 13), (15, 15), (17, 17), (19, 19)] rfl rfl) ?_
        (repeat refine qb ?_); refine qa ?_
        repeat (first | refine zR ?_ | refine zK ?_ | refine zM ?_ | refine zB ?_ | refine zA ?_ | refine zS ?_ | refine zL ?_)
        refine qn rfl (qg rfl rfl rfl rfl ((qav ⟨(0, 2), [oB]⟩ (by simp [mks]) (by show 1 ≤ 1000000; omega))) rfl rfl ?_)
        repeat (first | refine zR ?_ | refine zK ?_ | refine zM ?_ | refine zB ?_ | refine zA ?_ | refine zS ?_ | refine zL ?_)
        refine qn rfl (qg rfl rfl rfl rfl ((qaq (0, 0) (by simp [mks]))) rfl rfl ?_)
        repeat (first | refine zR ?_ | refine zK ?_ | refine zM ?_ | refine zB ?_ | refine zA ?_ | refine zS ?_ | refine zL ?_)
        refine qn rfl (qg rfl rfl rfl rfl (jB) rfl rfl ?_)
        repeat (first | refine zR ?_ | refine zK ?_ | refine zM ?_ | refine zB ?_ | refine zA ?_ | refine zS ?_ | refine zL ?_)
        refine qc ?_
        (repeat refine qb ?_); refine qk ?_
        exact wS rfl rfl
  · (repeat refine qb ?_); refine qa ?_
    repeat (first | refine zR ?_ | refine zK ?_ | refine zM ?_ | refine zB ?_ | refine zA ?_ | refine zS ?_ | refine zL ?_)
    refine qc ?_
    (repeat refine qb ?_); refine qf rfl (fun c1 => ?_) (fun c1 => ?_)
    · cases c1
    (repeat refine qb ?_); refine qa ?_
    repeat (first | refine zR ?_ | refine zK ?_ | refine zM ?_ | refine zB ?_ | refine zA ?_ | refine zS ?_ | refine zL ?_)
    refine qc ?_
    (repeat refine qb ?_); refine qf rfl (fun c2 => ?_) (fun c2 => ?_)
    rotate_left
    · cases c2
    (repeat refine qb ?_); refine qa ?_
    repeat (first | refine zR ?_ | refine zK ?_ | refine zM ?_ | refine zB ?_ | refine zA ?_ | refine zS ?_ | refine zL ?_)
    refine qn rfl (qD rfl rfl rfl rfl (truthN_h 0) rfl rfl rfl ?_)
    repeat (first | refine zR ?_ | refine zK ?_ | refine zM ?_ | refine zB ?_ | refine zA ?_ | refine zS ?_ | refine zL ?_)
    refine qc ?_
    refine SW.wk (zN (k := 42000) rfl) ?_
    refine SW.wk (qq [1, 3, 9, 11, 12] [(12, 12)] rfl rfl) ?_
    change SW _ _ _ ⟨115, [(1, .p (pB false)), (3, .p (pB must)), (9, .p (pI K)), (11, .p (pI 2)), (12, .ptr 12 0)], [(12, .cells [.p (pS ⟨#[114]⟩), .p (pB false), .p nilV, .p (qar (tN 0)), .p (.sl 3 [oA.pv, oB.pv])])]⟩
    (repeat refine qb ?_); refine qa ?_
    repeat (first | refine zR ?_ | refine zK ?_ | refine zM ?_ | refine zB ?_ | refine zA ?_ | refine zS ?_ | refine zL ?_)
    refine qw qe rfl rfl (by decide) rfl ?_
    repeat (first | refine zR ?_ | refine zK ?_ | refine zM ?_ | refine zB ?_ | refine zA ?_ | refine zS ?_ | refine zL ?_)
    refine qc ?_
    (repeat refine qb ?_); refine qa ?_
    repeat (first | refine zR ?_ | refine zK ?_ | refine zM ?_ | refine zB ?_ | refine zA ?_ | refine zS ?_ | refine zL ?_)
    refine qc ?_
    (repeat refine qb ?_); refine qf rfl (fun d1 => ?_) (fun d1 => ?_)
    · cases d1
    refine qm ?_
    (repeat refine qb ?_); refine qa ?_
    repeat (first | refine zR ?_ | refine zK ?_ | refine zM ?_ | refine zB ?_ | refine zA ?_ | refine zS ?_ | refine zL ?_)
    refine qc ?_
    (repeat refine qb ?_); refine qf rfl (fun d2 => ?_) (fun d2 => ?_)
    rotate_left
    · cases d2
    (repeat refine qb ?_); refine qa ?_
    repeat (first | refine zR ?_ | refine zK ?_ | refine zM ?_ | refine zB ?_ | refine zA ?_ | refine zS ?_ | refine zL ?_)
    refine qc ?_
    (repeat refine qb ?_); refine qa ?_
    repeat (first | refine zR ?_ | refine zK ?_ | refine zM ?_ | refine zB ?_ | refine zA ?_ | refine zS ?_ | refine zL ?_)
    refine qc ?_
    (repeat refine qb ?_); refine qf rfl (fun d3 => ?_) (fun d3 => ?_)
    · cases d3
    refine qm ?_
    (repeat refine qb ?_); refine qa ?_
    repeat (first | refine zR ?_ | refine zK ?_ | refine zM ?_ | refine zB ?_ | refine zA ?_ | refine zS ?_ | refine zL ?_)
    refine qc ?_
    refine SW.wk (zN (k := 70) rfl) ?_
    refine SW.wk (qq [3, 9, 12, 13, 14] [(12, 12), (13, 13), (14, 14)] rfl rfl) ?_
    change SW _ _ _ ⟨115, [(3, .p (pB must)), (9, .p (pI K)), (12, .ptr 12 0), (13, .ptr 13 0), (14, .ptr 14 0)], [(12, .cells [.p (pS ⟨#[114]⟩), .p (pB false), .p nilV, .p (qar (tN 0)), .p (.sl 3 [oA.pv, oB.pv])]), (13, .cells [.p (mkP (0, 0)), .p (nilV)]), (14, .cells [.p (pS ⟨#[112]⟩), .p (pB false), .p (pI K), .p nilV, .p (.sl 5 [[pS ⟨#[114]⟩, pB false, nilV, qar (tN 0), .sl 3 [oA.pv, oB.pv]]]), .p nilV, .p nilV])]⟩
    have H1 := pR_h hK3 false (.inr (.inr (.inl rfl))) (cp := qar (tN 0)) (.refl _) (t := []) (.inl rfl) (tp := nilV) (.nil 1) (x := ⟨(0, 0), []⟩) (by kernel_rfl)
    (repeat refine qb ?_); refine qa ?_
    repeat (first | refine zR ?_ | refine zK ?_ | refine zM ?_ | refine zB ?_ | refine zA ?_ | refine zS ?_ | refine zL ?_)
    refine qn rfl (qD rfl rfl rfl rfl (H1) rfl rfl rfl ?_)
    repeat (first | refine zR ?_ | refine zK ?_ | refine zM ?_ | refine zB ?_ | refine zA ?_ | refine zS ?_ | refine zL ?_)
    refine qc ?_
    refine SW.wk (qq [3, 9, 12, 13, 14, 15, 16] [(12, 12), (13, 13), (14, 14), (15, 15)] rfl rfl) ?_
    cases must with
    | true =>
      have H2 := pR_h hK3 false (.inr (.inr (.inl rfl))) (cp := qar (tN 0)) (.refl _) (t := [[[mY true]]]) (.inr (.inl rfl)) (.refl _) (x := ⟨qat (0, 0), []⟩) (by kernel_rfl)
      (repeat refine qb ?_); refine qa ?_
      repeat (first | refine zR ?_ | refine zK ?_ | refine zM ?_ | refine zB ?_ | refine zA ?_ | refine zS ?_ | refine zL ?_)
      refine SWT.wk (zN (k := 81) rfl) ?_
      repeat (first | refine zR ?_ | refine zK ?_ | refine zM ?_ | refine zB ?_ | refine zA ?_ | refine zS ?_ | refine zL ?_)
      refine SWT.wk (zN (k := 82) rfl) ?_
      repeat (first | refine zR ?_ | refine zK ?_ | refine zM ?_ | refine zB ?_ | refine zA ?_ | refine zS ?_ | refine zL ?_)
      refine SWT.wk (zN (k := 83) rfl) ?_
      repeat (first | refine zR ?_ | refine zK ?_ | refine zM ?_ | refine zB ?_ | refine zA ?_ | refine zS ?_ | refine zL ?_)
      refine qc ?_
      refine SW.wk (qq [3, 13, 14, 15, 16] [(13, 13), (14, 14), (15, 15)] rfl rfl) ?_
      change SW _ _ _ ⟨115, [(3, .p (pB true)), (13, .ptr 13 0), (14, .ptr 14 0), (15, .ptr 15 0), (16, .p (pI 0))], [(13, .cells [.p (mkP (0, 0)), .p (nilV)]), (14, .cells [.p (pS ⟨#[112]⟩), .p (pB false), .p (pI K), .p (tgtP [[[mY true]]]), .p (.sl 5 [[pS ⟨#[114]⟩, pB false, nilV, qar (tN 0), .sl 3 [oA.pv, oB.pv]]]), .p nilV, .p nilV]), (15, .cells [.p (mkP (0, 0)), .p (zQ [])])]⟩
      (repeat refine qb ?_); refine qa ?_
      repeat (first | refine zR ?_ | refine zK ?_ | refine zM ?_ | refine zB ?_ | refine zA ?_ | refine zS ?_ | refine zL ?_)
      refine qn rfl (qD rfl rfl rfl rfl (H2) rfl rfl rfl ?_)
      repeat (first | refine zR ?_ | refine zK ?_ | refine zM ?_ | refine zB ?_ | refine zA ?_ | refine zS ?_ | refine zL ?_)
      refine qc ?_
      (repeat refine qb ?_); refine qa ?_
      repeat (first | refine zR ?_ | refine zK ?_ | refine zM ?_ | refine zB ?_ | refine zA ?_ | refine zS ?_ | refine zL ?_)
      refine qc ?_
      (repeat refine qb ?_); refine qa ?_
      repeat (first | refine zR ?_ | refine zK ?_ | refine zM ?_ | refine zB ?_ | refine zA ?_ | refine zS ?_ | refine zL ?_)
      refine qc ?_
      (repeat refine qb ?_); refine qf rfl (fun hm => ?_) (fun hm => ?_)
      · (repeat refine qb ?_); refine qa ?_
        repeat (first | refine zR ?_ | refine zK ?_ | refine zM ?_ | refine zB ?_ | refine zA ?_ | refine zS ?_ | refine zL ?_)
        refine qn rfl (qg rfl rfl rfl rfl (qas (0, 0) (by simp [mks])) rfl rfl ?_)
        repeat (first | refine zR ?_ | refine zK ?_ | refine zM ?_ | refine zB ?_ | refine zA ?_ | refine zS ?_ | refine zL ?_)
        refine qc ?_
        refine SW.wk (qq [13, 15, 16, 17, 18, 19] [(13, 13), (15, 15), (17, 17), (19, 19)] rfl rfl) ?_
        (repeat refine qb ?_); refine qa ?_
        repeat (first | refine zR ?_ | refine zK ?_ | refine zM ?_ | refine zB ?_ | refine zA ?_ | refine zS ?_ | refine zL ?_)
        refine qn rfl (qg rfl rfl rfl rfl ((qaq (0, 0) (by simp [mks]))) rfl rfl ?_)
        repeat (first | refine zR ?_ | refine zK ?_ | refine zM ?_ | refine zB ?_ | refine zA ?_ | refine zS ?_ | refine zL ?_)
        refine qn rfl (qg rfl rfl rfl rfl ((qaq (qat (0, 0)) (qau (by simp [mks])))) rfl rfl ?_)
        repeat (first | refine zR ?_ | refine zK ?_ | refine zM ?_ | refine zB ?_ | refine zA ?_ | refine zS ?_ | refine zL ?_)
        refine qn rfl (qg rfl rfl rfl rfl (jB) rfl rfl ?_)
        repeat (first | refine zR ?_ | refine zK ?_ | refine zM ?_ | refine zB ?_ | refine zA ?_ | refine zS ?_ | refine zL ?_)
        refine qc ?_
        (repeat refine qb ?_); refine qk ?_
        exact wS rfl rfl
      · cases hm
    | false =>
      have H2 := pR_h hK3 false (.inr (.inr (.inl rfl))) (cp := qar (tN 0)) (.refl _) (t := [[[mY false]]]) (.inr (.inr rfl)) (.refl _) (x := noRs) (by kernel_rfl)
      (repeat refine qb ?_); refine qa ?_
      repeat (first | refine zR ?_ | refine zK ?_ | refine zM ?_ | refine zB ?_ | refine zA ?_ | refine zS ?_ | refine zL ?_)
      refine SWT.wk (zN (k := 81) rfl) ?_
      repeat (first | refine zR ?_ | refine zK ?_ | refine zM ?_ | refine zB ?_ | refine zA ?_ | refine zS ?_ | refine zL ?_)
      refine SWT.wk (zN (k := 82) rfl) ?_
      repeat (first | refine zR ?_ | refine zK ?_ | refine zM ?_ | refine zB ?_ | refine zA ?_ | refine zS ?_ | refine zL ?_)
      refine SWT.wk (zN (k := 83) rfl) ?_
      repeat (first | refine zR ?_ | refine zK ?_ | refine zM ?_ | refine zB ?_ | refine zA ?_ | refine zS ?_ | refine zL ?_)
      refine qc ?_
      refine SW.wk (qq [3, 13, 14, 15, 16] [(13, 13), (14, 14), (15, 15)] rfl rfl) ?_
      change SW _ _ _ ⟨115, [(3, .p (pB false)), (13, .ptr 13 0), (14, .ptr 14 0), (15, .ptr 15 0), (16, .p (pI 0))], [(13, .cells [.p (mkP (0, 0)), .p (nilV)]), (14, .cells [.p (pS ⟨#[112]⟩), .p (pB false), .p (pI K), .p (tgtP [[[mY false]]]), .p (.sl 5 [[pS ⟨#[114]⟩, pB false, nilV, qar (tN 0), .sl 3 [oA.pv, oB.pv]]]), .p nilV, .p nilV]), (15, .cells [.p (mkP (0, 0)), .p (zQ [])])]⟩
      (repeat refine qb ?_); refine qa ?_
      repeat (first | refine zR ?_ | refine zK ?_ | refine zM ?_ | refine zB ?_ | refine zA ?_ | refine zS ?_ | refine zL ?_)
      refine qn rfl (qD rfl rfl rfl rfl (H2) rfl rfl rfl ?_)
      repeat (first | refine zR ?_ | refine zK ?_ | refine zM ?_ | refine zB ?_ | refine zA ?_ | refine zS ?_ | refine zL ?_)
      refine qc ?_
      (repeat refine qb ?_); refine qa ?_
      repeat (first | refine zR ?_ | refine zK ?_ | refine zM ?_ | refine zB ?_ | refine zA ?_ | refine zS ?_ | refine zL ?_)
      refine qc ?_
      (repeat refine qb ?_); refine qa ?_
      repeat (first | refine zR ?_ | refine zK ?_ | refine zM ?_ | refine zB ?_ | refine zA ?_ | refine zS ?_ | refine zL ?_)
      refine qc ?_
      (repeat refine qb ?_); refine qf rfl (fun hm => ?_) (fun hm => ?_)
      · cases hm
      · refine qm ?_
        refine SW.wk (qq [13, 15, 16, 17, 18, 19] [(13, 13), (15, 15), (17, 17), (19, 19)] rfl rfl) ?_
        (repeat refine qb ?_); refine qa ?_
        repeat (first | refine zR ?_ | refine zK ?_ | refine zM ?_ | refine zB ?_ | refine zA ?_ | refine zS ?_ | refine zL ?_)
        refine qn rfl (qg rfl rfl rfl rfl ((qaq (0, 0) (by simp [mks]))) rfl rfl ?_)
        repeat (first | refine zR ?_ | refine zK ?_ | refine zM ?_ | refine zB ?_ | refine zA ?_ | refine zS ?_ | refine zL ?_)
        refine qn rfl (qg rfl rfl rfl rfl ((qaq (0, 0) (by simp [mks]))) rfl rfl ?_)
        repeat (first | refine zR ?_ | refine zK ?_ | refine zM ?_ | refine zB ?_ | refine zA ?_ | refine zS ?_ | refine zL ?_)
        refine qn rfl (qg rfl rfl rfl rfl (jB) rfl rfl ?_)
        repeat (first | refine zR ?_ | refine zK ?_ | refine zM ?_ | refine zB ?_ | refine zA ?_ | refine zS ?_ | refine zL ?_)
        refine qc ?_
        (repeat refine qb ?_); refine qk ?_
        exact wS rfl rfl
  · (repeat refine qb ?_); refine qa ?_
    repeat (first | refine zR ?_ | refine zK ?_ | refine zM ?_ | refine zB ?_ | refine zA ?_ | refine zS ?_ | refine zL ?_)
    refine qc ?_
    (repeat refine qb ?_); refine qf rfl (fun c1 => ?_) (fun c1 => ?_)
    · cases c1
    (repeat refine qb ?_); refine qa ?_
    repeat (first | refine zR ?_ | refine zK ?_ | refine zM ?_ | refine zB ?_ | refine zA ?_ | refine zS ?_ | refine zL ?_)
    refine qc ?_
    (repeat refine qb ?_); refine qf rfl (fun c2 => ?_) (fun c2 => ?_)
    rotate_left
    · cases c2
    (repeat refine qb ?_); refine qa ?_
    repeat (first | refine zR ?_ | refine zK ?_ | refine zM ?_ | refine zB ?_ | refine zA ?_ | refine zS ?_ | refine zL ?_)
    refine qn rfl (qD rfl rfl rfl rfl (truthN_h 0) rfl rfl rfl ?_)
    repeat (first | refine zR ?_ | refine zK ?_ | refine zM ?_ | refine zB ?_ | refine zA ?_ | refine zS ?_ | refine zL ?_)
    refine qc ?_
    refine SW.wk (zN (k := 42000) rfl) ?_
    refine SW.wk (qq [1, 3, 9, 11, 12] [(12, 12)] rfl rfl) ?_
    change SW _ _ _ ⟨115, [(1, .p (pB true)), (3, .p (pB must)), (9, .p (pI K)), (11, .p (pI 2)), (12, .ptr 12 0)], [(12, .cells [.p (pS ⟨#[114]⟩), .p (pB true), .p nilV, .p (qar (tN 0)), .p (.sl 3 [oA.pv, oB.pv])])]⟩
    (repeat refine qb ?_); refine qa ?_
    repeat (first | refine zR ?_ | refine zK ?_ | refine zM ?_ | refine zB ?_ | refine zA ?_ | refine zS ?_ | refine zL ?_)
    refine qw qe rfl rfl (by decide) rfl ?_
    repeat (first | refine zR ?_ | refine zK ?_ | refine zM ?_ | refine zB ?_ | refine zA ?_ | refine zS ?_ | refine zL ?_)
    refine qc ?_
    (repeat refine qb ?_); refine qa ?_
    repeat (first | refine zR ?_ | refine zK ?_ | refine zM ?_ | refine zB ?_ | refine zA ?_ | refine zS ?_ | refine zL ?_)
    refine qc ?_
    (repeat refine qb ?_); refine qf rfl (fun d1 => ?_) (fun d1 => ?_)
    rotate_left
    · cases d1
    (repeat refine qb ?_); refine qa ?_
    repeat (first | refine zR ?_ | refine zK ?_ | refine zM ?_ | refine zB ?_ | refine zA ?_ | refine zS ?_ | refine zL ?_)
    refine qw qe rfl rfl (by decide) rfl ?_
    repeat (first | refine zR ?_ | refine zK ?_ | refine zM ?_ | refine zB ?_ | refine zA ?_ | refine zS ?_ | refine zL ?_)
    refine qc ?_
    (repeat refine qb ?_); refine qa ?_
    repeat (first | refine zR ?_ | refine zK ?_ | refine zM ?_ | refine zB ?_ | refine zA ?_ | refine zS ?_ | refine zL ?_)
    refine qc ?_
    (repeat refine qb ?_); refine qf rfl (fun d2 => ?_) (fun d2 => ?_)
    rotate_left
    · cases d2
    (repeat refine qb ?_); refine qa ?_
    repeat (first | refine zR ?_ | refine zK ?_ | refine zM ?_ | refine zB ?_ | refine zA ?_ | refine zS ?_ | refine zL ?_)
    refine qc ?_
    (repeat refine qb ?_); refine qa ?_
    repeat (first | refine zR ?_ | refine zK ?_ | refine zM ?_ | refine zB ?_ | refine zA ?_ | refine zS ?_ | refine zL ?_)
    refine qc ?_
    (repeat refine qb ?_); refine qf rfl (fun d3 => ?_) (fun d3 => ?_)
    · cases d3
    refine qm ?_
    (repeat refine qb ?_); refine qa ?_
    repeat (first | refine zR ?_ | refine zK ?_ | refine zM ?_ | refine zB ?_ | refine zA ?_ | refine zS ?_ | refine zL ?_)
    refine qc ?_
    refine SW.wk (zN (k := 70) rfl) ?_
    refine SW.wk (qq [3, 9, 12, 13, 14] [(12, 12), (13, 13), (14, 14)] rfl rfl) ?_
    change SW _ _ _ ⟨115, [(3, .p (pB must)), (9, .p (pI K)), (12, .ptr 12 0), (13, .ptr 13 0), (14, .ptr 14 0)], [(12, .cells [.p (pS ⟨#[114]⟩), .p (pB true), .p nilV, .p (qar (tN 0)), .p (.sl 3 [oA.pv, oB.pv])]), (13, .cells [.p (mkP (0, 0)), .p (nilV)]), (14, .cells [.p (pS ⟨#[112]⟩), .p (pB false), .p (pI K), .p nilV, .p (.sl 5 [[pS ⟨#[114]⟩, pB true, nilV, qar (tN 0), .sl 3 [oA.pv, oB.pv]]]), .p nilV, .p nilV])]⟩
    have H1 := pR_h hK3 true (.inr (.inr (.inl rfl))) (cp := qar (tN 0)) (.refl _) (t := []) (.inl rfl) (tp := nilV) (.nil 1) (x := ⟨(0, 0), []⟩) (by kernel_rfl)
    (repeat refine qb ?_); refine qa ?_
    repeat (first | refine zR ?_ | refine zK ?_ | refine zM ?_ | refine zB ?_ | refine zA ?_ | refine zS ?_ | refine zL ?_)
    refine qn rfl (qD rfl rfl rfl rfl (H1) rfl rfl rfl ?_)
    repeat (first | refine zR ?_ | refine zK ?_ | refine zM ?_ | refine zB ?_ | refine zA ?_ | refine zS ?_ | refine zL ?_)
    refine qc ?_
    refine SW.wk (qq [3, 9, 12, 13, 14, 15, 16] [(12, 12), (13, 13), (14, 14), (15, 15)] rfl rfl) ?_
    cases must with
    | true =>
      have H2 := pR_h hK3 true (.inr (.inr (.inl rfl))) (cp := qar (tN 0)) (.refl _) (t := [[[mY true]]]) (.inr (.inl rfl)) (.refl _) (x := ⟨qat (0, 0), []⟩) (by kernel_rfl)
      (repeat refine qb ?_); refine qa ?_
      repeat (first | refine zR ?_ | refine zK ?_ | refine zM ?_ | refine zB ?_ | refine zA ?_ | refine zS ?_ | refine zL ?_)
      refine SWT.wk (zN (k := 81) rfl) ?_
      repeat (first | refine zR ?_ | refine zK ?_ | refine zM ?_ | refine zB ?_ | refine zA ?_ | refine zS ?_ | refine zL ?_)
      refine SWT.wk (zN (k := 82) rfl) ?_
      repeat (first | refine zR ?_ | refine zK ?_ | refine zM ?_ | refine zB ?_ | refine zA ?_ | refine zS ?_ | refine zL ?_)
      refine SWT.wk (zN (k := 83) rfl) ?_
      repeat (first | refine zR ?_ | refine zK ?_ | refine zM ?_ | refine zB ?_ | refine zA ?_ | refine zS ?_ | refine zL ?_)
      refine qc ?_
      refine SW.wk (qq [3, 13, 14, 15, 16] [(13, 13), (14, 14), (15, 15)] rfl rfl) ?_
      change SW _ _ _ ⟨115, [(3, .p (pB true)), (13, .ptr 13 0), (14, .ptr 14 0), (15, .ptr 15 0), (16, .p (pI 0))], [(13, .cells [.p (mkP (0, 0)), .p (nilV)]), (14, .cells [.p (pS ⟨#[112]⟩), .p (pB false), .p (pI K), .p (tgtP [[[mY true]]]), .p (.sl 5 [[pS ⟨#[114]⟩, pB true, nilV, qar (tN 0), .sl 3 [oA.pv, oB.pv]]]), .p nilV, .p nilV]), (15, .cells [.p (mkP (0, 0)), .p (zQ [])])]⟩
      (repeat refine qb ?_); refine qa ?_
      repeat (first | refine zR ?_ | refine zK ?_ | refine zM ?_ | refine zB ?_ | refine zA ?_ | refine zS ?_ | refine zL ?_)
      refine qn rfl (qD rfl rfl rfl rfl (H2) rfl rfl rfl ?_)
      repeat (first | refine zR ?_ | refine zK ?_ | refine zM ?_ | refine zB ?_ | refine zA ?_ | refine zS ?_ | refine zL ?_)
      refine qc ?_
      (repeat refine qb ?_); refine qa ?_
      repeat (first | refine zR ?_ | refine zK ?_ | refine zM ?_ | refine zB ?_ | refine zA ?_ | refine zS ?_ | refine zL ?_)
      refine qc ?_
      (repeat refine qb ?_); refine qa ?_
      repeat (first | refine zR ?_ | refine zK ?_ | refine zM ?_ | refine zB ?_ | refine zA ?_ | refine zS ?_ | refine zL ?_)
      refine qc ?_
      (repeat refine qb ?_); refine qf rfl (fun hm => ?_) (fun hm => ?_)
      · (repeat refine qb ?_); refine qa ?_
        repeat (first | refine zR ?_ | refine zK ?_ | refine zM ?_ | refine zB ?_ | refine zA ?_ | refine zS ?_ | refine zL ?_)
        refine qn rfl (qg rfl rfl rfl rfl (qas (0, 0) (by simp [mks])) rfl rfl ?_)
        repeat (first | refine zR ?_ | refine zK ?_ | refine zM ?_ | refine zB ?_ | refine zA ?_ | refine zS ?_ | refine zL ?_)
        refine qc ?_
        refine SW.wk (qq [13, 15, 16, 17, 18, 19] [(13, 13), (15, 15), (17, 17), (19, 19)] rfl rfl) ?_
        (repeat refine qb ?_); refine qa ?_
        repeat (first | refine zR ?_ | refine zK ?_ | refine zM ?_ | refine zB ?_ | refine zA ?_ | refine zS ?_ | refine zL ?_)
        refine qn rfl (qg rfl rfl rfl rfl ((qaq (0, 0) (by simp [mks]))) rfl rfl ?_)
        repeat (first | refine zR ?_ | refine zK ?_ | refine zM ?_ | refine zB ?_ | refine zA ?_ | refine zS ?_ | refine zL ?_)
        refine qn rfl (qg rfl rfl rfl rfl ((qaq (qat (0, 0)) (qau (by simp [mks])))) rfl rfl ?_)
        repeat (first | refine zR ?_ | refine zK ?_ | refine zM ?_ | refine zB ?_ | refine zA ?_ | refine zS ?_ | refine zL ?_)
        refine qn rfl (qg rfl rfl rfl rfl (jB) rfl rfl ?_)
        repeat (first | refine zR ?_ | refine zK ?_ | refine zM ?_ | refine zB ?_ | refine zA ?_ | refine zS ?_ | refine zL ?_)
        refine qc ?_
        (repeat refine qb ?_); refine qk ?_
        exact wS rfl rfl
      · cases hm
    | false =>
      have H2 := pR_h hK3 true (.inr (.inr (.inl rfl))) (cp := qar (tN 0)) (.refl _) (t := [[[mY false]]]) (.inr (.inr rfl)) (.refl _) (x := noRs) (by kernel_rfl)
      (repeat refine qb ?_); refine qa ?_
      repeat (first | refine zR ?_ | refine zK ?_ | refine zM ?_ | refine zB ?_ | refine zA ?_ | refine zS ?_ | refine zL ?_)
      refine SWT.wk (zN (k := 81) rfl) ?_
      repeat (first | refine zR ?_ | refine zK ?_ | refine zM ?_ | refine zB ?_ | refine zA ?_ | refine zS ?_ | refine zL ?_)
      refine SWT.wk (zN (k := 82) rfl) ?_
      repeat (first | refine zR ?_ | refine zK ?_ | refine zM ?_ | refine zB ?_ | refine zA ?_ | refine zS ?_ | refine zL ?_)
      refine SWT.wk (zN (k := 83) rfl) ?_
      repeat (first | refine zR ?_ | refine zK ?_ | refine zM ?_ | refine zB ?_ | refine zA ?_ | refine zS ?_ | refine zL ?_)
      refine qc ?_
      refine SW.wk (qq [3, 13, 14, 15, 16] [(13, 13), (14, 14), (15, 15)] rfl rfl) ?_
      change SW _ _ _ ⟨115, [(3, .p (pB false)), (13, .ptr 13 0), (14, .ptr 14 0), (15, .ptr 15 0), (16, .p (pI 0))], [(13, .cells [.p (mkP (0, 0)), .p (nilV)]), (14, .cells [.p (pS ⟨#[112]⟩), .p (pB false), .p (pI K), .p (tgtP [[[mY false]]]), .p (.sl 5 [[pS ⟨#[114]⟩, pB true, nilV, qar (tN 0), .sl 3 [oA.pv, oB.pv]]]), .p nilV, .p nilV]), (15, .cells [.p (mkP (0, 0)), .p (zQ [])])]⟩
      (repeat refine qb ?_); refine qa ?_
      repeat (first | refine zR ?_ | refine zK ?_ | refine zM ?_ | refine zB ?_ | refine zA ?_ | refine zS ?_ | refine zL ?_)
      refine qn rfl (qD rfl rfl rfl rfl (H2) rfl rfl rfl ?_)
      repeat (first | refine zR ?_ | refine zK ?_ | refine zM ?_ | refine zB ?_ | refine zA ?_ | refine zS ?_ | refine zL ?_)
      refine qc ?_
      (repeat refine qb ?_); refine qa ?_
      repeat (first | refine zR ?_ | refine zK ?_ | refine zM ?_ | refine zB ?_ | refine zA ?_ | refine zS ?_ | refine zL ?_)
      refine qc ?_
      (repeat refine qb ?_); refine qa ?_
      repeat (first | refine zR ?_ | refine zK ?_ | refine zM ?_ | refine zB ?_ | refine zA ?_ | refine zS ?_ | refine zL ?_)
      refine qc ?_
      (repeat refine qb ?_); refine qf rfl (fun hm => ?_) (fun hm => ?_)
      · cases hm
      · refine qm ?_
        refine SW.wk (qq [13, 15, 16, 17, 18, 19] [(13, 13), (15, 15), (17, 17), (19, 19)] rfl rfl) ?_
        (repeat refine qb ?_); refine qa ?_
        repeat (first | refine zR ?_ | refine zK ?_ | refine zM ?_ | refine zB ?_ | refine zA ?_ | refine zS ?_ | refine zL ?_)
        refine qn rfl (qg rfl rfl rfl rfl ((qaq (0, 0) (by simp [mks]))) rfl rfl ?_)
        repeat (first | refine zR ?_ | refine zK ?_ | refine zM ?_ | refine zB ?_ | refine zA ?_ | refine zS ?_ | refine zL ?_)
        refine qn rfl (qg rfl rfl rfl rfl ((qaq (0, 0) (by simp [mks]))) rfl rfl ?_)
        repeat (first | refine zR ?_ | refine zK ?_ | refine zM ?_ | refine zB ?_ | refine zA ?_ | refine zS ?_ | refine zL ?_)
        refine qn rfl (qg rfl rfl rfl rfl (jB) rfl rfl ?_)
        repeat (first | refine zR ?_ | refine zK ?_ | refine zM ?_ | refine zB ?_ | refine zA ?_ | refine zS ?_ | refine zL ?_)
        refine qc ?_
        (repeat refine qb ?_); refine qk ?_
        exact wS rfl rfl
  · (repeat refine qb ?_); refine qa ?_
    repeat (first | refine zR ?_ | refine zK ?_ | refine zM ?_ | refine zB ?_ | refine zA ?_ | refine zS ?_ | refine zL ?_)
    refine qc ?_
    (repeat refine qb ?_); refine qf rfl (fun c1 => ?_) (fun c1 => ?_)
    · cases c1
    (repeat refine qb ?_); refine qa ?_
    repeat (first | refine zR ?_ | refine zK ?_ | refine zM ?_ | refine zB ?_ | refine zA ?_ | refine zS ?_ | refine zL ?_)
    refine qc ?_
    (repeat refine qb ?_); refine qf rfl (fun c2 => ?_) (fun c2 => ?_)
    · cases c2
    (repeat refine qb ?_); refine qa ?_
    repeat (first | refine zR ?_ | refine zK ?_ | refine zM ?_ | refine zB ?_ | refine zA ?_ | refine zS ?_ | refine zL ?_)
    refine qc ?_
    (repeat refine qb ?_); refine qf rfl (fun c3 => ?_) (fun c3 => ?_)
    rotate_left
    · cases c3
    (repeat refine qb ?_); refine qa ?_
    repeat (first | refine zR ?_ | refine zK ?_ | refine zM ?_ | refine zB ?_ | refine zA ?_ | refine zS ?_ | refine zL ?_)
    refine qc ?_
    refine SW.wk (zN (k := 48) rfl) ?_
    refine SW.wk (qq [1, 3, 9, 11, 12] [(12, 12)] rfl rfl) ?_
    change SW _ _ _ ⟨115, [(1, .p (pB false)), (3, .p (pB must)), (9, .p (pI K)), (11, .p (pI 3)), (12, .ptr 12 0)], [(12, .cells [.p (pS ⟨#[114]⟩), .p (pB false), .p nilV, .p (qar tX), .p (.sl 3 [oA.pv, oB.pv])])]⟩
    (repeat refine qb ?_); refine qa ?_
    repeat (first | refine zR ?_ | refine zK ?_ | refine zM ?_ | refine zB ?_ | refine zA ?_ | refine zS ?_ | refine zL ?_)
    refine qw qe rfl rfl (by decide) rfl ?_
    repeat (first | refine zR ?_ | refine zK ?_ | refine zM ?_ | refine zB ?_ | refine zA ?_ | refine zS ?_ | refine zL ?_)
    refine qc ?_
    (repeat refine qb ?_); refine qa ?_
    repeat (first | refine zR ?_ | refine zK ?_ | refine zM ?_ | refine zB ?_ | refine zA ?_ | refine zS ?_ | refine zL ?_)
    refine qc ?_
    (repeat refine qb ?_); refine qf rfl (fun d1 => ?_) (fun d1 => ?_)
    · cases d1
    refine qm ?_
    (repeat refine qb ?_); refine qa ?_
    repeat (first | refine zR ?_ | refine zK ?_ | refine zM ?_ | refine zB ?_ | refine zA ?_ | refine zS ?_ | refine zL ?_)
    refine qc ?_
    (repeat refine qb ?_); refine qf rfl (fun d2 => ?_) (fun d2 => ?_)
    · cases d2
    refine qm ?_
    (repeat refine qb ?_); refine qa ?_
    repeat (first | refine zR ?_ | refine zK ?_ | refine zM ?_ | refine zB ?_ | refine zA ?_ | refine zS ?_ | refine zL ?_)
    refine qc ?_
    (repeat refine qb ?_); refine qf rfl (fun d3 => ?_) (fun d3 => ?_)
    rotate_left
    · cases d3
    (repeat refine qb ?_); refine qa ?_
    repeat (first | refine zR ?_ | refine zK ?_ | refine zM ?_ | refine zB ?_ | refine zA ?_ | refine zS ?_ | refine zL ?_)
    refine qn rfl (qg rfl rfl rfl rfl (qas (2, 0) (by simp [mks])) rfl rfl ?_)
    repeat (first | refine zR ?_ | refine zK ?_ | refine zM ?_ | refine zB ?_ | refine zA ?_ | refine zS ?_ | refine zL ?_)
    refine qc ?_
    (repeat refine qb ?_); refine qa ?_
    repeat (first | refine zR ?_ | refine zK ?_ | refine zM ?_ | refine zB ?_ | refine zA ?_ | refine zS ?_ | refine zL ?_)
    refine qc ?_
    refine SW.wk (zN (k := 70) rfl) ?_
    refine SW.wk (qq [3, 9, 12, 13, 14] [(12, 12), (13, 13), (14, 14)] rfl rfl) ?_
    change SW _ _ _ ⟨115, [(3, .p (pB must)), (9, .p (pI K)), (12, .ptr 12 0), (13, .ptr 13 0), (14, .ptr 14 0)], [(12, .cells [.p (pS ⟨#[114]⟩), .p (pB false), .p nilV, .p (qar tX), .p (.sl 3 [oA.pv, oB.pv])]), (13, .cells [.p (mkP (1, 0)), .p (nilV)]), (14, .cells [.p (pS ⟨#[112]⟩), .p (pB false), .p (pI K), .p nilV, .p (.sl 5 [[pS ⟨#[114]⟩, pB false, nilV, qar tX, .sl 3 [oA.pv, oB.pv]]]), .p nilV, .p nilV])]⟩
    have H1 := pR_h hK3 false (.inr (.inr (.inr rfl))) (cp := qar tX) (.refl _) (t := []) (.inl rfl) (tp := nilV) (.nil 1) (x := ⟨(1, 0), []⟩) (by kernel_rfl)
    (repeat refine qb ?_); refine qa ?_
    repeat (first | refine zR ?_ | refine zK ?_ | refine zM ?_ | refine zB ?_ | refine zA ?_ | refine zS ?_ | refine zL ?_)
    refine qn rfl (qD rfl rfl rfl rfl (H1) rfl rfl rfl ?_)
    repeat (first | refine zR ?_ | refine zK ?_ | refine zM ?_ | refine zB ?_ | refine zA ?_ | refine zS ?_ | refine zL ?_)
    refine qc ?_
    refine SW.wk (qq [3, 9, 12, 13, 14, 15, 16] [(12, 12), (13, 13), (14, 14), (15, 15)] rfl rfl) ?_
    cases must with
    | true =>
      have H2 := pR_h hK3 false (.inr (.inr (.inr rfl))) (cp := qar tX) (.refl _) (t := [[[mY true]]]) (.inr (.inl rfl)) (.refl _) (x := ⟨qat (1, 0), []⟩) (by kernel_rfl)
      (repeat refine qb ?_); refine qa ?_
      repeat (first | refine zR ?_ | refine zK ?_ | refine zM ?_ | refine zB ?_ | refine zA ?_ | refine zS ?_ | refine zL ?_)
      refine SWT.wk (zN (k := 81) rfl) ?_
      repeat (first | refine zR ?_ | refine zK ?_ | refine zM ?_ | refine zB ?_ | refine zA ?_ | refine zS ?_ | refine zL ?_)
      refine SWT.wk (zN (k := 82) rfl) ?_
      repeat (first | refine zR ?_ | refine zK ?_ | refine zM ?_ | refine zB ?_ | refine zA ?_ | refine zS ?_ | refine zL ?_)
      refine SWT.wk (zN (k := 83) rfl) ?_
      repeat (first | refine zR ?_ | refine zK ?_ | refine zM ?_ | refine zB ?_ | refine zA ?_ | refine zS ?_ | refine zL ?_)
      refine qc ?_
      refine SW.wk (qq [3, 13, 14, 15, 16] [(13, 13), (14, 14), (15, 15)] rfl rfl) ?_
      change SW _ _ _ ⟨115, [(3, .p (pB true)), (13, .ptr 13 0), (14, .ptr 14 0), (15, .ptr 15 0), (16, .p (pI 0))], [(13, .cells [.p (mkP (1, 0)), .p (nilV)]), (14, .cells [.p (pS ⟨#[112]⟩), .p (pB false), .p (pI K), .p (tgtP [[[mY true]]]), .p (.sl 5 [[pS ⟨#[114]⟩, pB false, nilV, qar tX, .sl 3 [oA.pv, oB.pv]]]), .p nilV, .p nilV]), (15, .cells [.p (mkP (1, 0)), .p (zQ [])])]⟩
      (repeat refine qb ?_); refine qa ?_
      repeat (first | refine zR ?_ | refine zK ?_ | refine zM ?_ | refine zB ?_ | refine zA ?_ | refine zS ?_ | refine zL ?_)
      refine qn rfl (qD rfl rfl rfl rfl (H2) rfl rfl rfl ?_)
      repeat (first | refine zR ?_ | refine zK ?_ | refine zM ?_ | refine zB ?_ | refine zA ?_ | refine zS ?_ | refine zL ?_)
      refine qc ?_
      (repeat refine qb ?_); refine qa ?_
      repeat (first | refine zR ?_ | refine zK ?_ | refine zM ?_ | refine zB ?_ | refine zA ?_ | refine zS ?_ | refine zL ?_)
      refine qc ?_
      (repeat refine qb ?_); refine qa ?_
      repeat (first | refine zR ?_ | refine zK ?_ | refine zM ?_ | refine zB ?_ | refine zA ?_ | refine zS ?_ | refine zL ?_)
      refine qc ?_
      (repeat refine qb ?_); refine qf rfl (fun hm => ?_) (fun hm => ?_)
      · (repeat refine qb ?_); refine qa ?_
        repeat (first | refine zR ?_ | refine zK ?_ | refine zM ?_ | refine zB ?_ | refine zA ?_ | refine zS ?_ | refine zL ?_)
        refine qn rfl (qg rfl rfl rfl rfl (qas (1, 0) (by simp [mks])) rfl rfl ?_)
        repeat (first | refine zR ?_ | refine zK ?_ | refine zM ?_ | refine zB ?_ | refine zA ?_ | refine zS ?_ | refine zL ?_)
        refine qc ?_
        refine SW.wk (qq [13, 15, 16, 17, 18, 19] [(13, 13), (15, 15), (17, 17), (19, 19)] rfl rfl) ?_
        (repeat refine qb ?_); refine qa ?_
        repeat (first | refine zR ?_ | refine zK ?_ | refine zM ?_ | refine zB ?_ | refine zA ?_ | refine zS ?_ | refine zL ?_)
        refine qn rfl (qg rfl rfl rfl rfl ((qaq (1, 0) (by simp [mks]))) rfl rfl ?_)
        repeat (first | refine zR ?_ | refine zK ?_ | refine zM ?_ | refine zB ?_ | refine zA ?_ | refine zS ?_ | refine zL ?_)
        refine qn rfl (qg rfl rfl rfl rfl ((qaq (qat (1, 0)) (qau (by simp [mks])))) rfl rfl ?_)
        repeat (first | refine zR ?_ | refine zK ?_ | refine zM ?_ | refine zB ?_ | refine zA ?_ | refine zS ?_ | refine zL ?_)
        refine qn rfl (qg rfl rfl rfl rfl (jB) rfl rfl ?_)
        repeat (first | refine zR ?_ | refine zK ?_ | refine zM ?_ | refine zB ?_ | refine zA ?_ | refine zS ?_ | refine zL ?_)
        refine qc ?_
        (repeat refine qb ?_); refine qk ?_
        exact wS rfl rfl
      · cases hm
    | false =>
      have H2 := pR_h hK3 false (.inr (.inr (.inr rfl))) (cp := qar tX) (.refl _) (t := [[[mY false]]]) (.inr (.inr rfl)) (.refl _) (x := noRs) (by kernel_rfl)
      (repeat refine qb ?_); refine qa ?_
      repeat (first | refine zR ?_ | refine zK ?_ | refine zM ?_ | refine zB ?_ | refine zA ?_ | refine zS ?_ | refine zL ?_)
      refine SWT.wk (zN (k := 81) rfl) ?_
      repeat (first | refine zR ?_ | refine zK ?_ | refine zM ?_ | refine zB ?_ | refine zA ?_ | refine zS ?_ | refine zL ?_)
      refine SWT.wk (zN (k := 82) rfl) ?_
      repeat (first | refine zR ?_ | refine zK ?_ | refine zM ?_ | refine zB ?_ | refine zA ?_ | refine zS ?_ | refine zL ?_)
      refine SWT.wk (zN (k := 83) rfl) ?_
      repeat (first | refine zR ?_ | refine zK ?_ | refine zM ?_ | refine zB ?_ | refine zA ?_ | refine zS ?_ | refine zL ?_)
      refine qc ?_
      refine SW.wk (qq [3, 13, 14, 15, 16] [(13, 13), (14, 14), (15, 15)] rfl rfl) ?_
      change SW _ _ _ ⟨115, [(3, .p (pB false)), (13, .ptr 13 0), (14, .ptr 14 0), (15, .ptr 15 0), (16, .p (pI 0))], [(13, .cells [.p (mkP (1, 0)), .p (nilV)]), (14, .cells [.p (pS ⟨#[112]⟩), .p (pB false), .p (pI K), .p (tgtP [[[mY false]]]), .p (.sl 5 [[pS ⟨#[114]⟩, pB false, nilV, qar tX, .sl 3 [oA.pv, oB.pv]]]), .p nilV, .p nilV]), (15, .cells [.p (mkP (1, 0)), .p (zQ [])])]⟩
      (repeat refine qb ?_); refine qa ?_
      repeat (first | refine zR ?_ | refine zK ?_ | refine zM ?_ | refine zB ?_ | refine zA ?_ | refine zS ?_ | refine zL ?_)
      refine qn rfl (qD rfl rfl rfl rfl (H2) rfl rfl rfl ?_)
      repeat (first | refine zR ?_ | refine zK ?_ | refine zM ?_ | refine zB ?_ | refine zA ?_ | refine zS ?_ | refine zL ?_)
      refine qc ?_
      (repeat refine qb ?_); refine qa ?_
      repeat (first | refine zR ?_ | refine zK ?_ | refine zM ?_ | refine zB ?_ | refine zA ?_ | refine zS ?_ | refine zL ?_)
      refine qc ?_
      (repeat refine qb ?_); refine qa ?_
      repeat (first | refine zR ?_ | refine zK ?_ | refine zM ?_ | refine zB ?_ | refine zA ?_ | refine zS ?_ | refine zL ?_)
      refine qc ?_
      (repeat refine qb ?_); refine qf rfl (fun hm => ?_) (fun hm => ?_)
      · cases hm
      · refine qm ?_
        refine SW.wk (qq [13, 15, 16, 17, 18, 19] [(13, 13), (15, 15), (17, 17), (19, 19)] rfl rfl) ?_
        (repeat refine qb ?_); refine qa ?_
        repeat (first | refine zR ?_ | refine zK ?_ | refine zM ?_ | refine zB ?_ | refine zA ?_ | refine zS ?_ | refine zL ?_)
        refine qn rfl (qg rfl rfl rfl rfl ((qaq (1, 0) (by simp [mks]))) rfl rfl ?_)
        repeat (first | refine zR ?_ | refine zK ?_ | refine zM ?_ | refine zB ?_ | refine zA ?_ | refine zS ?_ | refine zL ?_)
        refine qn rfl (qg rfl rfl rfl rfl ((qaq (0, 0) (by simp [mks]))) rfl rfl ?_)
        repeat (first | refine zR ?_ | refine zK ?_ | refine zM ?_ | refine zB ?_ | refine zA ?_ | refine zS ?_ | refine zL ?_)
        refine qn rfl (qg rfl rfl rfl rfl (jB) rfl rfl ?_)
        repeat (first | refine zR ?_ | refine zK ?_ | refine zM ?_ | refine zB ?_ | refine zA ?_ | refine zS ?_ | refine zL ?_)
        refine qc ?_
        (repeat refine qb ?_); refine qk ?_
        exact wS rfl rfl
  · (repeat refine qb ?_); refine qa ?_
    repeat (first | refine zR ?_ | refine zK ?_ | refine zM ?_ | refine zB ?_ | refine zA ?_ | refine zS ?_ | refine zL ?_)
    refine qc ?_
    (repeat refine qb ?_); refine qf rfl (fun c1 => ?_) (fun c1 => ?_)
    · cases c1
    (repeat refine qb ?_); refine qa ?_
    repeat (first | refine zR ?_ | refine zK ?_ | refine zM ?_ | refine zB ?_ | refine zA ?_ | refine zS ?_ | refine zL ?_)
    refine qc ?_
    (repeat refine qb ?_); refine qf rfl (fun c2 => ?_) (fun c2 => ?_)
    · cases c2
    (repeat refine qb ?_); refine qa ?_
    repeat (first | refine zR ?_ | refine zK ?_ | refine zM ?_ | refine zB ?_ | refine zA ?_ | refine zS ?_ | refine zL ?_)
    refine qc ?_
    (repeat refine qb ?_); refine qf rfl (fun c3 => ?_) (fun c3 => ?_)
    rotate_left
    · cases c3
    (repeat refine qb ?_); refine qa ?_
    repeat (first | refine zR ?_ | refine zK ?_ | refine zM ?_ | refine zB ?_ | refine zA ?_ | refine zS ?_ | refine zL ?_)
    refine qc ?_
    refine SW.wk (zN (k := 48) rfl) ?_
    refine SW.wk (qq [1, 3, 9, 11, 12] [(12, 12)] rfl rfl) ?_
    change SW _ _ _ ⟨115, [(1, .p (pB true)), (3, .p (pB must)), (9, .p (pI K)), (11, .p (pI 3)), (12, .ptr 12 0)], [(12, .cells [.p (pS ⟨#[114]⟩), .p (pB true), .p nilV, .p (qar tX), .p (.sl 3 [oA.pv, oB.pv])])]⟩
    (repeat refine qb ?_); refine qa ?_
    repeat (first | refine zR ?_ | refine zK ?_ | refine zM ?_ | refine zB ?_ | refine zA ?_ | refine zS ?_ | refine zL ?_)
    refine qw qe rfl rfl (by decide) rfl ?_
    repeat (first | refine zR ?_ | refine zK ?_ | refine zM ?_ | refine zB ?_ | refine zA ?_ | refine zS ?_ | refine zL ?_)
    refine qc ?_
    (repeat refine qb ?_); refine qa ?_
    repeat (first | refine zR ?_ | refine zK ?_ | refine zM ?_ | refine zB ?_ | refine zA ?_ | refine zS ?_ | refine zL ?_)
    refine qc ?_
    (repeat refine qb ?_); refine qf rfl (fun d1 => ?_) (fun d1 => ?_)
    rotate_left
    · cases d1
    (repeat refine qb ?_); refine qa ?_
    repeat (first | refine zR ?_ | refine zK ?_ | refine zM ?_ | refine zB ?_ | refine zA ?_ | refine zS ?_ | refine zL ?_)
    refine qw qe rfl rfl (by decide) rfl ?_
    repeat (first | refine zR ?_ | refine zK ?_ | refine zM ?_ | refine zB ?_ | refine zA ?_ | refine zS ?_ | refine zL ?_)
    refine qc ?_
    (repeat refine qb ?_); refine qa ?_
    repeat (first | refine zR ?_ | refine zK ?_ | refine zM ?_ | refine zB ?_ | refine zA ?_ | refine zS ?_ | refine zL ?_)
    refine qc ?_
    (repeat refine qb ?_); refine qf rfl (fun d2 => ?_) (fun d2 => ?_)
    · cases d2
    refine qm ?_
    (repeat refine qb ?_); refine qa ?_
    repeat (first | refine zR ?_ | refine zK ?_ | refine zM ?_ | refine zB ?_ | refine zA ?_ | refine zS ?_ | refine zL ?_)
    refine qc ?_
    (repeat refine qb ?_); refine qf rfl (fun d3 => ?_) (fun d3 => ?_)
    rotate_left
    · cases d3
    (repeat refine qb ?_); refine qa ?_
    repeat (first | refine zR ?_ | refine zK ?_ | refine zM ?_ | refine zB ?_ | refine zA ?_ | refine zS ?_ | refine zL ?_)
    refine qn rfl (qg rfl rfl rfl rfl (qas (0, 2) (by simp [mks])) rfl rfl ?_)
    repeat (first | refine zR ?_ | refine zK ?_ | refine zM ?_ | refine zB ?_ | refine zA ?_ | refine zS ?_ | refine zL ?_)
    refine qc ?_
    (repeat refine qb ?_); refine qa ?_
    repeat (first | refine zR ?_ | refine zK ?_ | refine zM ?_ | refine zB ?_ | refine zA ?_ | refine zS ?_ | refine zL ?_)
    refine qc ?_
    refine SW.wk (zN (k := 70) rfl) ?_
    refine SW.wk (qq [3, 9, 12, 13, 14] [(12, 12), (13, 13), (14, 14)] rfl rfl) ?_
    change SW _ _ _ ⟨115, [(3, .p (pB must)), (9, .p (pI K)), (12, .ptr 12 0), (13, .ptr 13 0), (14, .ptr 14 0)], [(12, .cells [.p (pS ⟨#[114]⟩), .p (pB true), .p nilV, .p (qar tX), .p (.sl 3 [oA.pv, oB.pv])]), (13, .cells [.p (mkP (0, 1)), .p (nilV)]), (14, .cells [.p (pS ⟨#[112]⟩), .p (pB false), .p (pI K), .p nilV, .p (.sl 5 [[pS ⟨#[114]⟩, pB true, nilV, qar tX, .sl 3 [oA.pv, oB.pv]]]), .p nilV, .p nilV])]⟩
    have H1 := pR_h hK3 true (.inr (.inr (.inr rfl))) (cp := qar tX) (.refl _) (t := []) (.inl rfl) (tp := nilV) (.nil 1) (x := ⟨(0, 1), []⟩) (by kernel_rfl)
    (repeat refine qb ?_); refine qa ?_
    repeat (first | refine zR ?_ | refine zK ?_ | refine zM ?_ | refine zB ?_ | refine zA ?_ | refine zS ?_ | refine zL ?_)
    refine qn rfl (qD rfl rfl rfl rfl (H1) rfl rfl rfl ?_)
    repeat (first | refine zR ?_ | refine zK ?_ | refine zM ?_ | refine zB ?_ | refine zA ?_ | refine zS ?_ | refine zL ?_)
    refine qc ?_
    refine SW.wk (qq [3, 9, 12, 13, 14, 15, 16] [(12, 12), (13, 13), (14, 14), (15, 15)] rfl rfl) ?_
    cases must with
    | true =>
      have H2 := pR_h hK3 true (.inr (.inr (.inr rfl))) (cp := qar tX) (.refl _) (t := [[[mY true]]]) (.inr (.inl rfl)) (.refl _) (x := ⟨qat (0, 1), []⟩) (by kernel_rfl)
      (repeat refine qb ?_); refine qa ?_
      repeat (first | refine zR ?_ | refine zK ?_ | refine zM ?_ | refine zB ?_ | refine zA ?_ | refine zS ?_ | refine zL ?_)
      refine SWT.wk (zN (k := 81) rfl) ?_
      repeat (first | refine zR ?_ | refine zK ?_ | refine zM ?_ | refine zB ?_ | refine zA ?_ | refine zS ?_ | refine zL ?_)
      refine SWT.wk (zN (k := 82) rfl) ?_
      repeat (first | refine zR ?_ | refine zK ?_ | refine zM ?_ | refine zB ?_ | refine zA ?_ | refine zS ?_ | refine zL ?_)
      refine SWT.wk (zN (k := 83) rfl) ?_
      repeat (first | refine zR ?_ | refine zK ?_ | refine zM ?_ | refine zB ?_ | refine zA ?_ | refine zS ?_ | refine zL ?_)
      refine qc ?_
      refine SW.wk (qq [3, 13, 14, 15, 16] [(13, 13), (14, 14), (15, 15)] rfl rfl) ?_
      change SW _ _ _ ⟨115, [(3, .p (pB true)), (13, .ptr 13 0), (14, .ptr 14 0), (15, .ptr 15 0), (16, .p (pI 0))], [(13, .cells [.p (mkP (0, 1)), .p (nilV)]), (14, .cells [.p (pS ⟨#[112]⟩), .p (pB false), .p (pI K), .p (tgtP [[[mY true]]]), .p (.sl 5 [[pS ⟨#[114]⟩, pB true, nilV, qar tX, .sl 3 [oA.pv, oB.pv]]]), .p nilV, .p nilV]), (15, .cells [.p (mkP (0, 1)), .p (zQ [])])]⟩
      (repeat refine qb ?_); refine qa ?_
      repeat (first | refine zR ?_ | refine zK ?_ | refine zM ?_ | refine zB ?_ | refine zA ?_ | refine zS ?_ | refine zL ?_)
      refine qn rfl (qD rfl rfl rfl rfl (H2) rfl rfl rfl ?_)
      repeat (first | refine zR ?_ | refine zK ?_ | refine zM ?_ | refine zB ?_ | refine zA ?_ | refine zS ?_ | refine zL ?_)
      refine qc ?_
      (repeat refine qb ?_); refine qa ?_
      repeat (first | refine zR ?_ | refine zK ?_ | refine zM ?_ | refine zB ?_ | refine zA ?_ | refine zS ?_ | refine zL ?_)
      refine qc ?_
      (repeat refine qb ?_); refine qa ?_
      repeat (first | refine zR ?_ | refine zK ?_ | refine zM ?_ | refine zB ?_ | refine zA ?_ | refine zS ?_ | refine zL ?_)
      refine qc ?_
      (repeat refine qb ?_); refine qf rfl (fun hm => ?_) (fun hm => ?_)
      · (repeat refine qb ?_); refine qa ?_
        repeat (first | refine zR ?_ | refine zK ?_ | refine zM ?_ | refine zB ?_ | refine zA ?_ | refine zS ?_ | refine zL ?_)
        refine qn rfl (qg rfl rfl rfl rfl (qas (0, 1) (by simp [mks])) rfl rfl ?_)
        repeat (first | refine zR ?_ | refine zK ?_ | refine zM ?_ | refine zB ?_ | refine zA ?_ | refine zS ?_ | refine zL ?_)
        refine qc ?_
        refine SW.wk (qq [13, 15, 16, 17, 18, 19] [(13, 13), (15, 15), (17, 17), (19, 19)] rfl rfl) ?_
        (repeat refine qb ?_); refine qa ?_
        repeat (first | refine zR ?_ | refine zK ?_ | refine zM ?_ | refine zB ?_ | refine zA ?_ | refine zS ?_ | refine zL ?_)
        refine qn rfl (qg rfl rfl rfl rfl ((qaq (0, 1) (by simp [mks]))) rfl rfl ?_)
        repeat (first | refine zR ?_ | refine zK ?_ | refine zM ?_ | refine zB ?_ | refine zA ?_ | refine zS ?_ | refine zL ?_)
        refine qn rfl (qg rfl rfl rfl rfl ((qaq (qat (0, 1)) (qau (by simp [mks])))) rfl rfl ?_)
        repeat (first | refine zR ?_ | refine zK ?_ | refine zM ?_ | refine zB ?_ | refine zA ?_ | refine zS ?_ | refine zL ?_)
        refine qn rfl (qg rfl rfl rfl rfl (jB) rfl rfl ?_)
        repeat (first | refine zR ?_ | refine zK ?_ | refine zM ?_ | refine zB ?_ | refine zA ?_ | refine zS ?_ | refine zL ?_)
        refine qc ?_
        (repeat refine qb ?_); refine qk ?_
        exact wS rfl rfl
      · cases hm
    | false =>
      have H2 := pR_h hK3 true (.inr (.inr (.inr rfl))) (cp := qar tX) (.refl _) (t := [[[mY false]]]) (.inr (.inr rfl)) (.refl _) (x := noRs) (by kernel_rfl)
      (repeat refine qb ?_); refine qa ?_
      repeat (first | refine zR ?_ | refine zK ?_ | refine zM ?_ | refine zB ?_ | refine zA ?_ | refine zS ?_ | refine zL ?_)
      refine SWT.wk (zN (k := 81) rfl) ?_
      repeat (first | refine zR ?_ | refine zK ?_ | refine zM ?_ | refine zB ?_ | refine zA ?_ | refine zS ?_ | refine zL ?_)
      refine SWT.wk (zN (k := 82) rfl) ?_
      repeat (first | refine zR ?_ | refine zK ?_ | refine zM ?_ | refine zB ?_ | refine zA ?_ | refine zS ?_ | refine zL ?_)
      refine SWT.wk (zN (k := 83) rfl) ?_
      repeat (first | refine zR ?_ | refine zK ?_ | refine zM ?_ | refine zB ?_ | refine zA ?_ | refine zS ?_ | refine zL ?_)
      refine qc ?_
      refine SW.wk (qq [3, 13, 14, 15, 16] [(13, 13), (14, 14), (15, 15)] rfl rfl) ?_
      change SW _ _ _ ⟨115, [(3, .p (pB false)), (13, .ptr 13 0), (14, .ptr 14 0), (15, .ptr 15 0), (16, .p (pI 0))], [(13, .cells [.p (mkP (0, 1)), .p (nilV)]), (14, .cells [.p (pS ⟨#[112]⟩), .p (pB false), .p (pI K), .p (tgtP [[[mY false]]]), .p (.sl 5 [[pS ⟨#[114]⟩, pB true, nilV, qar tX, .sl 3 [oA.pv, oB.pv]]]), .p nilV, .p nilV]), (15, .cells [.p (mkP (0, 1)), .p (zQ [])])]⟩
      (repeat refine qb ?_); refine qa ?_
      repeat (first | refine zR ?_ | refine zK ?_ | refine zM ?_ | refine zB ?_ | refine zA ?_ | refine zS ?_ | refine zL ?_)
      refine qn rfl (qD rfl rfl rfl rfl (H2) rfl rfl rfl ?_)
      repeat (first | refine zR ?_ | refine zK ?_ | refine zM ?_ | refine zB ?_ | refine zA ?_ | refine zS ?_ | refine zL ?_)
      refine qc ?_
      (repeat refine qb ?_); refine qa ?_
      repeat (first | refine zR ?_ | refine zK ?_ | refine zM ?_ | refine zB ?_ | refine zA ?_ | refine zS ?_ | refine zL ?_)
      refine qc ?_
      (repeat refine qb ?_); refine qa ?_
      repeat (first | refine zR ?_ | refine zK ?_ | refine zM ?_ | refine zB ?_ | refine zA ?_ | refine zS ?_ | refine zL ?_)
      refine qc ?_
      (repeat refine qb ?_); refine qf rfl (fun hm => ?_) (fun hm => ?_)
      · cases hm
      · refine qm ?_
        refine SW.wk (qq [13, 15, 16, 17, 18, 19] [(13, 13), (15, 15), (17, 17), (19, 19)] rfl rfl) ?_
        (repeat refine qb ?_); refine qa ?_
        repeat (first | refine zR ?_ | refine zK ?_ | refine zM ?_ | refine zB ?_ | refine zA ?_ | refine zS ?_ | refine zL ?_)
        refine qn rfl (qg rfl rfl rfl rfl ((qaq (0, 1) (by simp [mks]))) rfl rfl ?_)
        repeat (first | refine zR ?_ | refine zK ?_ | refine zM ?_ | refine zB ?_ | refine zA ?_ | refine zS ?_ | refine zL ?_)
        refine qn rfl (qg rfl rfl rfl rfl ((qaq (0, 0) (by simp [mks]))) rfl rfl ?_)
        repeat (first | refine zR ?_ | refine zK ?_ | refine zM ?_ | refine zB ?_ | refine zA ?_ | refine zS ?_ | refine zL ?_)
        refine qn rfl (qg rfl rfl rfl rfl (jB) rfl rfl ?_)
        repeat (first | refine zR ?_ | refine zK ?_ | refine zM ?_ | refine zB ?_ | refine zA ?_ | refine zS ?_ | refine zL ?_)
        refine qc ?_
        (repeat refine qb ?_); refine qk ?_
        exact wS rfl rfl
end Go.Proofs.YtppfcacnofjmdaaGreatDoor
namespace Go.Proofs.YtppfcacnofjmdaaGreatDoor
set_option linter.unusedVariables false
set_option linter.unusedSimpArgs false
open Go.RowKit
inductive RelsP (w : World) : List PV → List Value → Prop
  | nil : RelsP w [] []
  | cons {x : PV} {u : Value} {xs : List PV} {us : List Value} (h : RelP (fun _ => True) w x u) (r : RelsP w xs us) : RelsP w (x :: xs) (u :: us)
theorem RelsP.get {w : World} {xs : List PV} {us : List Value} (h : RelsP w xs us) : us.length = xs.length ∧ ∀ (i : Nat) (s : PV) (u : Value), xs[i]? = some s → us[i]? = some u → RelP (fun _ => True) w s u := by
  induction h with
  | nil => exact ⟨rfl, fun i s u h => by simp at h⟩
  | cons h r ih =>
    refine ⟨by simp [ih.1], fun i s u hs hu => ?_⟩
    cases i with
    | zero => simp at hs hu; subst hs; subst hu; exact h
    | succ i => exact ih.2 i s u (by simpa using hs) (by simpa using hu)
theorem law_callsG {P : Program} {f : FuncId} {args : List PV} {us : List Value} {W : World} (hg : GlOk (entry W) fun _ => False) (H : Holds P f args (.p (.v (.bool true))) []) (hr : RelsP W args us) : Calls P f us.toArray W fun e w' => e = .returned (.bool true) ∧ Below W.heap.size W w' := by
  obtain ⟨h1, h2⟩ := hr.get
  refine (H.2 W (fun _ => False) us ⟨fun _ h => h.elim, hg⟩ h1 fun i s u hs hu => (h2 i s u hs hu).weak fun _ _ _ => fun h => h).mono fun e w' ⟨v, γ, he, hb, _, hv⟩ => ?_
  have := hv.v_inv
  subst this
  exact ⟨he, hb⟩
theorem rel_agg {w : World} {cs : List Value} {x : List PV} (h : rPV (fun _ => True) w cs x) : RelP (fun _ => True) w (.agg x) (.agg cs.toArray) := .agg h.1 h.2
theorem rel_int {w : World} (k : IntKind) (n : Int) : RelP (fun _ => True) w (.v (.int k n)) (.int k n) := .v rfl
theorem rel_bool {w : World} (n : Bool) : RelP (fun _ => True) w (.v (.bool n)) (.bool n) := .v rfl
theorem rel_str {w : World} (n : ByteArray) : RelP (fun _ => True) w (.v (.string n)) (.string n) := .v rfl
end Go.Proofs.YtppfcacnofjmdaaGreatDoor
namespace Go.Proofs.YtppfcacnofjmdaaGreatDoor
set_option linter.unusedSimpArgs false
open Go.ChangeShapes Go.WideShapes Go.ChangeAt Go.RowKit
set_option linter.unusedVariables false
theorem law_liftL {H : Type} {enc : TypeId × Value → H} {C : Checked} {os : Os} {f : FuncId} {fn : Func} {s : ChangeSpec} {bt : TypeId} {laid : List (String × DataW Unit)}
    (own : ownKnob C.prog.godebug = none) (started : os.Started) (noInit : C.prog.inits.idxOf? f = none) (hfn : C.prog.funcs[f]? = some fn)
    (witness : ∃ (w : World) (tape : Tape) (i : Input), w.os = os ∧ (w.forCall tape i).Shaped C.prog ∧ i.vars = [] ∧ Input.okWide C.prog (w.forCall tape i) .any w.heap.size f i ∧
      ((s.pre enc C.prog fn [] false (w.forCall tape i).memory i.args ∧ laidMetH C.prog laid (w.forCall tape i).memory) ∧ sizedMet enc C.prog fn (OpenSpec.ofChange s) false (w.forCall tape i).memory i.args) ∧ ({} : Assume).holds C.prog (lone (Frame.enter C.prog f i.args .normal) [] (w.forCall tape i)))
    (hl : laidOutB C.prog = true) (hts : ∀ t ∈ fn.params.toList, C.prog.readableRec t = true ∧ t < C.prog.types.size) (hvars : s.vars = []) (hvt : s.plain.varTypes C.prog = [])
    (hspec : ∀ (W : World) (args : Array Value) (ds : List (DataW H)) (ps : List MemPlace), DataW.TrodAll enc C.prog W 0 (fun _ => true) true fn.params.toList args.toList ds ps → s.fn H ds = { results := [.lit (.bool true)], args := ds })
    (hres : fn.resultTypes = #[bt]) (hbt : C.prog.underlying bt = some .bool)
    (walk : ∀ (W : World) (base : Nat) (args : Array Value) (ds : List (DataW H)) (ps : List MemPlace), laidMetH C.prog laid W →
      (∀ (j : Nat) t v, fn.params[j]? = some t → args[j]? = some v → Value.okWide C.prog W .any base t v) →
      DataW.TrodAll enc C.prog W 0 (fun _ => true) true fn.params.toList args.toList ds ps →
      (∀ n ∈ DataW.weightsEach C.prog fn.params.toList ds, n ≤ reachBytes) →
      Calls C.prog f args W fun e W' => e = .returned (.bool true) ∧ Below W.heap.size W W') :
    ReturnsInHanded {} C os f .any (fun w args => (s.pre enc C.prog fn [] false w args ∧ laidMetH C.prog laid w) ∧ sizedMet enc C.prog fn (OpenSpec.ofChange s) false w args) (s.post enc C.prog fn false true false false) := by
  refine returnsInHanded_of_change_and (X := fun w _ => laidMetH C.prog laid w) (fun _ _ _ hh h => h.of_heap hh) own started noInit hfn witness ?_
  intro W base args ds gs before hval hW _ hsz hL _
  have hlt : ∀ p ∈ before, p.block < W.heap.size := fun p hp => hW.lt p hp
  have hW0 := hW
  obtain ⟨p, q, hA, hV, rfl, hz, hn⟩ := hW0
  rw [hvars] at hV
  obtain ⟨rfl, rfl⟩ := trodVars_none hV
  have hsp := hspec W args ds p hA
  refine (walk W base args ds p hL hval hA ?_).mono fun e W' ⟨he, hb⟩ => ?_
  · intro n hn
    rw [hvt, List.append_nil, List.append_nil] at hsz
    exact of_decide_eq_true (List.all_eq_true.1 hsz n hn)
  · subst he
    refine ⟨_, rfl, ds, [], p ++ [], [], p, [], hW, ?_, ?_, ?_, World.keptBut_mono (fun x hx => ⟨hx, Or.inr (Or.inl (by simpa using hx))⟩) (hb.frame (· ∈ p ++ [])), fun h => by cases h⟩
    · rw [List.append_nil, hsp, hres]
      exact trodAll_mk1 (shut_bool hbt _)
    · rw [List.append_nil, hsp]
      exact qap hl hb hts (fun x hx => hlt x (by simpa using hx)) (fun x hx => by simpa using hlt x (by simpa using hx)) hA
    · rw [List.append_nil, hsp, hvars]
      rfl
theorem laidMet_tail {P : Program} {x : String × DataW Unit} {l : List (String × DataW Unit)} {W : World} (h : laidMet P (x :: l) W) : laidMet P l W := by
  obtain ⟨ps, ⟨g, t, cs, fuel, p, q, h1, h2, h3, h4, h5, h6⟩, hn, hb⟩ := h
  subst h6
  exact ⟨q, h5, (List.nodup_append.1 hn).2.1, fun b off hm => hb b off (List.mem_append_right _ hm)⟩
theorem block_of_tab {P : Program} {W : World} {name : String} {k : IntKind} {zs : List Int} {g : Nat} (h : Lib.TabIs P W name k zs) (hg : P.globalNamed name = some g) {us : List Value} (hu : us = zs.map fun z => Value.int k z) : g < W.heap.size ∧ ∃ ty m, W.heap[g]? = some (.cells us.toArray ty m) := by
  unfold Lib.TabIs World.var? at h
  rw [hg] at h
  simp only [Option.bind_some] at h
  split at h
  · rename_i cs ty m hb
    cases h
    exact ⟨(Array.getElem?_eq_some_iff.1 hb).1, ty, m, by rw [hb, hu]⟩
  · cases h
end Go.Proofs.YtppfcacnofjmdaaGreatDoor
namespace Go.Proofs.YtppfcacnofjmdaaGreatDoor
open Go.RowKit
theorem own_none : ownKnob Tryz.prog.godebug = none := by kernel_rfl
theorem gl_of_laid {rest : List (String × DataW Unit)} {W : World} (h : laidMet Tryz.prog (("math/bits.deBruijn32tab", Rows.laid_math_bits_deBruijn32tab) :: ("math/bits.deBruijn64tab", Rows.laid_math_bits_deBruijn64tab) :: ("internal/strconv.uint64pow10", Rows.laid_internal_strconv_uint64pow10) :: rest) W) : GlOk (entry W) fun _ => False := by
  have b0 := block_of_tab (g := 4) (us := [.int .u8 0, .int .u8 1, .int .u8 28, .int .u8 2, .int .u8 29, .int .u8 14, .int .u8 24, .int .u8 3, .int .u8 30, .int .u8 22, .int .u8 20, .int .u8 15, .int .u8 25, .int .u8 17, .int .u8 4, .int .u8 8, .int .u8 31, .int .u8 27, .int .u8 13, .int .u8 23, .int .u8 21, .int .u8 19, .int .u8 16, .int .u8 7, .int .u8 26, .int .u8 12, .int .u8 18, .int .u8 6, .int .u8 11, .int .u8 5, .int .u8 10, .int .u8 9]) (Lib.tabIs_of_head (k := .u8) (zs := [0, 1, 28, 2, 29, 14, 24, 3, 30, 22, 20, 15, 25, 17, 4, 8, 31, 27, 13, 23, 21, 19, 16, 7, 26, 12, 18, 6, 11, 5, 10, 9]) (g := 4) (t := 262) (e := 5) (n := 32) (by kernel_rfl) (by kernel_rfl) Tryz.underlying262 Tryz.underlying5 (by kernel_rfl) (by kernel_rfl) h) (by kernel_rfl) rfl
  have b1 := block_of_tab (g := 5) (us := [.int .u8 0, .int .u8 1, .int .u8 56, .int .u8 2, .int .u8 57, .int .u8 49, .int .u8 28, .int .u8 3, .int .u8 61, .int .u8 58, .int .u8 42, .int .u8 50, .int .u8 38, .int .u8 29, .int .u8 17, .int .u8 4, .int .u8 62, .int .u8 47, .int .u8 59, .int .u8 36, .int .u8 45, .int .u8 43, .int .u8 51, .int .u8 22, .int .u8 53, .int .u8 39, .int .u8 33, .int .u8 30, .int .u8 24, .int .u8 18, .int .u8 12, .int .u8 5, .int .u8 63, .int .u8 55, .int .u8 48, .int .u8 27, .int .u8 60, .int .u8 41, .int .u8 37, .int .u8 16, .int .u8 46, .int .u8 35, .int .u8 44, .int .u8 21, .int .u8 52, .int .u8 32, .int .u8 23, .int .u8 11, .int .u8 54, .int .u8 26, .int .u8 40, .int .u8 15, .int .u8 34, .int .u8 20, .int .u8 31, .int .u8 10, .int .u8 25, .int .u8 14, .int .u8 19, .int .u8 9, .int .u8 13, .int .u8 8, .int .u8 7, .int .u8 6]) (Lib.tabIs_of_head (k := .u8) (zs := [0, 1, 56, 2, 57, 49, 28, 3, 61, 58, 42, 50, 38, 29, 17, 4, 62, 47, 59, 36, 45, 43, 51, 22, 53, 39, 33, 30, 24, 18, 12, 5, 63, 55, 48, 27, 60, 41, 37, 16, 46, 35, 44, 21, 52, 32, 23, 11, 54, 26, 40, 15, 34, 20, 31, 10, 25, 14, 19, 9, 13, 8, 7, 6]) (g := 5) (t := 263) (e := 5) (n := 64) (by kernel_rfl) (by kernel_rfl) Tryz.underlying263 Tryz.underlying5 (by kernel_rfl) (by kernel_rfl) (laidMet_tail h)) (by kernel_rfl) rfl
  have b2 := block_of_tab (g := 3) (us := [.int .u64 1, .int .u64 10, .int .u64 100, .int .u64 1000, .int .u64 10000, .int .u64 100000, .int .u64 1000000, .int .u64 10000000, .int .u64 100000000, .int .u64 1000000000, .int .u64 10000000000, .int .u64 100000000000, .int .u64 1000000000000, .int .u64 10000000000000, .int .u64 100000000000000, .int .u64 1000000000000000, .int .u64 10000000000000000, .int .u64 100000000000000000, .int .u64 1000000000000000000, .int .u64 10000000000000000000]) (Lib.tabIs_of_head (k := .u64) (zs := [1, 10, 100, 1000, 10000, 100000, 1000000, 10000000, 100000000, 1000000000, 10000000000, 100000000000, 1000000000000, 10000000000000, 100000000000000, 1000000000000000, 10000000000000000, 100000000000000000, 1000000000000000000, 10000000000000000000]) (g := 3) (t := 257) (e := 236) (n := 20) (by kernel_rfl) (by kernel_rfl) Tryz.underlying257 Tryz.underlying236 (by kernel_rfl) (by kernel_rfl) (laidMet_tail (laidMet_tail h))) (by kernel_rfl) rfl
  intro g us hg
  simp only [GTab, qE] at hg
  repeat' split at hg
  all_goals first | cases hg; done | skip
  all_goals (subst_vars; cases hg)
  all_goals first | exact ⟨b0.1, fun h => h, b0.2⟩ | exact ⟨b1.1, fun h => h, b1.2⟩ | exact ⟨b2.1, fun h => h, b2.2⟩
noncomputable def lowB : Nat := (World.holding Tryz.prog default ⟨#[], #[], []⟩).heap.size
noncomputable def worldB (os : Os) : World :=
  let w0 := World.holding Tryz.prog os ⟨#[.cells #[.string ⟨#[118, 97, 108, 117, 101, 32, 111, 117, 116, 32, 111, 102, 32, 114, 97, 110, 103, 101]⟩] 249, .cells #[.string ⟨#[105, 110, 118, 97, 108, 105, 100, 32, 115, 121, 110, 116, 97, 120]⟩] 249], #[], []⟩
  { w0 with heap := ((((((((((w0.heap).modify 4 fun | .cells _ t frozen => .cells #[.int .u8 0, .int .u8 1, .int .u8 28, .int .u8 2, .int .u8 29, .int .u8 14, .int .u8 24, .int .u8 3, .int .u8 30, .int .u8 22, .int .u8 20, .int .u8 15, .int .u8 25, .int .u8 17, .int .u8 4, .int .u8 8, .int .u8 31, .int .u8 27, .int .u8 13, .int .u8 23, .int .u8 21, .int .u8 19, .int .u8 16, .int .u8 7, .int .u8 26, .int .u8 12, .int .u8 18, .int .u8 6, .int .u8 11, .int .u8 5, .int .u8 10, .int .u8 9] t frozen | o => o)).modify 5 fun | .cells _ t frozen => .cells #[.int .u8 0, .int .u8 1, .int .u8 56, .int .u8 2, .int .u8 57, .int .u8 49, .int .u8 28, .int .u8 3, .int .u8 61, .int .u8 58, .int .u8 42, .int .u8 50, .int .u8 38, .int .u8 29, .int .u8 17, .int .u8 4, .int .u8 62, .int .u8 47, .int .u8 59, .int .u8 36, .int .u8 45, .int .u8 43, .int .u8 51, .int .u8 22, .int .u8 53, .int .u8 39, .int .u8 33, .int .u8 30, .int .u8 24, .int .u8 18, .int .u8 12, .int .u8 5, .int .u8 63, .int .u8 55, .int .u8 48, .int .u8 27, .int .u8 60, .int .u8 41, .int .u8 37, .int .u8 16, .int .u8 46, .int .u8 35, .int .u8 44, .int .u8 21, .int .u8 52, .int .u8 32, .int .u8 23, .int .u8 11, .int .u8 54, .int .u8 26, .int .u8 40, .int .u8 15, .int .u8 34, .int .u8 20, .int .u8 31, .int .u8 10, .int .u8 25, .int .u8 14, .int .u8 19, .int .u8 9, .int .u8 13, .int .u8 8, .int .u8 7, .int .u8 6] t frozen | o => o)).modify 3 fun | .cells _ t frozen => .cells #[.int .u64 1, .int .u64 10, .int .u64 100, .int .u64 1000, .int .u64 10000, .int .u64 100000, .int .u64 1000000, .int .u64 10000000, .int .u64 100000000, .int .u64 1000000000, .int .u64 10000000000, .int .u64 100000000000, .int .u64 1000000000000, .int .u64 10000000000000, .int .u64 100000000000000, .int .u64 1000000000000000, .int .u64 10000000000000000, .int .u64 100000000000000000, .int .u64 1000000000000000000, .int .u64 10000000000000000000] t frozen | o => o)).modify 2 fun | .cells _ t frozen => .cells #[.iface 247 (.pointer (some ⟨lowB + 0, 0, none⟩))] t frozen | o => o)).modify 1 fun | .cells _ t frozen => .cells #[.iface 247 (.pointer (some ⟨lowB + 1, 0, none⟩))] t frozen | o => o) }
theorem worldB_met (os : Os) (args : Array Value) : laidMet Tryz.prog [("math/bits.deBruijn32tab", Rows.laid_math_bits_deBruijn32tab), ("math/bits.deBruijn64tab", Rows.laid_math_bits_deBruijn64tab), ("internal/strconv.uint64pow10", Rows.laid_internal_strconv_uint64pow10), ("strconv.ErrRange", Rows.laid_strconv_ErrRange), ("strconv.ErrSyntax", Rows.laid_strconv_ErrSyntax)] ((worldB os).forCall (fun _ _ => 0) ⟨#[], args, []⟩).memory :=
  laidMet_of_run' 100 (by kernel_rfl) (by kernel_rfl)
end Go.Proofs.YtppfcacnofjmdaaGreatDoor
