/-
  What the statement leans on, part 6: PickedH, AddsP, IndexAdds, LawKit0, LawL, Laid.
-/
import Derived.Test.YtppfcacnofjmdaaGreatDoorRows
import Derived.Lib.LaidTab
import Derived.LaidLaws
import Derived.LaidHandle
import Derived.Stop.Joined
import Derived.ChangeSame
import Derived.ChangeVars
import Derived.JoinedOf
import Derived.RowKitTokens
import Derived.Test.YtppfcacnofjmdaaGreatDoorPk1
import Derived.Test.YtppfcacnofjmdaaGreatDoorPk2
import Derived.Test.YtppfcacnofjmdaaGreatDoorPk3
import Derived.Test.YtppfcacnofjmdaaGreatDoorPk4
import Derived.Test.YtppfcacnofjmdaaGreatDoorPk5
namespace Go.Proofs.YtppfcacnofjmdaaGreatDoor
set_option linter.unusedVariables false
set_option linter.unusedSimpArgs false
open Go.RowKit
set_option maxHeartbeats 4000000
theorem polF_up : ∀ {n : Nat} {p : Pol}, PolF n p → PolF (n + 1) p
  | n + 1, p, h => ⟨h.1, h.2.1, fun k hk => polF_up (h.2.2 k hk)⟩
theorem polF_add {n : Nat} {p : Pol} (h : PolF n p) : ∀ m, PolF (n + m) p
  | 0 => h
  | m + 1 => polF_up (polF_add h m)
theorem subP_le : ∀ {m n : Nat} {q p : Pol}, m ≤ n → SubP n q p → SubP m q p
  | 0, _, _, _, _, _ => True.intro
  | m + 1, n + 1, q, p, h, ⟨e1, e2, e3, e4, e5, e6, hk⟩ => ⟨e1, e2, e3, e4, e5, e6, by
    have : ∀ {a b : List Pol}, SubL (SubP n) a b → SubL (SubP m) a b := by
      intro a b hs
      induction hs with
      | nil => exact .nil
      | skip _ ih => exact .skip ih
      | keep hr _ ih => exact .keep (subP_le (by omega) hr) ih
    exact this hk⟩
theorem pickL_at {g : List Giv} {ks : List Pol} : ∀ {n : Nat} (hn : n ≤ ks.length) (d : Pol), (qB g ks n).map (fun i => ks.getD i d) = pickL g ks n
  | 0, _, d => by simp [qB, pickL]
  | n + 1, hn, d => by
    have h1 := pickN_succ g ks n
    have h2 := pickL_succ (g := g) (show n < ks.length by omega)
    have ih := pickL_at (g := g) (ks := ks) (show n ≤ ks.length by omega) d
    rw [h1, h2]
    split
    · rw [List.map_append, ih]
      simp [show n < ks.length by omega]
    · exact ih
theorem pickN_lt {g : List Giv} {ks : List Pol} {n : Nat} {i : Nat} (h : i ∈ qB g ks n) : i < n := by
  unfold qB at h
  have := (List.mem_filter.1 h).1
  simpa using this
theorem picked_f (g : List Giv) : ∀ {n : Nat} {p : Pol}, PolF n p → PolF n (qaE g n p)
  | n + 1, p, h => ⟨⟨h.1.id, h.1.tgt, h.1.rules, h.1.obls, h.1.nr, by
      have := List.length_filter_le (qaz g) p.kids
      show ((p.kids.filter (qaz g)).map (qaE g n)).length ≤ reachBytes
      rw [List.length_map]
      exact Nat.le_trans this h.1.nk⟩, h.2.1, fun k hk => by
      have hk' : k ∈ (p.kids.filter (qaz g)).map (qaE g n) := hk
      obtain ⟨x, hx, rfl⟩ := List.mem_map.1 hk'
      exact picked_f g (h.2.2 x (List.mem_filter.1 hx).1)⟩
theorem sumBy_mono {α : Type} {f h : α → Nat} (hle : ∀ x, f x ≤ h x) : ∀ l : List α, qT f l ≤ qT h l
  | [] => Nat.le_refl _
  | x :: l => by
    have := sumBy_mono hle l
    have := hle x
    simp only [qT, List.map_cons, List.sum_cons] at *
    omega
theorem picked_sz (g : List Giv) : ∀ (n : Nat) (p : Pol), (qaE g n p).sz ≤ p.sz
  | 0, p => Nat.le_refl _
  | n + 1, p => by
    refine kids_sz ?_
    have h1 : qT Pol.sz ((p.kids.filter (qaz g)).map (qaE g n)) = qT (fun k => (qaE g n k).sz) (p.kids.filter (qaz g)) := by
      simp only [qT, List.map_map]; rfl
    rw [h1]
    exact Nat.le_trans (sumBy_mono (picked_sz g n) _) (sumBy_filter _ _ _)
def PickOk (g : List Giv) (n : Nat) : Prop := ∀ (p : Pol), PolF n p → p.sz ≤ 100000 → Holds Tryz.prog 64 [.agg (polP p), zP g] (.p (.agg (polP (qaE g n p)))) []
theorem picked_step {g : List Giv} (hG : GivOk g) (n : Nat) (IH : PickOk g n) : PickOk g (n + 1) := by
  intro p hf hsz
  obtain ⟨_, _, hkl, _, _, hks⟩ := sz_big hsz (Nat.le_refl _)
  have HK := fun k (hk : k ∈ p.kids) => IH k (hf.2.2 k hk) (hks k hk)
  have hkf : ∀ k ∈ p.kids, TarFit k.target ∧ TarSm k.target := fun k hk => ⟨((qaF 2 hf).2 k hk).1.tgt, (sz_big (hks k hk) (Nat.le_refl _)).1⟩
  have hP := (pick_h p.kids g hG (by omega) hkf).row_sl
  have eR : polP (qaE g (n + 1) p) = [pS p.id, pB p.set, pI p.alg, tgtP p.target, .sl 5 (p.rules.map zt), .sl 7 ((((qB g p.kids p.kids.length).map (fun i => p.kids.getD i p)).map (qaE g n)).map polP), zQ p.obls] := by
    rw [zf, pickL_at (Nat.le_refl _) p]
    unfold pickL
    rw [List.take_length]; rfl
  rw [eR, zf]
  clear eR
  have hlt : ∀ i ∈ qB g p.kids p.kids.length, i < p.kids.length := fun i hi => pickN_lt hi
  have hLl := pickN_len g p.kids p.kids.length
  generalize qB g p.kids p.kids.length = L at *
  obtain ⟨id, set, al, tg, rules, ks, obls⟩ := p
  simp only [Pol.id, Pol.set, Pol.alg, Pol.target, Pol.rules, Pol.kids, Pol.obls] at *
  simp only [natsP] at hP
  have l2 : ((ks.map polP).length) = ks.length := by simp
  have lL : ((L.map fun (i : Nat) => [pI (i : Int)]).length) = L.length := by simp
  generalize Pol.mk id set al tg rules ks obls = d
  refine .ofW ?_
  refine qR (T := TTab) qe Tryz.func64 (by kernel_rfl) rfl rfl rfl ?_
  (repeat refine qb ?_); refine qa ?_
  repeat (first | refine zR ?_ | refine zK ?_ | refine zM ?_ | refine zB ?_ | refine zA ?_ | refine zS ?_ | refine zL ?_)
  refine qc ?_
  (repeat refine qb ?_); refine qa ?_
  repeat (first | refine zR ?_ | refine zK ?_ | refine zM ?_ | refine zB ?_ | refine zA ?_ | refine zS ?_ | refine zL ?_)
  refine qc ?_
  (repeat refine qb ?_); refine qa ?_
  repeat (first | refine zR ?_ | refine zK ?_ | refine zM ?_ | refine zB ?_ | refine zA ?_ | refine zS ?_ | refine zL ?_)
  refine qn rfl (qD rfl rfl rfl rfl (hP) rfl rfl rfl ?_)
  repeat (first | refine zR ?_ | refine zK ?_ | refine zM ?_ | refine zB ?_ | refine zA ?_ | refine zS ?_ | refine zL ?_)
  refine qc ?_
  (repeat refine qb ?_); refine ql ?_
  refine SW.wk (jP 5 900 28 7 rfl rfl) ?_
  refine SW.wk (qq [1, 2, 4, 5, 11, 12, 13] [(2, 2), (4, 4), (900, 0)] rfl rfl) ?_
  refine qO (fun m s => ∃ (k : Nat) (kk : Int), k ≤ L.length ∧ m = L.length - k ∧ kk = k ∧ s = ⟨31, [(1, .p (zP g)), (2, .ptr 2 0), (4, .ptr 4 0), (5, .row 0), (11, .p (.sl 1 (L.map fun (i : Nat) => [pI (i : Int)]))), (12, .p (pI (L.map fun (i : Nat) => [pI (i : Int)]).length)), (13, .p (pI kk))], [(2, .cells [.p (pS id), .p (pB set), .p (pI al), .p (tgtP tg), .p (.sl 5 (rules.map zt)), .p (.sl 7 (ks.map polP)), .p (zQ obls)]), (4, .cells [.p (pS ⟨#[]⟩), .p (pB false), .p (pI 0), .p nilV, .p nilV, .p nilV, .p nilV]), (0, .row 28 7 ((((L.take k).map (fun i => ks.getD i d)).map (qaE g n)).map polP))]⟩) L.length ⟨0, 0, Nat.zero_le _, rfl, rfl, rfl⟩ ?_
  rintro m s ⟨k, _, hk', rfl, rfl, rfl⟩
  (repeat refine qb ?_); refine qa ?_
  repeat (first | refine zR ?_ | refine zK ?_ | refine zM ?_ | refine zB ?_ | refine zA ?_ | refine zS ?_ | refine zL ?_)
  refine qc ?_
  (repeat refine qb ?_); refine qf rfl (fun hq => ?_) (fun hq => ?_)
  · refine qm ?_
    rw [lL] at hq
    simp only [decide_eq_true_eq] at hq
    have hq' : k < L.length := by omega
    obtain ⟨i, hi⟩ : ∃ i, i = L[k] := ⟨_, rfl⟩
    have hil := hlt _ (List.getElem_mem hq')
    rw [← hi] at hil
    have H := HK _ (List.getElem_mem hil)
    have hgd : ks.getD i d = ks[i] := by simp [hil]
    obtain ⟨x, hx⟩ : ∃ x, x = ks[i] := ⟨_, rfl⟩
    rw [← hx] at H hgd
    (repeat refine qb ?_); refine ql ?_
    (repeat refine qb ?_); refine qa ?_
    repeat (first | refine zR ?_ | refine zK ?_ | refine zM ?_ | refine zB ?_ | refine zA ?_ | refine zS ?_ | refine zL ?_)
    refine qw qe rfl rfl (by rw [lL]; omega) rfl ?_
    rw [qJ hq', ← hi]
    repeat (first | refine zR ?_ | refine zK ?_ | refine zM ?_ | refine zB ?_ | refine zA ?_ | refine zS ?_ | refine zL ?_)
    refine qc ?_
    (repeat refine qb ?_); refine qa ?_
    repeat (first | refine zR ?_ | refine zK ?_ | refine zM ?_ | refine zB ?_ | refine zA ?_ | refine zS ?_ | refine zL ?_)
    refine qw qe rfl rfl (by rw [l2]; omega) rfl ?_
    rw [qJ hil, ← hx, zf]
    repeat (first | refine zR ?_ | refine zK ?_ | refine zM ?_ | refine zB ?_ | refine zA ?_ | refine zS ?_ | refine zL ?_)
    rw [zf x, zf (qaE g n x)] at H
    refine qn rfl (qD rfl rfl rfl rfl (H) rfl rfl rfl ?_)
    repeat (first | refine zR ?_ | refine zK ?_ | refine zM ?_ | refine zB ?_ | refine zA ?_ | refine zS ?_ | refine zL ?_)
    repeat (first | refine zR ?_ | refine zK ?_ | refine zM ?_ | refine zB ?_ | refine zA ?_ | refine zS ?_ | refine zL ?_)
    refine qn rfl (qp qe rfl rfl rfl rfl rfl rfl rfl rfl rfl rfl rfl rfl rfl rfl rfl rfl (by simp only [List.length_append, List.length_map, List.length_take, List.length_cons, List.length_nil]; unfold reachBytes; omega) (by simp only [List.length_append, List.length_map, List.length_take, List.length_cons, List.length_nil]; omega) ?_)
    repeat (first | refine zR ?_ | refine zK ?_ | refine zM ?_ | refine zB ?_ | refine zA ?_ | refine zS ?_ | refine zL ?_)
    refine qc ?_
    (repeat refine qb ?_); refine qa ?_
    repeat (first | refine zR ?_ | refine zK ?_ | refine zM ?_ | refine zB ?_ | refine zA ?_ | refine zS ?_ | refine zL ?_)
    refine qc ?_
    refine ⟨_, _, ?_, qq [1, 2, 4, 5, 11, 12, 13] [(2, 2), (4, 4), (26, 0)] rfl rfl, k + 1, _, hq', rfl, qz hq' (by omega), ?_⟩
    · omega
    · have e : (((L.take (k + 1)).map (fun i => ks.getD i d)).map (qaE g n)).map polP = (((L.take k).map (fun i => ks.getD i d)).map (qaE g n)).map polP ++ [[pS (qaE g n x).id, pB (qaE g n x).set, pI (qaE g n x).alg, tgtP (qaE g n x).target, .sl 5 ((qaE g n x).rules.map zt), .sl 7 ((qaE g n x).kids.map polP), zQ (qaE g n x).obls]] := by
        rw [List.take_succ_eq_append_getElem hq', List.map_append, List.map_append, List.map_append, ← hi]
        have e1 : [i].map (fun i => ks.getD i d) = [x] := congrArg (fun q => [q]) hgd
        rw [e1]
        exact congrArg (fun q => (((L.take k).map (fun i => ks.getD i d)).map (qaE g n)).map polP ++ [q]) (zf _)
      rw [e]; rfl
  · refine qK ?_
    rw [lL] at hq
    simp only [decide_eq_false_iff_not] at hq
    have hkk : k = L.length := by omega
    subst hkk
    rw [List.take_length]
    (repeat refine qb ?_); refine qa ?_
    repeat (first | refine zR ?_ | refine zK ?_ | refine zM ?_ | refine zB ?_ | refine zA ?_ | refine zS ?_ | refine zL ?_)
    refine qc ?_
    (repeat refine qb ?_); refine qa ?_
    repeat (first | refine zR ?_ | refine zK ?_ | refine zM ?_ | refine zB ?_ | refine zA ?_ | refine zS ?_ | refine zL ?_)
    refine qc ?_
    (repeat refine qb ?_); refine qk ?_
    exact ⟨Or.inr rfl, _, _, [], _, zN (k := 0) rfl, rfl, rfl, .refl _, rfl, rfl⟩
theorem picked_all {g : List Giv} (hG : GivOk g) : ∀ n, PickOk g n
  | 0 => fun _ h => h.elim
  | n + 1 => picked_step hG n (picked_all hG n)
theorem eval_picked (n : Nat) {p : Pol} {g : List Giv} (h : zb p = 0) : evalS (qaE g (n + 4) p) g = evalS p g := by
  rw [qaG h, qaG (right_sub h (subP_le (by omega) (sub_picked g (n + 4) p))), decide_picked]
theorem decI_h {n : Nat} (p : Pol) (hf : PolF n p) (hsz : p.sz ≤ 100000) (g : List Giv) (hg : GivOk g) : Holds Tryz.prog 39 [.agg (polP p), zP g] (.tup [.p (.agg (rsP (evalS p g).1)), .p (pI (evalS p g).2)]) [] := by
  have HR := right_h p (qaF 4 hf)
  by_cases h : zb p = 0
  · have HP := picked_all hg (n + 4) p (polF_add hf 4) hsz
    have HE := evPol_h (qaE g (n + 4) p) (picked_f g (polF_add hf 4)) (Nat.le_trans (picked_sz g _ p) hsz) g hg
    rw [eval_picked n h] at HE
    rw [h] at HR
    generalize evalS p g = r at *
    generalize qaE g (n + 4) p = q at *
    rw [zf p] at HR HP ⊢
    rw [zf q] at HP HE
    refine .ofW ?_
    refine qR (T := TTab) qe Tryz.func39 (by kernel_rfl) rfl rfl rfl ?_
    (repeat refine qb ?_); refine qa ?_
    repeat (first | refine zR ?_ | refine zK ?_ | refine zM ?_ | refine zB ?_ | refine zA ?_ | refine zS ?_ | refine zL ?_)
    refine qc ?_
    (repeat refine qb ?_); refine qa ?_
    repeat (first | refine zR ?_ | refine zK ?_ | refine zM ?_ | refine zB ?_ | refine zA ?_ | refine zS ?_ | refine zL ?_)
    refine qn rfl (qg rfl rfl rfl rfl (HR) rfl rfl ?_)
    repeat (first | refine zR ?_ | refine zK ?_ | refine zM ?_ | refine zB ?_ | refine zA ?_ | refine zS ?_ | refine zL ?_)
    refine qc ?_
    (repeat refine qb ?_); refine qf rfl (fun hc => ?_) (fun hc => ?_)
    · cases hc
    refine qm ?_
    (repeat refine qb ?_); refine qa ?_
    repeat (first | refine zR ?_ | refine zK ?_ | refine zM ?_ | refine zB ?_ | refine zA ?_ | refine zS ?_ | refine zL ?_)
    refine qn rfl (qD rfl rfl rfl rfl (HP) rfl rfl rfl ?_)
    repeat (first | refine zR ?_ | refine zK ?_ | refine zM ?_ | refine zB ?_ | refine zA ?_ | refine zS ?_ | refine zL ?_)
    repeat (first | refine zR ?_ | refine zK ?_ | refine zM ?_ | refine zB ?_ | refine zA ?_ | refine zS ?_ | refine zL ?_)
    refine qn rfl (qD rfl rfl rfl rfl (HE) rfl rfl rfl ?_)
    repeat (first | refine zR ?_ | refine zK ?_ | refine zM ?_ | refine zB ?_ | refine zA ?_ | refine zS ?_ | refine zL ?_)
    repeat (first | refine zR ?_ | refine zK ?_ | refine zM ?_ | refine zB ?_ | refine zA ?_ | refine zS ?_ | refine zL ?_)
    refine qc ?_
    (repeat refine qb ?_); refine qk ?_
    exact ⟨Or.inr rfl, _, _, [], _, Wk.refl _, rfl, rfl, .refl _, rfl, rfl⟩
  · have eE : evalS p g = (noRs, 1) := by unfold evalS; rw [if_neg h]
    rw [eE]
    rw [zf] at HR ⊢
    refine .ofW ?_
    refine qR (T := TTab) qe Tryz.func39 (by kernel_rfl) rfl rfl rfl ?_
    (repeat refine qb ?_); refine qa ?_
    repeat (first | refine zR ?_ | refine zK ?_ | refine zM ?_ | refine zB ?_ | refine zA ?_ | refine zS ?_ | refine zL ?_)
    refine qc ?_
    (repeat refine qb ?_); refine qa ?_
    repeat (first | refine zR ?_ | refine zK ?_ | refine zM ?_ | refine zB ?_ | refine zA ?_ | refine zS ?_ | refine zL ?_)
    refine qn rfl (qg rfl rfl rfl rfl (HR) rfl rfl ?_)
    repeat (first | refine zR ?_ | refine zK ?_ | refine zM ?_ | refine zB ?_ | refine zA ?_ | refine zS ?_ | refine zL ?_)
    rw [show (zb p != 0) = true by simpa using h]
    refine qc ?_
    (repeat refine qb ?_); refine qf rfl (fun hc => ?_) (fun hc => ?_)
    · (repeat refine qb ?_); refine qa ?_
      repeat (first | refine zR ?_ | refine zK ?_ | refine zM ?_ | refine zB ?_ | refine zA ?_ | refine zS ?_ | refine zL ?_)
      refine qc ?_
      (repeat refine qb ?_); refine qk ?_
      exact ⟨Or.inr rfl, _, _, [], _, Wk.refl _, rfl, rfl, .two (CvL.agg (.cons (.refl _) (.cons (.nil 3) .nil))) (.refl _), rfl, rfl⟩
    · cases hc
end Go.Proofs.YtppfcacnofjmdaaGreatDoor
namespace Go.Proofs.YtppfcacnofjmdaaGreatDoor
set_option linter.unusedVariables false
set_option linter.unusedSimpArgs false
open Go.RowKit
set_option maxHeartbeats 4000000
def zzN : ByteArray := ⟨#[122, 122, 95, 110, 111, 98, 111, 100, 121]⟩
def zzM : Mat := ⟨⟨4, zzN, false⟩, 1, ⟨2, 1, ⟨#[]⟩⟩⟩
def zzP : Pol := .mk ⟨#[122, 122, 95, 107, 105, 100]⟩ false 5 [[[zzM]]] [] [] []
theorem zz_pick {g : List Giv} (h : ∀ x ∈ g, x.name ≠ zzN) : qaz g zzP = false := by
  have e : keyS zzP.target = some zzM := rfl
  have hb : bagS 4 zzN g = [] := bagS_no fun x hx => by simp [isG, h x hx]
  have hg : getS zzM.attr g = ([], 0) := by
    show (if (bagS 4 zzN g).isEmpty && false then ([], 4) else (bagS 4 zzN g, 0)) = _
    rw [hb]; rfl
  have hm : qax zzM g = 0 := by
    unfold qax
    rw [hg]; rfl
  unfold qaz
  rw [e]
  simp [hm]
theorem zz_decide {g : List Giv} (h : ∀ x ∈ g, x.name ≠ zzN) (n : Nat) (p : Pol) : qF g n (p.putKids (p.kids ++ [zzP])) = qF g n p := by
  rw [← decide_pick g n p, ← decide_pick g n (p.putKids (p.kids ++ [zzP]))]
  show qF g n (p.putKids ((p.kids ++ [zzP]).filter (qaz g))) = _
  rw [List.filter_append, List.filter_cons, zz_pick h]
  simp
theorem zz_pickN {g : List Giv} (h : ∀ x ∈ g, x.name ≠ zzN) (ks : List Pol) : qB g (ks ++ [zzP]) (ks ++ [zzP]).length = qB g ks ks.length := by
  rw [show (ks ++ [zzP]).length = ks.length + 1 by simp, pickN_succ]
  have e : pickF g (ks ++ [zzP]) ks.length = false := by
    unfold pickF
    simp [zz_pick h]
  rw [e]
  unfold qB
  refine List.filter_congr fun i hi => ?_
  have hi' : i < ks.length := by simpa using hi
  unfold pickF
  rw [List.getElem?_append_left hi']
theorem zz_fit (n : Nat) : PolF (n + 1) zzP := by
  have h1 : zzM.Fit := ⟨⟨by unfold R64; decide, by decide⟩, by unfold R64; decide, ⟨by unfold R64; decide, by unfold R64; decide, by decide⟩⟩
  refine ⟨⟨by decide, fun x hx y hy m hm => ?_, fun r hr => (nomatch hr), fun o ho => (nomatch ho), by decide, by decide⟩, by unfold R64; decide, fun k hk => (nomatch hk)⟩
  have e1 : x = [[zzM]] := List.mem_singleton.1 hx
  subst e1
  have e2 : y = [zzM] := List.mem_singleton.1 hy
  subst e2
  have e3 : m = zzM := List.mem_singleton.1 hm
  subst e3
  exact h1
theorem zz_addU {n : Nat} {p : Pol} (h : PolF n p) (hl : p.kids.length ≤ 3000) : PolF (n + 1) (p.putKids (p.kids ++ [zzP])) := by
  have hu := polF_up h
  refine ⟨⟨hu.1.id, hu.1.tgt, hu.1.rules, hu.1.obls, hu.1.nr, ?_⟩, hu.2.1, fun k hk' => ?_⟩
  · show (p.kids ++ [zzP]).length ≤ reachBytes
    simp only [List.length_append, List.length_cons, List.length_nil]
    unfold reachBytes; omega
  · have hk2 : k ∈ p.kids ++ [zzP] := hk'
    rcases List.mem_append.1 hk2 with h1 | h1
    · exact hu.2.2 k h1
    · rw [List.mem_singleton.1 h1]
      cases n with
      | zero => exact h.elim
      | succ n => exact zz_fit n
theorem zz_sz : zzP.sz ≤ 100 := by decide
theorem zz_add_sz (p : Pol) : (p.putKids (p.kids ++ [zzP])).sz ≤ p.sz + 100 := by
  have e1 := Pol.sz_eq p
  have e2 : (p.putKids (p.kids ++ [zzP])).sz = 1 + p.rules.length + txt p.id + tsz p.target + osz p.obls + qT rusz p.rules + qT Pol.sz (p.kids ++ [zzP]) := Pol.sz_eq _
  have h := zz_sz
  have e3 : qT Pol.sz (p.kids ++ [zzP]) = qT Pol.sz p.kids + zzP.sz := by simp [qT]
  omega
theorem sameInts_h (l : List Int) (hn : l.length ≤ 1000000) : Holds Tryz.prog 40 [.sl 1 (l.map fun i => [pI i]), .sl 1 (l.map fun i => [pI i])] (.p (pB true)) [] := by
  refine qA (ts := [4]) Tryz.func40 (by kernel_rfl) rfl rfl rfl ?_
  (repeat refine qb ?_); refine qa ?_
  repeat (first | refine zR ?_ | refine zK ?_ | refine zM ?_ | refine zB ?_ | refine zA ?_ | refine zS ?_ | refine zL ?_)
  refine qc ?_
  (repeat refine qb ?_); refine qa ?_
  repeat (first | refine zR ?_ | refine zK ?_ | refine zM ?_ | refine zB ?_ | refine zA ?_ | refine zS ?_ | refine zL ?_)
  refine qc ?_
  (repeat refine qb ?_); refine qf rfl (fun h0 => ?_) (fun h0 => ?_)
  · exfalso
    simp at h0
  refine qm ?_
  (repeat refine qb ?_); refine qa ?_
  repeat (first | refine zR ?_ | refine zK ?_ | refine zM ?_ | refine zB ?_ | refine zA ?_ | refine zS ?_ | refine zL ?_)
  refine qc ?_
  (repeat refine qb ?_); refine ql ?_
  refine SW.wk (qq [0, 1, 4, 5] [] rfl rfl) ?_
  refine qO (fun m s => ∃ (k : Nat) (kk : Int), k ≤ l.length ∧ m = l.length - k ∧ kk = k ∧ s = ⟨26, [(0, .p (.sl 1 (l.map fun i => [pI i]))), (1, .p (.sl 1 (l.map fun i => [pI i]))), (4, .p (pB false)), (5, .p (pI kk))], []⟩) l.length ⟨0, 0, Nat.zero_le _, rfl, rfl, rfl⟩ ?_
  rintro m s ⟨k, _, hk, rfl, rfl, rfl⟩
  (repeat refine qb ?_); refine qa ?_
  repeat (first | refine zR ?_ | refine zK ?_ | refine zM ?_ | refine zB ?_ | refine zA ?_ | refine zS ?_ | refine zL ?_)
  refine qc ?_
  (repeat refine qb ?_); refine qf rfl (fun hlt => ?_) (fun hlt => ?_)
  · refine qm ?_
    simp only [List.length_map, decide_eq_true_eq] at hlt
    have hlt' : k < l.length := by omega
    obtain ⟨x, hx⟩ : ∃ x, x = l[k] := ⟨_, rfl⟩
    (repeat refine qb ?_); refine ql ?_
    (repeat refine qb ?_); refine zl [] [(0, true), (1, true), (2, true), (3, true), (4, true), (5, true), (6, true), (7, true), (8, true)] (by kernel_rfl) (by kernel_rfl) (by kernel_rfl) ?_
    repeat (first | refine yR ?_ | refine yK ?_ | refine yM ?_ | refine yB ?_ | refine yA ?_ | refine yS ?_ | refine yL ?_)
    refine zi qe rfl rfl rfl (by simp only [List.length_map]; omega) rfl ?_
    rw [qJ hlt', ← hx]
    repeat (first | refine yR ?_ | refine yK ?_ | refine yM ?_ | refine yB ?_ | refine yA ?_ | refine yS ?_ | refine yL ?_)
    refine zi qe rfl rfl rfl (by simp only [List.length_map]; omega) rfl ?_
    rw [qJ hlt', ← hx]
    repeat (first | refine yR ?_ | refine yK ?_ | refine yM ?_ | refine yB ?_ | refine yA ?_ | refine yS ?_ | refine yL ?_)
    refine swm_nil ?_
    (repeat refine qb ?_); refine qf rfl (fun hp => ?_) (fun hp => ?_)
    · exfalso
      simp at hp
    refine qm ?_
    (repeat refine qb ?_); refine qa ?_
    repeat (first | refine zR ?_ | refine zK ?_ | refine zM ?_ | refine zB ?_ | refine zA ?_ | refine zS ?_ | refine zL ?_)
    refine qc ?_
    refine ⟨_, _, ?_, qq [0, 1, 4, 5] [] rfl rfl, k + 1, _, hlt', rfl, qz hlt' (by omega), rfl⟩
    omega
  · refine qK ?_
    (repeat refine qb ?_); refine qa ?_
    repeat (first | refine zR ?_ | refine zK ?_ | refine zM ?_ | refine zB ?_ | refine zA ?_ | refine zS ?_ | refine zL ?_)
    refine qc ?_
    (repeat refine qb ?_); refine qk ?_
    exact wS rfl rfl
end Go.Proofs.YtppfcacnofjmdaaGreatDoor
namespace Go.Proofs.YtppfcacnofjmdaaGreatDoor
set_option linter.unusedVariables false
set_option linter.unusedSimpArgs false
open Go.RowKit
set_option maxHeartbeats 4000000
set_option maxRecDepth 100000
def zzR : List PV := [pS ⟨#[122, 122, 95, 107, 105, 100]⟩, pB false, pI 5, .sl 1 [[.sl 1 [[.sl 7 [zzM.pv]]]]], nilV, nilV, nilV]
theorem zzR_cv : CvL zzR (polP zzP) := .cons (.refl _) (.cons (.refl _) (.cons (.refl _) (.cons (.refl _) (.cons (.nil 5) (.cons (.nil 7) (.cons (.nil 3) .nil))))))
theorem zz_cv : ∀ ks : List Pol, CvM (ks.map polP ++ [zzR]) ((ks ++ [zzP]).map polP)
  | [] => .cons zzR_cv .nil
  | k :: ks => .cons (CvL.refl _) (zz_cv ks)
theorem indexAdds_h {n : Nat} (p : Pol) (hf : PolF n p) (g : List Giv) (hg : ∀ x ∈ g, x.Fit) : Holds Tryz.prog 14 [.agg (polP p), zP g] (.p (pB true)) [] := by
  have hS := small_h p hf
  have hR := right_h p (qaF 4 hf)
  have hC0 := fun h => copy_h n p hf h
  have hD0 := fun h hG => decI_h p hf h g hG
  rw [zf] at hS hR hC0 hD0 ⊢
  obtain ⟨id, set, al, tg, rules, ks, obls⟩ := p
  have l2 : ((ks.map polP).length) = ks.length := by simp
  simp only [Pol.id, Pol.set, Pol.alg, Pol.target, Pol.rules, Pol.kids, Pol.obls] at hS hR hC0 hD0 ⊢
  refine qA (ts := [4]) Tryz.func14 (by kernel_rfl) rfl rfl rfl ?_
  (repeat refine qb ?_); refine qa ?_
  repeat (first | refine zR ?_ | refine zK ?_ | refine zM ?_ | refine zB ?_ | refine zA ?_ | refine zS ?_ | refine zL ?_)
  refine qc ?_
  (repeat refine qb ?_); refine qa ?_
  repeat (first | refine zR ?_ | refine zK ?_ | refine zM ?_ | refine zB ?_ | refine zA ?_ | refine zS ?_ | refine zL ?_)
  refine qn rfl (act_call_E rfl rfl rfl rfl (hS) rfl ?_)
  rintro _ ⟨b1, rfl, h1⟩
  cases b1 with
  | false =>
    repeat (first | refine zR ?_ | refine zK ?_ | refine zM ?_ | refine zB ?_ | refine zA ?_ | refine zS ?_ | refine zL ?_)
    refine qc ?_
    (repeat refine qb ?_); refine qf rfl (fun hc => ?_) (fun hc => ?_)
    · (repeat refine qb ?_); refine qa ?_
      repeat (first | refine zR ?_ | refine zK ?_ | refine zM ?_ | refine zB ?_ | refine zA ?_ | refine zS ?_ | refine zL ?_)
      refine qn rfl (qg rfl rfl rfl rfl (qay) rfl rfl ?_)
      repeat (first | refine zR ?_ | refine zK ?_ | refine zM ?_ | refine zB ?_ | refine zA ?_ | refine zS ?_ | refine zL ?_)
      refine qc ?_
      (repeat refine qb ?_); refine qk ?_
      exact wS rfl rfl
    · cases hc
  | true =>
    repeat (first | refine zR ?_ | refine zK ?_ | refine zM ?_ | refine zB ?_ | refine zA ?_ | refine zS ?_ | refine zL ?_)
    refine qn rfl (act_call_E rfl rfl rfl rfl (few_h g hg) rfl ?_)
    rintro _ ⟨b2, rfl, h2⟩
    cases b2 with
    | false =>
      repeat (first | refine zR ?_ | refine zK ?_ | refine zM ?_ | refine zB ?_ | refine zA ?_ | refine zS ?_ | refine zL ?_)
      refine qc ?_
      (repeat refine qb ?_); refine qf rfl (fun hc => ?_) (fun hc => ?_)
      · (repeat refine qb ?_); refine qa ?_
        repeat (first | refine zR ?_ | refine zK ?_ | refine zM ?_ | refine zB ?_ | refine zA ?_ | refine zS ?_ | refine zL ?_)
        refine qn rfl (qg rfl rfl rfl rfl (qay) rfl rfl ?_)
        repeat (first | refine zR ?_ | refine zK ?_ | refine zM ?_ | refine zB ?_ | refine zA ?_ | refine zS ?_ | refine zL ?_)
        refine qc ?_
        (repeat refine qb ?_); refine qk ?_
        exact wS rfl rfl
      · cases hc
    | true =>
      repeat (first | refine zR ?_ | refine zK ?_ | refine zM ?_ | refine zB ?_ | refine zA ?_ | refine zS ?_ | refine zL ?_)
      cases set with
      | false =>
        repeat (first | refine zR ?_ | refine zK ?_ | refine zM ?_ | refine zB ?_ | refine zA ?_ | refine zS ?_ | refine zL ?_)
        refine qc ?_
        (repeat refine qb ?_); refine qf rfl (fun hc => ?_) (fun hc => ?_)
        · (repeat refine qb ?_); refine qa ?_
          repeat (first | refine zR ?_ | refine zK ?_ | refine zM ?_ | refine zB ?_ | refine zA ?_ | refine zS ?_ | refine zL ?_)
          refine qn rfl (qg rfl rfl rfl rfl (qay) rfl rfl ?_)
          repeat (first | refine zR ?_ | refine zK ?_ | refine zM ?_ | refine zB ?_ | refine zA ?_ | refine zS ?_ | refine zL ?_)
          refine qc ?_
          (repeat refine qb ?_); refine qk ?_
          exact wS rfl rfl
        · cases hc
      | true =>
        repeat (first | refine zR ?_ | refine zK ?_ | refine zM ?_ | refine zB ?_ | refine zA ?_ | refine zS ?_ | refine zL ?_)
        rw [l2]
        by_cases h16 : ks.length < 16
        rotate_left
        · rw [show decide ((ks.length : Int) ≥ 16) = true by simp; omega]
          repeat (first | refine zR ?_ | refine zK ?_ | refine zM ?_ | refine zB ?_ | refine zA ?_ | refine zS ?_ | refine zL ?_)
          refine qc ?_
          (repeat refine qb ?_); refine qf rfl (fun hc => ?_) (fun hc => ?_)
          · (repeat refine qb ?_); refine qa ?_
            repeat (first | refine zR ?_ | refine zK ?_ | refine zM ?_ | refine zB ?_ | refine zA ?_ | refine zS ?_ | refine zL ?_)
            refine qn rfl (qg rfl rfl rfl rfl (qay) rfl rfl ?_)
            repeat (first | refine zR ?_ | refine zK ?_ | refine zM ?_ | refine zB ?_ | refine zA ?_ | refine zS ?_ | refine zL ?_)
            refine qc ?_
            (repeat refine qb ?_); refine qk ?_
            exact wS rfl rfl
          · cases hc
        rw [show decide ((ks.length : Int) ≥ 16) = false by simp; omega]
        refine qc ?_
        (repeat refine qb ?_); refine qf rfl (fun hc => ?_) (fun hc => ?_)
        · cases hc
        refine qm ?_
        have hsz := h1 rfl
        have hG := givOk_of hg (h2 rfl)
        have hC := hC0 hsz
        have hD := hD0 (by omega) hG
        refine SW.wk (qq [1, 2] [(2, 2)] rfl rfl) ?_
        change SW _ _ _ ⟨105, [(1, .p (zP g)), (2, .ptr 2 0)], [(2, .cells [.p (pS id), .p (pB true), .p (pI al), .p (tgtP tg), .p (.sl 5 (rules.map zt)), .p (.sl 7 (ks.map polP)), .p (zQ obls)])]⟩
        have lg : ((g.map Giv.pv).length) = g.length := by simp
        have hgl : g.length ≤ 1000000 := hG.len
        (repeat refine qb ?_); refine qa ?_
        repeat (first | refine zR ?_ | refine zK ?_ | refine zM ?_ | refine zB ?_ | refine zA ?_ | refine zS ?_ | refine zL ?_)
        refine qc ?_
        (repeat refine qb ?_); refine ql ?_
        refine SW.wk (qq [1, 2, 33, 34, 35] [(2, 2)] rfl rfl) ?_
        refine qO (fun m s => ∃ (k : Nat) (kk : Int), k ≤ g.length ∧ m = g.length - k ∧ kk = k ∧ (∀ x ∈ g.take k, x.name ≠ zzN) ∧ s = ⟨105, [(1, .p (zP g)), (2, .ptr 2 0), (33, .p (zP g)), (34, .p (pI (g.map Giv.pv).length)), (35, .p (pI kk))], [(2, .cells [.p (pS id), .p (pB true), .p (pI al), .p (tgtP tg), .p (.sl 5 (rules.map zt)), .p (.sl 7 (ks.map polP)), .p (zQ obls)])]⟩) g.length ⟨0, 0, Nat.zero_le _, rfl, rfl, by simp, rfl⟩ ?_
        rintro m s ⟨k, _, hk', rfl, rfl, hno, rfl⟩
        (repeat refine qb ?_); refine qa ?_
        repeat (first | refine zR ?_ | refine zK ?_ | refine zM ?_ | refine zB ?_ | refine zA ?_ | refine zS ?_ | refine zL ?_)
        refine qc ?_
        (repeat refine qb ?_); refine qf rfl (fun hlt => ?_) (fun hlt => ?_)
        · refine qm ?_
          rw [lg] at hlt
          simp only [decide_eq_true_eq] at hlt
          have hlt' : k < g.length := by omega
          obtain ⟨x, hx⟩ : ∃ x, x = g[k] := ⟨_, rfl⟩
          (repeat refine qb ?_); refine ql ?_
          (repeat refine qb ?_); refine qa ?_
          repeat (first | refine zR ?_ | refine zK ?_ | refine zM ?_ | refine zB ?_ | refine zA ?_ | refine zS ?_ | refine zL ?_)
          refine qw qe rfl rfl (by rw [lg]; omega) rfl ?_
          rw [qJ hlt', ← hx]
          repeat (first | refine zR ?_ | refine zK ?_ | refine zM ?_ | refine zB ?_ | refine zA ?_ | refine zS ?_ | refine zL ?_)
          refine qc ?_
          (repeat refine qb ?_); refine qa ?_
          repeat (first | refine zR ?_ | refine zK ?_ | refine zM ?_ | refine zB ?_ | refine zA ?_ | refine zS ?_ | refine zL ?_)
          refine qc ?_
          (repeat refine qb ?_); refine qf rfl (fun hz => ?_) (fun hz => ?_)
          · (repeat refine qb ?_); refine qa ?_
            repeat (first | refine zR ?_ | refine zK ?_ | refine zM ?_ | refine zB ?_ | refine zA ?_ | refine zS ?_ | refine zL ?_)
            refine qn rfl (qg rfl rfl rfl rfl (qay) rfl rfl ?_)
            repeat (first | refine zR ?_ | refine zK ?_ | refine zM ?_ | refine zB ?_ | refine zA ?_ | refine zS ?_ | refine zL ?_)
            refine qc ?_
            (repeat refine qb ?_); refine qk ?_
            exact wS rfl rfl
          · refine qm ?_
            (repeat refine qb ?_); refine qa ?_
            repeat (first | refine zR ?_ | refine zK ?_ | refine zM ?_ | refine zB ?_ | refine zA ?_ | refine zS ?_ | refine zL ?_)
            refine qc ?_
            refine ⟨_, _, ?_, qq [1, 2, 33, 34, 35] [(2, 2)] rfl rfl, k + 1, _, hlt', rfl, qz hlt' (by omega), ?_, rfl⟩
            · omega
            · intro y hy
              rw [List.take_succ_eq_append_getElem hlt', List.mem_append, List.mem_singleton] at hy
              rcases hy with hy | hy
              · exact hno y hy
              · rw [hy, ← hx]
                intro e
                rw [e] at hz
                rw [show zzN = (⟨#[122, 122, 95, 110, 111, 98, 111, 100, 121]⟩ : ByteArray) from rfl, beq_self_eq_true] at hz
                cases hz
        · refine qK ?_
          rw [lg] at hlt
          simp only [decide_eq_false_iff_not] at hlt
          have hkk : k = g.length := by omega
          subst hkk
          rw [List.take_length] at hno
          refine SW.wk (qq [1, 2] [(2, 2)] rfl rfl) ?_
          (repeat refine qb ?_); refine qa ?_
          repeat (first | refine zR ?_ | refine zK ?_ | refine zM ?_ | refine zB ?_ | refine zA ?_ | refine zS ?_ | refine zL ?_)
          refine qn rfl (qD rfl rfl rfl rfl (hC) rfl rfl rfl ?_)
          repeat (first | refine zR ?_ | refine zK ?_ | refine zM ?_ | refine zB ?_ | refine zA ?_ | refine zS ?_ | refine zL ?_)
          refine qc ?_
          refine SW.wk (zN (k := 46000) rfl) ?_
          have h16k : (Pol.mk id true al tg rules ks obls).kids.length < 16 := h16
          (repeat refine qb ?_); refine qa ?_
          repeat (first | refine zR ?_ | refine zK ?_ | refine zM ?_ | refine zB ?_ | refine zA ?_ | refine zS ?_ | refine zL ?_)
          refine qc ?_
          (repeat refine qb ?_); refine qa ?_
          repeat (first | refine zR ?_ | refine zK ?_ | refine zM ?_ | refine zB ?_ | refine zA ?_ | refine zS ?_ | refine zL ?_)
          refine SWT.wk (zN (k := 52) rfl) ?_
          repeat (first | refine zR ?_ | refine zK ?_ | refine zM ?_ | refine zB ?_ | refine zA ?_ | refine zS ?_ | refine zL ?_)
          refine SWT.wk (zN (k := 53) rfl) ?_
          repeat (first | refine zR ?_ | refine zK ?_ | refine zM ?_ | refine zB ?_ | refine zA ?_ | refine zS ?_ | refine zL ?_)
          refine SWT.wk (zN (k := 54) rfl) ?_
          repeat (first | refine zR ?_ | refine zK ?_ | refine zM ?_ | refine zB ?_ | refine zA ?_ | refine zS ?_ | refine zL ?_)
          refine qn rfl (qp qe rfl rfl rfl rfl rfl rfl rfl rfl rfl rfl rfl rfl rfl rfl rfl rfl (by simp only [List.length_append, List.length_map, List.length_take, List.length_cons, List.length_nil]; unfold reachBytes; omega) (by simp only [List.length_append, List.length_map, List.length_take, List.length_cons, List.length_nil]; omega) ?_)
          repeat (first | refine zR ?_ | refine zK ?_ | refine zM ?_ | refine zB ?_ | refine zA ?_ | refine zS ?_ | refine zL ?_)
          refine qc ?_
          refine SW.wk (zN (k := 57) rfl) ?_
          refine SW.wk (qq [1, 2, 7] [(2, 2), (7, 7)] rfl rfl) ?_
          change SW _ _ _ ⟨105, [(1, .p (zP g)), (2, .ptr 2 0), (7, .ptr 7 0)], [(2, .cells [.p (pS id), .p (pB true), .p (pI al), .p (tgtP tg), .p (.sl 5 (rules.map zt)), .p (.sl 7 (ks.map polP)), .p (zQ obls)]), (7, .cells [.p (pS id), .p (pB true), .p (pI al), .p (tgtP tg), .p (.sl 5 (rules.map zt)), .p (.sl 7 (ks.map polP ++ [zzR])), .p (zQ obls)])]⟩
          have hqf := zz_addU hf (show ks.length ≤ 3000 by omega)
          have hRQ := right_h _ (qaF 4 hqf)
          rw [zf] at hRQ
          have hRQ' := hRQ.cv (args' := [.agg [pS id, pB true, pI al, tgtP tg, .sl 5 (rules.map zt), .sl 7 (ks.map polP ++ [zzR]), zQ obls]]) (.cons (CvL.agg (.cons (.refl _) (.cons (.refl _) (.cons (.refl _) (.cons (.refl _) (.cons (.refl _) (.cons (CvM.sl (zz_cv ks)) (.cons (.refl _) .nil)))))))) .nil)
          (repeat refine qb ?_); refine qa ?_
          repeat (first | refine zR ?_ | refine zK ?_ | refine zM ?_ | refine zB ?_ | refine zA ?_ | refine zS ?_ | refine zL ?_)
          refine qn rfl (qg rfl rfl rfl rfl (hR) rfl rfl ?_)
          repeat (first | refine zR ?_ | refine zK ?_ | refine zM ?_ | refine zB ?_ | refine zA ?_ | refine zS ?_ | refine zL ?_)
          by_cases h0 : zb (.mk id true al tg rules ks obls) = 0
          rotate_left
          · rw [show (zb (.mk id true al tg rules ks obls) != 0) = true by simpa using h0]
            repeat (first | refine zR ?_ | refine zK ?_ | refine zM ?_ | refine zB ?_ | refine zA ?_ | refine zS ?_ | refine zL ?_)
            refine qc ?_
            (repeat refine qb ?_); refine qf rfl (fun hc => ?_) (fun hc => ?_)
            · (repeat refine qb ?_); refine qa ?_
              repeat (first | refine zR ?_ | refine zK ?_ | refine zM ?_ | refine zB ?_ | refine zA ?_ | refine zS ?_ | refine zL ?_)
              refine qn rfl (qg rfl rfl rfl rfl (qay) rfl rfl ?_)
              repeat (first | refine zR ?_ | refine zK ?_ | refine zM ?_ | refine zB ?_ | refine zA ?_ | refine zS ?_ | refine zL ?_)
              refine qc ?_
              (repeat refine qb ?_); refine qk ?_
              exact wS rfl rfl
            · cases hc
          rw [show (zb (.mk id true al tg rules ks obls) != 0) = false by simpa using h0]
          repeat (first | refine zR ?_ | refine zK ?_ | refine zM ?_ | refine zB ?_ | refine zA ?_ | refine zS ?_ | refine zL ?_)
          refine qn rfl (qg rfl rfl rfl rfl (hRQ') rfl rfl ?_)
          repeat (first | refine zR ?_ | refine zK ?_ | refine zM ?_ | refine zB ?_ | refine zA ?_ | refine zS ?_ | refine zL ?_)
          by_cases h0q : zb ((Pol.mk id true al tg rules ks obls).putKids ((Pol.mk id true al tg rules ks obls).kids ++ [zzP])) = 0
          rotate_left
          · rw [show (zb ((Pol.mk id true al tg rules ks obls).putKids ((Pol.mk id true al tg rules ks obls).kids ++ [zzP])) != 0) = true by simpa using h0q]
            repeat (first | refine zR ?_ | refine zK ?_ | refine zM ?_ | refine zB ?_ | refine zA ?_ | refine zS ?_ | refine zL ?_)
            refine qc ?_
            (repeat refine qb ?_); refine qf rfl (fun hc => ?_) (fun hc => ?_)
            · (repeat refine qb ?_); refine qa ?_
              repeat (first | refine zR ?_ | refine zK ?_ | refine zM ?_ | refine zB ?_ | refine zA ?_ | refine zS ?_ | refine zL ?_)
              refine qn rfl (qg rfl rfl rfl rfl (qay) rfl rfl ?_)
              repeat (first | refine zR ?_ | refine zK ?_ | refine zM ?_ | refine zB ?_ | refine zA ?_ | refine zS ?_ | refine zL ?_)
              refine qc ?_
              (repeat refine qb ?_); refine qk ?_
              exact wS rfl rfl
            · cases hc
          rw [show (zb ((Pol.mk id true al tg rules ks obls).putKids ((Pol.mk id true al tg rules ks obls).kids ++ [zzP])) != 0) = false by simpa using h0q]
          repeat (first | refine zR ?_ | refine zK ?_ | refine zM ?_ | refine zB ?_ | refine zA ?_ | refine zS ?_ | refine zL ?_)
          refine qc ?_
          (repeat refine qb ?_); refine qf rfl (fun hc => ?_) (fun hc => ?_)
          · cases hc
          refine qm ?_
          have hxl := decide_obls (g := g) hsz
          have hxm := qaa g 4 (.mk id true al tg rules ks obls)
          have HDQ := decI_h _ hqf (by have := zz_add_sz (.mk id true al tg rules ks obls); omega) g hG
          rw [qaG h0q, zz_decide hno 4 (.mk id true al tg rules ks obls), zf] at HDQ
          rw [qaG h0] at hD
          have HDQ' := HDQ.cv (args' := [.agg [pS id, pB true, pI al, tgtP tg, .sl 5 (rules.map zt), .sl 7 (ks.map polP ++ [zzR]), zQ obls], zP g]) (.cons (CvL.agg (.cons (.refl _) (.cons (.refl _) (.cons (.refl _) (.cons (.refl _) (.cons (.refl _) (.cons (CvM.sl (zz_cv ks)) (.cons (.refl _) .nil)))))))) (.cons (.refl _) .nil))
          obtain ⟨_, _, hkl, _, _, hks⟩ := sz_facts hsz (Nat.le_refl _)
          simp only [Pol.kids] at hkl hks
          have hsm : ∀ {t : Tar}, TarL t → TarSm t := fun h => ⟨by have := h.1; omega, fun x hx => ⟨by have := (h.2 x hx).1; omega, fun y hy => by have := (h.2 x hx).2 y hy; omega⟩⟩
          have hkf : ∀ k ∈ ks, TarFit k.target ∧ TarSm k.target := fun k hk => ⟨((qaF 2 hf).2 k hk).1.tgt, hsm (sz_facts (hks k hk) (Nat.le_refl _)).1⟩
          have hkq : ∀ k ∈ ks ++ [zzP], TarFit k.target ∧ TarSm k.target := fun k hk => by
            rcases List.mem_append.1 hk with hk | hk
            · exact hkf k hk
            · rw [List.mem_singleton.1 hk]
              exact ⟨(zz_fit 0).1.tgt, hsm (sz_facts zz_sz (by omega)).1⟩
          have HP := (pick_h ks g hG (by omega) hkf).row_sl
          have HPQ := ((pick_h (ks ++ [zzP]) g hG (by simp; omega) hkq).cv (args' := [.sl 7 (ks.map polP ++ [zzR]), zP g]) (.cons (CvM.sl (zz_cv ks)) (.cons (.refl _) .nil))).row_sl
          rw [zz_pickN hno] at HPQ
          have hLl := pickN_len g ks ks.length
          generalize qB g ks ks.length = L at *
          simp only [natsP] at HP HPQ
          have HS := sameInts_h (L.map fun (i : Nat) => (i : Int)) (by simp; omega)
          rw [List.map_map] at HS
          generalize qF g 4 (.mk id true al tg rules ks obls) = x at *
          (repeat refine qb ?_); refine qa ?_
          repeat (first | refine zR ?_ | refine zK ?_ | refine zM ?_ | refine zB ?_ | refine zA ?_ | refine zS ?_ | refine zL ?_)
          refine qn rfl (qD rfl rfl rfl rfl (hD) rfl rfl rfl ?_)
          repeat (first | refine zR ?_ | refine zK ?_ | refine zM ?_ | refine zB ?_ | refine zA ?_ | refine zS ?_ | refine zL ?_)
          refine qc ?_
          (repeat refine qb ?_); refine qa ?_
          repeat (first | refine zR ?_ | refine zK ?_ | refine zM ?_ | refine zB ?_ | refine zA ?_ | refine zS ?_ | refine zL ?_)
          refine qn rfl (qD rfl rfl rfl rfl (HDQ') rfl rfl rfl ?_)
          repeat (first | refine zR ?_ | refine zK ?_ | refine zM ?_ | refine zB ?_ | refine zA ?_ | refine zS ?_ | refine zL ?_)
          refine qc ?_
          refine SW.wk (qq [1, 2, 7, 9, 10, 11, 12] [(2, 2), (7, 7), (9, 9), (11, 11)] rfl rfl) ?_
          change SW _ _ _ ⟨105, [(1, .p (zP g)), (2, .ptr 2 0), (7, .ptr 7 0), (9, .ptr 9 0), (10, .p (pI 0)), (11, .ptr 11 0), (12, .p (pI 0))], [(2, .cells [.p (pS id), .p (pB true), .p (pI al), .p (tgtP tg), .p (.sl 5 (rules.map zt)), .p (.sl 7 (ks.map polP)), .p (zQ obls)]), (7, .cells [.p (pS id), .p (pB true), .p (pI al), .p (tgtP tg), .p (.sl 5 (rules.map zt)), .p (.sl 7 (ks.map polP ++ [zzR])), .p (zQ obls)]), (9, .cells ((rsP x).map .p)), (11, .cells ((rsP x).map .p))]⟩
          (repeat refine qb ?_); refine zH 26 rfl (by kernel_rfl) ?_
          refine qy (i := 0) (K := []) (by kernel_rfl) (by kernel_rfl) rfl rfl (qi qe rfl (by exact True.intro)) rfl ?_
          refine qy (i := 1) (K := []) (by kernel_rfl) (by kernel_rfl) rfl rfl (qi qe rfl (by exact True.intro)) rfl ?_
          refine qy (i := 2) (K := []) (by kernel_rfl) (by kernel_rfl) rfl rfl (qi qe rfl (by exact True.intro)) rfl ?_
          refine qy (i := 3) (K := []) (by kernel_rfl) (by kernel_rfl) rfl rfl (qi qe rfl (by exact True.intro)) rfl ?_
          refine qy (i := 4) (K := []) (by kernel_rfl) (by kernel_rfl) rfl rfl (qi qe rfl (by exact True.intro)) rfl ?_
          refine qy (i := 5) (K := []) (by kernel_rfl) (by kernel_rfl) rfl rfl (qi qe rfl (by exact True.intro)) rfl ?_
          refine qy (i := 6) (K := []) (by kernel_rfl) (by kernel_rfl) rfl rfl (qi qe rfl (by exact True.intro)) rfl ?_
          refine qy (i := 7) (K := []) (by kernel_rfl) (by kernel_rfl) rfl rfl (qi qe rfl (by exact True.intro)) rfl ?_
          refine qy (i := 8) (K := []) (by kernel_rfl) (by kernel_rfl) rfl rfl (qi qe rfl (by exact True.intro)) rfl ?_
          refine qo 9 (by kernel_rfl) ?_
          refine qd rfl rfl rfl (qg rfl rfl rfl rfl (qav x hxm hxl) rfl rfl ?_)
          refine qy (i := 10) (K := []) (by kernel_rfl) (by kernel_rfl) rfl rfl (qi qe rfl (by exact True.intro)) rfl ?_
          refine qy (i := 11) (K := []) (by kernel_rfl) (by kernel_rfl) rfl rfl (qi qe rfl (by exact True.intro)) rfl ?_
          refine qy (i := 12) (K := []) (by kernel_rfl) (by kernel_rfl) rfl rfl (qi qe rfl (by exact True.intro)) rfl ?_
          refine qy (i := 13) (K := []) (by kernel_rfl) (by kernel_rfl) rfl rfl (qi qe rfl (by exact True.intro)) rfl ?_
          refine qy (i := 14) (K := []) (by kernel_rfl) (by kernel_rfl) rfl rfl (qi qe rfl (by exact True.intro)) rfl ?_
          refine qy (i := 16) (K := []) (by kernel_rfl) (by kernel_rfl) rfl rfl (qi qe rfl (by exact True.intro)) rfl ?_
          refine qy (i := 17) (K := []) (by kernel_rfl) (by kernel_rfl) rfl rfl (qi qe rfl (by exact True.intro)) rfl ?_
          refine qy (i := 18) (K := []) (by kernel_rfl) (by kernel_rfl) rfl rfl (qi qe rfl (by exact True.intro)) rfl ?_
          refine qo 15 (by kernel_rfl) ?_
          refine qd rfl rfl rfl (qD rfl rfl rfl rfl (HP) rfl rfl rfl ?_)
          refine qo 19 (by kernel_rfl) ?_
          refine qd rfl rfl rfl (qD rfl rfl rfl rfl (HPQ) rfl rfl rfl ?_)
          refine qo 20 (by kernel_rfl) ?_
          refine qd rfl rfl rfl (qg rfl rfl rfl rfl (HS) rfl rfl ?_)
          refine qy (i := 21) (K := []) (by kernel_rfl) (by kernel_rfl) rfl rfl (qi qe rfl (by exact True.intro)) rfl ?_
          refine qy (i := 22) (K := []) (by kernel_rfl) (by kernel_rfl) rfl rfl (qi qe rfl (by exact True.intro)) rfl ?_
          refine qo 23 (by kernel_rfl) ?_
          refine qd rfl rfl rfl (qg rfl rfl rfl rfl (qay) rfl rfl ?_)
          refine qy (i := 24) (K := []) (by kernel_rfl) (by kernel_rfl) rfl rfl (qi qe rfl (by exact True.intro)) rfl ?_
          refine qy (i := 25) (K := []) (by kernel_rfl) (by kernel_rfl) rfl rfl (qi qe rfl (by exact True.intro)) rfl ?_
          refine zd (by kernel_rfl) ?_
          refine SW.wk (qq [4] [] rfl rfl) ?_
          refine ?fk16_273
          rotate_left
          (repeat refine qb ?_); refine qk ?_
          exact wS rfl rfl
end Go.Proofs.YtppfcacnofjmdaaGreatDoor
namespace Go.Proofs.YtppfcacnofjmdaaGreatDoor
set_option linter.unusedVariables false
set_option linter.unusedSimpArgs false
open Go.RowKit
inductive RelsP (w : World) : List PV → List Value → Prop
  | nil : RelsP w [] []
  | cons {x : PV} {u : Value} {xs : List PV} {us : List Value} (h : RelP (fun _ => True) w x u) (r : RelsP w xs us) : RelsP w (x :: xs) (u :: us)
theorem RelsP.get {w : World} {xs : List PV} {us : List Value} (h : RelsP w xs us) : us.length = xs.length ∧ ∀ (i : Nat) (s : PV) (u : Value), xs[i]? = some s → us[i]? = some u → RelP (fun _ => True) w s u := by
  induction h with
  | nil => exact ⟨rfl, fun i s u h => by simp at h⟩
  | cons h r ih =>
    refine ⟨by simp [ih.1], fun i s u hs hu => ?_⟩
    cases i with
    | zero => simp at hs hu; subst hs; subst hu; exact h
    | succ i => exact ih.2 i s u (by simpa using hs) (by simpa using hu)
theorem law_callsG {P : Program} {f : FuncId} {args : List PV} {us : List Value} {W : World} (hg : GlOk (entry W) fun _ => False) (H : Holds P f args (.p (.v (.bool true))) []) (hr : RelsP W args us) : Calls P f us.toArray W fun e w' => e = .returned (.bool true) ∧ Below W.heap.size W w' := by
  obtain ⟨h1, h2⟩ := hr.get
  refine (H.2 W (fun _ => False) us ⟨fun _ h => h.elim, hg⟩ h1 fun i s u hs hu => (h2 i s u hs hu).weak fun _ _ _ => fun h => h).mono fun e w' ⟨v, γ, he, hb, _, hv⟩ => ?_
  have := hv.v_inv
  subst this
  exact ⟨he, hb⟩
theorem rel_agg {w : World} {cs : List Value} {x : List PV} (h : rPV (fun _ => True) w cs x) : RelP (fun _ => True) w (.agg x) (.agg cs.toArray) := .agg h.1 h.2
end Go.Proofs.YtppfcacnofjmdaaGreatDoor
namespace Go.Proofs.YtppfcacnofjmdaaGreatDoor
set_option linter.unusedSimpArgs false
open Go.ChangeShapes Go.WideShapes Go.ChangeAt Go.RowKit
set_option linter.unusedVariables false
theorem law_liftL {H : Type} {enc : TypeId × Value → H} {C : Checked} {os : Os} {f : FuncId} {fn : Func} {s : ChangeSpec} {bt : TypeId} {laid : List (String × DataW Unit)}
    (own : ownKnob C.prog.godebug = none) (started : os.Started) (noInit : C.prog.inits.idxOf? f = none) (hfn : C.prog.funcs[f]? = some fn)
    (witness : ∃ (w : World) (tape : Tape) (i : Input), w.os = os ∧ (w.forCall tape i).Shaped C.prog ∧ i.vars = [] ∧ Input.okWide C.prog (w.forCall tape i) .any w.heap.size f i ∧
      ((s.pre enc C.prog fn [] false (w.forCall tape i).memory i.args ∧ laidMetH C.prog laid (w.forCall tape i).memory) ∧ sizedMet enc C.prog fn (OpenSpec.ofChange s) false (w.forCall tape i).memory i.args) ∧ ({} : Assume).holds C.prog (lone (Frame.enter C.prog f i.args .normal) [] (w.forCall tape i)))
    (hl : laidOutB C.prog = true) (hts : ∀ t ∈ fn.params.toList, C.prog.readableRec t = true ∧ t < C.prog.types.size) (hvars : s.vars = []) (hvt : s.plain.varTypes C.prog = [])
    (hspec : ∀ (W : World) (args : Array Value) (ds : List (DataW H)) (ps : List MemPlace), DataW.TrodAll enc C.prog W 0 (fun _ => true) true fn.params.toList args.toList ds ps → s.fn H ds = { results := [.lit (.bool true)], args := ds })
    (hres : fn.resultTypes = #[bt]) (hbt : C.prog.underlying bt = some .bool)
    (walk : ∀ (W : World) (base : Nat) (args : Array Value) (ds : List (DataW H)) (ps : List MemPlace), laidMetH C.prog laid W →
      (∀ (j : Nat) t v, fn.params[j]? = some t → args[j]? = some v → Value.okWide C.prog W .any base t v) →
      DataW.TrodAll enc C.prog W 0 (fun _ => true) true fn.params.toList args.toList ds ps →
      (∀ n ∈ DataW.weightsEach C.prog fn.params.toList ds, n ≤ reachBytes) →
      Calls C.prog f args W fun e W' => e = .returned (.bool true) ∧ Below W.heap.size W W') :
    ReturnsInHanded {} C os f .any (fun w args => (s.pre enc C.prog fn [] false w args ∧ laidMetH C.prog laid w) ∧ sizedMet enc C.prog fn (OpenSpec.ofChange s) false w args) (s.post enc C.prog fn false true false false) := by
  refine returnsInHanded_of_change_and (X := fun w _ => laidMetH C.prog laid w) (fun _ _ _ hh h => h.of_heap hh) own started noInit hfn witness ?_
  intro W base args ds gs before hval hW _ hsz hL _
  have hlt : ∀ p ∈ before, p.block < W.heap.size := fun p hp => hW.lt p hp
  have hW0 := hW
  obtain ⟨p, q, hA, hV, rfl, hz, hn⟩ := hW0
  rw [hvars] at hV
  obtain ⟨rfl, rfl⟩ := trodVars_none hV
  have hsp := hspec W args ds p hA
  refine (walk W base args ds p hL hval hA ?_).mono fun e W' ⟨he, hb⟩ => ?_
  · intro n hn
    rw [hvt, List.append_nil, List.append_nil] at hsz
    exact of_decide_eq_true (List.all_eq_true.1 hsz n hn)
  · subst he
    refine ⟨_, rfl, ds, [], p ++ [], [], p, [], hW, ?_, ?_, ?_, World.keptBut_mono (fun x hx => ⟨hx, Or.inr (Or.inl (by simpa using hx))⟩) (hb.frame (· ∈ p ++ [])), fun h => by cases h⟩
    · rw [List.append_nil, hsp, hres]
      exact trodAll_mk1 (shut_bool hbt _)
    · rw [List.append_nil, hsp]
      exact qap hl hb hts (fun x hx => hlt x (by simpa using hx)) (fun x hx => by simpa using hlt x (by simpa using hx)) hA
    · rw [List.append_nil, hsp, hvars]
      rfl
theorem laidMet_tail {P : Program} {x : String × DataW Unit} {l : List (String × DataW Unit)} {W : World} (h : laidMet P (x :: l) W) : laidMet P l W := by
  obtain ⟨ps, ⟨g, t, cs, fuel, p, q, h1, h2, h3, h4, h5, h6⟩, hn, hb⟩ := h
  subst h6
  exact ⟨q, h5, (List.nodup_append.1 hn).2.1, fun b off hm => hb b off (List.mem_append_right _ hm)⟩
theorem block_of_tab {P : Program} {W : World} {name : String} {k : IntKind} {zs : List Int} {g : Nat} (h : Lib.TabIs P W name k zs) (hg : P.globalNamed name = some g) {us : List Value} (hu : us = zs.map fun z => Value.int k z) : g < W.heap.size ∧ ∃ ty m, W.heap[g]? = some (.cells us.toArray ty m) := by
  unfold Lib.TabIs World.var? at h
  rw [hg] at h
  simp only [Option.bind_some] at h
  split at h
  · rename_i cs ty m hb
    cases h
    exact ⟨(Array.getElem?_eq_some_iff.1 hb).1, ty, m, by rw [hb, hu]⟩
  · cases h
end Go.Proofs.YtppfcacnofjmdaaGreatDoor
namespace Go.Proofs.YtppfcacnofjmdaaGreatDoor
open Go.RowKit
theorem own_none : ownKnob Tryz.prog.godebug = none := by kernel_rfl
theorem gl_of_laid {rest : List (String × DataW Unit)} {W : World} (h : laidMet Tryz.prog (("math/bits.deBruijn32tab", Rows.laid_math_bits_deBruijn32tab) :: ("math/bits.deBruijn64tab", Rows.laid_math_bits_deBruijn64tab) :: ("internal/strconv.uint64pow10", Rows.laid_internal_strconv_uint64pow10) :: rest) W) : GlOk (entry W) fun _ => False := by
  have b0 := block_of_tab (g := 4) (us := [.int .u8 0, .int .u8 1, .int .u8 28, .int .u8 2, .int .u8 29, .int .u8 14, .int .u8 24, .int .u8 3, .int .u8 30, .int .u8 22, .int .u8 20, .int .u8 15, .int .u8 25, .int .u8 17, .int .u8 4, .int .u8 8, .int .u8 31, .int .u8 27, .int .u8 13, .int .u8 23, .int .u8 21, .int .u8 19, .int .u8 16, .int .u8 7, .int .u8 26, .int .u8 12, .int .u8 18, .int .u8 6, .int .u8 11, .int .u8 5, .int .u8 10, .int .u8 9]) (Lib.tabIs_of_head (k := .u8) (zs := [0, 1, 28, 2, 29, 14, 24, 3, 30, 22, 20, 15, 25, 17, 4, 8, 31, 27, 13, 23, 21, 19, 16, 7, 26, 12, 18, 6, 11, 5, 10, 9]) (g := 4) (t := 262) (e := 5) (n := 32) (by kernel_rfl) (by kernel_rfl) Tryz.underlying262 Tryz.underlying5 (by kernel_rfl) (by kernel_rfl) h) (by kernel_rfl) rfl
  have b1 := block_of_tab (g := 5) (us := [.int .u8 0, .int .u8 1, .int .u8 56, .int .u8 2, .int .u8 57, .int .u8 49, .int .u8 28, .int .u8 3, .int .u8 61, .int .u8 58, .int .u8 42, .int .u8 50, .int .u8 38, .int .u8 29, .int .u8 17, .int .u8 4, .int .u8 62, .int .u8 47, .int .u8 59, .int .u8 36, .int .u8 45, .int .u8 43, .int .u8 51, .int .u8 22, .int .u8 53, .int .u8 39, .int .u8 33, .int .u8 30, .int .u8 24, .int .u8 18, .int .u8 12, .int .u8 5, .int .u8 63, .int .u8 55, .int .u8 48, .int .u8 27, .int .u8 60, .int .u8 41, .int .u8 37, .int .u8 16, .int .u8 46, .int .u8 35, .int .u8 44, .int .u8 21, .int .u8 52, .int .u8 32, .int .u8 23, .int .u8 11, .int .u8 54, .int .u8 26, .int .u8 40, .int .u8 15, .int .u8 34, .int .u8 20, .int .u8 31, .int .u8 10, .int .u8 25, .int .u8 14, .int .u8 19, .int .u8 9, .int .u8 13, .int .u8 8, .int .u8 7, .int .u8 6]) (Lib.tabIs_of_head (k := .u8) (zs := [0, 1, 56, 2, 57, 49, 28, 3, 61, 58, 42, 50, 38, 29, 17, 4, 62, 47, 59, 36, 45, 43, 51, 22, 53, 39, 33, 30, 24, 18, 12, 5, 63, 55, 48, 27, 60, 41, 37, 16, 46, 35, 44, 21, 52, 32, 23, 11, 54, 26, 40, 15, 34, 20, 31, 10, 25, 14, 19, 9, 13, 8, 7, 6]) (g := 5) (t := 263) (e := 5) (n := 64) (by kernel_rfl) (by kernel_rfl) Tryz.underlying263 Tryz.underlying5 (by kernel_rfl) (by kernel_rfl) (laidMet_tail h)) (by kernel_rfl) rfl
  have b2 := block_of_tab (g := 3) (us := [.int .u64 1, .int .u64 10, .int .u64 100, .int .u64 1000, .int .u64 10000, .int .u64 100000, .int .u64 1000000, .int .u64 10000000, .int .u64 100000000, .int .u64 1000000000, .int .u64 10000000000, .int .u64 100000000000, .int .u64 1000000000000, .int .u64 10000000000000, .int .u64 100000000000000, .int .u64 1000000000000000, .int .u64 10000000000000000, .int .u64 100000000000000000, .int .u64 1000000000000000000, .int .u64 10000000000000000000]) (Lib.tabIs_of_head (k := .u64) (zs := [1, 10, 100, 1000, 10000, 100000, 1000000, 10000000, 100000000, 1000000000, 10000000000, 100000000000, 1000000000000, 10000000000000, 100000000000000, 1000000000000000, 10000000000000000, 100000000000000000, 1000000000000000000, 10000000000000000000]) (g := 3) (t := 257) (e := 236) (n := 20) (by kernel_rfl) (by kernel_rfl) Tryz.underlying257 Tryz.underlying236 (by kernel_rfl) (by kernel_rfl) (laidMet_tail (laidMet_tail h))) (by kernel_rfl) rfl
  intro g us hg
  simp only [GTab, qE] at hg
  repeat' split at hg
  all_goals first | cases hg; done | skip
  all_goals (subst_vars; cases hg)
  all_goals first | exact ⟨b0.1, fun h => h, b0.2⟩ | exact ⟨b1.1, fun h => h, b1.2⟩ | exact ⟨b2.1, fun h => h, b2.2⟩
noncomputable def lowB : Nat := (World.holding Tryz.prog default ⟨#[], #[], []⟩).heap.size
noncomputable def worldB (os : Os) : World :=
  let w0 := World.holding Tryz.prog os ⟨#[.cells #[.string ⟨#[118, 97, 108, 117, 101, 32, 111, 117, 116, 32, 111, 102, 32, 114, 97, 110, 103, 101]⟩] 249, .cells #[.string ⟨#[105, 110, 118, 97, 108, 105, 100, 32, 115, 121, 110, 116, 97, 120]⟩] 249], #[], []⟩
  { w0 with heap := ((((((((((w0.heap).modify 4 fun | .cells _ t frozen => .cells #[.int .u8 0, .int .u8 1, .int .u8 28, .int .u8 2, .int .u8 29, .int .u8 14, .int .u8 24, .int .u8 3, .int .u8 30, .int .u8 22, .int .u8 20, .int .u8 15, .int .u8 25, .int .u8 17, .int .u8 4, .int .u8 8, .int .u8 31, .int .u8 27, .int .u8 13, .int .u8 23, .int .u8 21, .int .u8 19, .int .u8 16, .int .u8 7, .int .u8 26, .int .u8 12, .int .u8 18, .int .u8 6, .int .u8 11, .int .u8 5, .int .u8 10, .int .u8 9] t frozen | o => o)).modify 5 fun | .cells _ t frozen => .cells #[.int .u8 0, .int .u8 1, .int .u8 56, .int .u8 2, .int .u8 57, .int .u8 49, .int .u8 28, .int .u8 3, .int .u8 61, .int .u8 58, .int .u8 42, .int .u8 50, .int .u8 38, .int .u8 29, .int .u8 17, .int .u8 4, .int .u8 62, .int .u8 47, .int .u8 59, .int .u8 36, .int .u8 45, .int .u8 43, .int .u8 51, .int .u8 22, .int .u8 53, .int .u8 39, .int .u8 33, .int .u8 30, .int .u8 24, .int .u8 18, .int .u8 12, .int .u8 5, .int .u8 63, .int .u8 55, .int .u8 48, .int .u8 27, .int .u8 60, .int .u8 41, .int .u8 37, .int .u8 16, .int .u8 46, .int .u8 35, .int .u8 44, .int .u8 21, .int .u8 52, .int .u8 32, .int .u8 23, .int .u8 11, .int .u8 54, .int .u8 26, .int .u8 40, .int .u8 15, .int .u8 34, .int .u8 20, .int .u8 31, .int .u8 10, .int .u8 25, .int .u8 14, .int .u8 19, .int .u8 9, .int .u8 13, .int .u8 8, .int .u8 7, .int .u8 6] t frozen | o => o)).modify 3 fun | .cells _ t frozen => .cells #[.int .u64 1, .int .u64 10, .int .u64 100, .int .u64 1000, .int .u64 10000, .int .u64 100000, .int .u64 1000000, .int .u64 10000000, .int .u64 100000000, .int .u64 1000000000, .int .u64 10000000000, .int .u64 100000000000, .int .u64 1000000000000, .int .u64 10000000000000, .int .u64 100000000000000, .int .u64 1000000000000000, .int .u64 10000000000000000, .int .u64 100000000000000000, .int .u64 1000000000000000000, .int .u64 10000000000000000000] t frozen | o => o)).modify 2 fun | .cells _ t frozen => .cells #[.iface 247 (.pointer (some ⟨lowB + 0, 0, none⟩))] t frozen | o => o)).modify 1 fun | .cells _ t frozen => .cells #[.iface 247 (.pointer (some ⟨lowB + 1, 0, none⟩))] t frozen | o => o) }
theorem worldB_met (os : Os) (args : Array Value) : laidMet Tryz.prog [("math/bits.deBruijn32tab", Rows.laid_math_bits_deBruijn32tab), ("math/bits.deBruijn64tab", Rows.laid_math_bits_deBruijn64tab), ("internal/strconv.uint64pow10", Rows.laid_internal_strconv_uint64pow10), ("strconv.ErrRange", Rows.laid_strconv_ErrRange), ("strconv.ErrSyntax", Rows.laid_strconv_ErrSyntax)] ((worldB os).forCall (fun _ _ => 0) ⟨#[], args, []⟩).memory :=
  laidMet_of_run' 100 (by kernel_rfl) (by kernel_rfl)
end Go.Proofs.YtppfcacnofjmdaaGreatDoor
