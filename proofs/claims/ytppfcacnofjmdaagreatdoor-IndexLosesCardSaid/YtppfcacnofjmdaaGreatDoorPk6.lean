/-
  What the statement leans on, part 6: IndexLoses, LawKit0, LawL, Laid.
-/
import Derived.Test.YtppfcacnofjmdaaGreatDoorRows
import Derived.Lib.LaidTab
import Derived.LaidLaws
import Derived.LaidHandle
import Derived.Stop.Joined
import Derived.ChangeSame
import Derived.ChangeVars
import Derived.JoinedOf
import Derived.RowKitTokens
import Derived.Test.YtppfcacnofjmdaaGreatDoorPk1
import Derived.Test.YtppfcacnofjmdaaGreatDoorPk2
import Derived.Test.YtppfcacnofjmdaaGreatDoorPk3
import Derived.Test.YtppfcacnofjmdaaGreatDoorPk4
import Derived.Test.YtppfcacnofjmdaaGreatDoorPk5
namespace Go.Proofs.YtppfcacnofjmdaaGreatDoor
set_option linter.unusedVariables false
set_option linter.unusedSimpArgs false
open Go.RowKit
set_option maxHeartbeats 4000000
set_option maxRecDepth 100000
def pickL (g : List Giv) (ks : List Pol) (k : Nat) : List Pol := (ks.take k).filter (qaz g)
theorem pickL_succ {g : List Giv} {ks : List Pol} {k : Nat} (h : k < ks.length) : pickL g ks (k + 1) = if pickF g ks k then pickL g ks k ++ [ks[k]] else pickL g ks k := by
  unfold pickL
  rw [pickF_at h, List.take_succ_eq_append_getElem h, List.filter_append]
  cases hp : qaz g ks[k] <;> simp [hp]
theorem pickL_len (g : List Giv) (ks : List Pol) (k : Nat) : (pickL g ks k).length ≤ k := by
  have h1 := List.length_filter_le (qaz g) (ks.take k)
  have h2 : (ks.take k).length ≤ k := by simp; omega
  unfold pickL; omega
theorem sumBy_filter {α : Type} (f : α → Nat) (p : α → Bool) : ∀ l : List α, qT f (l.filter p) ≤ qT f l
  | [] => Nat.le_refl _
  | x :: l => by
    have h := sumBy_filter f p l
    rw [List.filter_cons]
    simp only [qT, List.map_cons, List.sum_cons] at h ⊢
    split
    · rw [List.map_cons, List.sum_cons]; omega
    · omega
theorem kids_f {n : Nat} {p : Pol} (h : PolF n p) {l : List Pol} (hl : ∀ k ∈ l, k ∈ p.kids) (hn : l.length ≤ p.kids.length) : PolF n (p.putKids l) := by
  cases n with
  | zero => exact h.elim
  | succ n => exact ⟨⟨h.1.id, h.1.tgt, h.1.rules, h.1.obls, h.1.nr, Nat.le_trans hn h.1.nk⟩, h.2.1, fun k hk => h.2.2 k (hl k hk)⟩
theorem kids_sz {p : Pol} {l : List Pol} (h : qT Pol.sz l ≤ qT Pol.sz p.kids) : (p.putKids l).sz ≤ p.sz := by
  have e1 := Pol.sz_eq p
  have e2 : (p.putKids l).sz = 1 + p.rules.length + txt p.id + tsz p.target + osz p.obls + qT rusz p.rules + qT Pol.sz l := Pol.sz_eq (p.putKids l)
  omega
theorem indexLoses_h {n : Nat} (p : Pol) (hf : PolF n p) (g : List Giv) (hg : ∀ x ∈ g, x.Fit) : Holds Tryz.prog 13 [.agg (polP p), zP g] (.p (pB true)) [] := by
  have hS := small_h p hf
  have hR := right_h p (polF_fit 4 hf)
  have hC0 := fun h => copy_h n p hf h
  have hE0 := fun h hG => evPol_h p hf h g hG
  rw [zf] at hS hR hC0 hE0 ⊢
  obtain ⟨id, set, al, tg, rules, ks, obls⟩ := p
  have l2 : ((ks.map polP).length) = ks.length := by simp
  refine qA (ts := [4]) Tryz.func13 (by kernel_rfl) rfl rfl rfl ?_
  (repeat refine qb ?_); refine qa ?_
  repeat (first | refine zR ?_ | refine zK ?_ | refine zM ?_ | refine zB ?_ | refine zA ?_ | refine zS ?_ | refine zL ?_)
  refine qc ?_
  (repeat refine qb ?_); refine qa ?_
  repeat (first | refine zR ?_ | refine zK ?_ | refine zM ?_ | refine zB ?_ | refine zA ?_ | refine zS ?_ | refine zL ?_)
  refine qn rfl (act_call_E rfl rfl rfl rfl (hS) rfl ?_)
  rintro _ ⟨b1, rfl, h1⟩
  cases b1 with
  | false =>
    repeat (first | refine zR ?_ | refine zK ?_ | refine zM ?_ | refine zB ?_ | refine zA ?_ | refine zS ?_ | refine zL ?_)
    refine qc ?_
    (repeat refine qb ?_); refine qf rfl (fun hc => ?_) (fun hc => ?_)
    · (repeat refine qb ?_); refine qa ?_
      repeat (first | refine zR ?_ | refine zK ?_ | refine zM ?_ | refine zB ?_ | refine zA ?_ | refine zS ?_ | refine zL ?_)
      refine qn rfl (qg rfl rfl rfl rfl (qay) rfl rfl ?_)
      repeat (first | refine zR ?_ | refine zK ?_ | refine zM ?_ | refine zB ?_ | refine zA ?_ | refine zS ?_ | refine zL ?_)
      refine qc ?_
      (repeat refine qb ?_); refine qk ?_
      exact wS rfl rfl
    · cases hc
  | true =>
    repeat (first | refine zR ?_ | refine zK ?_ | refine zM ?_ | refine zB ?_ | refine zA ?_ | refine zS ?_ | refine zL ?_)
    refine qn rfl (act_call_E rfl rfl rfl rfl (few_h g hg) rfl ?_)
    rintro _ ⟨b2, rfl, h2⟩
    cases b2 with
    | false =>
      repeat (first | refine zR ?_ | refine zK ?_ | refine zM ?_ | refine zB ?_ | refine zA ?_ | refine zS ?_ | refine zL ?_)
      refine qc ?_
      (repeat refine qb ?_); refine qf rfl (fun hc => ?_) (fun hc => ?_)
      · (repeat refine qb ?_); refine qa ?_
        repeat (first | refine zR ?_ | refine zK ?_ | refine zM ?_ | refine zB ?_ | refine zA ?_ | refine zS ?_ | refine zL ?_)
        refine qn rfl (qg rfl rfl rfl rfl (qay) rfl rfl ?_)
        repeat (first | refine zR ?_ | refine zK ?_ | refine zM ?_ | refine zB ?_ | refine zA ?_ | refine zS ?_ | refine zL ?_)
        refine qc ?_
        (repeat refine qb ?_); refine qk ?_
        exact wS rfl rfl
      · cases hc
    | true =>
      repeat (first | refine zR ?_ | refine zK ?_ | refine zM ?_ | refine zB ?_ | refine zA ?_ | refine zS ?_ | refine zL ?_)
      refine qn rfl (qg rfl rfl rfl rfl (hR) rfl rfl ?_)
      repeat (first | refine zR ?_ | refine zK ?_ | refine zM ?_ | refine zB ?_ | refine zA ?_ | refine zS ?_ | refine zL ?_)
      by_cases h0 : zb (.mk id set al tg rules ks obls) = 0
      rotate_left
      · rw [show (zb (.mk id set al tg rules ks obls) != 0) = true by simpa using h0]
        repeat (first | refine zR ?_ | refine zK ?_ | refine zM ?_ | refine zB ?_ | refine zA ?_ | refine zS ?_ | refine zL ?_)
        refine qc ?_
        (repeat refine qb ?_); refine qf rfl (fun hc => ?_) (fun hc => ?_)
        · (repeat refine qb ?_); refine qa ?_
          repeat (first | refine zR ?_ | refine zK ?_ | refine zM ?_ | refine zB ?_ | refine zA ?_ | refine zS ?_ | refine zL ?_)
          refine qn rfl (qg rfl rfl rfl rfl (qay) rfl rfl ?_)
          repeat (first | refine zR ?_ | refine zK ?_ | refine zM ?_ | refine zB ?_ | refine zA ?_ | refine zS ?_ | refine zL ?_)
          refine qc ?_
          (repeat refine qb ?_); refine qk ?_
          exact wS rfl rfl
        · cases hc
      rw [show (zb (.mk id set al tg rules ks obls) != 0) = false by simpa using h0]
      repeat (first | refine zR ?_ | refine zK ?_ | refine zM ?_ | refine zB ?_ | refine zA ?_ | refine zS ?_ | refine zL ?_)
      cases set with
      | false =>
        refine qc ?_
        (repeat refine qb ?_); refine qf rfl (fun hc => ?_) (fun hc => ?_)
        · (repeat refine qb ?_); refine qa ?_
          repeat (first | refine zR ?_ | refine zK ?_ | refine zM ?_ | refine zB ?_ | refine zA ?_ | refine zS ?_ | refine zL ?_)
          refine qn rfl (qg rfl rfl rfl rfl (qay) rfl rfl ?_)
          repeat (first | refine zR ?_ | refine zK ?_ | refine zM ?_ | refine zB ?_ | refine zA ?_ | refine zS ?_ | refine zL ?_)
          refine qc ?_
          (repeat refine qb ?_); refine qk ?_
          exact wS rfl rfl
        · cases hc
      | true =>
        refine qc ?_
        (repeat refine qb ?_); refine qf rfl (fun hc => ?_) (fun hc => ?_)
        · cases hc
        refine qm ?_
        have hsz := h1 rfl
        have hG := givOk_of hg (h2 rfl)
        have hC := hC0 hsz
        have hE := hE0 (by omega) hG
        obtain ⟨_, _, hkl, _, _, hks⟩ := sz_facts hsz (Nat.le_refl _)
        simp only [Pol.kids] at hkl hks
        have hsm : ∀ {t : Tar}, TarL t → TarSm t := fun h => ⟨by have := h.1; omega, fun x hx => ⟨by have := (h.2 x hx).1; omega, fun y hy => by have := (h.2 x hx).2 y hy; omega⟩⟩
        have hkf : ∀ k ∈ ks, TarFit k.target ∧ TarSm k.target := fun k hk => ⟨((polF_fit 2 hf).2 k hk).1.tgt, hsm (sz_facts (hks k hk) (Nat.le_refl _)).1⟩
        have hP := (pick_h ks g hG (by omega) hkf).row_sl
        obtain ⟨L, hL⟩ : ∃ L, L = qB g ks ks.length := ⟨_, rfl⟩
        rw [← hL] at hP
        simp only [natsP] at hP
        have lL : ((L.map fun (i : Nat) => [pI (i : Int)]).length) = L.length := by simp
        have hLl : L.length ≤ ks.length := by rw [hL]; exact pickN_len _ _ _
        have hpk : ∃ n', (∀ k ∈ ks, PolF n' k) := by
          cases n with
          | zero => exact hf.elim
          | succ n => exact ⟨n, hf.2.2⟩
        obtain ⟨n', hkp⟩ := hpk
        have hKC := fun k (hk : k ∈ ks) => copy_h n' k (hkp k hk) (hks k hk)
        have hKE : ∀ k ∈ ks, qaz g k = false → Holds Tryz.prog 19 [.agg (polP k), zP g] (.tup [.p (.agg (rsP noRs)), .p (pI 0)]) [] := fun k hk hpk => by
          have H := evPol_h k (hkp k hk) (by have := hks k hk; omega) g hG
          rw [evalS_right (right_kids h0 k hk), pick_na hpk] at H
          exact H
        refine SW.wk (qq [1, 2] [(2, 2)] rfl rfl) ?_
        change SW _ _ _ ⟨117, [(1, .p (zP g)), (2, .ptr 2 0)], [(2, .cells [.p (pS id), .p (pB true), .p (pI al), .p (tgtP tg), .p (.sl 5 (rules.map zt)), .p (.sl 7 (ks.map polP)), .p (zQ obls)])]⟩
        (repeat refine qb ?_); refine qa ?_
        repeat (first | refine zR ?_ | refine zK ?_ | refine zM ?_ | refine zB ?_ | refine zA ?_ | refine zS ?_ | refine zL ?_)
        refine qn rfl (qD rfl rfl rfl rfl (hP) rfl rfl rfl ?_)
        repeat (first | refine zR ?_ | refine zK ?_ | refine zM ?_ | refine zB ?_ | refine zA ?_ | refine zS ?_ | refine zL ?_)
        refine qc ?_
        (repeat refine qb ?_); refine qa ?_
        repeat (first | refine zR ?_ | refine zK ?_ | refine zM ?_ | refine zB ?_ | refine zA ?_ | refine zS ?_ | refine zL ?_)
        refine qn rfl (qD rfl rfl rfl rfl (hC) rfl rfl rfl ?_)
        repeat (first | refine zR ?_ | refine zK ?_ | refine zM ?_ | refine zB ?_ | refine zA ?_ | refine zS ?_ | refine zL ?_)
        refine qc ?_
        refine SW.wk ((zN (k := 41000) rfl).trans (zN (k := 41001) rfl)) ?_
        (repeat refine qb ?_); refine qa ?_
        repeat (first | refine zR ?_ | refine zK ?_ | refine zM ?_ | refine zB ?_ | refine zA ?_ | refine zS ?_ | refine zL ?_)
        refine qc ?_
        (repeat refine qb ?_); refine qa ?_
        repeat (first | refine zR ?_ | refine zK ?_ | refine zM ?_ | refine zB ?_ | refine zA ?_ | refine zS ?_ | refine zL ?_)
        refine qc ?_
        (repeat refine qb ?_); refine qa ?_
        repeat (first | refine zR ?_ | refine zK ?_ | refine zM ?_ | refine zB ?_ | refine zA ?_ | refine zS ?_ | refine zL ?_)
        refine qc ?_
        (repeat refine qb ?_); refine ql ?_
        refine SW.wk (wk_nilc 6 5 900 28 7 rfl rfl rfl) ?_
        refine SW.wk (qq [1, 2, 5, 6, 7, 43, 44, 45] [(2, 2), (6, 6), (900, 0)] rfl rfl) ?_
        refine qO (fun m s => ∃ (k : Nat) (kk at_ : Int), k ≤ ks.length ∧ m = ks.length - k ∧ kk = k ∧ at_ = ((qB g ks k).length : Int) ∧ s = ⟨117, [(1, .p (zP g)), (2, .ptr 2 0), (5, .p (.sl 1 (L.map fun (i : Nat) => [pI (i : Int)]))), (6, .ptr 6 0), (7, .p (pI at_)), (43, .p (.sl 7 (ks.map polP))), (44, .p (pI (ks.map polP).length)), (45, .p (pI kk))], [(2, .cells [.p (pS id), .p (pB true), .p (pI al), .p (tgtP tg), .p (.sl 5 (rules.map zt)), .p (.sl 7 (ks.map polP)), .p (zQ obls)]), (6, .cells [.p (pS id), .p (pB true), .p (pI al), .p (tgtP tg), .p (.sl 5 (rules.map zt)), .row 0, .p (zQ obls)]), (0, .row 28 7 ((pickL g ks k).map polP))]⟩) ks.length ⟨0, 0, 0, Nat.zero_le _, rfl, rfl, rfl, rfl⟩ ?_
        rintro m s ⟨k, _, _, hk', rfl, rfl, rfl, rfl⟩
        (repeat refine qb ?_); refine qa ?_
        repeat (first | refine zR ?_ | refine zK ?_ | refine zM ?_ | refine zB ?_ | refine zA ?_ | refine zS ?_ | refine zL ?_)
        refine qc ?_
        (repeat refine qb ?_); refine qf rfl (fun hlt => ?_) (fun hlt => ?_)
        · refine qm ?_
          rw [l2] at hlt
          simp only [decide_eq_true_eq] at hlt
          have hlt' : k < ks.length := by omega
          have hpf := pickF_at (g := g) hlt'
          have hsucc := pickN_succ g ks k
          have hls := pickL_succ (g := g) hlt'
          have hlen := pickL_len g ks k
          have hat := pick_at (g := g) (ks := ks) hlt'
          have hno := pick_not (g := g) (ks := ks) hlt'
          have hpl := pickN_len g ks k
          have hCk := hKC _ (List.getElem_mem hlt')
          have hEk0 := hKE _ (List.getElem_mem hlt')
          simp only [← hL] at hat hno
          obtain ⟨x, hx⟩ : ∃ x, x = ks[k] := ⟨_, rfl⟩
          rw [← hx] at hpf hls hCk hEk0
          rw [zf] at hCk hEk0
          (repeat refine qb ?_); refine ql ?_
          (repeat refine qb ?_); refine qa ?_
          repeat (first | refine zR ?_ | refine zK ?_ | refine zM ?_ | refine zB ?_ | refine zA ?_ | refine zS ?_ | refine zL ?_)
          refine qw qe rfl rfl (by rw [l2]; omega) rfl ?_
          rw [qJ hlt', ← hx, zf]
          repeat (first | refine zR ?_ | refine zK ?_ | refine zM ?_ | refine zB ?_ | refine zA ?_ | refine zS ?_ | refine zL ?_)
          refine qc ?_
          refine SW.wk (qq [1, 2, 5, 6, 7, 8, 9, 43, 44, 45] [(2, 2), (6, 6), (9, 9), (0, 0)] rfl rfl) ?_
          generalize ha0 : (qB g ks k).length = a at *
          (repeat refine qb ?_); refine qa ?_
          repeat (first | refine zR ?_ | refine zK ?_ | refine zM ?_ | refine zB ?_ | refine zA ?_ | refine zS ?_ | refine zL ?_)
          rw [lL]
          cases hf2 : pickF g ks k with
          | true =>
            rw [hf2, if_pos rfl] at hsucc hls
            obtain ⟨ha, hget⟩ := hat hf2
            rw [show decide ((a : Int) < (L.length : Int)) = true by simp; omega]
            repeat (first | refine zR ?_ | refine zK ?_ | refine zM ?_ | refine zB ?_ | refine zA ?_ | refine zS ?_ | refine zL ?_)
            refine qw qe rfl rfl (by rw [lL]; omega) rfl ?_
            rw [qJ ha, hget]
            repeat (first | refine zR ?_ | refine zK ?_ | refine zM ?_ | refine zB ?_ | refine zA ?_ | refine zS ?_ | refine zL ?_)
            rw [show ((k : Int) == (k : Int)) = true by simp]
            repeat (first | refine zR ?_ | refine zK ?_ | refine zM ?_ | refine zB ?_ | refine zA ?_ | refine zS ?_ | refine zL ?_)
            refine qc ?_
            (repeat refine qb ?_); refine qf rfl (fun hi => ?_) (fun hi => ?_)
            · clear hpf
              (repeat refine qb ?_); refine zH 8 rfl (by kernel_rfl) ?_
              refine qy (i := 0) (K := [6, 0, 66, 66000, 66001, 67]) (by kernel_rfl) (by kernel_rfl) rfl rfl (qi qe rfl (by exact True.intro)) rfl ?_
              refine qy (i := 1) (K := [0, 66, 66000, 66001, 67]) (by kernel_rfl) (by kernel_rfl) rfl rfl (qi qe rfl (by exact True.intro)) rfl ?_
              refine qy (i := 2) (K := [6, 0, 66, 66000, 66001, 67]) (by kernel_rfl) (by kernel_rfl) rfl rfl (qi qe rfl (by exact True.intro)) rfl ?_
              refine qo 3 (by kernel_rfl) ?_
              refine qd rfl rfl rfl (qD rfl rfl rfl rfl hCk rfl rfl rfl ?_)
              refine qo 4 (by kernel_rfl) ?_
              refine qd rfl rfl rfl (ActOk.frz (i := 66000) rfl (ActOk.frz (i := 66001) rfl (aL (h := ?_))))
              refine qo 5 (by kernel_rfl) ?_
              refine qd rfl rfl rfl (qp qe rfl rfl rfl rfl rfl rfl rfl rfl rfl rfl rfl rfl rfl rfl rfl rfl (by simp only [List.length_append, List.length_map, List.length_take, List.length_cons, List.length_nil]; unfold reachBytes; omega) (by simp only [List.length_append, List.length_map, List.length_take, List.length_cons, List.length_nil]; omega) ?_)
              refine qy (i := 6) (K := [6, 0, 66, 66000, 66001, 67]) (by kernel_rfl) (by kernel_rfl) rfl rfl (qi qe rfl (by exact True.intro)) rfl ?_
              refine qo 7 (by kernel_rfl) ?_
              first | refine qd rfl rfl rfl (aM (h := ?_)) | refine qd rfl rfl rfl (aB (h := ?_)) | refine qd rfl rfl rfl (aA (h := ?_)) | refine qd rfl rfl rfl (aS (h := ?_)) | refine qd rfl rfl rfl (aL (h := ?_)) | refine qd rfl rfl rfl (qv (K := []) (qi qe rfl (by exact True.intro)) rfl ?_)
              refine zd (by kernel_rfl) ?_
              refine SW.wk (qq [1, 2, 5, 6, 7, 43, 44, 45] [(2, 2), (6, 6), (67, 67)] rfl rfl) ?_
              refine ?fk11_223
              rotate_left
              (repeat refine qb ?_); refine qa ?_
              repeat (first | refine zR ?_ | refine zK ?_ | refine zM ?_ | refine zB ?_ | refine zA ?_ | refine zS ?_ | refine zL ?_)
              refine qc ?_
              refine qK ?_
              (repeat refine qb ?_); refine qa ?_
              repeat (first | refine zR ?_ | refine zK ?_ | refine zM ?_ | refine zB ?_ | refine zA ?_ | refine zS ?_ | refine zL ?_)
              refine qc ?_
              refine ⟨_, _, ?_, qq [1, 2, 5, 6, 7, 43, 44, 45] [(2, 2), (6, 6), (67, 0)] rfl rfl, k + 1, _, IntKind.i64.wrap ((a : Int) + 1), hlt', rfl, qz hlt' (by omega), ?_, ?_⟩
              · omega
              · rw [hsucc, List.length_append, ha0, IntWalk.i64_in _ (by omega)]; rfl
              · have e : (pickL g ks k ++ [x]).map polP = (pickL g ks k).map polP ++ [[pS x.id, pB x.set, pI x.alg, tgtP x.target, .sl 5 (x.rules.map zt), .sl 7 (x.kids.map polP), zQ x.obls]] := by
                  rw [List.map_append]
                  exact congrArg (fun q => (pickL g ks k).map polP ++ [q]) (zf x)
                rw [hls, e]; rfl
            · cases hi
          | false =>
            rw [hf2, if_neg (by simp)] at hsucc hls
            have hEk := hEk0 (by rw [← hpf]; exact hf2)
            by_cases ha : a < L.length
            · have hget := hno hf2 ha
              rw [show decide ((a : Int) < (L.length : Int)) = true by simp; omega]
              repeat (first | refine zR ?_ | refine zK ?_ | refine zM ?_ | refine zB ?_ | refine zA ?_ | refine zS ?_ | refine zL ?_)
              refine qw qe rfl rfl (by rw [lL]; omega) rfl ?_
              rw [qJ ha]
              repeat (first | refine zR ?_ | refine zK ?_ | refine zM ?_ | refine zB ?_ | refine zA ?_ | refine zS ?_ | refine zL ?_)
              rw [show ((L[a] : Int) == (k : Int)) = false by simp; omega]
              repeat (first | refine zR ?_ | refine zK ?_ | refine zM ?_ | refine zB ?_ | refine zA ?_ | refine zS ?_ | refine zL ?_)
              refine qc ?_
              (repeat refine qb ?_); refine qf rfl (fun hi => ?_) (fun hi => ?_)
              · cases hi
              refine qm ?_
              (repeat refine qb ?_); refine qa ?_
              repeat (first | refine zR ?_ | refine zK ?_ | refine zM ?_ | refine zB ?_ | refine zA ?_ | refine zS ?_ | refine zL ?_)
              refine qn rfl (qD rfl rfl rfl rfl (hEk) rfl rfl rfl ?_)
              repeat (first | refine zR ?_ | refine zK ?_ | refine zM ?_ | refine zB ?_ | refine zA ?_ | refine zS ?_ | refine zL ?_)
              refine qc ?_
              (repeat refine qb ?_); refine qa ?_
              repeat (first | refine zR ?_ | refine zK ?_ | refine zM ?_ | refine zB ?_ | refine zA ?_ | refine zS ?_ | refine zL ?_)
              refine qc ?_
              (repeat refine qb ?_); refine qf rfl (fun hz => ?_) (fun hz => ?_)
              · cases hz
              refine qm ?_
              (repeat refine qb ?_); refine qa ?_
              repeat (first | refine zR ?_ | refine zK ?_ | refine zM ?_ | refine zB ?_ | refine zA ?_ | refine zS ?_ | refine zL ?_)
              refine qc ?_
              refine ⟨_, _, ?_, qq [1, 2, 5, 6, 7, 43, 44, 45] [(2, 2), (6, 6), (0, 0)] rfl rfl, k + 1, _, (a : Int), hlt', rfl, qz hlt' (by omega), ?_, ?_⟩
              · omega
              · rw [hsucc, ha0]
              · rw [hls]; rfl
            · rw [show decide ((a : Int) < (L.length : Int)) = false by simp; omega]
              repeat (first | refine zR ?_ | refine zK ?_ | refine zM ?_ | refine zB ?_ | refine zA ?_ | refine zS ?_ | refine zL ?_)
              refine qc ?_
              (repeat refine qb ?_); refine qf rfl (fun hi => ?_) (fun hi => ?_)
              · cases hi
              refine qm ?_
              (repeat refine qb ?_); refine qa ?_
              repeat (first | refine zR ?_ | refine zK ?_ | refine zM ?_ | refine zB ?_ | refine zA ?_ | refine zS ?_ | refine zL ?_)
              refine qn rfl (qD rfl rfl rfl rfl (hEk) rfl rfl rfl ?_)
              repeat (first | refine zR ?_ | refine zK ?_ | refine zM ?_ | refine zB ?_ | refine zA ?_ | refine zS ?_ | refine zL ?_)
              refine qc ?_
              (repeat refine qb ?_); refine qa ?_
              repeat (first | refine zR ?_ | refine zK ?_ | refine zM ?_ | refine zB ?_ | refine zA ?_ | refine zS ?_ | refine zL ?_)
              refine qc ?_
              (repeat refine qb ?_); refine qf rfl (fun hz => ?_) (fun hz => ?_)
              · cases hz
              refine qm ?_
              (repeat refine qb ?_); refine qa ?_
              repeat (first | refine zR ?_ | refine zK ?_ | refine zM ?_ | refine zB ?_ | refine zA ?_ | refine zS ?_ | refine zL ?_)
              refine qc ?_
              refine ⟨_, _, ?_, qq [1, 2, 5, 6, 7, 43, 44, 45] [(2, 2), (6, 6), (0, 0)] rfl rfl, k + 1, _, (a : Int), hlt', rfl, qz hlt' (by omega), ?_, ?_⟩
              · omega
              · rw [hsucc, ha0]
              · rw [hls]; rfl
        · refine qK ?_
          rw [l2] at hlt
          simp only [decide_eq_false_iff_not] at hlt
          have hkk : k = ks.length := by omega
          subst hkk
          rw [← hL]
          have eF : pickL g ks ks.length = ks.filter (qaz g) := by unfold pickL; rw [List.take_length]
          rw [eF]
          have hrq : zb ((Pol.mk id true al tg rules ks obls).putKids (ks.filter (qaz g))) = 0 := right_filter h0 (qaz g)
          have hHQ := evPol_h ((Pol.mk id true al tg rules ks obls).putKids (ks.filter (qaz g))) (kids_f hf (fun k hk => (List.mem_filter.1 hk).1) (List.length_filter_le _ _)) (by have := kids_sz (p := .mk id true al tg rules ks obls) (sumBy_filter Pol.sz (qaz g) ks); omega) g hG
          have hdq := decide_pick g 4 (.mk id true al tg rules ks obls)
          have hxl := decide_obls (g := g) hsz
          have hxm := qaa g 4 (.mk id true al tg rules ks obls)
          rw [evalS_right hrq] at hHQ
          rw [evalS_right h0] at hE
          change qF g 4 ((Pol.mk id true al tg rules ks obls).putKids (ks.filter (qaz g))) = _ at hdq
          change Holds _ _ _ (.tup [.p (.agg (rsP (qF g 4 ((Pol.mk id true al tg rules ks obls).putKids (ks.filter (qaz g)))))), .p (pI 0)]) _ at hHQ
          rw [hdq] at hHQ
          rw [zf] at hHQ
          generalize qF g 4 (.mk id true al tg rules ks obls) = x at *
          refine SW.wk (zN (k := 0) rfl) ?_
          (repeat refine qb ?_); refine qa ?_
          repeat (first | refine zR ?_ | refine zK ?_ | refine zM ?_ | refine zB ?_ | refine zA ?_ | refine zS ?_ | refine zL ?_)
          refine qn rfl (qD rfl rfl rfl rfl (hE) rfl rfl rfl ?_)
          repeat (first | refine zR ?_ | refine zK ?_ | refine zM ?_ | refine zB ?_ | refine zA ?_ | refine zS ?_ | refine zL ?_)
          refine qc ?_
          (repeat refine qb ?_); refine qa ?_
          repeat (first | refine zR ?_ | refine zK ?_ | refine zM ?_ | refine zB ?_ | refine zA ?_ | refine zS ?_ | refine zL ?_)
          refine qn rfl (qD rfl rfl rfl rfl (hHQ) rfl rfl rfl ?_)
          repeat (first | refine zR ?_ | refine zK ?_ | refine zM ?_ | refine zB ?_ | refine zA ?_ | refine zS ?_ | refine zL ?_)
          refine qc ?_
          refine SW.wk (qq [5, 7, 12, 13, 14, 15] [(12, 12), (14, 14)] rfl rfl) ?_
          (repeat refine qb ?_); refine qa ?_
          repeat (first | refine zR ?_ | refine zK ?_ | refine zM ?_ | refine zB ?_ | refine zA ?_ | refine zS ?_ | refine zL ?_)
          rw [lL, show ((L.length : Int) == (L.length : Int)) = true by simp]
          repeat (first | refine zR ?_ | refine zK ?_ | refine zM ?_ | refine zB ?_ | refine zA ?_ | refine zS ?_ | refine zL ?_)
          refine qn rfl (qg rfl rfl rfl rfl (qav x hxm hxl) rfl rfl ?_)
          repeat (first | refine zR ?_ | refine zK ?_ | refine zM ?_ | refine zB ?_ | refine zA ?_ | refine zS ?_ | refine zL ?_)
          repeat (first | refine zR ?_ | refine zK ?_ | refine zM ?_ | refine zB ?_ | refine zA ?_ | refine zS ?_ | refine zL ?_)
          refine qn rfl (qg rfl rfl rfl rfl (qay) rfl rfl ?_)
          repeat (first | refine zR ?_ | refine zK ?_ | refine zM ?_ | refine zB ?_ | refine zA ?_ | refine zS ?_ | refine zL ?_)
          refine qc ?_
          (repeat refine qb ?_); refine qk ?_
          exact wS rfl rfl
end Go.Proofs.YtppfcacnofjmdaaGreatDoor
namespace Go.Proofs.YtppfcacnofjmdaaGreatDoor
set_option linter.unusedVariables false
set_option linter.unusedSimpArgs false
open Go.RowKit
inductive RelsP (w : World) : List PV → List Value → Prop
  | nil : RelsP w [] []
  | cons {x : PV} {u : Value} {xs : List PV} {us : List Value} (h : RelP (fun _ => True) w x u) (r : RelsP w xs us) : RelsP w (x :: xs) (u :: us)
theorem RelsP.get {w : World} {xs : List PV} {us : List Value} (h : RelsP w xs us) : us.length = xs.length ∧ ∀ (i : Nat) (s : PV) (u : Value), xs[i]? = some s → us[i]? = some u → RelP (fun _ => True) w s u := by
  induction h with
  | nil => exact ⟨rfl, fun i s u h => by simp at h⟩
  | cons h r ih =>
    refine ⟨by simp [ih.1], fun i s u hs hu => ?_⟩
    cases i with
    | zero => simp at hs hu; subst hs; subst hu; exact h
    | succ i => exact ih.2 i s u (by simpa using hs) (by simpa using hu)
theorem law_callsG {P : Program} {f : FuncId} {args : List PV} {us : List Value} {W : World} (hg : GlOk (entry W) fun _ => False) (H : Holds P f args (.p (.v (.bool true))) []) (hr : RelsP W args us) : Calls P f us.toArray W fun e w' => e = .returned (.bool true) ∧ Below W.heap.size W w' := by
  obtain ⟨h1, h2⟩ := hr.get
  refine (H.2 W (fun _ => False) us ⟨fun _ h => h.elim, hg⟩ h1 fun i s u hs hu => (h2 i s u hs hu).weak fun _ _ _ => fun h => h).mono fun e w' ⟨v, γ, he, hb, _, hv⟩ => ?_
  have := hv.v_inv
  subst this
  exact ⟨he, hb⟩
theorem rel_agg {w : World} {cs : List Value} {x : List PV} (h : rPV (fun _ => True) w cs x) : RelP (fun _ => True) w (.agg x) (.agg cs.toArray) := .agg h.1 h.2
end Go.Proofs.YtppfcacnofjmdaaGreatDoor
namespace Go.Proofs.YtppfcacnofjmdaaGreatDoor
set_option linter.unusedSimpArgs false
open Go.ChangeShapes Go.WideShapes Go.ChangeAt Go.RowKit
set_option linter.unusedVariables false
theorem law_liftL {H : Type} {enc : TypeId × Value → H} {C : Checked} {os : Os} {f : FuncId} {fn : Func} {s : ChangeSpec} {bt : TypeId} {laid : List (String × DataW Unit)}
    (own : ownKnob C.prog.godebug = none) (started : os.Started) (noInit : C.prog.inits.idxOf? f = none) (hfn : C.prog.funcs[f]? = some fn)
    (witness : ∃ (w : World) (tape : Tape) (i : Input), w.os = os ∧ (w.forCall tape i).Shaped C.prog ∧ i.vars = [] ∧ Input.okWide C.prog (w.forCall tape i) .any w.heap.size f i ∧
      ((s.pre enc C.prog fn [] false (w.forCall tape i).memory i.args ∧ laidMetH C.prog laid (w.forCall tape i).memory) ∧ sizedMet enc C.prog fn (OpenSpec.ofChange s) false (w.forCall tape i).memory i.args) ∧ ({} : Assume).holds C.prog (lone (Frame.enter C.prog f i.args .normal) [] (w.forCall tape i)))
    (hl : laidOutB C.prog = true) (hts : ∀ t ∈ fn.params.toList, C.prog.readableRec t = true ∧ t < C.prog.types.size) (hvars : s.vars = []) (hvt : s.plain.varTypes C.prog = [])
    (hspec : ∀ (W : World) (args : Array Value) (ds : List (DataW H)) (ps : List MemPlace), DataW.TrodAll enc C.prog W 0 (fun _ => true) true fn.params.toList args.toList ds ps → s.fn H ds = { results := [.lit (.bool true)], args := ds })
    (hres : fn.resultTypes = #[bt]) (hbt : C.prog.underlying bt = some .bool)
    (walk : ∀ (W : World) (base : Nat) (args : Array Value) (ds : List (DataW H)) (ps : List MemPlace), laidMetH C.prog laid W →
      (∀ (j : Nat) t v, fn.params[j]? = some t → args[j]? = some v → Value.okWide C.prog W .any base t v) →
      DataW.TrodAll enc C.prog W 0 (fun _ => true) true fn.params.toList args.toList ds ps →
      (∀ n ∈ DataW.weightsEach C.prog fn.params.toList ds, n ≤ reachBytes) →
      Calls C.prog f args W fun e W' => e = .returned (.bool true) ∧ Below W.heap.size W W') :
    ReturnsInHanded {} C os f .any (fun w args => (s.pre enc C.prog fn [] false w args ∧ laidMetH C.prog laid w) ∧ sizedMet enc C.prog fn (OpenSpec.ofChange s) false w args) (s.post enc C.prog fn false true false false) := by
  refine returnsInHanded_of_change_and (X := fun w _ => laidMetH C.prog laid w) (fun _ _ _ hh h => h.of_heap hh) own started noInit hfn witness ?_
  intro W base args ds gs before hval hW _ hsz hL _
  have hlt : ∀ p ∈ before, p.block < W.heap.size := fun p hp => hW.lt p hp
  have hW0 := hW
  obtain ⟨p, q, hA, hV, rfl, hz, hn⟩ := hW0
  rw [hvars] at hV
  obtain ⟨rfl, rfl⟩ := trodVars_none hV
  have hsp := hspec W args ds p hA
  refine (walk W base args ds p hL hval hA ?_).mono fun e W' ⟨he, hb⟩ => ?_
  · intro n hn
    rw [hvt, List.append_nil, List.append_nil] at hsz
    exact of_decide_eq_true (List.all_eq_true.1 hsz n hn)
  · subst he
    refine ⟨_, rfl, ds, [], p ++ [], [], p, [], hW, ?_, ?_, ?_, World.keptBut_mono (fun x hx => ⟨hx, Or.inr (Or.inl (by simpa using hx))⟩) (hb.frame (· ∈ p ++ [])), fun h => by cases h⟩
    · rw [List.append_nil, hsp, hres]
      exact trodAll_mk1 (shut_bool hbt _)
    · rw [List.append_nil, hsp]
      exact qap hl hb hts (fun x hx => hlt x (by simpa using hx)) (fun x hx => by simpa using hlt x (by simpa using hx)) hA
    · rw [List.append_nil, hsp, hvars]
      rfl
theorem laidMet_tail {P : Program} {x : String × DataW Unit} {l : List (String × DataW Unit)} {W : World} (h : laidMet P (x :: l) W) : laidMet P l W := by
  obtain ⟨ps, ⟨g, t, cs, fuel, p, q, h1, h2, h3, h4, h5, h6⟩, hn, hb⟩ := h
  subst h6
  exact ⟨q, h5, (List.nodup_append.1 hn).2.1, fun b off hm => hb b off (List.mem_append_right _ hm)⟩
theorem block_of_tab {P : Program} {W : World} {name : String} {k : IntKind} {zs : List Int} {g : Nat} (h : Lib.TabIs P W name k zs) (hg : P.globalNamed name = some g) {us : List Value} (hu : us = zs.map fun z => Value.int k z) : g < W.heap.size ∧ ∃ ty m, W.heap[g]? = some (.cells us.toArray ty m) := by
  unfold Lib.TabIs World.var? at h
  rw [hg] at h
  simp only [Option.bind_some] at h
  split at h
  · rename_i cs ty m hb
    cases h
    exact ⟨(Array.getElem?_eq_some_iff.1 hb).1, ty, m, by rw [hb, hu]⟩
  · cases h
end Go.Proofs.YtppfcacnofjmdaaGreatDoor
namespace Go.Proofs.YtppfcacnofjmdaaGreatDoor
open Go.RowKit
theorem own_none : ownKnob Tryz.prog.godebug = none := by kernel_rfl
theorem gl_of_laid {rest : List (String × DataW Unit)} {W : World} (h : laidMet Tryz.prog (("math/bits.deBruijn32tab", Rows.laid_math_bits_deBruijn32tab) :: ("math/bits.deBruijn64tab", Rows.laid_math_bits_deBruijn64tab) :: ("internal/strconv.uint64pow10", Rows.laid_internal_strconv_uint64pow10) :: rest) W) : GlOk (entry W) fun _ => False := by
  have b0 := block_of_tab (g := 4) (us := [.int .u8 0, .int .u8 1, .int .u8 28, .int .u8 2, .int .u8 29, .int .u8 14, .int .u8 24, .int .u8 3, .int .u8 30, .int .u8 22, .int .u8 20, .int .u8 15, .int .u8 25, .int .u8 17, .int .u8 4, .int .u8 8, .int .u8 31, .int .u8 27, .int .u8 13, .int .u8 23, .int .u8 21, .int .u8 19, .int .u8 16, .int .u8 7, .int .u8 26, .int .u8 12, .int .u8 18, .int .u8 6, .int .u8 11, .int .u8 5, .int .u8 10, .int .u8 9]) (Lib.tabIs_of_head (k := .u8) (zs := [0, 1, 28, 2, 29, 14, 24, 3, 30, 22, 20, 15, 25, 17, 4, 8, 31, 27, 13, 23, 21, 19, 16, 7, 26, 12, 18, 6, 11, 5, 10, 9]) (g := 4) (t := 262) (e := 5) (n := 32) (by kernel_rfl) (by kernel_rfl) Tryz.underlying262 Tryz.underlying5 (by kernel_rfl) (by kernel_rfl) h) (by kernel_rfl) rfl
  have b1 := block_of_tab (g := 5) (us := [.int .u8 0, .int .u8 1, .int .u8 56, .int .u8 2, .int .u8 57, .int .u8 49, .int .u8 28, .int .u8 3, .int .u8 61, .int .u8 58, .int .u8 42, .int .u8 50, .int .u8 38, .int .u8 29, .int .u8 17, .int .u8 4, .int .u8 62, .int .u8 47, .int .u8 59, .int .u8 36, .int .u8 45, .int .u8 43, .int .u8 51, .int .u8 22, .int .u8 53, .int .u8 39, .int .u8 33, .int .u8 30, .int .u8 24, .int .u8 18, .int .u8 12, .int .u8 5, .int .u8 63, .int .u8 55, .int .u8 48, .int .u8 27, .int .u8 60, .int .u8 41, .int .u8 37, .int .u8 16, .int .u8 46, .int .u8 35, .int .u8 44, .int .u8 21, .int .u8 52, .int .u8 32, .int .u8 23, .int .u8 11, .int .u8 54, .int .u8 26, .int .u8 40, .int .u8 15, .int .u8 34, .int .u8 20, .int .u8 31, .int .u8 10, .int .u8 25, .int .u8 14, .int .u8 19, .int .u8 9, .int .u8 13, .int .u8 8, .int .u8 7, .int .u8 6]) (Lib.tabIs_of_head (k := .u8) (zs := [0, 1, 56, 2, 57, 49, 28, 3, 61, 58, 42, 50, 38, 29, 17, 4, 62, 47, 59, 36, 45, 43, 51, 22, 53, 39, 33, 30, 24, 18, 12, 5, 63, 55, 48, 27, 60, 41, 37, 16, 46, 35, 44, 21, 52, 32, 23, 11, 54, 26, 40, 15, 34, 20, 31, 10, 25, 14, 19, 9, 13, 8, 7, 6]) (g := 5) (t := 263) (e := 5) (n := 64) (by kernel_rfl) (by kernel_rfl) Tryz.underlying263 Tryz.underlying5 (by kernel_rfl) (by kernel_rfl) (laidMet_tail h)) (by kernel_rfl) rfl
  have b2 := block_of_tab (g := 3) (us := [.int .u64 1, .int .u64 10, .int .u64 100, .int .u64 1000, .int .u64 10000, .int .u64 100000, .int .u64 1000000, .int .u64 10000000, .int .u64 100000000, .int .u64 1000000000, .int .u64 10000000000, .int .u64 100000000000, .int .u64 1000000000000, .int .u64 10000000000000, .int .u64 100000000000000, .int .u64 1000000000000000, .int .u64 10000000000000000, .int .u64 100000000000000000, .int .u64 1000000000000000000, .int .u64 10000000000000000000]) (Lib.tabIs_of_head (k := .u64) (zs := [1, 10, 100, 1000, 10000, 100000, 1000000, 10000000, 100000000, 1000000000, 10000000000, 100000000000, 1000000000000, 10000000000000, 100000000000000, 1000000000000000, 10000000000000000, 100000000000000000, 1000000000000000000, 10000000000000000000]) (g := 3) (t := 257) (e := 236) (n := 20) (by kernel_rfl) (by kernel_rfl) Tryz.underlying257 Tryz.underlying236 (by kernel_rfl) (by kernel_rfl) (laidMet_tail (laidMet_tail h))) (by kernel_rfl) rfl
  intro g us hg
  simp only [GTab, qE] at hg
  repeat' split at hg
  all_goals first | cases hg; done | skip
  all_goals (subst_vars; cases hg)
  all_goals first | exact ⟨b0.1, fun h => h, b0.2⟩ | exact ⟨b1.1, fun h => h, b1.2⟩ | exact ⟨b2.1, fun h => h, b2.2⟩
noncomputable def lowB : Nat := (World.holding Tryz.prog default ⟨#[], #[], []⟩).heap.size
noncomputable def worldB (os : Os) : World :=
  let w0 := World.holding Tryz.prog os ⟨#[.cells #[.string ⟨#[118, 97, 108, 117, 101, 32, 111, 117, 116, 32, 111, 102, 32, 114, 97, 110, 103, 101]⟩] 249, .cells #[.string ⟨#[105, 110, 118, 97, 108, 105, 100, 32, 115, 121, 110, 116, 97, 120]⟩] 249], #[], []⟩
  { w0 with heap := ((((((((((w0.heap).modify 4 fun | .cells _ t frozen => .cells #[.int .u8 0, .int .u8 1, .int .u8 28, .int .u8 2, .int .u8 29, .int .u8 14, .int .u8 24, .int .u8 3, .int .u8 30, .int .u8 22, .int .u8 20, .int .u8 15, .int .u8 25, .int .u8 17, .int .u8 4, .int .u8 8, .int .u8 31, .int .u8 27, .int .u8 13, .int .u8 23, .int .u8 21, .int .u8 19, .int .u8 16, .int .u8 7, .int .u8 26, .int .u8 12, .int .u8 18, .int .u8 6, .int .u8 11, .int .u8 5, .int .u8 10, .int .u8 9] t frozen | o => o)).modify 5 fun | .cells _ t frozen => .cells #[.int .u8 0, .int .u8 1, .int .u8 56, .int .u8 2, .int .u8 57, .int .u8 49, .int .u8 28, .int .u8 3, .int .u8 61, .int .u8 58, .int .u8 42, .int .u8 50, .int .u8 38, .int .u8 29, .int .u8 17, .int .u8 4, .int .u8 62, .int .u8 47, .int .u8 59, .int .u8 36, .int .u8 45, .int .u8 43, .int .u8 51, .int .u8 22, .int .u8 53, .int .u8 39, .int .u8 33, .int .u8 30, .int .u8 24, .int .u8 18, .int .u8 12, .int .u8 5, .int .u8 63, .int .u8 55, .int .u8 48, .int .u8 27, .int .u8 60, .int .u8 41, .int .u8 37, .int .u8 16, .int .u8 46, .int .u8 35, .int .u8 44, .int .u8 21, .int .u8 52, .int .u8 32, .int .u8 23, .int .u8 11, .int .u8 54, .int .u8 26, .int .u8 40, .int .u8 15, .int .u8 34, .int .u8 20, .int .u8 31, .int .u8 10, .int .u8 25, .int .u8 14, .int .u8 19, .int .u8 9, .int .u8 13, .int .u8 8, .int .u8 7, .int .u8 6] t frozen | o => o)).modify 3 fun | .cells _ t frozen => .cells #[.int .u64 1, .int .u64 10, .int .u64 100, .int .u64 1000, .int .u64 10000, .int .u64 100000, .int .u64 1000000, .int .u64 10000000, .int .u64 100000000, .int .u64 1000000000, .int .u64 10000000000, .int .u64 100000000000, .int .u64 1000000000000, .int .u64 10000000000000, .int .u64 100000000000000, .int .u64 1000000000000000, .int .u64 10000000000000000, .int .u64 100000000000000000, .int .u64 1000000000000000000, .int .u64 10000000000000000000] t frozen | o => o)).modify 2 fun | .cells _ t frozen => .cells #[.iface 247 (.pointer (some ⟨lowB + 0, 0, none⟩))] t frozen | o => o)).modify 1 fun | .cells _ t frozen => .cells #[.iface 247 (.pointer (some ⟨lowB + 1, 0, none⟩))] t frozen | o => o) }
theorem worldB_met (os : Os) (args : Array Value) : laidMet Tryz.prog [("math/bits.deBruijn32tab", Rows.laid_math_bits_deBruijn32tab), ("math/bits.deBruijn64tab", Rows.laid_math_bits_deBruijn64tab), ("internal/strconv.uint64pow10", Rows.laid_internal_strconv_uint64pow10), ("strconv.ErrRange", Rows.laid_strconv_ErrRange), ("strconv.ErrSyntax", Rows.laid_strconv_ErrSyntax)] ((worldB os).forCall (fun _ _ => 0) ⟨#[], args, []⟩).memory :=
  laidMet_of_run' 100 (by kernel_rfl) (by kernel_rfl)
end Go.Proofs.YtppfcacnofjmdaaGreatDoor
