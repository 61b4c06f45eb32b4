/-
  What the statement leans on, part 5: ExN, PolE, ExV, PolM, PolP, EvP, PolW, Data, Data2, Data3, Data4, PolF, SzS, Fork, EvH, Nilc, EvJ.
-/
import Derived.Test.YtppfcacnofjmdaaGreatDoorRows
import Derived.Test.YtppfcacnofjmdaaGreatDoorPk1
import Derived.Test.YtppfcacnofjmdaaGreatDoorPk2
import Derived.Test.YtppfcacnofjmdaaGreatDoorPk3
import Derived.Test.YtppfcacnofjmdaaGreatDoorPk4
namespace Go.Proofs.YtppfcacnofjmdaaGreatDoor
set_option linter.unusedVariables false
set_option linter.unusedSimpArgs false
open Go.RowKit
set_option maxHeartbeats 4000000
def jz (S : List Itm) : List (Nat × Box) := [(1000000, .row 115 5 (S.map Itm.pv))]
theorem ze {S : List Itm} {lo i : Nat} {x : Itm} (h : (S.drop lo)[i]? = some x) : (S.map Itm.pv).getD (lo + i) [] = x.pv := by
  rw [List.getElem?_drop] at h
  rw [List.getD_eq_getElem?_getD, List.getElem?_map, h]; rfl
theorem errS_at : ∀ {l : List Itm} {k : Nat} (hk : k < l.length), errS (l.take k) = 0 → l[k].e ≠ 0 → errS l = l[k].e
  | x :: r, 0, _, _, h => by simp only [List.getElem_cons_zero] at h ⊢; rw [errS, if_neg h]
  | x :: r, k + 1, hk, h0, h => by
    rw [List.take_succ_cons, errS] at h0
    by_cases hx : x.e = 0
    · rw [if_pos hx] at h0
      rw [errS, if_pos hx]
      exact errS_at (by simpa using hk) h0 (by simpa using h)
    · rw [if_neg hx] at h0; exact absurd h0 hx
theorem wv : ∀ {l : List Itm} {k : Nat} (hk : k < l.length), errS (l.take k) = 0 → l[k].e = 0 → errS (l.take (k + 1)) = 0
  | x :: r, 0, _, _, h => by simp only [List.getElem_cons_zero] at h; rw [Nat.zero_add, List.take_succ_cons, List.take_zero, errS, if_pos h]; rfl
  | x :: r, k + 1, hk, h0, h => by
    rw [List.take_succ_cons, errS] at h0
    by_cases hx : x.e = 0
    · rw [if_pos hx] at h0
      rw [List.take_succ_cons, errS, if_pos hx]
      exact wv (by simpa using hk) h0 (by simpa using h)
    · rw [if_neg hx] at h0; exact absurd h0 hx
theorem node_lit (val : Val) (attr : Atr) (S : List Itm) (lo : Nat) (g : List Giv) : zZ Tryz.prog 75 [.p (.agg (Nod.mk 1 val attr).pv), .view 1000000 5 lo S.length, .p (zP g)] (jz S) (.p (.agg (zc (Nod.mk 1 val attr) (S.drop lo) g).pv)) (jz S) := by
  have e : zc (Nod.mk 1 val attr) (S.drop lo) g = ⟨[], val, 0⟩ := rfl
  rw [e]
  refine qR (T := TTab) qe Tryz.func75 (by kernel_rfl) rfl rfl rfl ?_
  (repeat refine qb ?_); refine qa ?_
  repeat (first | refine zR ?_ | refine zK ?_ | refine zM ?_ | refine zB ?_ | refine zA ?_ | refine zS ?_ | refine zL ?_)
  refine qc ?_
  (repeat refine qb ?_); refine qa ?_
  repeat (first | refine zR ?_ | refine zK ?_ | refine zM ?_ | refine zB ?_ | refine zA ?_ | refine zS ?_ | refine zL ?_)
  refine qc ?_
  (repeat refine qb ?_); refine ql ?_
  (repeat refine qb ?_); refine qa ?_
  repeat (first | refine zR ?_ | refine zK ?_ | refine zM ?_ | refine zB ?_ | refine zA ?_ | refine zS ?_ | refine zL ?_)
  refine qc ?_
  (repeat refine qb ?_); refine qf rfl (fun h1 => ?_) (fun h1 => ?_)
  · (repeat refine qb ?_); refine qa ?_
    repeat (first | refine zR ?_ | refine zK ?_ | refine zM ?_ | refine zB ?_ | refine zA ?_ | refine zS ?_ | refine zL ?_)
    refine qc ?_
    (repeat refine qb ?_); refine qk ?_
    exact ⟨Or.inr rfl, _, _, [(1000000, 1000000)], _, Wk.refl _, rfl, rfl, .p (CvL.agg (.cons (.nil 3) (.refl _))), rfl, rfl⟩
  · cases h1
theorem node_attr (val : Val) (attr : Atr) (S : List Itm) (lo : Nat) (g : List Giv) (hn : g.length ≤ 1000000) (hb : ∀ x ∈ g, x.bag.length ≤ 1000000) : zZ Tryz.prog 75 [.p (.agg (Nod.mk 2 val attr).pv), .view 1000000 5 lo S.length, .p (zP g)] (jz S) (.p (.agg (zc (Nod.mk 2 val attr) (S.drop lo) g).pv)) (jz S) := by
  have e : zc (Nod.mk 2 val attr) (S.drop lo) g = ⟨(getS attr g).1, noVal, (getS attr g).2⟩ := rfl
  rw [e]
  refine qR (T := TTab) qe Tryz.func75 (by kernel_rfl) rfl rfl rfl ?_
  (repeat refine qb ?_); refine qa ?_
  repeat (first | refine zR ?_ | refine zK ?_ | refine zM ?_ | refine zB ?_ | refine zA ?_ | refine zS ?_ | refine zL ?_)
  refine qc ?_
  (repeat refine qb ?_); refine qa ?_
  repeat (first | refine zR ?_ | refine zK ?_ | refine zM ?_ | refine zB ?_ | refine zA ?_ | refine zS ?_ | refine zL ?_)
  refine qc ?_
  (repeat refine qb ?_); refine ql ?_
  (repeat refine qb ?_); refine qa ?_
  repeat (first | refine zR ?_ | refine zK ?_ | refine zM ?_ | refine zB ?_ | refine zA ?_ | refine zS ?_ | refine zL ?_)
  refine qc ?_
  (repeat refine qb ?_); refine qf rfl (fun h1 => ?_) (fun h1 => ?_)
  · cases h1
  · (repeat refine qb ?_); refine qa ?_
    repeat (first | refine zR ?_ | refine zK ?_ | refine zM ?_ | refine zB ?_ | refine zA ?_ | refine zS ?_ | refine zL ?_)
    refine qc ?_
    (repeat refine qb ?_); refine qf rfl (fun h2 => ?_) (fun h2 => ?_)
    · (repeat refine qb ?_); refine qa ?_
      repeat (first | refine zR ?_ | refine zK ?_ | refine zM ?_ | refine zB ?_ | refine zA ?_ | refine zS ?_ | refine zL ?_)
      refine qn rfl (qD rfl rfl rfl rfl (get_h attr g hn hb) rfl rfl rfl ?_)
      repeat (first | refine zR ?_ | refine zK ?_ | refine zM ?_ | refine zB ?_ | refine zA ?_ | refine zS ?_ | refine zL ?_)
      refine qc ?_
      (repeat refine qb ?_); refine qa ?_
      repeat (first | refine zR ?_ | refine zK ?_ | refine zM ?_ | refine zB ?_ | refine zA ?_ | refine zS ?_ | refine zL ?_)
      refine qc ?_
      (repeat refine qb ?_); refine qk ?_
      exact ⟨Or.inr rfl, _, _, [(1000000, 1000000)], _, Wk.refl _, rfl, rfl, .refl _, rfl, rfl⟩
    · cases h2
theorem drop_one {S : List Itm} {lo : Nat} (h : lo + 1 = S.length) : ∃ x, S.drop lo = [x] := List.length_eq_one_iff.1 (by rw [List.length_drop]; omega)
theorem drop_two {S : List Itm} {lo : Nat} (h : lo + 2 = S.length) : ∃ x y, S.drop lo = [x, y] := by
  have : (S.drop lo).length = 2 := by rw [List.length_drop]; omega
  match hd : S.drop lo, this with
  | [x, y], _ => exact ⟨x, y, rfl⟩
theorem wg {op : Int} {val : Val} {attr : Atr} {l : List Itm} {g : List Giv} (h1 : ¬ op = 1) (h2 : ¬ op = 2) (hd : decS op l = false) : zc (Nod.mk op val attr) l g = if errS l ≠ 0 then ⟨[], noVal, errS l⟩ else lastS op l := by
  unfold zc
  simp only
  rw [if_neg h1, if_neg h2, hd, if_neg (by simp)]
theorem node_one_h (val : Val) (attr : Atr) (S : List Itm) (lo : Nat) (g : List Giv) (hlo : lo + 1 = S.length) (hl : S.length ≤ 1000000) : zZ Tryz.prog 75 [.p (.agg (Nod.mk 3 val attr).pv), .view 1000000 5 lo S.length, .p (zP g)] (jz S) (.p (.agg (zc (Nod.mk 3 val attr) (S.drop lo) g).pv)) (jz S) := by
  have hN := wg (val := val) (attr := attr) (g := g) (op := 3) (l := S.drop lo) (by omega) (by omega) rfl
  refine qR (T := TTab) qe Tryz.func75 (by kernel_rfl) rfl rfl rfl ?_
  (repeat refine qb ?_); refine qa ?_
  repeat (first | refine zR ?_ | refine zK ?_ | refine zM ?_ | refine zB ?_ | refine zA ?_ | refine zS ?_ | refine zL ?_)
  refine qc ?_
  (repeat refine qb ?_); refine qa ?_
  repeat (first | refine zR ?_ | refine zK ?_ | refine zM ?_ | refine zB ?_ | refine zA ?_ | refine zS ?_ | refine zL ?_)
  refine qc ?_
  (repeat refine qb ?_); refine ql ?_
  (repeat refine qb ?_); refine qa ?_
  repeat (first | refine zR ?_ | refine zK ?_ | refine zM ?_ | refine zB ?_ | refine zA ?_ | refine zS ?_ | refine zL ?_)
  refine qc ?_
  (repeat refine qb ?_); refine qf rfl (fun h1 => ?_) (fun h1 => ?_)
  · cases h1
  · (repeat refine qb ?_); refine qa ?_
    repeat (first | refine zR ?_ | refine zK ?_ | refine zM ?_ | refine zB ?_ | refine zA ?_ | refine zS ?_ | refine zL ?_)
    refine qc ?_
    (repeat refine qb ?_); refine qf rfl (fun h2 => ?_) (fun h2 => ?_)
    · cases h2
    · (repeat refine qb ?_); refine qa ?_
      repeat (first | refine zR ?_ | refine zK ?_ | refine zM ?_ | refine zB ?_ | refine zA ?_ | refine zS ?_ | refine zL ?_)
      refine qc ?_
      (repeat refine qb ?_); refine qf rfl (fun h3 => ?_) (fun h3 => ?_)
      · cases h3
      · (repeat refine qb ?_); refine qa ?_
        repeat (first | refine zR ?_ | refine zK ?_ | refine zM ?_ | refine zB ?_ | refine zA ?_ | refine zS ?_ | refine zL ?_)
        refine qc ?_
        (repeat refine qb ?_); refine qf rfl (fun h4 => ?_) (fun h4 => ?_)
        · cases h4
        · refine qm ?_
          refine SW.wk (qq [1, 3, 6] [(1000000, 1000000), (3, 3), (6, 6)] rfl rfl) ?_
          (repeat refine qb ?_); refine qa ?_
          repeat (first | refine zR ?_ | refine zK ?_ | refine zM ?_ | refine zB ?_ | refine zA ?_ | refine zS ?_ | refine zL ?_)
          refine qc ?_
          (repeat refine qb ?_); refine qa ?_
          repeat (first | refine zR ?_ | refine zK ?_ | refine zM ?_ | refine zB ?_ | refine zA ?_ | refine zS ?_ | refine zL ?_)
          refine qc ?_
          (repeat refine qb ?_); refine ql ?_
          refine SW.wk (jP 10 900 52 3 rfl rfl) ?_
          refine SW.wk (qq [1, 3, 6, 10, 55, 56, 57] [(1000000, 1000000), (3, 3), (6, 6), (900, 0)] rfl rfl) ?_
          refine qO (fun m s => ∃ (k : Nat) (kk : Int), k ≤ (S.drop lo).length ∧ m = (S.drop lo).length - k ∧ kk = k ∧ errS ((S.drop lo).take k) = 0 ∧ s = ⟨122, [(1, .view 1000000 5 lo S.length), (3, .ptr 3 0), (6, .ptr 6 0), (10, .row 0), (55, .view 1000000 5 lo S.length), (56, .p (pI ((S.length - lo : Nat) : Int))), (57, .p (pI kk))], [(1000000, .row 115 5 (S.map Itm.pv)), (3, .cells ((Nod.mk 3 val attr).pv.map .p)), (6, .cells (([.v (.slice none 0 0), pI 0, pI 0, pS ⟨#[]⟩, pI 0] : List PV).map .p)), (0, .row 52 3 ((((S.drop lo).take k).map Itm.v).map Val.pv))]⟩) (S.drop lo).length ⟨0, 0, Nat.zero_le _, rfl, rfl, rfl, rfl⟩ ?_
          rintro m s ⟨k, _, hk, rfl, rfl, he0, rfl⟩
          (repeat refine qb ?_); refine qa ?_
          repeat (first | refine zR ?_ | refine zK ?_ | refine zM ?_ | refine zB ?_ | refine zA ?_ | refine zS ?_ | refine zL ?_)
          refine qc ?_
          (repeat refine qb ?_); refine qf rfl (fun hlt => ?_) (fun hlt => ?_)
          · refine qm ?_
            have hlt' : k < (S.drop lo).length := by rw [List.length_drop]; simpa using hlt
            have hk2 : k < S.length - lo := by rwa [List.length_drop] at hlt'
            have hget : (S.drop lo)[k]? = some (S.drop lo)[k] := List.getElem?_eq_getElem hlt'
            (repeat refine qb ?_); refine ql ?_
            (repeat refine qb ?_); refine qa ?_
            repeat (first | refine zR ?_ | refine zK ?_ | refine zM ?_ | refine zB ?_ | refine zA ?_ | refine zS ?_ | refine zL ?_)
            refine qw qe rfl rfl (by omega) rfl ?_
            repeat (first | refine zR ?_ | refine zK ?_ | refine zM ?_ | refine zB ?_ | refine zA ?_ | refine zS ?_ | refine zL ?_)
            refine qw qe rfl (za rfl rfl rfl rfl rfl (show (S.map Itm.pv).getD (lo + Int.toNat (k : Int)) [] = (S.drop lo)[k].pv from ze hget) rfl) (by rw [List.length_map, Int.toNat_natCast]; omega) rfl ?_
            repeat (first | refine zR ?_ | refine zK ?_ | refine zM ?_ | refine zB ?_ | refine zA ?_ | refine zS ?_ | refine zL ?_)
            refine qc ?_
            (repeat refine qb ?_); refine qa ?_
            repeat (first | refine zR ?_ | refine zK ?_ | refine zM ?_ | refine zB ?_ | refine zA ?_ | refine zS ?_ | refine zL ?_)
            refine qc ?_
            (repeat refine qb ?_); refine qf rfl (fun hne => ?_) (fun hne => ?_)
            · have hne' : (S.drop lo)[k].e ≠ 0 := by simpa using hne
              have e1 := errS_at hlt' he0 hne'
              rw [hN, e1, if_pos hne']
              (repeat refine qb ?_); refine qa ?_
              repeat (first | refine zR ?_ | refine zK ?_ | refine zM ?_ | refine zB ?_ | refine zA ?_ | refine zS ?_ | refine zL ?_)
              refine qc ?_
              (repeat refine qb ?_); refine qk ?_
              exact ⟨Or.inr rfl, _, _, [(1000000, 1000000)], _, Wk.refl _, rfl, rfl, .p (CvL.agg (.cons (.nil 3) (.refl _))), rfl, rfl⟩
            · have hne' : (S.drop lo)[k].e = 0 := by simpa using hne
              refine qm ?_
              (repeat refine qb ?_); refine qa ?_
              repeat (first | refine zR ?_ | refine zK ?_ | refine zM ?_ | refine zB ?_ | refine zA ?_ | refine zS ?_ | refine zL ?_)
              refine qn rfl (qp qe rfl rfl rfl rfl rfl rfl rfl rfl rfl rfl rfl rfl rfl rfl rfl rfl (by simp only [List.length_append, List.length_map, List.length_take, List.length_drop]; unfold reachBytes; simp; omega) (by simp only [List.length_append, List.length_map, List.length_take, List.length_drop]; simp; omega) ?_)
              repeat (first | refine zR ?_ | refine zK ?_ | refine zM ?_ | refine zB ?_ | refine zA ?_ | refine zS ?_ | refine zL ?_)
              refine qc ?_
              (repeat refine qb ?_); refine qa ?_
              repeat (first | refine zR ?_ | refine zK ?_ | refine zM ?_ | refine zB ?_ | refine zA ?_ | refine zS ?_ | refine zL ?_)
              refine qc ?_
              refine ⟨_, _, ?_, qq [1, 3, 6, 10, 55, 56, 57] [(1000000, 1000000), (3, 3), (6, 6), (71, 0)] rfl rfl, k + 1, _, hlt', rfl, qz hlt' (by rw [List.length_drop]; omega), wv hlt' he0 hne', ?_⟩
              · omega
              · rw [List.take_succ_eq_append_getElem hlt', List.map_append, List.map_append]; rfl
          · refine qK ?_
            have hkk : k = (S.drop lo).length := by
              have : ¬ (k : Int) < ((S.length - lo : Nat) : Int) := by simpa using hlt
              rw [List.length_drop] at hk ⊢
              omega
            subst hkk
            rw [List.take_length] at he0 ⊢
            rw [hN, if_neg (by simp [he0])]
            clear hN
            (repeat refine qb ?_); refine qa ?_
            repeat (first | refine zR ?_ | refine zK ?_ | refine zM ?_ | refine zB ?_ | refine zA ?_ | refine zS ?_ | refine zL ?_)
            refine qc ?_
            obtain ⟨x, hx⟩ := drop_one hlo
            have h0 : (S.drop lo)[0]? = some x := by rw [hx]; rfl
            rw [hx]
            (repeat refine qb ?_); refine ql ?_
            (repeat refine qb ?_); refine qa ?_
            repeat (first | refine zR ?_ | refine zK ?_ | refine zM ?_ | refine zB ?_ | refine zA ?_ | refine zS ?_ | refine zL ?_)
            refine qc ?_
            (repeat refine qb ?_); refine qf rfl (fun h5 => ?_) (fun h5 => ?_)
            · (repeat refine qb ?_); refine qa ?_
              repeat (first | refine zR ?_ | refine zK ?_ | refine zM ?_ | refine zB ?_ | refine zA ?_ | refine zS ?_ | refine zL ?_)
              refine qw qe rfl rfl (by omega) rfl ?_
              repeat (first | refine zR ?_ | refine zK ?_ | refine zM ?_ | refine zB ?_ | refine zA ?_ | refine zS ?_ | refine zL ?_)
              refine qw qe rfl (za rfl rfl rfl rfl rfl (show (S.map Itm.pv).getD (lo + Int.toNat 0) [] = x.pv from ze h0) rfl) (by rw [List.length_map]; omega) rfl ?_
              repeat (first | refine zR ?_ | refine zK ?_ | refine zM ?_ | refine zB ?_ | refine zA ?_ | refine zS ?_ | refine zL ?_)
              refine qc ?_
              (repeat refine qb ?_); refine qf rfl (fun h6 => ?_) (fun h6 => ?_)
              · have h7 : ¬ x.bag.length = 1 := by
                  intro h7
                  simp at h6
                  omega
                have e2 : lastS 3 [x] = ⟨[], noVal, 4⟩ := by unfold lastS; rw [if_pos rfl]; exact if_neg h7
                rw [e2]
                (repeat refine qb ?_); refine qa ?_
                repeat (first | refine zR ?_ | refine zK ?_ | refine zM ?_ | refine zB ?_ | refine zA ?_ | refine zS ?_ | refine zL ?_)
                refine qc ?_
                (repeat refine qb ?_); refine qk ?_
                exact ⟨Or.inr rfl, _, _, [(1000000, 1000000)], _, Wk.refl _, rfl, rfl, .p (CvL.agg (.cons (.nil 3) (.refl _))), rfl, rfl⟩
              · have h7 : x.bag.length = 1 := by
                  have : ((x.bag.map Val.pv).length : Int) = 1 := by simpa using h6
                  rw [List.length_map] at this
                  omega
                obtain ⟨v, hv⟩ := List.length_eq_one_iff.1 h7
                have e2 : lastS 3 [x] = ⟨[], v, 0⟩ := by
                  unfold lastS
                  rw [if_pos rfl]
                  show (if x.bag.length = 1 then _ else _) = _
                  rw [if_pos h7]
                  show Itm.mk [] (x.bag.getD 0 noVal) 0 = _
                  rw [hv]; rfl
                rw [e2]
                refine qm ?_
                (repeat refine qb ?_); refine qa ?_
                repeat (first | refine zR ?_ | refine zK ?_ | refine zM ?_ | refine zB ?_ | refine zA ?_ | refine zS ?_ | refine zL ?_)
                refine qw qe rfl rfl (by omega) rfl ?_
                repeat (first | refine zR ?_ | refine zK ?_ | refine zM ?_ | refine zB ?_ | refine zA ?_ | refine zS ?_ | refine zL ?_)
                refine qw qe rfl (za rfl rfl rfl rfl rfl (show (S.map Itm.pv).getD (lo + Int.toNat 0) [] = x.pv from ze h0) rfl) (by rw [List.length_map]; omega) rfl ?_
                repeat (first | refine zR ?_ | refine zK ?_ | refine zM ?_ | refine zB ?_ | refine zA ?_ | refine zS ?_ | refine zL ?_)
                refine qw qe rfl rfl (by rw [List.length_map, h7]; omega) rfl ?_
                rw [show (x.bag.map Val.pv).getD (Int.toNat 0) [] = v.pv by rw [hv]; rfl]
                repeat (first | refine zR ?_ | refine zK ?_ | refine zM ?_ | refine zB ?_ | refine zA ?_ | refine zS ?_ | refine zL ?_)
                refine qc ?_
                (repeat refine qb ?_); refine qk ?_
                exact ⟨Or.inr rfl, _, _, [(1000000, 1000000)], _, Wk.refl _, rfl, rfl, .p (CvL.agg (.cons (.nil 3) (.refl _))), rfl, rfl⟩
            · cases h5
theorem node_size_h (val : Val) (attr : Atr) (S : List Itm) (lo : Nat) (g : List Giv) (hlo : lo + 1 = S.length) (hl : S.length ≤ 1000000) : zZ Tryz.prog 75 [.p (.agg (Nod.mk 4 val attr).pv), .view 1000000 5 lo S.length, .p (zP g)] (jz S) (.p (.agg (zc (Nod.mk 4 val attr) (S.drop lo) g).pv)) (jz S) := by
  have hN := wg (val := val) (attr := attr) (g := g) (op := 4) (l := S.drop lo) (by omega) (by omega) rfl
  refine qR (T := TTab) qe Tryz.func75 (by kernel_rfl) rfl rfl rfl ?_
  (repeat refine qb ?_); refine qa ?_
  repeat (first | refine zR ?_ | refine zK ?_ | refine zM ?_ | refine zB ?_ | refine zA ?_ | refine zS ?_ | refine zL ?_)
  refine qc ?_
  (repeat refine qb ?_); refine qa ?_
  repeat (first | refine zR ?_ | refine zK ?_ | refine zM ?_ | refine zB ?_ | refine zA ?_ | refine zS ?_ | refine zL ?_)
  refine qc ?_
  (repeat refine qb ?_); refine ql ?_
  (repeat refine qb ?_); refine qa ?_
  repeat (first | refine zR ?_ | refine zK ?_ | refine zM ?_ | refine zB ?_ | refine zA ?_ | refine zS ?_ | refine zL ?_)
  refine qc ?_
  (repeat refine qb ?_); refine qf rfl (fun h1 => ?_) (fun h1 => ?_)
  · cases h1
  · (repeat refine qb ?_); refine qa ?_
    repeat (first | refine zR ?_ | refine zK ?_ | refine zM ?_ | refine zB ?_ | refine zA ?_ | refine zS ?_ | refine zL ?_)
    refine qc ?_
    (repeat refine qb ?_); refine qf rfl (fun h2 => ?_) (fun h2 => ?_)
    · cases h2
    · (repeat refine qb ?_); refine qa ?_
      repeat (first | refine zR ?_ | refine zK ?_ | refine zM ?_ | refine zB ?_ | refine zA ?_ | refine zS ?_ | refine zL ?_)
      refine qc ?_
      (repeat refine qb ?_); refine qf rfl (fun h3 => ?_) (fun h3 => ?_)
      · cases h3
      · (repeat refine qb ?_); refine qa ?_
        repeat (first | refine zR ?_ | refine zK ?_ | refine zM ?_ | refine zB ?_ | refine zA ?_ | refine zS ?_ | refine zL ?_)
        refine qc ?_
        (repeat refine qb ?_); refine qf rfl (fun h4 => ?_) (fun h4 => ?_)
        · cases h4
        · refine qm ?_
          refine SW.wk (qq [1, 3, 6] [(1000000, 1000000), (3, 3), (6, 6)] rfl rfl) ?_
          (repeat refine qb ?_); refine qa ?_
          repeat (first | refine zR ?_ | refine zK ?_ | refine zM ?_ | refine zB ?_ | refine zA ?_ | refine zS ?_ | refine zL ?_)
          refine qc ?_
          (repeat refine qb ?_); refine qa ?_
          repeat (first | refine zR ?_ | refine zK ?_ | refine zM ?_ | refine zB ?_ | refine zA ?_ | refine zS ?_ | refine zL ?_)
          refine qc ?_
          (repeat refine qb ?_); refine ql ?_
          refine SW.wk (jP 10 900 52 3 rfl rfl) ?_
          refine SW.wk (qq [1, 3, 6, 10, 55, 56, 57] [(1000000, 1000000), (3, 3), (6, 6), (900, 0)] rfl rfl) ?_
          refine qO (fun m s => ∃ (k : Nat) (kk : Int), k ≤ (S.drop lo).length ∧ m = (S.drop lo).length - k ∧ kk = k ∧ errS ((S.drop lo).take k) = 0 ∧ s = ⟨122, [(1, .view 1000000 5 lo S.length), (3, .ptr 3 0), (6, .ptr 6 0), (10, .row 0), (55, .view 1000000 5 lo S.length), (56, .p (pI ((S.length - lo : Nat) : Int))), (57, .p (pI kk))], [(1000000, .row 115 5 (S.map Itm.pv)), (3, .cells ((Nod.mk 4 val attr).pv.map .p)), (6, .cells (([.v (.slice none 0 0), pI 0, pI 0, pS ⟨#[]⟩, pI 0] : List PV).map .p)), (0, .row 52 3 ((((S.drop lo).take k).map Itm.v).map Val.pv))]⟩) (S.drop lo).length ⟨0, 0, Nat.zero_le _, rfl, rfl, rfl, rfl⟩ ?_
          rintro m s ⟨k, _, hk, rfl, rfl, he0, rfl⟩
          (repeat refine qb ?_); refine qa ?_
          repeat (first | refine zR ?_ | refine zK ?_ | refine zM ?_ | refine zB ?_ | refine zA ?_ | refine zS ?_ | refine zL ?_)
          refine qc ?_
          (repeat refine qb ?_); refine qf rfl (fun hlt => ?_) (fun hlt => ?_)
          · refine qm ?_
            have hlt' : k < (S.drop lo).length := by rw [List.length_drop]; simpa using hlt
            have hk2 : k < S.length - lo := by rwa [List.length_drop] at hlt'
            have hget : (S.drop lo)[k]? = some (S.drop lo)[k] := List.getElem?_eq_getElem hlt'
            (repeat refine qb ?_); refine ql ?_
            (repeat refine qb ?_); refine qa ?_
            repeat (first | refine zR ?_ | refine zK ?_ | refine zM ?_ | refine zB ?_ | refine zA ?_ | refine zS ?_ | refine zL ?_)
            refine qw qe rfl rfl (by omega) rfl ?_
            repeat (first | refine zR ?_ | refine zK ?_ | refine zM ?_ | refine zB ?_ | refine zA ?_ | refine zS ?_ | refine zL ?_)
            refine qw qe rfl (za rfl rfl rfl rfl rfl (show (S.map Itm.pv).getD (lo + Int.toNat (k : Int)) [] = (S.drop lo)[k].pv from ze hget) rfl) (by rw [List.length_map, Int.toNat_natCast]; omega) rfl ?_
            repeat (first | refine zR ?_ | refine zK ?_ | refine zM ?_ | refine zB ?_ | refine zA ?_ | refine zS ?_ | refine zL ?_)
            refine qc ?_
            (repeat refine qb ?_); refine qa ?_
            repeat (first | refine zR ?_ | refine zK ?_ | refine zM ?_ | refine zB ?_ | refine zA ?_ | refine zS ?_ | refine zL ?_)
            refine qc ?_
            (repeat refine qb ?_); refine qf rfl (fun hne => ?_) (fun hne => ?_)
            · have hne' : (S.drop lo)[k].e ≠ 0 := by simpa using hne
              have e1 := errS_at hlt' he0 hne'
              rw [hN, e1, if_pos hne']
              (repeat refine qb ?_); refine qa ?_
              repeat (first | refine zR ?_ | refine zK ?_ | refine zM ?_ | refine zB ?_ | refine zA ?_ | refine zS ?_ | refine zL ?_)
              refine qc ?_
              (repeat refine qb ?_); refine qk ?_
              exact ⟨Or.inr rfl, _, _, [(1000000, 1000000)], _, Wk.refl _, rfl, rfl, .p (CvL.agg (.cons (.nil 3) (.refl _))), rfl, rfl⟩
            · have hne' : (S.drop lo)[k].e = 0 := by simpa using hne
              refine qm ?_
              (repeat refine qb ?_); refine qa ?_
              repeat (first | refine zR ?_ | refine zK ?_ | refine zM ?_ | refine zB ?_ | refine zA ?_ | refine zS ?_ | refine zL ?_)
              refine qn rfl (qp qe rfl rfl rfl rfl rfl rfl rfl rfl rfl rfl rfl rfl rfl rfl rfl rfl (by simp only [List.length_append, List.length_map, List.length_take, List.length_drop]; unfold reachBytes; simp; omega) (by simp only [List.length_append, List.length_map, List.length_take, List.length_drop]; simp; omega) ?_)
              repeat (first | refine zR ?_ | refine zK ?_ | refine zM ?_ | refine zB ?_ | refine zA ?_ | refine zS ?_ | refine zL ?_)
              refine qc ?_
              (repeat refine qb ?_); refine qa ?_
              repeat (first | refine zR ?_ | refine zK ?_ | refine zM ?_ | refine zB ?_ | refine zA ?_ | refine zS ?_ | refine zL ?_)
              refine qc ?_
              refine ⟨_, _, ?_, qq [1, 3, 6, 10, 55, 56, 57] [(1000000, 1000000), (3, 3), (6, 6), (71, 0)] rfl rfl, k + 1, _, hlt', rfl, qz hlt' (by rw [List.length_drop]; omega), wv hlt' he0 hne', ?_⟩
              · omega
              · rw [List.take_succ_eq_append_getElem hlt', List.map_append, List.map_append]; rfl
          · refine qK ?_
            have hkk : k = (S.drop lo).length := by
              have : ¬ (k : Int) < ((S.length - lo : Nat) : Int) := by simpa using hlt
              rw [List.length_drop] at hk ⊢
              omega
            subst hkk
            rw [List.take_length] at he0 ⊢
            rw [hN, if_neg (by simp [he0])]
            clear hN
            (repeat refine qb ?_); refine qa ?_
            repeat (first | refine zR ?_ | refine zK ?_ | refine zM ?_ | refine zB ?_ | refine zA ?_ | refine zS ?_ | refine zL ?_)
            refine qc ?_
            obtain ⟨x, hx⟩ := drop_one hlo
            have h0 : (S.drop lo)[0]? = some x := by rw [hx]; rfl
            rw [hx]
            (repeat refine qb ?_); refine ql ?_
            (repeat refine qb ?_); refine qa ?_
            repeat (first | refine zR ?_ | refine zK ?_ | refine zM ?_ | refine zB ?_ | refine zA ?_ | refine zS ?_ | refine zL ?_)
            refine qc ?_
            (repeat refine qb ?_); refine qf rfl (fun h5 => ?_) (fun h5 => ?_)
            · cases h5
            · (repeat refine qb ?_); refine qa ?_
              repeat (first | refine zR ?_ | refine zK ?_ | refine zM ?_ | refine zB ?_ | refine zA ?_ | refine zS ?_ | refine zL ?_)
              refine qc ?_
              (repeat refine qb ?_); refine qf rfl (fun h6 => ?_) (fun h6 => ?_)
              · have e2 : lastS 4 [x] = ⟨[], ⟨2, x.bag.length, ⟨#[]⟩⟩, 0⟩ := rfl
                rw [e2]
                (repeat refine qb ?_); refine qa ?_
                repeat (first | refine zR ?_ | refine zK ?_ | refine zM ?_ | refine zB ?_ | refine zA ?_ | refine zS ?_ | refine zL ?_)
                refine qw qe rfl rfl (by omega) rfl ?_
                repeat (first | refine zR ?_ | refine zK ?_ | refine zM ?_ | refine zB ?_ | refine zA ?_ | refine zS ?_ | refine zL ?_)
                refine qw qe rfl (za rfl rfl rfl rfl rfl (show (S.map Itm.pv).getD (lo + Int.toNat 0) [] = x.pv from ze h0) rfl) (by rw [List.length_map]; omega) rfl ?_
                repeat (first | refine zR ?_ | refine zK ?_ | refine zM ?_ | refine zB ?_ | refine zA ?_ | refine zS ?_ | refine zL ?_)
                rw [List.length_map]
                refine qc ?_
                (repeat refine qb ?_); refine qk ?_
                exact ⟨Or.inr rfl, _, _, [(1000000, 1000000)], _, Wk.refl _, rfl, rfl, .p (CvL.agg (.cons (.nil 3) (.refl _))), rfl, rfl⟩
              · cases h6
theorem node_has_h (val : Val) (attr : Atr) (S : List Itm) (lo : Nat) (g : List Giv) (hlo : lo + 2 = S.length) (hl : S.length ≤ 1000000) (hS : ∀ x ∈ S, x.Fit) : zZ Tryz.prog 75 [.p (.agg (Nod.mk 5 val attr).pv), .view 1000000 5 lo S.length, .p (zP g)] (jz S) (.p (.agg (zc (Nod.mk 5 val attr) (S.drop lo) g).pv)) (jz S) := by
  have hN := wg (val := val) (attr := attr) (g := g) (op := 5) (l := S.drop lo) (by omega) (by omega) rfl
  refine qR (T := TTab) qe Tryz.func75 (by kernel_rfl) rfl rfl rfl ?_
  (repeat refine qb ?_); refine qa ?_
  repeat (first | refine zR ?_ | refine zK ?_ | refine zM ?_ | refine zB ?_ | refine zA ?_ | refine zS ?_ | refine zL ?_)
  refine qc ?_
  (repeat refine qb ?_); refine qa ?_
  repeat (first | refine zR ?_ | refine zK ?_ | refine zM ?_ | refine zB ?_ | refine zA ?_ | refine zS ?_ | refine zL ?_)
  refine qc ?_
  (repeat refine qb ?_); refine ql ?_
  (repeat refine qb ?_); refine qa ?_
  repeat (first | refine zR ?_ | refine zK ?_ | refine zM ?_ | refine zB ?_ | refine zA ?_ | refine zS ?_ | refine zL ?_)
  refine qc ?_
  (repeat refine qb ?_); refine qf rfl (fun h1 => ?_) (fun h1 => ?_)
  · cases h1
  · (repeat refine qb ?_); refine qa ?_
    repeat (first | refine zR ?_ | refine zK ?_ | refine zM ?_ | refine zB ?_ | refine zA ?_ | refine zS ?_ | refine zL ?_)
    refine qc ?_
    (repeat refine qb ?_); refine qf rfl (fun h2 => ?_) (fun h2 => ?_)
    · cases h2
    · (repeat refine qb ?_); refine qa ?_
      repeat (first | refine zR ?_ | refine zK ?_ | refine zM ?_ | refine zB ?_ | refine zA ?_ | refine zS ?_ | refine zL ?_)
      refine qc ?_
      (repeat refine qb ?_); refine qf rfl (fun h3 => ?_) (fun h3 => ?_)
      · cases h3
      · (repeat refine qb ?_); refine qa ?_
        repeat (first | refine zR ?_ | refine zK ?_ | refine zM ?_ | refine zB ?_ | refine zA ?_ | refine zS ?_ | refine zL ?_)
        refine qc ?_
        (repeat refine qb ?_); refine qf rfl (fun h4 => ?_) (fun h4 => ?_)
        · cases h4
        · refine qm ?_
          refine SW.wk (qq [1, 3, 6] [(1000000, 1000000), (3, 3), (6, 6)] rfl rfl) ?_
          (repeat refine qb ?_); refine qa ?_
          repeat (first | refine zR ?_ | refine zK ?_ | refine zM ?_ | refine zB ?_ | refine zA ?_ | refine zS ?_ | refine zL ?_)
          refine qc ?_
          (repeat refine qb ?_); refine qa ?_
          repeat (first | refine zR ?_ | refine zK ?_ | refine zM ?_ | refine zB ?_ | refine zA ?_ | refine zS ?_ | refine zL ?_)
          refine qc ?_
          (repeat refine qb ?_); refine ql ?_
          refine SW.wk (jP 10 900 52 3 rfl rfl) ?_
          refine SW.wk (qq [1, 3, 6, 10, 55, 56, 57] [(1000000, 1000000), (3, 3), (6, 6), (900, 0)] rfl rfl) ?_
          refine qO (fun m s => ∃ (k : Nat) (kk : Int), k ≤ (S.drop lo).length ∧ m = (S.drop lo).length - k ∧ kk = k ∧ errS ((S.drop lo).take k) = 0 ∧ s = ⟨122, [(1, .view 1000000 5 lo S.length), (3, .ptr 3 0), (6, .ptr 6 0), (10, .row 0), (55, .view 1000000 5 lo S.length), (56, .p (pI ((S.length - lo : Nat) : Int))), (57, .p (pI kk))], [(1000000, .row 115 5 (S.map Itm.pv)), (3, .cells ((Nod.mk 5 val attr).pv.map .p)), (6, .cells (([.v (.slice none 0 0), pI 0, pI 0, pS ⟨#[]⟩, pI 0] : List PV).map .p)), (0, .row 52 3 ((((S.drop lo).take k).map Itm.v).map Val.pv))]⟩) (S.drop lo).length ⟨0, 0, Nat.zero_le _, rfl, rfl, rfl, rfl⟩ ?_
          rintro m s ⟨k, _, hk, rfl, rfl, he0, rfl⟩
          (repeat refine qb ?_); refine qa ?_
          repeat (first | refine zR ?_ | refine zK ?_ | refine zM ?_ | refine zB ?_ | refine zA ?_ | refine zS ?_ | refine zL ?_)
          refine qc ?_
          (repeat refine qb ?_); refine qf rfl (fun hlt => ?_) (fun hlt => ?_)
          · refine qm ?_
            have hlt' : k < (S.drop lo).length := by rw [List.length_drop]; simpa using hlt
            have hk2 : k < S.length - lo := by rwa [List.length_drop] at hlt'
            have hget : (S.drop lo)[k]? = some (S.drop lo)[k] := List.getElem?_eq_getElem hlt'
            (repeat refine qb ?_); refine ql ?_
            (repeat refine qb ?_); refine qa ?_
            repeat (first | refine zR ?_ | refine zK ?_ | refine zM ?_ | refine zB ?_ | refine zA ?_ | refine zS ?_ | refine zL ?_)
            refine qw qe rfl rfl (by omega) rfl ?_
            repeat (first | refine zR ?_ | refine zK ?_ | refine zM ?_ | refine zB ?_ | refine zA ?_ | refine zS ?_ | refine zL ?_)
            refine qw qe rfl (za rfl rfl rfl rfl rfl (show (S.map Itm.pv).getD (lo + Int.toNat (k : Int)) [] = (S.drop lo)[k].pv from ze hget) rfl) (by rw [List.length_map, Int.toNat_natCast]; omega) rfl ?_
            repeat (first | refine zR ?_ | refine zK ?_ | refine zM ?_ | refine zB ?_ | refine zA ?_ | refine zS ?_ | refine zL ?_)
            refine qc ?_
            (repeat refine qb ?_); refine qa ?_
            repeat (first | refine zR ?_ | refine zK ?_ | refine zM ?_ | refine zB ?_ | refine zA ?_ | refine zS ?_ | refine zL ?_)
            refine qc ?_
            (repeat refine qb ?_); refine qf rfl (fun hne => ?_) (fun hne => ?_)
            · have hne' : (S.drop lo)[k].e ≠ 0 := by simpa using hne
              have e1 := errS_at hlt' he0 hne'
              rw [hN, e1, if_pos hne']
              (repeat refine qb ?_); refine qa ?_
              repeat (first | refine zR ?_ | refine zK ?_ | refine zM ?_ | refine zB ?_ | refine zA ?_ | refine zS ?_ | refine zL ?_)
              refine qc ?_
              (repeat refine qb ?_); refine qk ?_
              exact ⟨Or.inr rfl, _, _, [(1000000, 1000000)], _, Wk.refl _, rfl, rfl, .p (CvL.agg (.cons (.nil 3) (.refl _))), rfl, rfl⟩
            · have hne' : (S.drop lo)[k].e = 0 := by simpa using hne
              refine qm ?_
              (repeat refine qb ?_); refine qa ?_
              repeat (first | refine zR ?_ | refine zK ?_ | refine zM ?_ | refine zB ?_ | refine zA ?_ | refine zS ?_ | refine zL ?_)
              refine qn rfl (qp qe rfl rfl rfl rfl rfl rfl rfl rfl rfl rfl rfl rfl rfl rfl rfl rfl (by simp only [List.length_append, List.length_map, List.length_take, List.length_drop]; unfold reachBytes; simp; omega) (by simp only [List.length_append, List.length_map, List.length_take, List.length_drop]; simp; omega) ?_)
              repeat (first | refine zR ?_ | refine zK ?_ | refine zM ?_ | refine zB ?_ | refine zA ?_ | refine zS ?_ | refine zL ?_)
              refine qc ?_
              (repeat refine qb ?_); refine qa ?_
              repeat (first | refine zR ?_ | refine zK ?_ | refine zM ?_ | refine zB ?_ | refine zA ?_ | refine zS ?_ | refine zL ?_)
              refine qc ?_
              refine ⟨_, _, ?_, qq [1, 3, 6, 10, 55, 56, 57] [(1000000, 1000000), (3, 3), (6, 6), (71, 0)] rfl rfl, k + 1, _, hlt', rfl, qz hlt' (by rw [List.length_drop]; omega), wv hlt' he0 hne', ?_⟩
              · omega
              · rw [List.take_succ_eq_append_getElem hlt', List.map_append, List.map_append]; rfl
          · refine qK ?_
            have hkk : k = (S.drop lo).length := by
              have : ¬ (k : Int) < ((S.length - lo : Nat) : Int) := by simpa using hlt
              rw [List.length_drop] at hk ⊢
              omega
            subst hkk
            rw [List.take_length] at he0 ⊢
            rw [hN, if_neg (by simp [he0])]
            clear hN
            (repeat refine qb ?_); refine qa ?_
            repeat (first | refine zR ?_ | refine zK ?_ | refine zM ?_ | refine zB ?_ | refine zA ?_ | refine zS ?_ | refine zL ?_)
            refine qc ?_
            obtain ⟨x, y, hx⟩ := drop_two hlo
            have h0 : (S.drop lo)[0]? = some x := by rw [hx]; rfl
            have h1' : (S.drop lo)[1]? = some y := by rw [hx]; rfl
            have hxl : x.bag.length ≤ 1000000 := (hS x (List.mem_of_mem_drop (i := lo) (by rw [hx]; simp))).len
            rw [hx]
            (repeat refine qb ?_); refine ql ?_
            (repeat refine qb ?_); refine qa ?_
            repeat (first | refine zR ?_ | refine zK ?_ | refine zM ?_ | refine zB ?_ | refine zA ?_ | refine zS ?_ | refine zL ?_)
            refine qc ?_
            (repeat refine qb ?_); refine qf rfl (fun h5 => ?_) (fun h5 => ?_)
            · cases h5
            · (repeat refine qb ?_); refine qa ?_
              repeat (first | refine zR ?_ | refine zK ?_ | refine zM ?_ | refine zB ?_ | refine zA ?_ | refine zS ?_ | refine zL ?_)
              refine qc ?_
              (repeat refine qb ?_); refine qf rfl (fun h6 => ?_) (fun h6 => ?_)
              · cases h6
              · (repeat refine qb ?_); refine qa ?_
                repeat (first | refine zR ?_ | refine zK ?_ | refine zM ?_ | refine zB ?_ | refine zA ?_ | refine zS ?_ | refine zL ?_)
                refine qc ?_
                (repeat refine qb ?_); refine qf rfl (fun h7 => ?_) (fun h7 => ?_)
                · have e2 : lastS 5 [x, y] = itmT (hasV x.bag y.v) := rfl
                  rw [e2]
                  (repeat refine qb ?_); refine zl [6] [(0, true), (1, true), (2, true), (3, true), (4, true), (5, true), (6, true), (7, true), (8, false), (9, false), (10, false)] (by kernel_rfl) (by kernel_rfl) (by kernel_rfl) ?_
                  repeat (first | refine yR ?_ | refine yK ?_ | refine yM ?_ | refine yB ?_ | refine yA ?_ | refine yS ?_ | refine yL ?_)
                  refine zi qe rfl rfl rfl (by omega) rfl ?_
                  repeat (first | refine yR ?_ | refine yK ?_ | refine yM ?_ | refine yB ?_ | refine yA ?_ | refine yS ?_ | refine yL ?_)
                  refine zi qe rfl rfl (za rfl rfl rfl rfl rfl (show (S.map Itm.pv).getD (lo + Int.toNat 0) [] = x.pv from ze h0) rfl) (by rw [List.length_map]; omega) rfl ?_
                  repeat (first | refine yR ?_ | refine yK ?_ | refine yM ?_ | refine yB ?_ | refine yA ?_ | refine yS ?_ | refine yL ?_)
                  refine zi qe rfl rfl rfl (by omega) rfl ?_
                  repeat (first | refine yR ?_ | refine yK ?_ | refine yM ?_ | refine yB ?_ | refine yA ?_ | refine yS ?_ | refine yL ?_)
                  refine zi qe rfl rfl (za rfl rfl rfl rfl rfl (show (S.map Itm.pv).getD (lo + Int.toNat 1) [] = y.pv from ze h1') rfl) (by rw [List.length_map]; show lo + 1 < _; omega) rfl ?_
                  repeat (first | refine yR ?_ | refine yK ?_ | refine yM ?_ | refine yB ?_ | refine yA ?_ | refine yS ?_ | refine yL ?_)
                  refine qak rfl rfl rfl (qg rfl rfl rfl rfl (has_h x.bag y.v hxl) rfl rfl ?_)
                  repeat (first | refine yR ?_ | refine yK ?_ | refine yM ?_ | refine yB ?_ | refine yA ?_ | refine yS ?_ | refine yL ?_)
                  refine qak rfl rfl rfl (qD rfl rfl rfl rfl (truth_h (hasV x.bag y.v)) rfl rfl rfl ?_)
                  repeat (first | refine yR ?_ | refine yK ?_ | refine yM ?_ | refine yB ?_ | refine yA ?_ | refine yS ?_ | refine yL ?_)
                  refine swm_nil ?_
                  (repeat refine qb ?_); refine qk ?_
                  exact ⟨Or.inr rfl, _, _, [(1000000, 1000000)], _, Wk.refl _, rfl, rfl, .refl _, rfl, rfl⟩
                · cases h7
theorem jE (op : Int) (hop : 6 ≤ op ∧ op ≤ 11) (val : Val) (attr : Atr) (S : List Itm) (lo : Nat) (g : List Giv) (hl : S.length ≤ 1000000) (hlo : lo ≤ S.length) (hS : ∀ x ∈ S, x.Fit) : zZ Tryz.prog 75 [.p (.agg (Nod.mk op val attr).pv), .view 1000000 5 lo S.length, .p (zP g)] (jz S) (.p (.agg (zc (Nod.mk op val attr) (S.drop lo) g).pv)) (jz S) := by
  have no : ∀ {k : Int}, (op == k) = true → k < 6 ∨ 11 < k → False := fun {k} h h2 => by
    have e : op = k := by simpa using h
    omega
  have hN := wg (val := val) (attr := attr) (g := g) (op := op) (l := S.drop lo) (by omega) (by omega) (by
    unfold decS
    rw [show decide (op = 12) = false from decide_eq_false (by omega), show decide (op = 13) = false from decide_eq_false (by omega)]; rfl)
  refine qR (T := TTab) qe Tryz.func75 (by kernel_rfl) rfl rfl rfl ?_
  (repeat refine qb ?_); refine qa ?_
  repeat (first | refine zR ?_ | refine zK ?_ | refine zM ?_ | refine zB ?_ | refine zA ?_ | refine zS ?_ | refine zL ?_)
  refine qc ?_
  (repeat refine qb ?_); refine qa ?_
  repeat (first | refine zR ?_ | refine zK ?_ | refine zM ?_ | refine zB ?_ | refine zA ?_ | refine zS ?_ | refine zL ?_)
  refine qc ?_
  (repeat refine qb ?_); refine ql ?_
  (repeat refine qb ?_); refine qa ?_
  repeat (first | refine zR ?_ | refine zK ?_ | refine zM ?_ | refine zB ?_ | refine zA ?_ | refine zS ?_ | refine zL ?_)
  refine qc ?_
  (repeat refine qb ?_); refine qf rfl (fun h1 => ?_) (fun h1 => ?_)
  · exact (no h1 (by omega)).elim
  · (repeat refine qb ?_); refine qa ?_
    repeat (first | refine zR ?_ | refine zK ?_ | refine zM ?_ | refine zB ?_ | refine zA ?_ | refine zS ?_ | refine zL ?_)
    refine qc ?_
    (repeat refine qb ?_); refine qf rfl (fun h2 => ?_) (fun h2 => ?_)
    · exact (no h2 (by omega)).elim
    · (repeat refine qb ?_); refine qa ?_
      repeat (first | refine zR ?_ | refine zK ?_ | refine zM ?_ | refine zB ?_ | refine zA ?_ | refine zS ?_ | refine zL ?_)
      refine qc ?_
      (repeat refine qb ?_); refine qf rfl (fun h3 => ?_) (fun h3 => ?_)
      · exact (no h3 (by omega)).elim
      · (repeat refine qb ?_); refine qa ?_
        repeat (first | refine zR ?_ | refine zK ?_ | refine zM ?_ | refine zB ?_ | refine zA ?_ | refine zS ?_ | refine zL ?_)
        refine qc ?_
        (repeat refine qb ?_); refine qf rfl (fun h4 => ?_) (fun h4 => ?_)
        · exact (no h4 (by omega)).elim
        · refine qm ?_
          refine SW.wk (qq [1, 3, 6] [(1000000, 1000000), (3, 3), (6, 6)] rfl rfl) ?_
          (repeat refine qb ?_); refine qa ?_
          repeat (first | refine zR ?_ | refine zK ?_ | refine zM ?_ | refine zB ?_ | refine zA ?_ | refine zS ?_ | refine zL ?_)
          refine qc ?_
          (repeat refine qb ?_); refine qa ?_
          repeat (first | refine zR ?_ | refine zK ?_ | refine zM ?_ | refine zB ?_ | refine zA ?_ | refine zS ?_ | refine zL ?_)
          refine qc ?_
          (repeat refine qb ?_); refine ql ?_
          refine SW.wk (jP 10 900 52 3 rfl rfl) ?_
          refine SW.wk (qq [1, 3, 6, 10, 55, 56, 57] [(1000000, 1000000), (3, 3), (6, 6), (900, 0)] rfl rfl) ?_
          refine qO (fun m s => ∃ (k : Nat) (kk : Int), k ≤ (S.drop lo).length ∧ m = (S.drop lo).length - k ∧ kk = k ∧ errS ((S.drop lo).take k) = 0 ∧ s = ⟨122, [(1, .view 1000000 5 lo S.length), (3, .ptr 3 0), (6, .ptr 6 0), (10, .row 0), (55, .view 1000000 5 lo S.length), (56, .p (pI ((S.length - lo : Nat) : Int))), (57, .p (pI kk))], [(1000000, .row 115 5 (S.map Itm.pv)), (3, .cells ((Nod.mk op val attr).pv.map .p)), (6, .cells (([.v (.slice none 0 0), pI 0, pI 0, pS ⟨#[]⟩, pI 0] : List PV).map .p)), (0, .row 52 3 ((((S.drop lo).take k).map Itm.v).map Val.pv))]⟩) (S.drop lo).length ⟨0, 0, Nat.zero_le _, rfl, rfl, rfl, rfl⟩ ?_
          rintro m s ⟨k, _, hk, rfl, rfl, he0, rfl⟩
          (repeat refine qb ?_); refine qa ?_
          repeat (first | refine zR ?_ | refine zK ?_ | refine zM ?_ | refine zB ?_ | refine zA ?_ | refine zS ?_ | refine zL ?_)
          refine qc ?_
          (repeat refine qb ?_); refine qf rfl (fun hlt => ?_) (fun hlt => ?_)
          · refine qm ?_
            have hlt' : k < (S.drop lo).length := by rw [List.length_drop]; simpa using hlt
            have hk2 : k < S.length - lo := by rwa [List.length_drop] at hlt'
            have hget : (S.drop lo)[k]? = some (S.drop lo)[k] := List.getElem?_eq_getElem hlt'
            (repeat refine qb ?_); refine ql ?_
            (repeat refine qb ?_); refine qa ?_
            repeat (first | refine zR ?_ | refine zK ?_ | refine zM ?_ | refine zB ?_ | refine zA ?_ | refine zS ?_ | refine zL ?_)
            refine qw qe rfl rfl (by omega) rfl ?_
            repeat (first | refine zR ?_ | refine zK ?_ | refine zM ?_ | refine zB ?_ | refine zA ?_ | refine zS ?_ | refine zL ?_)
            refine qw qe rfl (za rfl rfl rfl rfl rfl (show (S.map Itm.pv).getD (lo + Int.toNat (k : Int)) [] = (S.drop lo)[k].pv from ze hget) rfl) (by rw [List.length_map, Int.toNat_natCast]; omega) rfl ?_
            repeat (first | refine zR ?_ | refine zK ?_ | refine zM ?_ | refine zB ?_ | refine zA ?_ | refine zS ?_ | refine zL ?_)
            refine qc ?_
            (repeat refine qb ?_); refine qa ?_
            repeat (first | refine zR ?_ | refine zK ?_ | refine zM ?_ | refine zB ?_ | refine zA ?_ | refine zS ?_ | refine zL ?_)
            refine qc ?_
            (repeat refine qb ?_); refine qf rfl (fun hne => ?_) (fun hne => ?_)
            · have hne' : (S.drop lo)[k].e ≠ 0 := by simpa using hne
              have e1 := errS_at hlt' he0 hne'
              rw [hN, e1, if_pos hne']
              (repeat refine qb ?_); refine qa ?_
              repeat (first | refine zR ?_ | refine zK ?_ | refine zM ?_ | refine zB ?_ | refine zA ?_ | refine zS ?_ | refine zL ?_)
              refine qc ?_
              (repeat refine qb ?_); refine qk ?_
              exact ⟨Or.inr rfl, _, _, [(1000000, 1000000)], _, Wk.refl _, rfl, rfl, .p (CvL.agg (.cons (.nil 3) (.refl _))), rfl, rfl⟩
            · have hne' : (S.drop lo)[k].e = 0 := by simpa using hne
              refine qm ?_
              (repeat refine qb ?_); refine qa ?_
              repeat (first | refine zR ?_ | refine zK ?_ | refine zM ?_ | refine zB ?_ | refine zA ?_ | refine zS ?_ | refine zL ?_)
              refine qn rfl (qp qe rfl rfl rfl rfl rfl rfl rfl rfl rfl rfl rfl rfl rfl rfl rfl rfl (by simp only [List.length_append, List.length_map, List.length_take, List.length_drop]; unfold reachBytes; simp; omega) (by simp only [List.length_append, List.length_map, List.length_take, List.length_drop]; simp; omega) ?_)
              repeat (first | refine zR ?_ | refine zK ?_ | refine zM ?_ | refine zB ?_ | refine zA ?_ | refine zS ?_ | refine zL ?_)
              refine qc ?_
              (repeat refine qb ?_); refine qa ?_
              repeat (first | refine zR ?_ | refine zK ?_ | refine zM ?_ | refine zB ?_ | refine zA ?_ | refine zS ?_ | refine zL ?_)
              refine qc ?_
              refine ⟨_, _, ?_, qq [1, 3, 6, 10, 55, 56, 57] [(1000000, 1000000), (3, 3), (6, 6), (71, 0)] rfl rfl, k + 1, _, hlt', rfl, qz hlt' (by rw [List.length_drop]; omega), wv hlt' he0 hne', ?_⟩
              · omega
              · rw [List.take_succ_eq_append_getElem hlt', List.map_append, List.map_append]; rfl
          · refine qK ?_
            have hkk : k = (S.drop lo).length := by
              have : ¬ (k : Int) < ((S.length - lo : Nat) : Int) := by simpa using hlt
              rw [List.length_drop] at hk ⊢
              omega
            subst hkk
            rw [List.take_length] at he0 ⊢
            rw [hN, if_neg (by simp [he0])]
            clear hN
            (repeat refine qb ?_); refine qa ?_
            repeat (first | refine zR ?_ | refine zK ?_ | refine zM ?_ | refine zB ?_ | refine zA ?_ | refine zS ?_ | refine zL ?_)
            refine qc ?_
            (repeat refine qb ?_); refine ql ?_
            (repeat refine qb ?_); refine qa ?_
            repeat (first | refine zR ?_ | refine zK ?_ | refine zM ?_ | refine zB ?_ | refine zA ?_ | refine zS ?_ | refine zL ?_)
            refine qc ?_
            (repeat refine qb ?_); refine qf rfl (fun h5 => ?_) (fun h5 => ?_)
            · exact (no h5 (by omega)).elim
            · (repeat refine qb ?_); refine qa ?_
              repeat (first | refine zR ?_ | refine zK ?_ | refine zM ?_ | refine zB ?_ | refine zA ?_ | refine zS ?_ | refine zL ?_)
              refine qc ?_
              (repeat refine qb ?_); refine qf rfl (fun h6 => ?_) (fun h6 => ?_)
              · exact (no h6 (by omega)).elim
              · (repeat refine qb ?_); refine qa ?_
                repeat (first | refine zR ?_ | refine zK ?_ | refine zM ?_ | refine zB ?_ | refine zA ?_ | refine zS ?_ | refine zL ?_)
                refine qc ?_
                (repeat refine qb ?_); refine qf rfl (fun h7 => ?_) (fun h7 => ?_)
                · exact (no h7 (by omega)).elim
                · refine qm ?_
                  have e2 : lastS op (S.drop lo) = ⟨[], (qN op ((S.drop lo).map Itm.v)).1, (qN op ((S.drop lo).map Itm.v)).2⟩ := by
                    unfold lastS
                    rw [if_neg (by omega), if_neg (by omega), if_neg (by omega)]
                  rw [e2]
                  (repeat refine qb ?_); refine qa ?_
                  repeat (first | refine zR ?_ | refine zK ?_ | refine zM ?_ | refine zB ?_ | refine zA ?_ | refine zS ?_ | refine zL ?_)
                  refine qn rfl (qg rfl rfl rfl rfl (call_h op ((S.drop lo).map Itm.v) (fun v hv => by obtain ⟨x, hx, rfl⟩ := List.mem_map.1 hv; exact (hS x (List.mem_of_mem_drop hx)).v)) rfl rfl ?_)
                  repeat (first | refine zR ?_ | refine zK ?_ | refine zM ?_ | refine zB ?_ | refine zA ?_ | refine zS ?_ | refine zL ?_)
                  refine qc ?_
                  generalize qN op ((S.drop lo).map Itm.v) = r
                  (repeat refine qb ?_); refine qa ?_
                  repeat (first | refine zR ?_ | refine zK ?_ | refine zM ?_ | refine zB ?_ | refine zA ?_ | refine zS ?_ | refine zL ?_)
                  refine qc ?_
                  (repeat refine qb ?_); refine qk ?_
                  exact ⟨Or.inr rfl, _, _, [(1000000, 1000000)], _, Wk.refl _, rfl, rfl, .p (CvL.agg (.cons (.nil 3) (.refl _))), rfl, rfl⟩
theorem node_12_h (val : Val) (attr : Atr) (S : List Itm) (lo : Nat) (g : List Giv) (hl : S.length ≤ 1000000) (hlo : lo + 2 = S.length) (hS : ∀ x ∈ S, x.Fit) : zZ Tryz.prog 75 [.p (.agg (Nod.mk 12 val attr).pv), .view 1000000 5 lo S.length, .p (zP g)] (jz S) (.p (.agg (zc (Nod.mk 12 val attr) (S.drop lo) g).pv)) (jz S) := by
  obtain ⟨x, y, hx⟩ := drop_two hlo
  have h0 : (S.drop lo)[0]? = some x := by rw [hx]; rfl
  have h1' : (S.drop lo)[1]? = some y := by rw [hx]; rfl
  have hd0 : decS 12 (S.drop lo) = (x.is 0 || y.is 0) := by rw [hx]; rfl
  cases hdec : (x.is 0 || y.is 0) with
  | true =>
    have e : zc (Nod.mk 12 val attr) (S.drop lo) g = itmT false := by
      unfold zc
      simp only
      rw [if_neg (by omega), if_neg (by omega), hd0, hdec, if_pos rfl]; rfl
    rw [e]
    refine qR (T := TTab) qe Tryz.func75 (by kernel_rfl) rfl rfl rfl ?_
    (repeat refine qb ?_); refine qa ?_
    repeat (first | refine zR ?_ | refine zK ?_ | refine zM ?_ | refine zB ?_ | refine zA ?_ | refine zS ?_ | refine zL ?_)
    refine qc ?_
    (repeat refine qb ?_); refine qa ?_
    repeat (first | refine zR ?_ | refine zK ?_ | refine zM ?_ | refine zB ?_ | refine zA ?_ | refine zS ?_ | refine zL ?_)
    refine qc ?_
    (repeat refine qb ?_); refine ql ?_
    (repeat refine qb ?_); refine qa ?_
    repeat (first | refine zR ?_ | refine zK ?_ | refine zM ?_ | refine zB ?_ | refine zA ?_ | refine zS ?_ | refine zL ?_)
    refine qc ?_
    (repeat refine qb ?_); refine qf rfl (fun h1 => ?_) (fun h1 => ?_)
    · cases h1
    · (repeat refine qb ?_); refine qa ?_
      repeat (first | refine zR ?_ | refine zK ?_ | refine zM ?_ | refine zB ?_ | refine zA ?_ | refine zS ?_ | refine zL ?_)
      refine qc ?_
      (repeat refine qb ?_); refine qf rfl (fun h2 => ?_) (fun h2 => ?_)
      · cases h2
      · (repeat refine qb ?_); refine qa ?_
        repeat (first | refine zR ?_ | refine zK ?_ | refine zM ?_ | refine zB ?_ | refine zA ?_ | refine zS ?_ | refine zL ?_)
        refine qc ?_
        (repeat refine qb ?_); refine qf rfl (fun h3 => ?_) (fun h3 => ?_)
        rotate_left
        · cases h3
        refine qm ?_
        (repeat refine qb ?_); refine qf rfl (fun h4 => ?_) (fun h4 => ?_)
        rotate_left
        · cases h4
        (repeat refine qb ?_); refine qa ?_
        repeat (first | refine zR ?_ | refine zK ?_ | refine zM ?_ | refine zB ?_ | refine zA ?_ | refine zS ?_ | refine zL ?_)
        refine qc ?_
        (repeat refine qb ?_); refine qs (by kernel_rfl) ?_
        repeat (refine qr qe rfl (by exact True.intro) rfl ?_)
        refine qr qe rfl (by omega) rfl ?_
        refine qr qe (za rfl rfl rfl rfl rfl (show (S.map Itm.pv).getD (lo + Int.toNat 0) [] = x.pv from ze h0) rfl) (by rw [List.length_map]; omega) rfl ?_
        repeat (refine qr qe rfl (by exact True.intro) rfl ?_)
        refine zj rfl rfl rfl rfl (is_h x _) rfl rfl ?_
        repeat (refine qr qe rfl (by exact True.intro) rfl ?_)
        refine qr qe rfl (by omega) rfl ?_
        refine qr qe (za rfl rfl rfl rfl rfl (show (S.map Itm.pv).getD (lo + Int.toNat 1) [] = y.pv from ze h1') rfl) (by rw [List.length_map]; show lo + 1 < _; omega) rfl ?_
        repeat (refine qr qe rfl (by exact True.intro) rfl ?_)
        refine zj rfl rfl rfl rfl (is_h y _) rfl rfl ?_
        repeat (refine qr qe rfl (by exact True.intro) rfl ?_)
        refine qQ ?_
        (repeat refine qb ?_); refine qf rfl (fun h9 => ?_) (fun h9 => ?_)
        · (repeat refine qb ?_); refine qa ?_
          repeat (first | refine zR ?_ | refine zK ?_ | refine zM ?_ | refine zB ?_ | refine zA ?_ | refine zS ?_ | refine zL ?_)
          refine qn rfl (qD rfl rfl rfl rfl (truth_h false) rfl rfl rfl ?_)
          repeat (first | refine zR ?_ | refine zK ?_ | refine zM ?_ | refine zB ?_ | refine zA ?_ | refine zS ?_ | refine zL ?_)
          refine qc ?_
          (repeat refine qb ?_); refine qk ?_
          exact ⟨Or.inr rfl, _, _, [(1000000, 1000000)], _, Wk.refl _, rfl, rfl, .refl _, rfl, rfl⟩
        · have h9' : (x.is 0 || y.is 0) = false := by
            rw [← h9]
            show _ = (bif x.is 0 then true else y.is 0)
            cases x.is 0 <;> rfl
          rw [hdec] at h9'
          cases h9'
  | false =>
    have hN := wg (val := val) (attr := attr) (g := g) (op := 12) (l := S.drop lo) (by omega) (by omega) (hd0.trans hdec)
    refine qR (T := TTab) qe Tryz.func75 (by kernel_rfl) rfl rfl rfl ?_
    (repeat refine qb ?_); refine qa ?_
    repeat (first | refine zR ?_ | refine zK ?_ | refine zM ?_ | refine zB ?_ | refine zA ?_ | refine zS ?_ | refine zL ?_)
    refine qc ?_
    (repeat refine qb ?_); refine qa ?_
    repeat (first | refine zR ?_ | refine zK ?_ | refine zM ?_ | refine zB ?_ | refine zA ?_ | refine zS ?_ | refine zL ?_)
    refine qc ?_
    (repeat refine qb ?_); refine ql ?_
    (repeat refine qb ?_); refine qa ?_
    repeat (first | refine zR ?_ | refine zK ?_ | refine zM ?_ | refine zB ?_ | refine zA ?_ | refine zS ?_ | refine zL ?_)
    refine qc ?_
    (repeat refine qb ?_); refine qf rfl (fun h1 => ?_) (fun h1 => ?_)
    · cases h1
    · (repeat refine qb ?_); refine qa ?_
      repeat (first | refine zR ?_ | refine zK ?_ | refine zM ?_ | refine zB ?_ | refine zA ?_ | refine zS ?_ | refine zL ?_)
      refine qc ?_
      (repeat refine qb ?_); refine qf rfl (fun h2 => ?_) (fun h2 => ?_)
      · cases h2
      · (repeat refine qb ?_); refine qa ?_
        repeat (first | refine zR ?_ | refine zK ?_ | refine zM ?_ | refine zB ?_ | refine zA ?_ | refine zS ?_ | refine zL ?_)
        refine qc ?_
        (repeat refine qb ?_); refine qf rfl (fun h3 => ?_) (fun h3 => ?_)
        rotate_left
        · cases h3
        refine qm ?_
        (repeat refine qb ?_); refine qf rfl (fun h4 => ?_) (fun h4 => ?_)
        rotate_left
        · cases h4
        (repeat refine qb ?_); refine qa ?_
        repeat (first | refine zR ?_ | refine zK ?_ | refine zM ?_ | refine zB ?_ | refine zA ?_ | refine zS ?_ | refine zL ?_)
        refine qc ?_
        (repeat refine qb ?_); refine qs (by kernel_rfl) ?_
        repeat (refine qr qe rfl (by exact True.intro) rfl ?_)
        refine qr qe rfl (by omega) rfl ?_
        refine qr qe (za rfl rfl rfl rfl rfl (show (S.map Itm.pv).getD (lo + Int.toNat 0) [] = x.pv from ze h0) rfl) (by rw [List.length_map]; omega) rfl ?_
        repeat (refine qr qe rfl (by exact True.intro) rfl ?_)
        refine zj rfl rfl rfl rfl (is_h x _) rfl rfl ?_
        repeat (refine qr qe rfl (by exact True.intro) rfl ?_)
        refine qr qe rfl (by omega) rfl ?_
        refine qr qe (za rfl rfl rfl rfl rfl (show (S.map Itm.pv).getD (lo + Int.toNat 1) [] = y.pv from ze h1') rfl) (by rw [List.length_map]; show lo + 1 < _; omega) rfl ?_
        repeat (refine qr qe rfl (by exact True.intro) rfl ?_)
        refine zj rfl rfl rfl rfl (is_h y _) rfl rfl ?_
        repeat (refine qr qe rfl (by exact True.intro) rfl ?_)
        refine qQ ?_
        (repeat refine qb ?_); refine qf rfl (fun h9 => ?_) (fun h9 => ?_)
        · have h9' : (x.is 0 || y.is 0) = true := by
            rw [← h9]
            show _ = (bif x.is 0 then true else y.is 0)
            cases x.is 0 <;> rfl
          rw [hdec] at h9'
          cases h9'
        · refine qm ?_
          clear h0 h1' hx
          refine SW.wk (qq [1, 3, 6] [(1000000, 1000000), (3, 3), (6, 6)] rfl rfl) ?_
          (repeat refine qb ?_); refine qa ?_
          repeat (first | refine zR ?_ | refine zK ?_ | refine zM ?_ | refine zB ?_ | refine zA ?_ | refine zS ?_ | refine zL ?_)
          refine qc ?_
          (repeat refine qb ?_); refine qa ?_
          repeat (first | refine zR ?_ | refine zK ?_ | refine zM ?_ | refine zB ?_ | refine zA ?_ | refine zS ?_ | refine zL ?_)
          refine qc ?_
          (repeat refine qb ?_); refine ql ?_
          refine SW.wk (jP 10 900 52 3 rfl rfl) ?_
          refine SW.wk (qq [1, 3, 6, 10, 55, 56, 57] [(1000000, 1000000), (3, 3), (6, 6), (900, 0)] rfl rfl) ?_
          refine qO (fun m s => ∃ (k : Nat) (kk : Int), k ≤ (S.drop lo).length ∧ m = (S.drop lo).length - k ∧ kk = k ∧ errS ((S.drop lo).take k) = 0 ∧ s = ⟨122, [(1, .view 1000000 5 lo S.length), (3, .ptr 3 0), (6, .ptr 6 0), (10, .row 0), (55, .view 1000000 5 lo S.length), (56, .p (pI ((S.length - lo : Nat) : Int))), (57, .p (pI kk))], [(1000000, .row 115 5 (S.map Itm.pv)), (3, .cells ((Nod.mk 12 val attr).pv.map .p)), (6, .cells (([.v (.slice none 0 0), pI 0, pI 0, pS ⟨#[]⟩, pI 0] : List PV).map .p)), (0, .row 52 3 ((((S.drop lo).take k).map Itm.v).map Val.pv))]⟩) (S.drop lo).length ⟨0, 0, Nat.zero_le _, rfl, rfl, rfl, rfl⟩ ?_
          rintro m s ⟨k, _, hk, rfl, rfl, he0, rfl⟩
          (repeat refine qb ?_); refine qa ?_
          repeat (first | refine zR ?_ | refine zK ?_ | refine zM ?_ | refine zB ?_ | refine zA ?_ | refine zS ?_ | refine zL ?_)
          refine qc ?_
          (repeat refine qb ?_); refine qf rfl (fun hlt => ?_) (fun hlt => ?_)
          · refine qm ?_
            have hlt' : k < (S.drop lo).length := by rw [List.length_drop]; simpa using hlt
            have hk2 : k < S.length - lo := by rwa [List.length_drop] at hlt'
            have hget : (S.drop lo)[k]? = some (S.drop lo)[k] := List.getElem?_eq_getElem hlt'
            (repeat refine qb ?_); refine ql ?_
            (repeat refine qb ?_); refine qa ?_
            repeat (first | refine zR ?_ | refine zK ?_ | refine zM ?_ | refine zB ?_ | refine zA ?_ | refine zS ?_ | refine zL ?_)
            refine qw qe rfl rfl (by omega) rfl ?_
            repeat (first | refine zR ?_ | refine zK ?_ | refine zM ?_ | refine zB ?_ | refine zA ?_ | refine zS ?_ | refine zL ?_)
            refine qw qe rfl (za rfl rfl rfl rfl rfl (show (S.map Itm.pv).getD (lo + Int.toNat (k : Int)) [] = (S.drop lo)[k].pv from ze hget) rfl) (by rw [List.length_map, Int.toNat_natCast]; omega) rfl ?_
            repeat (first | refine zR ?_ | refine zK ?_ | refine zM ?_ | refine zB ?_ | refine zA ?_ | refine zS ?_ | refine zL ?_)
            refine qc ?_
            (repeat refine qb ?_); refine qa ?_
            repeat (first | refine zR ?_ | refine zK ?_ | refine zM ?_ | refine zB ?_ | refine zA ?_ | refine zS ?_ | refine zL ?_)
            refine qc ?_
            (repeat refine qb ?_); refine qf rfl (fun hne => ?_) (fun hne => ?_)
            · have hne' : (S.drop lo)[k].e ≠ 0 := by simpa using hne
              have e1 := errS_at hlt' he0 hne'
              rw [hN, e1, if_pos hne']
              (repeat refine qb ?_); refine qa ?_
              repeat (first | refine zR ?_ | refine zK ?_ | refine zM ?_ | refine zB ?_ | refine zA ?_ | refine zS ?_ | refine zL ?_)
              refine qc ?_
              (repeat refine qb ?_); refine qk ?_
              exact ⟨Or.inr rfl, _, _, [(1000000, 1000000)], _, Wk.refl _, rfl, rfl, .p (CvL.agg (.cons (.nil 3) (.refl _))), rfl, rfl⟩
            · have hne' : (S.drop lo)[k].e = 0 := by simpa using hne
              refine qm ?_
              (repeat refine qb ?_); refine qa ?_
              repeat (first | refine zR ?_ | refine zK ?_ | refine zM ?_ | refine zB ?_ | refine zA ?_ | refine zS ?_ | refine zL ?_)
              refine qn rfl (qp qe rfl rfl rfl rfl rfl rfl rfl rfl rfl rfl rfl rfl rfl rfl rfl rfl (by simp only [List.length_append, List.length_map, List.length_take, List.length_drop]; unfold reachBytes; simp; omega) (by simp only [List.length_append, List.length_map, List.length_take, List.length_drop]; simp; omega) ?_)
              repeat (first | refine zR ?_ | refine zK ?_ | refine zM ?_ | refine zB ?_ | refine zA ?_ | refine zS ?_ | refine zL ?_)
              refine qc ?_
              (repeat refine qb ?_); refine qa ?_
              repeat (first | refine zR ?_ | refine zK ?_ | refine zM ?_ | refine zB ?_ | refine zA ?_ | refine zS ?_ | refine zL ?_)
              refine qc ?_
              refine ⟨_, _, ?_, qq [1, 3, 6, 10, 55, 56, 57] [(1000000, 1000000), (3, 3), (6, 6), (71, 0)] rfl rfl, k + 1, _, hlt', rfl, qz hlt' (by rw [List.length_drop]; omega), wv hlt' he0 hne', ?_⟩
              · omega
              · rw [List.take_succ_eq_append_getElem hlt', List.map_append, List.map_append]; rfl
          · refine qK ?_
            have hkk : k = (S.drop lo).length := by
              have : ¬ (k : Int) < ((S.length - lo : Nat) : Int) := by simpa using hlt
              rw [List.length_drop] at hk ⊢
              omega
            subst hkk
            rw [List.take_length] at he0 ⊢
            rw [hN, if_neg (by simp [he0])]
            clear hN
            (repeat refine qb ?_); refine qa ?_
            repeat (first | refine zR ?_ | refine zK ?_ | refine zM ?_ | refine zB ?_ | refine zA ?_ | refine zS ?_ | refine zL ?_)
            refine qc ?_
            (repeat refine qb ?_); refine ql ?_
            (repeat refine qb ?_); refine qa ?_
            repeat (first | refine zR ?_ | refine zK ?_ | refine zM ?_ | refine zB ?_ | refine zA ?_ | refine zS ?_ | refine zL ?_)
            refine qc ?_
            (repeat refine qb ?_); refine qf rfl (fun h5 => ?_) (fun h5 => ?_)
            · cases h5
            · (repeat refine qb ?_); refine qa ?_
              repeat (first | refine zR ?_ | refine zK ?_ | refine zM ?_ | refine zB ?_ | refine zA ?_ | refine zS ?_ | refine zL ?_)
              refine qc ?_
              (repeat refine qb ?_); refine qf rfl (fun h6 => ?_) (fun h6 => ?_)
              · cases h6
              · (repeat refine qb ?_); refine qa ?_
                repeat (first | refine zR ?_ | refine zK ?_ | refine zM ?_ | refine zB ?_ | refine zA ?_ | refine zS ?_ | refine zL ?_)
                refine qc ?_
                (repeat refine qb ?_); refine qf rfl (fun h7 => ?_) (fun h7 => ?_)
                · cases h7
                · refine qm ?_
                  have e2 : lastS 12 (S.drop lo) = ⟨[], (qN 12 ((S.drop lo).map Itm.v)).1, (qN 12 ((S.drop lo).map Itm.v)).2⟩ := rfl
                  rw [e2]
                  (repeat refine qb ?_); refine qa ?_
                  repeat (first | refine zR ?_ | refine zK ?_ | refine zM ?_ | refine zB ?_ | refine zA ?_ | refine zS ?_ | refine zL ?_)
                  refine qn rfl (qg rfl rfl rfl rfl (call_h 12 ((S.drop lo).map Itm.v) (fun v hv => by obtain ⟨x, hx, rfl⟩ := List.mem_map.1 hv; exact (hS x (List.mem_of_mem_drop hx)).v)) rfl rfl ?_)
                  repeat (first | refine zR ?_ | refine zK ?_ | refine zM ?_ | refine zB ?_ | refine zA ?_ | refine zS ?_ | refine zL ?_)
                  refine qc ?_
                  generalize qN 12 ((S.drop lo).map Itm.v) = r
                  (repeat refine qb ?_); refine qa ?_
                  repeat (first | refine zR ?_ | refine zK ?_ | refine zM ?_ | refine zB ?_ | refine zA ?_ | refine zS ?_ | refine zL ?_)
                  refine qc ?_
                  (repeat refine qb ?_); refine qk ?_
                  exact ⟨Or.inr rfl, _, _, [(1000000, 1000000)], _, Wk.refl _, rfl, rfl, .p (CvL.agg (.cons (.nil 3) (.refl _))), rfl, rfl⟩
theorem node_13_h (val : Val) (attr : Atr) (S : List Itm) (lo : Nat) (g : List Giv) (hl : S.length ≤ 1000000) (hlo : lo + 2 = S.length) (hS : ∀ x ∈ S, x.Fit) : zZ Tryz.prog 75 [.p (.agg (Nod.mk 13 val attr).pv), .view 1000000 5 lo S.length, .p (zP g)] (jz S) (.p (.agg (zc (Nod.mk 13 val attr) (S.drop lo) g).pv)) (jz S) := by
  obtain ⟨x, y, hx⟩ := drop_two hlo
  have h0 : (S.drop lo)[0]? = some x := by rw [hx]; rfl
  have h1' : (S.drop lo)[1]? = some y := by rw [hx]; rfl
  have hd0 : decS 13 (S.drop lo) = (x.is 1 || y.is 1) := by rw [hx]; rfl
  cases hdec : (x.is 1 || y.is 1) with
  | true =>
    have e : zc (Nod.mk 13 val attr) (S.drop lo) g = itmT true := by
      unfold zc
      simp only
      rw [if_neg (by omega), if_neg (by omega), hd0, hdec, if_pos rfl]; rfl
    rw [e]
    refine qR (T := TTab) qe Tryz.func75 (by kernel_rfl) rfl rfl rfl ?_
    (repeat refine qb ?_); refine qa ?_
    repeat (first | refine zR ?_ | refine zK ?_ | refine zM ?_ | refine zB ?_ | refine zA ?_ | refine zS ?_ | refine zL ?_)
    refine qc ?_
    (repeat refine qb ?_); refine qa ?_
    repeat (first | refine zR ?_ | refine zK ?_ | refine zM ?_ | refine zB ?_ | refine zA ?_ | refine zS ?_ | refine zL ?_)
    refine qc ?_
    (repeat refine qb ?_); refine ql ?_
    (repeat refine qb ?_); refine qa ?_
    repeat (first | refine zR ?_ | refine zK ?_ | refine zM ?_ | refine zB ?_ | refine zA ?_ | refine zS ?_ | refine zL ?_)
    refine qc ?_
    (repeat refine qb ?_); refine qf rfl (fun h1 => ?_) (fun h1 => ?_)
    · cases h1
    · (repeat refine qb ?_); refine qa ?_
      repeat (first | refine zR ?_ | refine zK ?_ | refine zM ?_ | refine zB ?_ | refine zA ?_ | refine zS ?_ | refine zL ?_)
      refine qc ?_
      (repeat refine qb ?_); refine qf rfl (fun h2 => ?_) (fun h2 => ?_)
      · cases h2
      · (repeat refine qb ?_); refine qa ?_
        repeat (first | refine zR ?_ | refine zK ?_ | refine zM ?_ | refine zB ?_ | refine zA ?_ | refine zS ?_ | refine zL ?_)
        refine qc ?_
        (repeat refine qb ?_); refine qf rfl (fun h3 => ?_) (fun h3 => ?_)
        · cases h3
        (repeat refine qb ?_); refine qa ?_
        repeat (first | refine zR ?_ | refine zK ?_ | refine zM ?_ | refine zB ?_ | refine zA ?_ | refine zS ?_ | refine zL ?_)
        refine qc ?_
        (repeat refine qb ?_); refine qf rfl (fun h4 => ?_) (fun h4 => ?_)
        rotate_left
        · cases h4
        (repeat refine qb ?_); refine qa ?_
        repeat (first | refine zR ?_ | refine zK ?_ | refine zM ?_ | refine zB ?_ | refine zA ?_ | refine zS ?_ | refine zL ?_)
        refine qc ?_
        (repeat refine qb ?_); refine qs (by kernel_rfl) ?_
        repeat (refine qr qe rfl (by exact True.intro) rfl ?_)
        refine qr qe rfl (by omega) rfl ?_
        refine qr qe (za rfl rfl rfl rfl rfl (show (S.map Itm.pv).getD (lo + Int.toNat 0) [] = x.pv from ze h0) rfl) (by rw [List.length_map]; omega) rfl ?_
        repeat (refine qr qe rfl (by exact True.intro) rfl ?_)
        refine zj rfl rfl rfl rfl (is_h x _) rfl rfl ?_
        repeat (refine qr qe rfl (by exact True.intro) rfl ?_)
        refine qr qe rfl (by omega) rfl ?_
        refine qr qe (za rfl rfl rfl rfl rfl (show (S.map Itm.pv).getD (lo + Int.toNat 1) [] = y.pv from ze h1') rfl) (by rw [List.length_map]; show lo + 1 < _; omega) rfl ?_
        repeat (refine qr qe rfl (by exact True.intro) rfl ?_)
        refine zj rfl rfl rfl rfl (is_h y _) rfl rfl ?_
        repeat (refine qr qe rfl (by exact True.intro) rfl ?_)
        refine qQ ?_
        (repeat refine qb ?_); refine qf rfl (fun h9 => ?_) (fun h9 => ?_)
        · (repeat refine qb ?_); refine qa ?_
          repeat (first | refine zR ?_ | refine zK ?_ | refine zM ?_ | refine zB ?_ | refine zA ?_ | refine zS ?_ | refine zL ?_)
          refine qn rfl (qD rfl rfl rfl rfl (truth_h true) rfl rfl rfl ?_)
          repeat (first | refine zR ?_ | refine zK ?_ | refine zM ?_ | refine zB ?_ | refine zA ?_ | refine zS ?_ | refine zL ?_)
          refine qc ?_
          (repeat refine qb ?_); refine qk ?_
          exact ⟨Or.inr rfl, _, _, [(1000000, 1000000)], _, Wk.refl _, rfl, rfl, .refl _, rfl, rfl⟩
        · have h9' : (x.is 1 || y.is 1) = false := by
            rw [← h9]
            show _ = (bif x.is 1 then true else y.is 1)
            cases x.is 1 <;> rfl
          rw [hdec] at h9'
          cases h9'
  | false =>
    have hN := wg (val := val) (attr := attr) (g := g) (op := 13) (l := S.drop lo) (by omega) (by omega) (hd0.trans hdec)
    refine qR (T := TTab) qe Tryz.func75 (by kernel_rfl) rfl rfl rfl ?_
    (repeat refine qb ?_); refine qa ?_
    repeat (first | refine zR ?_ | refine zK ?_ | refine zM ?_ | refine zB ?_ | refine zA ?_ | refine zS ?_ | refine zL ?_)
    refine qc ?_
    (repeat refine qb ?_); refine qa ?_
    repeat (first | refine zR ?_ | refine zK ?_ | refine zM ?_ | refine zB ?_ | refine zA ?_ | refine zS ?_ | refine zL ?_)
    refine qc ?_
    (repeat refine qb ?_); refine ql ?_
    (repeat refine qb ?_); refine qa ?_
    repeat (first | refine zR ?_ | refine zK ?_ | refine zM ?_ | refine zB ?_ | refine zA ?_ | refine zS ?_ | refine zL ?_)
    refine qc ?_
    (repeat refine qb ?_); refine qf rfl (fun h1 => ?_) (fun h1 => ?_)
    · cases h1
    · (repeat refine qb ?_); refine qa ?_
      repeat (first | refine zR ?_ | refine zK ?_ | refine zM ?_ | refine zB ?_ | refine zA ?_ | refine zS ?_ | refine zL ?_)
      refine qc ?_
      (repeat refine qb ?_); refine qf rfl (fun h2 => ?_) (fun h2 => ?_)
      · cases h2
      · (repeat refine qb ?_); refine qa ?_
        repeat (first | refine zR ?_ | refine zK ?_ | refine zM ?_ | refine zB ?_ | refine zA ?_ | refine zS ?_ | refine zL ?_)
        refine qc ?_
        (repeat refine qb ?_); refine qf rfl (fun h3 => ?_) (fun h3 => ?_)
        · cases h3
        (repeat refine qb ?_); refine qa ?_
        repeat (first | refine zR ?_ | refine zK ?_ | refine zM ?_ | refine zB ?_ | refine zA ?_ | refine zS ?_ | refine zL ?_)
        refine qc ?_
        (repeat refine qb ?_); refine qf rfl (fun h4 => ?_) (fun h4 => ?_)
        rotate_left
        · cases h4
        (repeat refine qb ?_); refine qa ?_
        repeat (first | refine zR ?_ | refine zK ?_ | refine zM ?_ | refine zB ?_ | refine zA ?_ | refine zS ?_ | refine zL ?_)
        refine qc ?_
        (repeat refine qb ?_); refine qs (by kernel_rfl) ?_
        repeat (refine qr qe rfl (by exact True.intro) rfl ?_)
        refine qr qe rfl (by omega) rfl ?_
        refine qr qe (za rfl rfl rfl rfl rfl (show (S.map Itm.pv).getD (lo + Int.toNat 0) [] = x.pv from ze h0) rfl) (by rw [List.length_map]; omega) rfl ?_
        repeat (refine qr qe rfl (by exact True.intro) rfl ?_)
        refine zj rfl rfl rfl rfl (is_h x _) rfl rfl ?_
        repeat (refine qr qe rfl (by exact True.intro) rfl ?_)
        refine qr qe rfl (by omega) rfl ?_
        refine qr qe (za rfl rfl rfl rfl rfl (show (S.map Itm.pv).getD (lo + Int.toNat 1) [] = y.pv from ze h1') rfl) (by rw [List.length_map]; show lo + 1 < _; omega) rfl ?_
        repeat (refine qr qe rfl (by exact True.intro) rfl ?_)
        refine zj rfl rfl rfl rfl (is_h y _) rfl rfl ?_
        repeat (refine qr qe rfl (by exact True.intro) rfl ?_)
        refine qQ ?_
        (repeat refine qb ?_); refine qf rfl (fun h9 => ?_) (fun h9 => ?_)
        · have h9' : (x.is 1 || y.is 1) = true := by
            rw [← h9]
            show _ = (bif x.is 1 then true else y.is 1)
            cases x.is 1 <;> rfl
          rw [hdec] at h9'
          cases h9'
        · refine qm ?_
          clear h0 h1' hx
          refine SW.wk (qq [1, 3, 6] [(1000000, 1000000), (3, 3), (6, 6)] rfl rfl) ?_
          (repeat refine qb ?_); refine qa ?_
          repeat (first | refine zR ?_ | refine zK ?_ | refine zM ?_ | refine zB ?_ | refine zA ?_ | refine zS ?_ | refine zL ?_)
          refine qc ?_
          (repeat refine qb ?_); refine qa ?_
          repeat (first | refine zR ?_ | refine zK ?_ | refine zM ?_ | refine zB ?_ | refine zA ?_ | refine zS ?_ | refine zL ?_)
          refine qc ?_
          (repeat refine qb ?_); refine ql ?_
          refine SW.wk (jP 10 900 52 3 rfl rfl) ?_
          refine SW.wk (qq [1, 3, 6, 10, 55, 56, 57] [(1000000, 1000000), (3, 3), (6, 6), (900, 0)] rfl rfl) ?_
          refine qO (fun m s => ∃ (k : Nat) (kk : Int), k ≤ (S.drop lo).length ∧ m = (S.drop lo).length - k ∧ kk = k ∧ errS ((S.drop lo).take k) = 0 ∧ s = ⟨122, [(1, .view 1000000 5 lo S.length), (3, .ptr 3 0), (6, .ptr 6 0), (10, .row 0), (55, .view 1000000 5 lo S.length), (56, .p (pI ((S.length - lo : Nat) : Int))), (57, .p (pI kk))], [(1000000, .row 115 5 (S.map Itm.pv)), (3, .cells ((Nod.mk 13 val attr).pv.map .p)), (6, .cells (([.v (.slice none 0 0), pI 0, pI 0, pS ⟨#[]⟩, pI 0] : List PV).map .p)), (0, .row 52 3 ((((S.drop lo).take k).map Itm.v).map Val.pv))]⟩) (S.drop lo).length ⟨0, 0, Nat.zero_le _, rfl, rfl, rfl, rfl⟩ ?_
          rintro m s ⟨k, _, hk, rfl, rfl, he0, rfl⟩
          (repeat refine qb ?_); refine qa ?_
          repeat (first | refine zR ?_ | refine zK ?_ | refine zM ?_ | refine zB ?_ | refine zA ?_ | refine zS ?_ | refine zL ?_)
          refine qc ?_
          (repeat refine qb ?_); refine qf rfl (fun hlt => ?_) (fun hlt => ?_)
          · refine qm ?_
            have hlt' : k < (S.drop lo).length := by rw [List.length_drop]; simpa using hlt
            have hk2 : k < S.length - lo := by rwa [List.length_drop] at hlt'
            have hget : (S.drop lo)[k]? = some (S.drop lo)[k] := List.getElem?_eq_getElem hlt'
            (repeat refine qb ?_); refine ql ?_
            (repeat refine qb ?_); refine qa ?_
            repeat (first | refine zR ?_ | refine zK ?_ | refine zM ?_ | refine zB ?_ | refine zA ?_ | refine zS ?_ | refine zL ?_)
            refine qw qe rfl rfl (by omega) rfl ?_
            repeat (first | refine zR ?_ | refine zK ?_ | refine zM ?_ | refine zB ?_ | refine zA ?_ | refine zS ?_ | refine zL ?_)
            refine qw qe rfl (za rfl rfl rfl rfl rfl (show (S.map Itm.pv).getD (lo + Int.toNat (k : Int)) [] = (S.drop lo)[k].pv from ze hget) rfl) (by rw [List.length_map, Int.toNat_natCast]; omega) rfl ?_
            repeat (first | refine zR ?_ | refine zK ?_ | refine zM ?_ | refine zB ?_ | refine zA ?_ | refine zS ?_ | refine zL ?_)
            refine qc ?_
            (repeat refine qb ?_); refine qa ?_
            repeat (first | refine zR ?_ | refine zK ?_ | refine zM ?_ | refine zB ?_ | refine zA ?_ | refine zS ?_ | refine zL ?_)
            refine qc ?_
            (repeat refine qb ?_); refine qf rfl (fun hne => ?_) (fun hne => ?_)
            · have hne' : (S.drop lo)[k].e ≠ 0 := by simpa using hne
              have e1 := errS_at hlt' he0 hne'
              rw [hN, e1, if_pos hne']
              (repeat refine qb ?_); refine qa ?_
              repeat (first | refine zR ?_ | refine zK ?_ | refine zM ?_ | refine zB ?_ | refine zA ?_ | refine zS ?_ | refine zL ?_)
              refine qc ?_
              (repeat refine qb ?_); refine qk ?_
              exact ⟨Or.inr rfl, _, _, [(1000000, 1000000)], _, Wk.refl _, rfl, rfl, .p (CvL.agg (.cons (.nil 3) (.refl _))), rfl, rfl⟩
            · have hne' : (S.drop lo)[k].e = 0 := by simpa using hne
              refine qm ?_
              (repeat refine qb ?_); refine qa ?_
              repeat (first | refine zR ?_ | refine zK ?_ | refine zM ?_ | refine zB ?_ | refine zA ?_ | refine zS ?_ | refine zL ?_)
              refine qn rfl (qp qe rfl rfl rfl rfl rfl rfl rfl rfl rfl rfl rfl rfl rfl rfl rfl rfl (by simp only [List.length_append, List.length_map, List.length_take, List.length_drop]; unfold reachBytes; simp; omega) (by simp only [List.length_append, List.length_map, List.length_take, List.length_drop]; simp; omega) ?_)
              repeat (first | refine zR ?_ | refine zK ?_ | refine zM ?_ | refine zB ?_ | refine zA ?_ | refine zS ?_ | refine zL ?_)
              refine qc ?_
              (repeat refine qb ?_); refine qa ?_
              repeat (first | refine zR ?_ | refine zK ?_ | refine zM ?_ | refine zB ?_ | refine zA ?_ | refine zS ?_ | refine zL ?_)
              refine qc ?_
              refine ⟨_, _, ?_, qq [1, 3, 6, 10, 55, 56, 57] [(1000000, 1000000), (3, 3), (6, 6), (71, 0)] rfl rfl, k + 1, _, hlt', rfl, qz hlt' (by rw [List.length_drop]; omega), wv hlt' he0 hne', ?_⟩
              · omega
              · rw [List.take_succ_eq_append_getElem hlt', List.map_append, List.map_append]; rfl
          · refine qK ?_
            have hkk : k = (S.drop lo).length := by
              have : ¬ (k : Int) < ((S.length - lo : Nat) : Int) := by simpa using hlt
              rw [List.length_drop] at hk ⊢
              omega
            subst hkk
            rw [List.take_length] at he0 ⊢
            rw [hN, if_neg (by simp [he0])]
            clear hN
            (repeat refine qb ?_); refine qa ?_
            repeat (first | refine zR ?_ | refine zK ?_ | refine zM ?_ | refine zB ?_ | refine zA ?_ | refine zS ?_ | refine zL ?_)
            refine qc ?_
            (repeat refine qb ?_); refine ql ?_
            (repeat refine qb ?_); refine qa ?_
            repeat (first | refine zR ?_ | refine zK ?_ | refine zM ?_ | refine zB ?_ | refine zA ?_ | refine zS ?_ | refine zL ?_)
            refine qc ?_
            (repeat refine qb ?_); refine qf rfl (fun h5 => ?_) (fun h5 => ?_)
            · cases h5
            · (repeat refine qb ?_); refine qa ?_
              repeat (first | refine zR ?_ | refine zK ?_ | refine zM ?_ | refine zB ?_ | refine zA ?_ | refine zS ?_ | refine zL ?_)
              refine qc ?_
              (repeat refine qb ?_); refine qf rfl (fun h6 => ?_) (fun h6 => ?_)
              · cases h6
              · (repeat refine qb ?_); refine qa ?_
                repeat (first | refine zR ?_ | refine zK ?_ | refine zM ?_ | refine zB ?_ | refine zA ?_ | refine zS ?_ | refine zL ?_)
                refine qc ?_
                (repeat refine qb ?_); refine qf rfl (fun h7 => ?_) (fun h7 => ?_)
                · cases h7
                · refine qm ?_
                  have e2 : lastS 13 (S.drop lo) = ⟨[], (qN 13 ((S.drop lo).map Itm.v)).1, (qN 13 ((S.drop lo).map Itm.v)).2⟩ := rfl
                  rw [e2]
                  (repeat refine qb ?_); refine qa ?_
                  repeat (first | refine zR ?_ | refine zK ?_ | refine zM ?_ | refine zB ?_ | refine zA ?_ | refine zS ?_ | refine zL ?_)
                  refine qn rfl (qg rfl rfl rfl rfl (call_h 13 ((S.drop lo).map Itm.v) (fun v hv => by obtain ⟨x, hx, rfl⟩ := List.mem_map.1 hv; exact (hS x (List.mem_of_mem_drop hx)).v)) rfl rfl ?_)
                  repeat (first | refine zR ?_ | refine zK ?_ | refine zM ?_ | refine zB ?_ | refine zA ?_ | refine zS ?_ | refine zL ?_)
                  refine qc ?_
                  generalize qN 13 ((S.drop lo).map Itm.v) = r
                  (repeat refine qb ?_); refine qa ?_
                  repeat (first | refine zR ?_ | refine zK ?_ | refine zM ?_ | refine zB ?_ | refine zA ?_ | refine zS ?_ | refine zL ?_)
                  refine qc ?_
                  (repeat refine qb ?_); refine qk ?_
                  exact ⟨Or.inr rfl, _, _, [(1000000, 1000000)], _, Wk.refl _, rfl, rfl, .p (CvL.agg (.cons (.nil 3) (.refl _))), rfl, rfl⟩
end Go.Proofs.YtppfcacnofjmdaaGreatDoor
namespace Go.Proofs.YtppfcacnofjmdaaGreatDoor
set_option linter.unusedVariables false
set_option linter.unusedSimpArgs false
open Go.RowKit
set_option maxHeartbeats 1000000
def stepR : Option (List Bool) → SV
  | some _ => .tup [.row 0, .p (pB true)]
  | none => .tup [.p (.v (.slice none 0 0)), .p (pB false)]
def stepO : Option (List Bool) → List (Nat × Box)
  | some l => [(0, .row 4 1 (jA l))]
  | none => []
theorem step_h (l : List Bool) (hl : l.length ≤ 1000000) (n : Nod) (hn : n.Fit) : zZ Tryz.prog 89 [.row 1000000, .p (.agg n.pv)] [(1000000, .row 4 1 (jA l))] (stepR (zy l n)) (stepO (zy l n)) := by
  have H1 := wants_h n.op
  cases hw : zu n.op with
  | none =>
    rw [hw] at H1
    simp only [Option.getD_none, Option.isSome_none] at H1
    have e : zy l n = none := by simp [zy, hw]
    rw [e]
    refine ja (ts := [4,5]) Tryz.func89 (by kernel_rfl) rfl rfl rfl ?_
    (repeat refine qb ?_); refine qa ?_
    repeat (first | refine zR ?_ | refine zK ?_ | refine zM ?_ | refine zB ?_ | refine zA ?_ | refine zS ?_ | refine zL ?_)
    refine qc ?_
    (repeat refine qb ?_); refine qa ?_
    repeat (first | refine zR ?_ | refine zK ?_ | refine zM ?_ | refine zB ?_ | refine zA ?_ | refine zS ?_ | refine zL ?_)
    refine qn rfl (qD rfl rfl rfl rfl (H1) rfl rfl rfl ?_)
    repeat (first | refine zR ?_ | refine zK ?_ | refine zM ?_ | refine zB ?_ | refine zA ?_ | refine zS ?_ | refine zL ?_)
    refine qc ?_
    (repeat refine qb ?_); refine qs (by kernel_rfl) ?_
    repeat (refine qr qe rfl (by exact True.intro) rfl ?_)
    refine zj rfl rfl rfl rfl (fields_h n hn) rfl rfl ?_
    repeat (refine qr qe rfl (by exact True.intro) rfl ?_)
    refine qQ ?_
    (repeat refine qb ?_); refine qf rfl (fun h => ?_) (fun h => ?_)
    · (repeat refine qb ?_); refine qa ?_
      repeat (first | refine zR ?_ | refine zK ?_ | refine zM ?_ | refine zB ?_ | refine zA ?_ | refine zS ?_ | refine zL ?_)
      refine qc ?_
      (repeat refine qb ?_); refine qk ?_
      exact ⟨Or.inr rfl, _, _, [], Wk.refl _, rfl, rfl, rfl, rfl⟩
    · simp at h
  | some w =>
    rw [hw] at H1
    simp only [Option.getD_some, Option.isSome_some] at H1
    have hwl : w.length ≤ 2 := by
      unfold zu at hw
      repeat' split at hw
      all_goals (cases hw; try simp)
    refine ja (ts := [4,5]) Tryz.func89 (by kernel_rfl) rfl rfl rfl ?_
    (repeat refine qb ?_); refine qa ?_
    repeat (first | refine zR ?_ | refine zK ?_ | refine zM ?_ | refine zB ?_ | refine zA ?_ | refine zS ?_ | refine zL ?_)
    refine qc ?_
    (repeat refine qb ?_); refine qa ?_
    repeat (first | refine zR ?_ | refine zK ?_ | refine zM ?_ | refine zB ?_ | refine zA ?_ | refine zS ?_ | refine zL ?_)
    refine qn rfl (qD rfl rfl rfl rfl (H1) rfl rfl rfl ?_)
    repeat (first | refine zR ?_ | refine zK ?_ | refine zM ?_ | refine zB ?_ | refine zA ?_ | refine zS ?_ | refine zL ?_)
    refine qc ?_
    (repeat refine qb ?_); refine qs (by kernel_rfl) ?_
    repeat (refine qr qe rfl (by exact True.intro) rfl ?_)
    refine zj rfl rfl rfl rfl (fields_h n hn) rfl rfl ?_
    repeat (refine qr qe rfl (by exact True.intro) rfl ?_)
    refine qQ ?_
    have ll : (jA l).length = l.length := by simp [jA]
    have lw : (jA w).length = w.length := by simp [jA]
    (repeat refine qb ?_); refine qf rfl (fun h => ?_) (fun h => ?_)
    · have e : zy l n = none := by
        simp only [zy, hw]
        rw [if_neg]
        intro ⟨h1, h2, _⟩
        simp [h1, ll, lw] at h
        omega
      rw [e]
      (repeat refine qb ?_); refine qa ?_
      repeat (first | refine zR ?_ | refine zK ?_ | refine zM ?_ | refine zB ?_ | refine zA ?_ | refine zS ?_ | refine zL ?_)
      refine qc ?_
      (repeat refine qb ?_); refine qk ?_
      exact ⟨Or.inr rfl, _, _, [], Wk.refl _, rfl, rfl, rfl, rfl⟩
    · have hf : ji n = true := by
        cases hq : ji n with
        | true => rfl
        | false => simp [hq] at h
      have hle : w.length ≤ l.length := by
        simp [hf, ll, lw] at h
        omega
      obtain ⟨left, hleft⟩ : ∃ left : Nat, left = l.length - w.length := ⟨_, rfl⟩
      refine qm ?_
      (repeat refine qb ?_); refine qa ?_
      repeat (first | refine zR ?_ | refine zK ?_ | refine zM ?_ | refine zB ?_ | refine zA ?_ | refine zS ?_ | refine zL ?_)
      refine qc ?_
      (repeat refine qb ?_); refine qa ?_
      repeat (first | refine zR ?_ | refine zK ?_ | refine zM ?_ | refine zB ?_ | refine zA ?_ | refine zS ?_ | refine zL ?_)
      refine qc ?_
      (repeat refine qb ?_); refine ql ?_
      refine SW.wk (qq [0, 3, 8, 36, 37, 38] [(1000000, 1000000), (3, 3)] rfl rfl) ?_
      refine qO (fun m s => ∃ (k : Nat) (kk L : Int), k ≤ w.length ∧ m = w.length - k ∧ kk = k ∧ L = left ∧ (l.drop left).take k = w.take k ∧ s = ⟨60, [(0, .row 1000000), (3, .ptr 3 0), (8, .p (pI L)), (36, .p (.sl 1 (jA w))), (37, .p (pI (jA w).length)), (38, .p (pI kk))], [(1000000, .row 4 1 (jA l)), (3, .cells (n.pv.map .p))]⟩) w.length ⟨0, 0, _, Nat.zero_le _, rfl, rfl, ?_, by simp, rfl⟩ ?_
      · show IntKind.i64.wrap (((jA l).length : Int) - (jA w).length) = _
        rw [ll, lw, IntWalk.i64_in _ (by omega)]; omega
      rintro m s ⟨k, _, _, hk, rfl, rfl, rfl, ha, rfl⟩
      (repeat refine qb ?_); refine qa ?_
      repeat (first | refine zR ?_ | refine zK ?_ | refine zM ?_ | refine zB ?_ | refine zA ?_ | refine zS ?_ | refine zL ?_)
      refine qc ?_
      (repeat refine qb ?_); refine qf rfl (fun hlt => ?_) (fun hlt => ?_)
      · refine qm ?_
        rw [lw] at hlt
        simp only [decide_eq_true_eq] at hlt
        have hlt' : k < w.length := by omega
        have hk2 : left + k < l.length := by omega
        (repeat refine qb ?_); refine ql ?_
        (repeat refine qb ?_); refine qa ?_
        repeat (first | refine zR ?_ | refine zK ?_ | refine zM ?_ | refine zB ?_ | refine zA ?_ | refine zS ?_ | refine zL ?_)
        refine qw qe rfl rfl (by rw [lw]; omega) rfl ?_
        rw [show (jA w).getD (Int.toNat (k : Int)) [] = [pB w[k]] from qJ hlt']
        repeat (first | refine zR ?_ | refine zK ?_ | refine zM ?_ | refine zB ?_ | refine zA ?_ | refine zS ?_ | refine zL ?_)
        refine qc ?_
        (repeat refine qb ?_); refine qa ?_
        repeat (first | refine zR ?_ | refine zK ?_ | refine zM ?_ | refine zB ?_ | refine zA ?_ | refine zS ?_ | refine zL ?_)
        have ew : IntKind.i64.wrap ((left : Int) + k) = ((left + k : Nat) : Int) := by rw [IntWalk.i64_in _ (by omega)]; omega
        rw [ew]
        refine qw qe rfl rfl (by rw [ll]; omega) rfl ?_
        repeat (first | refine zR ?_ | refine zK ?_ | refine zM ?_ | refine zB ?_ | refine zA ?_ | refine zS ?_ | refine zL ?_)
        refine qw qe rfl (za rfl rfl rfl rfl rfl (show (jA l).getD (Int.toNat ((left + k : Nat) : Int)) [] = [pB l[left + k]] from qJ hk2) rfl) (by rw [ll]; simp; omega) rfl ?_
        repeat (first | refine zR ?_ | refine zK ?_ | refine zM ?_ | refine zB ?_ | refine zA ?_ | refine zS ?_ | refine zL ?_)
        refine qc ?_
        (repeat refine qb ?_); refine qf rfl (fun hp => ?_) (fun hp => ?_)
        · have e : zy l n = none := by
            simp only [zy, hw]
            rw [if_neg]
            intro ⟨_, _, h3⟩
            rw [← hleft] at h3
            have h4 : w[k] = l[left + k] := by
              have := congrArg (fun x => x[k]?) h3
              simp only [List.getElem?_drop] at this
              rw [List.getElem?_eq_getElem hk2, List.getElem?_eq_getElem hlt'] at this
              exact (Option.some.inj this).symm
            rw [h4] at hp
            simp at hp
          rw [e]
          (repeat refine qb ?_); refine qa ?_
          repeat (first | refine zR ?_ | refine zK ?_ | refine zM ?_ | refine zB ?_ | refine zA ?_ | refine zS ?_ | refine zL ?_)
          refine qc ?_
          (repeat refine qb ?_); refine qk ?_
          exact ⟨Or.inr rfl, _, _, [], Wk.refl _, rfl, rfl, rfl, rfl⟩
        · refine qm ?_
          (repeat refine qb ?_); refine qa ?_
          repeat (first | refine zR ?_ | refine zK ?_ | refine zM ?_ | refine zB ?_ | refine zA ?_ | refine zS ?_ | refine zL ?_)
          refine qc ?_
          refine ⟨_, _, ?_, qq [0, 3, 8, 36, 37, 38] [(1000000, 1000000), (3, 3)] rfl rfl, k + 1, _, _, hlt', rfl, qz hlt' (by omega), rfl, ?_, rfl⟩
          · omega
          · have h4 : l[left + k] = w[k] := by simpa using hp
            rw [List.take_succ_eq_append_getElem hlt', List.take_succ_eq_append_getElem (by simp; omega), ha, List.getElem_drop, h4]
      · refine qK ?_
        rw [lw] at hlt
        simp only [decide_eq_false_iff_not] at hlt
        have hkk : k = w.length := by omega
        subst hkk
        have hd : l.drop left = w := by
          rw [List.take_length] at ha
          rw [← ha, List.take_of_length_le (by simp; omega)]
        have e : zy l n = some (l.take left ++ [decide (n.op = 2)]) := by
          simp only [zy, hw]
          rw [if_pos ⟨hf, hle, by rw [← hleft]; exact hd⟩, hleft]
        rw [e]
        (repeat refine qb ?_); refine zl [1000000] [(0, true), (1, true), (2, true), (3, true), (4, true), (5, true), (6, false), (7, false), (8, true), (9, true)] (by kernel_rfl) (by kernel_rfl) (by kernel_rfl) ?_
        repeat (first | refine yR ?_ | refine yK ?_ | refine yM ?_ | refine yB ?_ | refine yA ?_ | refine yS ?_ | refine yL ?_)
        refine zi qe rfl rfl rfl (by rw [ll]; omega) rfl ?_
        repeat (first | refine yR ?_ | refine yK ?_ | refine yM ?_ | refine yB ?_ | refine yA ?_ | refine yS ?_ | refine yL ?_)
        refine qak rfl rfl rfl (ActOk.shrink 54 999 rfl rfl rfl rfl (qp qe rfl rfl rfl rfl rfl rfl rfl rfl rfl rfl rfl rfl rfl rfl rfl rfl (by simp [reachBytes, jA]; omega) (by simp [jA]; omega) ?_))
        repeat (first | refine yR ?_ | refine yK ?_ | refine yM ?_ | refine yB ?_ | refine yA ?_ | refine yS ?_ | refine yL ?_)
        refine swm_nil ?_
        (repeat refine qb ?_); refine qk ?_
        have e2 : List.take (Int.toNat (left : Int)) (jA l) ++ [[pB (n.op == 2)]] = jA (l.take left ++ [decide (n.op = 2)]) := by
          have : (n.op == 2) = decide (n.op = 2) := by rw [Bool.eq_iff_iff]; simp
          rw [this]
          simp [jA, List.map_take]
        refine ⟨Or.inr rfl, _, _, [(59, 0)], Wk.refl _, rfl, rfl, ?_, rfl⟩
        show some [(0, Box.row 4 1 (List.take (Int.toNat (left : Int)) (jA l) ++ [[pB (n.op == 2)]]))] = _
        rw [e2]; rfl
theorem stepsS_some : ∀ {l : List Nod} {a m : List Bool} {k : Nat} (hk : k < l.length), qW a (l.take k) = some m → qW a (l.take (k + 1)) = zy m l[k]
  | n :: r, a, m, 0, _, h => by
    simp [qW] at h
    subst h
    simp only [Nat.zero_add, List.take_succ_cons, List.take_zero, qW, List.getElem_cons_zero]
    cases zy a n <;> rfl
  | n :: r, a, m, k + 1, hk, h => by
    rw [List.take_succ_cons, qW] at h ⊢
    cases hs : zy a n with
    | none => rw [hs] at h; cases h
    | some b =>
      rw [hs] at h
      simp only at h ⊢
      rw [stepsS_some (by simpa using hk) h]; rfl
theorem stepsS_none : ∀ {l : List Nod} {a : List Bool} (k : Nat), qW a (l.take k) = none → qW a l = none
  | [], a, k, h => by simp [qW] at h
  | n :: r, a, 0, h => by simp [qW] at h
  | n :: r, a, k + 1, h => by
    rw [List.take_succ_cons, qW] at h
    rw [qW]
    cases hs : zy a n with
    | none => rfl
    | some b => rw [hs] at h; simp only at h ⊢; exact stepsS_none k h
theorem stepS_len {l l' : List Bool} {n : Nod} (h : zy l n = some l') : l'.length ≤ l.length + 1 := by
  unfold zy at h
  split at h
  · cases h
  · split at h
    · cases h; simp
    · cases h
theorem expr_h (l : List Nod) (hf : ∀ x ∈ l, x.Fit) : Holds Tryz.prog 73 [qar l] (.p (pI (zo l))) [] := by
  refine qA (ts := [2]) Tryz.func73 (by kernel_rfl) rfl rfl rfl ?_
  refine sw_len (t := 0) (z := 7) (l := l.map Nod.pv) rfl fun hlen => ?_
  rw [List.length_map] at hlen
  unfold reachBytes at hlen
  have lm : (l.map Nod.pv).length = l.length := by simp
  (repeat refine qb ?_); refine qa ?_
  repeat (first | refine zR ?_ | refine zK ?_ | refine zM ?_ | refine zB ?_ | refine zA ?_ | refine zS ?_ | refine zL ?_)
  refine qc ?_
  (repeat refine qb ?_); refine qa ?_
  repeat (first | refine zR ?_ | refine zK ?_ | refine zM ?_ | refine zB ?_ | refine zA ?_ | refine zS ?_ | refine zL ?_)
  refine qc ?_
  rw [lm]
  (repeat refine qb ?_); refine qf rfl (fun h => ?_) (fun h => ?_)
  · (repeat refine qb ?_); refine qa ?_
    repeat (first | refine zR ?_ | refine zK ?_ | refine zM ?_ | refine zB ?_ | refine zA ?_ | refine zS ?_ | refine zL ?_)
    refine qc ?_
    (repeat refine qb ?_); refine qk ?_
    refine zg rfl ?_
    have h0 : 32 < l.length := by simp at h; omega
    simp [zo, h0]
  · have h0 : ¬ 32 < l.length := by simp at h; omega
    refine qm ?_
    (repeat refine qb ?_); refine qa ?_
    repeat (first | refine zR ?_ | refine zK ?_ | refine zM ?_ | refine zB ?_ | refine zA ?_ | refine zS ?_ | refine zL ?_)
    refine qc ?_
    (repeat refine qb ?_); refine qa ?_
    repeat (first | refine zR ?_ | refine zK ?_ | refine zM ?_ | refine zB ?_ | refine zA ?_ | refine zS ?_ | refine zL ?_)
    refine qc ?_
    (repeat refine qb ?_); refine qa ?_
    repeat (first | refine zR ?_ | refine zK ?_ | refine zM ?_ | refine zB ?_ | refine zA ?_ | refine zS ?_ | refine zL ?_)
    refine qc ?_
    (repeat refine qb ?_); refine ql ?_
    refine SW.wk (jP 3 900 4 1 rfl rfl) ?_
    refine SW.wk (qq [0, 3, 10, 11, 12] [(900, 0)] rfl rfl) ?_
    refine qO (fun m s => ∃ (k : Nat) (kk : Int) (made : List Bool), k ≤ l.length ∧ m = l.length - k ∧ kk = k ∧ qW [] (l.take k) = some made ∧ made.length ≤ k ∧ s = ⟨38, [(0, .p (qar l)), (3, .row 0), (10, .p (qar l)), (11, .p (pI l.length)), (12, .p (pI kk))], [(0, .row 4 1 (jA made))]⟩) l.length ⟨0, 0, [], Nat.zero_le _, rfl, rfl, by simp [qW], Nat.le_refl _, by rw [← lm]; rfl⟩ ?_
    rintro m s ⟨k, _, made, hk, rfl, rfl, ha, hml, rfl⟩
    (repeat refine qb ?_); refine qa ?_
    repeat (first | refine zR ?_ | refine zK ?_ | refine zM ?_ | refine zB ?_ | refine zA ?_ | refine zS ?_ | refine zL ?_)
    refine qc ?_
    (repeat refine qb ?_); refine qf rfl (fun hlt => ?_) (fun hlt => ?_)
    · refine qm ?_
      simp only [decide_eq_true_eq] at hlt
      have hlt' : k < l.length := by omega
      have hst := stepsS_some hlt' ha
      (repeat refine qb ?_); refine ql ?_
      (repeat refine qb ?_); refine qa ?_
      repeat (first | refine zR ?_ | refine zK ?_ | refine zM ?_ | refine zB ?_ | refine zA ?_ | refine zS ?_ | refine zL ?_)
      refine qw qe rfl rfl (by rw [lm]; omega) rfl ?_
      rw [qJ hlt']
      repeat (first | refine zR ?_ | refine zK ?_ | refine zM ?_ | refine zB ?_ | refine zA ?_ | refine zS ?_ | refine zL ?_)
      refine qc ?_
      have H := step_h made (by omega) l[k] (hf _ (List.getElem_mem hlt'))
      cases hs : zy made l[k] with
      | none =>
        rw [hs] at H
        (repeat refine qb ?_); refine qa ?_
        repeat (first | refine zR ?_ | refine zK ?_ | refine zM ?_ | refine zB ?_ | refine zA ?_ | refine zS ?_ | refine zL ?_)
        refine qn rfl (zr [(0, 1000000)] rfl rfl rfl rfl rfl rfl (H) rfl rfl rfl ?_)
        repeat (first | refine zR ?_ | refine zK ?_ | refine zM ?_ | refine zB ?_ | refine zA ?_ | refine zS ?_ | refine zL ?_)
        refine qc ?_
        (repeat refine qb ?_); refine qa ?_
        repeat (first | refine zR ?_ | refine zK ?_ | refine zM ?_ | refine zB ?_ | refine zA ?_ | refine zS ?_ | refine zL ?_)
        refine qc ?_
        (repeat refine qb ?_); refine qf rfl (fun h => ?_) (fun h => ?_)
        · (repeat refine qb ?_); refine qa ?_
          repeat (first | refine zR ?_ | refine zK ?_ | refine zM ?_ | refine zB ?_ | refine zA ?_ | refine zS ?_ | refine zL ?_)
          refine qc ?_
          (repeat refine qb ?_); refine qk ?_
          refine zg rfl ?_
          rw [zo, if_neg h0, stepsS_none (k + 1) (by rw [hst, hs])]
        · cases h
      | some l' =>
        rw [hs] at H
        (repeat refine qb ?_); refine qa ?_
        repeat (first | refine zR ?_ | refine zK ?_ | refine zM ?_ | refine zB ?_ | refine zA ?_ | refine zS ?_ | refine zL ?_)
        refine qn rfl (zr [(0, 1000000)] rfl rfl rfl rfl rfl rfl (H) rfl rfl rfl ?_)
        repeat (first | refine zR ?_ | refine zK ?_ | refine zM ?_ | refine zB ?_ | refine zA ?_ | refine zS ?_ | refine zL ?_)
        refine qc ?_
        (repeat refine qb ?_); refine qa ?_
        repeat (first | refine zR ?_ | refine zK ?_ | refine zM ?_ | refine zB ?_ | refine zA ?_ | refine zS ?_ | refine zL ?_)
        refine qc ?_
        (repeat refine qb ?_); refine qf rfl (fun h => ?_) (fun h => ?_)
        · cases h
        · refine qm ?_
          (repeat refine qb ?_); refine qa ?_
          repeat (first | refine zR ?_ | refine zK ?_ | refine zM ?_ | refine zB ?_ | refine zA ?_ | refine zS ?_ | refine zL ?_)
          refine qc ?_
          refine ⟨_, _, ?_, qq [0, 3, 10, 11, 12] [(20000, 0)] rfl rfl, k + 1, _, l', hlt', rfl, qz hlt' (by omega), by rw [hst, hs], ?_, rfl⟩
          · omega
          · have := stepS_len hs; omega
    · refine qK ?_
      simp only [decide_eq_false_iff_not] at hlt
      have hkk : k = l.length := by omega
      subst hkk
      rw [List.take_length] at ha
      have ex : zo l = if l = [] ∨ made = [false] then 0 else 1 := by rw [zo, if_neg h0, ha]
      cases l with
      | nil =>
        (repeat refine qb ?_); refine qa ?_
        repeat (first | refine zR ?_ | refine zK ?_ | refine zM ?_ | refine zB ?_ | refine zA ?_ | refine zS ?_ | refine zL ?_)
        refine qc ?_
        (repeat refine qb ?_); refine qf rfl (fun h => ?_) (fun h => ?_)
        · cases h
        · refine qm ?_
          (repeat refine qb ?_); refine qa ?_
          repeat (first | refine zR ?_ | refine zK ?_ | refine zM ?_ | refine zB ?_ | refine zA ?_ | refine zS ?_ | refine zL ?_)
          refine qc ?_
          (repeat refine qb ?_); refine qk ?_
          exact zg rfl (by rw [ex]; rfl)
      | cons n r =>
        (repeat refine qb ?_); refine qa ?_
        repeat (first | refine zR ?_ | refine zK ?_ | refine zM ?_ | refine zB ?_ | refine zA ?_ | refine zS ?_ | refine zL ?_)
        rw [show decide ((((n :: r).map Nod.pv).length : Int) > 0) = true by simp]
        repeat (first | refine zR ?_ | refine zK ?_ | refine zM ?_ | refine zB ?_ | refine zA ?_ | refine zS ?_ | refine zL ?_)
        by_cases h1 : made.length = 1
        · obtain ⟨b, rfl⟩ : ∃ b, made = [b] := List.length_eq_one_iff.1 h1
          repeat (first | refine zR ?_ | refine zK ?_ | refine zM ?_ | refine zB ?_ | refine zA ?_ | refine zS ?_ | refine zL ?_)
          refine qw qe rfl rfl (by simp [jA]) rfl ?_
          repeat (first | refine zR ?_ | refine zK ?_ | refine zM ?_ | refine zB ?_ | refine zA ?_ | refine zS ?_ | refine zL ?_)
          refine qw qe rfl rfl (by simp [jA]) rfl ?_
          repeat (first | refine zR ?_ | refine zK ?_ | refine zM ?_ | refine zB ?_ | refine zA ?_ | refine zS ?_ | refine zL ?_)
          refine qc ?_
          (repeat refine qb ?_); refine qf rfl (fun h => ?_) (fun h => ?_)
          · have hb : b = true := by simpa [jA] using h
            (repeat refine qb ?_); refine qa ?_
            repeat (first | refine zR ?_ | refine zK ?_ | refine zM ?_ | refine zB ?_ | refine zA ?_ | refine zS ?_ | refine zL ?_)
            refine qc ?_
            (repeat refine qb ?_); refine qk ?_
            exact zg rfl (by rw [ex, hb]; rfl)
          · have hb : b = false := by simpa [jA] using h
            refine qm ?_
            (repeat refine qb ?_); refine qa ?_
            repeat (first | refine zR ?_ | refine zK ?_ | refine zM ?_ | refine zB ?_ | refine zA ?_ | refine zS ?_ | refine zL ?_)
            refine qc ?_
            (repeat refine qb ?_); refine qk ?_
            exact zg rfl (by rw [ex, hb]; rfl)
        · rw [show (((jA made).length : Int) != 1) = true by simp [jA]; omega]
          repeat (first | refine zR ?_ | refine zK ?_ | refine zM ?_ | refine zB ?_ | refine zA ?_ | refine zS ?_ | refine zL ?_)
          refine qc ?_
          (repeat refine qb ?_); refine qf rfl (fun h => ?_) (fun h => ?_)
          · (repeat refine qb ?_); refine qa ?_
            repeat (first | refine zR ?_ | refine zK ?_ | refine zM ?_ | refine zB ?_ | refine zA ?_ | refine zS ?_ | refine zL ?_)
            refine qc ?_
            (repeat refine qb ?_); refine qk ?_
            exact zg rfl (by rw [ex, if_neg (by rintro (h | rfl); cases h; exact h1 rfl)])
          · cases h
end Go.Proofs.YtppfcacnofjmdaaGreatDoor
namespace Go.Proofs.YtppfcacnofjmdaaGreatDoor
set_option linter.unusedVariables false
set_option linter.unusedSimpArgs false
open Go.RowKit
set_option maxHeartbeats 4000000
theorem node_h (n : Nod) (S : List Itm) (lo : Nat) (g : List Giv) (hlo : lo + qL n.op = S.length) (hl : S.length ≤ 1000000) (hS : ∀ x ∈ S, x.Fit) (hgn : g.length ≤ 1000000) (hb : ∀ x ∈ g, x.bag.length ≤ 1000000) (hop : 1 ≤ n.op ∧ n.op ≤ 13) :
    zZ Tryz.prog 75 [.p (.agg n.pv), .view 1000000 5 lo S.length, .p (zP g)] (jz S) (.p (.agg (zc n (S.drop lo) g).pv)) (jz S) := by
  obtain ⟨op, val, attr⟩ := n
  simp only at hop hlo
  rcases (show op = 1 ∨ op = 2 ∨ op = 3 ∨ op = 4 ∨ op = 5 ∨ op = 6 ∨ op = 7 ∨ op = 8 ∨ op = 9 ∨ op = 10 ∨ op = 11 ∨ op = 12 ∨ op = 13 by omega) with rfl | rfl | rfl | rfl | rfl | rfl | rfl | rfl | rfl | rfl | rfl | rfl | rfl
  · exact node_lit val attr S lo g
  · exact node_attr val attr S lo g hgn hb
  · exact node_one_h val attr S lo g hlo hl
  · exact node_size_h val attr S lo g hlo hl
  · exact node_has_h val attr S lo g hlo hl hS
  · exact jE 6 (by omega) val attr S lo g hl (by omega) hS
  · exact jE 7 (by omega) val attr S lo g hl (by omega) hS
  · exact jE 8 (by omega) val attr S lo g hl (by omega) hS
  · exact jE 9 (by omega) val attr S lo g hl (by omega) hS
  · exact jE 10 (by omega) val attr S lo g hl (by omega) hS
  · exact jE 11 (by omega) val attr S lo g hl (by omega) hS
  · exact node_12_h val attr S lo g hl hlo hS
  · exact node_13_h val attr S lo g hl hlo hS
theorem stepS_op {l l' : List Bool} {n : Nod} (h : zy l n = some l') : (1 ≤ n.op ∧ n.op ≤ 13) ∧ qL n.op ≤ l.length := by
  unfold zy at h
  split at h
  · cases h
  · rename_i w hw
    split at h
    · rename_i hc
      have := operandsS_wants hw
      refine ⟨?_, by omega⟩
      unfold zu at hw
      repeat' split at hw
      all_goals first | omega | cases hw
    · cases h
theorem value_h (l : List Nod) (g : List Giv) (hf : ∀ x ∈ l, x.Fit) (hgf : ∀ x ∈ g, x.Fit) (hgn : g.length ≤ 1000000) (hb : ∀ x ∈ g, x.bag.length ≤ 1000000) : Holds Tryz.prog 59 [qar l, zP g] (.tup [.p (.agg (zk l g).1.pv), .p (pI (zk l g).2)]) [] := by
  refine .ofW ?_
  by_cases hl0 : l = []
  · subst hl0
    have e : zk [] g = (noVal, 1) := rfl
    rw [e]
    refine qR (T := TTab) qe Tryz.func59 (by kernel_rfl) rfl rfl rfl ?_
    (repeat refine qb ?_); refine qa ?_
    repeat (first | refine zR ?_ | refine zK ?_ | refine zM ?_ | refine zB ?_ | refine zA ?_ | refine zS ?_ | refine zL ?_)
    refine qc ?_
    (repeat refine qb ?_); refine qa ?_
    repeat (first | refine zR ?_ | refine zK ?_ | refine zM ?_ | refine zB ?_ | refine zA ?_ | refine zS ?_ | refine zL ?_)
    refine qc ?_
    (repeat refine qb ?_); refine qf rfl (fun h => ?_) (fun h => ?_)
    · (repeat refine qb ?_); refine qa ?_
      repeat (first | refine zR ?_ | refine zK ?_ | refine zM ?_ | refine zB ?_ | refine zA ?_ | refine zS ?_ | refine zL ?_)
      refine qc ?_
      (repeat refine qb ?_); refine qk ?_
      exact ⟨Or.inr rfl, _, _, [], _, Wk.refl _, rfl, rfl, .refl _, rfl, rfl⟩
    · cases h
  · have lm : (l.map Nod.pv).length = l.length := by simp
    have hpos : 0 < l.length := List.length_pos_iff.2 hl0
    refine qR (T := TTab) qe Tryz.func59 (by kernel_rfl) rfl rfl rfl ?_
    (repeat refine qb ?_); refine qa ?_
    repeat (first | refine zR ?_ | refine zK ?_ | refine zM ?_ | refine zB ?_ | refine zA ?_ | refine zS ?_ | refine zL ?_)
    refine qc ?_
    (repeat refine qb ?_); refine qa ?_
    repeat (first | refine zR ?_ | refine zK ?_ | refine zM ?_ | refine zB ?_ | refine zA ?_ | refine zS ?_ | refine zL ?_)
    rw [show (((l.map Nod.pv).length : Int) == 0) = false by rw [lm]; simp; exact hl0]
    repeat (first | refine zR ?_ | refine zK ?_ | refine zM ?_ | refine zB ?_ | refine zA ?_ | refine zS ?_ | refine zL ?_)
    refine qn rfl (qg rfl rfl rfl rfl (expr_h l hf) rfl rfl ?_)
    repeat (first | refine zR ?_ | refine zK ?_ | refine zM ?_ | refine zB ?_ | refine zA ?_ | refine zS ?_ | refine zL ?_)
    refine qc ?_
    (repeat refine qb ?_); refine qf rfl (fun h => ?_) (fun h => ?_)
    · have h0 : zo l ≠ 0 := by simpa using h
      have e : zk l g = (noVal, 1) := by unfold zk; rw [if_pos (.inr h0)]
      rw [e]
      (repeat refine qb ?_); refine qa ?_
      repeat (first | refine zR ?_ | refine zK ?_ | refine zM ?_ | refine zB ?_ | refine zA ?_ | refine zS ?_ | refine zL ?_)
      refine qc ?_
      (repeat refine qb ?_); refine qk ?_
      exact ⟨Or.inr rfl, _, _, [], _, Wk.refl _, rfl, rfl, .refl _, rfl, rfl⟩
    · have h0 : zo l = 0 := by simpa using h
      obtain ⟨hst, hl32⟩ := wd h0 hl0
      refine qm ?_
      (repeat refine qb ?_); refine qa ?_
      repeat (first | refine zR ?_ | refine zK ?_ | refine zM ?_ | refine zB ?_ | refine zA ?_ | refine zS ?_ | refine zL ?_)
      refine qc ?_
      (repeat refine qb ?_); refine qa ?_
      repeat (first | refine zR ?_ | refine zK ?_ | refine zM ?_ | refine zB ?_ | refine zA ?_ | refine zS ?_ | refine zL ?_)
      refine qc ?_
      (repeat refine qb ?_); refine ql ?_
      refine SW.wk (jP 6 900 115 5 rfl rfl) ?_
      refine SW.wk (qq [1, 4, 5, 6, 19, 20, 21] [(4, 4), (900, 0)] rfl rfl) ?_
      refine qO (fun m s => ∃ (k : Nat) (kk : Int) (S : List Itm) (made : List Bool), k ≤ l.length ∧ m = l.length - k ∧ kk = k ∧ S = jV g (l.take k) ∧ qW [] (l.take k) = some made ∧ S.length = made.length ∧ made.length ≤ k ∧ (∀ x ∈ S, x.Fit) ∧ s = ⟨51, [(1, .p (zP g)), (4, .ptr 4 0), (5, .p (pI 0)), (6, .row 0), (19, .p (qar l)), (20, .p (pI (l.map Nod.pv).length)), (21, .p (pI kk))], [(4, .cells (noVal.pv.map .p)), (0, .row 115 5 (S.map Itm.pv))]⟩) l.length ⟨0, 0, [], [], Nat.zero_le _, rfl, rfl, rfl, by simp [qW], rfl, Nat.le_refl _, by simp, rfl⟩ ?_
      rintro m s ⟨k, _, S, made, hk, rfl, rfl, hSe, ha, hSl, hml, hS, rfl⟩
      (repeat refine qb ?_); refine qa ?_
      repeat (first | refine zR ?_ | refine zK ?_ | refine zM ?_ | refine zB ?_ | refine zA ?_ | refine zS ?_ | refine zL ?_)
      refine qc ?_
      (repeat refine qb ?_); refine qf rfl (fun hlt => ?_) (fun hlt => ?_)
      · refine qm ?_
        rw [lm] at hlt
        simp only [decide_eq_true_eq] at hlt
        have hlt' : k < l.length := by omega
        have hst2 := stepsS_some hlt' ha
        cases hs : zy made l[k] with
        | none =>
          rw [hs] at hst2
          rw [stepsS_none (k + 1) hst2] at hst
          cases hst
        | some made' =>
          rw [hs] at hst2
          obtain ⟨hop, hopl⟩ := stepS_op hs
          obtain ⟨hSl', _⟩ := stepI_len (g := g) hSl hs
          have lmS : (S.map Itm.pv).length = S.length := by simp
          obtain ⟨left, hleft⟩ : ∃ left : Nat, left + qL l[k].op = S.length := ⟨S.length - qL l[k].op, by omega⟩
          have hml' := stepS_len hs
          (repeat refine qb ?_); refine ql ?_
          (repeat refine qb ?_); refine qa ?_
          repeat (first | refine zR ?_ | refine zK ?_ | refine zM ?_ | refine zB ?_ | refine zA ?_ | refine zS ?_ | refine zL ?_)
          refine qw qe rfl rfl (by rw [lm]; omega) rfl ?_
          rw [qJ hlt']
          repeat (first | refine zR ?_ | refine zK ?_ | refine zM ?_ | refine zB ?_ | refine zA ?_ | refine zS ?_ | refine zL ?_)
          refine qc ?_
          (repeat refine qb ?_); refine qa ?_
          repeat (first | refine zR ?_ | refine zK ?_ | refine zM ?_ | refine zB ?_ | refine zA ?_ | refine zS ?_ | refine zL ?_)
          refine qn rfl (qg rfl rfl rfl rfl (operands_h l[k].op) rfl rfl ?_)
          repeat (first | refine zR ?_ | refine zK ?_ | refine zM ?_ | refine zB ?_ | refine zA ?_ | refine zS ?_ | refine zL ?_)
          rw [show IntKind.i64.wrap (((S.map Itm.pv).length : Int) - (qL l[k].op : Int)) = (left : Int) by rw [lmS, IntWalk.i64_in _ (by omega)]; omega]
          refine qc ?_
          (repeat refine qb ?_); refine zl [0] [(0, true), (1, true), (2, true), (3, true), (4, true), (5, true), (6, true), (7, true), (8, false), (9, false), (10, false), (11, true)] (by kernel_rfl) (by kernel_rfl) (by kernel_rfl) ?_
          repeat (first | refine yR ?_ | refine yK ?_ | refine yM ?_ | refine yB ?_ | refine yA ?_ | refine yS ?_ | refine yL ?_)
          refine zi qe rfl rfl rfl (by rw [lmS]; omega) rfl ?_
          repeat (first | refine yR ?_ | refine yK ?_ | refine yM ?_ | refine yB ?_ | refine yA ?_ | refine yS ?_ | refine yL ?_)
          refine zi qe rfl rfl rfl (by rw [lmS]; omega) rfl ?_
          rw [lmS]
          repeat (first | refine yR ?_ | refine yK ?_ | refine yM ?_ | refine yB ?_ | refine yA ?_ | refine yS ?_ | refine yL ?_)
          refine qak rfl rfl rfl (zr [(0, 1000000)] rfl rfl rfl rfl rfl rfl (node_h l[k] S left g hleft (by omega) hS hgn hb hop) rfl rfl rfl ?_)
          repeat (first | refine yR ?_ | refine yK ?_ | refine yM ?_ | refine yB ?_ | refine yA ?_ | refine yS ?_ | refine yL ?_)
          refine qak rfl rfl rfl (ActOk.shrink 33 999 rfl rfl rfl rfl (qp qe rfl rfl rfl rfl rfl rfl rfl rfl rfl rfl rfl rfl rfl rfl rfl rfl (by simp only [List.length_append, List.length_take, List.length_map]; unfold reachBytes; simp; omega) (by simp only [List.length_append, List.length_take, List.length_map]; simp; omega) ?_))
          repeat (first | refine yR ?_ | refine yK ?_ | refine yM ?_ | refine yB ?_ | refine yA ?_ | refine yS ?_ | refine yL ?_)
          refine swm_nil ?_
          (repeat refine qb ?_); refine qa ?_
          repeat (first | refine zR ?_ | refine zK ?_ | refine zM ?_ | refine zB ?_ | refine zA ?_ | refine zS ?_ | refine zL ?_)
          refine qc ?_
          have hdrop : S.length - qL l[k].op = left := by omega
          refine ⟨_, _, ?_, qq [1, 4, 5, 6, 19, 20, 21] [(4, 4), (41, 0)] rfl rfl, k + 1, _, zJ g S l[k], made', hlt', rfl, qz hlt' (by omega), ?_, hst2, hSl', by omega, ?_, ?_⟩
          · omega
          · rw [hSe]; exact (foldl_take_succ (zJ g) [] l k hlt').symm
          · intro x hx
            unfold zJ at hx
            rcases List.mem_append.1 hx with hx | hx
            · exact hS x (List.mem_of_mem_take hx)
            · rw [List.mem_singleton] at hx
              subst hx
              exact nodeS_fit (hf _ (List.getElem_mem hlt')) (fun x hx => hS x (List.mem_of_mem_drop hx)) hgf hb
          · have e3 : (zJ g S l[k]).map Itm.pv = (S.map Itm.pv).take left ++ [(zc l[k] (S.drop left) g).pv] := by
              unfold zJ
              rw [hdrop, List.map_append, List.map_take]; rfl
            rw [e3]; rfl
      · refine qK ?_
        rw [lm] at hlt
        simp only [decide_eq_false_iff_not] at hlt
        have hkk : k = l.length := by omega
        subst hkk
        rw [List.take_length] at hSe
        obtain ⟨x, hx⟩ := evalI_one (g := g) h0 hl0
        rw [hx] at hSe
        subst hSe
        rw [zp h0 hl0 hx]
        (repeat refine qb ?_); refine zl [4] [(0, true), (1, true), (2, true), (3, true), (4, true), (5, true), (6, true), (7, true), (8, false), (9, true)] (by kernel_rfl) (by kernel_rfl) (by kernel_rfl) ?_
        repeat (first | refine yR ?_ | refine yK ?_ | refine yM ?_ | refine yB ?_ | refine yA ?_ | refine yS ?_ | refine yL ?_)
        refine zi qe rfl rfl rfl (by simp) rfl ?_
        repeat (first | refine yR ?_ | refine yK ?_ | refine yM ?_ | refine yB ?_ | refine yA ?_ | refine yS ?_ | refine yL ?_)
        refine zi qe rfl rfl (za rfl rfl rfl rfl rfl (show ([x].map Itm.pv).getD (Int.toNat 0) [] = x.pv from rfl) rfl) (by simp) rfl ?_
        repeat (first | refine yR ?_ | refine yK ?_ | refine yM ?_ | refine yB ?_ | refine yA ?_ | refine yS ?_ | refine yL ?_)
        refine zi qe rfl rfl rfl (by simp) rfl ?_
        repeat (first | refine yR ?_ | refine yK ?_ | refine yM ?_ | refine yB ?_ | refine yA ?_ | refine yS ?_ | refine yL ?_)
        refine zi qe rfl rfl (za rfl rfl rfl rfl rfl (show ([x].map Itm.pv).getD (Int.toNat 0) [] = x.pv from rfl) rfl) (by simp) rfl ?_
        repeat (first | refine yR ?_ | refine yK ?_ | refine yM ?_ | refine yB ?_ | refine yA ?_ | refine yS ?_ | refine yL ?_)
        refine swm_nil ?_
        (repeat refine qb ?_); refine qk ?_
        exact ⟨Or.inr rfl, _, _, [], _, Wk.refl _, rfl, rfl, .refl _, rfl, rfl⟩
theorem cond_h (l : List Nod) (g : List Giv) (hf : ∀ x ∈ l, x.Fit) (hgf : ∀ x ∈ g, x.Fit) (hgn : g.length ≤ 1000000) (hb : ∀ x ∈ g, x.bag.length ≤ 1000000) : Holds Tryz.prog 34 [qar l, zP g] (.p (pI (qam l g))) [] := by
  by_cases hl0 : l = []
  · subst hl0
    refine qA (ts := [4]) Tryz.func34 (by kernel_rfl) rfl rfl rfl ?_
    (repeat refine qb ?_); refine qa ?_
    repeat (first | refine zR ?_ | refine zK ?_ | refine zM ?_ | refine zB ?_ | refine zA ?_ | refine zS ?_ | refine zL ?_)
    refine qc ?_
    (repeat refine qb ?_); refine qa ?_
    repeat (first | refine zR ?_ | refine zK ?_ | refine zM ?_ | refine zB ?_ | refine zA ?_ | refine zS ?_ | refine zL ?_)
    refine qc ?_
    (repeat refine qb ?_); refine qf rfl (fun h => ?_) (fun h => ?_)
    · (repeat refine qb ?_); refine qa ?_
      repeat (first | refine zR ?_ | refine zK ?_ | refine zM ?_ | refine zB ?_ | refine zA ?_ | refine zS ?_ | refine zL ?_)
      refine qc ?_
      (repeat refine qb ?_); refine qk ?_
      exact zg rfl rfl
    · cases h
  · have lm : (l.map Nod.pv).length = l.length := by simp
    have e : qam l g = ww (zk l g) := by unfold qam; rw [if_neg hl0]
    have H := value_h l g hf hgf hgn hb
    rw [e]
    generalize zk l g = r at *
    refine qA (ts := [4]) Tryz.func34 (by kernel_rfl) rfl rfl rfl ?_
    (repeat refine qb ?_); refine qa ?_
    repeat (first | refine zR ?_ | refine zK ?_ | refine zM ?_ | refine zB ?_ | refine zA ?_ | refine zS ?_ | refine zL ?_)
    refine qc ?_
    (repeat refine qb ?_); refine qa ?_
    repeat (first | refine zR ?_ | refine zK ?_ | refine zM ?_ | refine zB ?_ | refine zA ?_ | refine zS ?_ | refine zL ?_)
    rw [show (((l.map Nod.pv).length : Int) == 0) = false by rw [lm]; simp; exact hl0]
    repeat (first | refine zR ?_ | refine zK ?_ | refine zM ?_ | refine zB ?_ | refine zA ?_ | refine zS ?_ | refine zL ?_)
    refine qc ?_
    (repeat refine qb ?_); refine qf rfl (fun h => ?_) (fun h => ?_)
    · cases h
    · refine qm ?_
      (repeat refine qb ?_); refine qa ?_
      repeat (first | refine zR ?_ | refine zK ?_ | refine zM ?_ | refine zB ?_ | refine zA ?_ | refine zS ?_ | refine zL ?_)
      refine qn rfl (qg rfl rfl rfl rfl (H) rfl rfl ?_)
      repeat (first | refine zR ?_ | refine zK ?_ | refine zM ?_ | refine zB ?_ | refine zA ?_ | refine zS ?_ | refine zL ?_)
      refine qc ?_
      (repeat refine qb ?_); refine qa ?_
      repeat (first | refine zR ?_ | refine zK ?_ | refine zM ?_ | refine zB ?_ | refine zA ?_ | refine zS ?_ | refine zL ?_)
      refine qc ?_
      (repeat refine qb ?_); refine ql ?_
      (repeat refine qb ?_); refine qa ?_
      repeat (first | refine zR ?_ | refine zK ?_ | refine zM ?_ | refine zB ?_ | refine zA ?_ | refine zS ?_ | refine zL ?_)
      refine qn rfl (qg rfl rfl rfl rfl ((is_h ⟨[], r.1, r.2⟩ 1).cv (.cons (CvL.agg (.cons (.nil 3) (.refl _))) (.refl _))) rfl rfl ?_)
      repeat (first | refine zR ?_ | refine zK ?_ | refine zM ?_ | refine zB ?_ | refine zA ?_ | refine zS ?_ | refine zL ?_)
      refine qc ?_
      (repeat refine qb ?_); refine qf rfl (fun h1 => ?_) (fun h1 => ?_)
      · (repeat refine qb ?_); refine qa ?_
        repeat (first | refine zR ?_ | refine zK ?_ | refine zM ?_ | refine zB ?_ | refine zA ?_ | refine zS ?_ | refine zL ?_)
        refine qc ?_
        (repeat refine qb ?_); refine qk ?_
        exact zg rfl (by unfold ww; rw [h1]; rfl)
      · (repeat refine qb ?_); refine qa ?_
        repeat (first | refine zR ?_ | refine zK ?_ | refine zM ?_ | refine zB ?_ | refine zA ?_ | refine zS ?_ | refine zL ?_)
        refine qn rfl (qg rfl rfl rfl rfl ((is_h ⟨[], r.1, r.2⟩ 0).cv (.cons (CvL.agg (.cons (.nil 3) (.refl _))) (.refl _))) rfl rfl ?_)
        repeat (first | refine zR ?_ | refine zK ?_ | refine zM ?_ | refine zB ?_ | refine zA ?_ | refine zS ?_ | refine zL ?_)
        refine qc ?_
        (repeat refine qb ?_); refine qf rfl (fun h2 => ?_) (fun h2 => ?_)
        · (repeat refine qb ?_); refine qa ?_
          repeat (first | refine zR ?_ | refine zK ?_ | refine zM ?_ | refine zB ?_ | refine zA ?_ | refine zS ?_ | refine zL ?_)
          refine qc ?_
          (repeat refine qb ?_); refine qk ?_
          exact zg rfl (by unfold ww; rw [h1, h2]; rfl)
        · refine qm ?_
          (repeat refine qb ?_); refine qa ?_
          repeat (first | refine zR ?_ | refine zK ?_ | refine zM ?_ | refine zB ?_ | refine zA ?_ | refine zS ?_ | refine zL ?_)
          refine qc ?_
          (repeat refine qb ?_); refine qk ?_
          exact zg rfl (by unfold ww; rw [h1, h2]; rfl)
end Go.Proofs.YtppfcacnofjmdaaGreatDoor
namespace Go.Proofs.YtppfcacnofjmdaaGreatDoor
set_option linter.unusedVariables false
set_option linter.unusedSimpArgs false
def Wlk.le (w v : Wlk) : Prop := (∀ s, hasS w.met s = true → hasS v.met s = true) ∧ w.rules ≤ v.rules
theorem Wlk.le_refl (w : Wlk) : w.le w := ⟨fun _ h => h, Int.le_refl _⟩
theorem hasS_snoc (m : List ByteArray) (s t : ByteArray) : hasS (m ++ [s]) t = (hasS m t || decide (t = s)) := by simp [hasS]
theorem Wlk.le_snoc {w v : Wlk} (h : w.le v) (s : ByteArray) {a b : Int} (hab : a ≤ b) : Wlk.le ⟨w.met ++ [s], a⟩ ⟨v.met ++ [s], b⟩ := by
  refine ⟨fun t ht => ?_, hab⟩
  simp only [hasS_snoc, Bool.or_eq_true] at ht ⊢
  exact ht.imp (h.1 t) id
theorem nameOk_le {w v : Wlk} (h : w.le v) {s : ByteArray} (hs : zO v.met s = true) : zO w.met s = true := by
  unfold zO at hs ⊢
  simp only [Bool.and_eq_true, Bool.not_eq_true'] at hs ⊢
  refine ⟨?_, hs.2⟩
  cases hw : hasS w.met s with
  | false => rfl
  | true => rw [h.1 s hw] at hs; cases hs.1
theorem ruleS_le {w v : Wlk} (h : w.le v) {r : Rul} (h0 : (zq v r).1 = 0) : (zq w r).1 = 0 ∧ (zq w r).2.le (zq v r).2 := by
  unfold zq at h0 ⊢
  by_cases hv : zO v.met r.id = true
  · have hw := nameOk_le h hv
    rw [if_pos hv] at h0 ⊢
    rw [if_pos hw]
    have h2 := h.2
    simp only at h0 ⊢
    by_cases h64 : 64 < v.rules + 1
    · rw [if_pos h64] at h0; cases h0
    · rw [if_neg h64] at h0
      rw [if_neg (by omega)]
      exact ⟨h0, Wlk.le_snoc h r.id (by omega)⟩
  · rw [if_neg hv] at h0; cases h0
theorem headS_le {w v : Wlk} (h : w.le v) {p : Pol} (h0 : (zF v p).1 = 0) : (zF w p).1 = 0 ∧ (zF w p).2.le (zF v p).2 := by
  unfold zF at h0 ⊢
  by_cases hv : zO v.met p.id = true
  · have hw := nameOk_le h hv
    simp only [hv, hw, Bool.true_and, nameM, if_true] at h0 ⊢
    exact ⟨h0, Wlk.le_snoc h p.id h.2⟩
  · simp [hv] at h0
theorem seqS_le {α : Type} {f f' : Wlk → α → Int × Wlk} (hf : ∀ w v x, w.le v → (f v x).1 = 0 → (f' w x).1 = 0 ∧ (f' w x).2.le (f v x).2) : ∀ {l : List α} {w v : Wlk}, w.le v → (seqS f v l).1 = 0 → (seqS f' w l).1 = 0 ∧ (seqS f' w l).2.le (seqS f v l).2
  | [], w, v, h, _ => ⟨rfl, h⟩
  | x :: r, w, v, h, h0 => by
    rw [seqS] at h0 ⊢
    rw [seqS]
    by_cases hx : (f v x).1 = 0
    · rw [if_pos hx] at h0 ⊢
      obtain ⟨h1, h2⟩ := hf w v x h hx
      rw [if_pos h1]
      exact seqS_le hf h2 h0
    · rw [if_neg hx] at h0; exact absurd h0 hx
theorem polS_le : ∀ {n m : Nat} (_ : n ≤ m) {w v : Wlk} {p : Pol}, w.le v → (polS n v p).1 = 0 → (polS m w p).1 = 0 ∧ (polS m w p).2.le (polS n v p).2
  | 0, m, _, w, v, p, h, h0 => by rw [polS] at h0; cases h0
  | n + 1, 0, hnm, _, _, _, _, _ => by omega
  | n + 1, m + 1, hnm, w, v, p, h, h0 => by
    rw [polS] at h0 ⊢
    rw [polS]
    by_cases h1 : (zF v p).1 = 0
    · rw [if_pos h1] at h0 ⊢
      obtain ⟨g1, g2⟩ := headS_le h h1
      rw [if_pos g1]
      by_cases h2 : (seqS zq (zF v p).2 p.rules).1 = 0
      · rw [if_pos h2] at h0 ⊢
        obtain ⟨k1, k2⟩ := seqS_le (f := zq) (f' := zq) (fun w v x h h0 => ruleS_le h h0) g2 h2
        rw [if_pos k1]
        exact seqS_le (f := polS n) (f' := polS m) (fun w v x h h0 => polS_le (by omega) h h0) k2 h0
      · rw [if_neg h2] at h0; exact absurd h0 h2
    · rw [if_neg h1] at h0; exact absurd h0 h1
theorem seqS_each {α : Type} {f : Wlk → α → Int × Wlk} {Q : α → Prop} (hf : ∀ w x, (f w x).1 = 0 → Q x) : ∀ {l : List α} {w : Wlk}, (seqS f w l).1 = 0 → ∀ x ∈ l, Q x
  | [], w, _, x, hx => by simp at hx
  | y :: r, w, h0, x, hx => by
    rw [seqS] at h0
    by_cases hy : (f w y).1 = 0
    · rw [if_pos hy] at h0
      rcases List.mem_cons.1 hx with rfl | hx
      · exact hf w _ hy
      · exact seqS_each hf h0 x hx
    · rw [if_neg hy] at h0; exact absurd h0 hy
theorem le_start (w : Wlk) (h : 0 ≤ w.rules) : Wlk.le ⟨[], 0⟩ w := ⟨fun s hs => by simp [hasS] at hs, h⟩
theorem ruleS_lim {w : Wlk} {r : Rul} (hw : 0 ≤ w.rules ∧ w.rules ≤ 64) (h : (zq w r).1 = 0) : 0 ≤ (zq w r).2.rules ∧ (zq w r).2.rules ≤ 64 := by
  unfold zq at h ⊢
  split at h
  · rename_i hn
    rw [if_pos hn]
    simp only at h ⊢
    split at h
    · cases h
    · omega
  · cases h
theorem jI {α : Type} {f : Wlk → α → Int × Wlk} {P : Wlk → Prop} (hf : ∀ w x, P w → (f w x).1 = 0 → P (f w x).2) : ∀ {l : List α} {w : Wlk}, P w → (seqS f w l).1 = 0 → P (seqS f w l).2
  | [], w, hw, _ => hw
  | x :: r, w, hw, h => by
    rw [seqS] at h ⊢
    by_cases h0 : (f w x).1 = 0
    · rw [if_pos h0] at h ⊢
      exact jI hf (hf w x hw h0) h
    · rw [if_neg h0] at h; exact absurd h h0
abbrev lim (w : Wlk) : Prop := 0 ≤ w.rules ∧ w.rules ≤ 64
theorem polS_lim : ∀ (n : Nat) (w : Wlk) (p : Pol), lim w → (polS n w p).1 = 0 → lim (polS n w p).2
  | 0, w, p, _, h => by cases h
  | n + 1, w, p, hw, h => by
    have h1 : lim (zF w p).2 := hw
    rw [polS] at h ⊢
    split at h
    · rename_i h2
      rw [if_pos h2]
      split at h
      · rename_i h3
        rw [if_pos h3]
        exact jI (P := lim) (fun w x hw h => polS_lim n w x hw h) (jI (P := lim) (fun w x hw h => ruleS_lim hw h) h1 h3) h
      · rename_i h3; exact absurd h h3
    · rename_i h2; exact absurd h h2
end Go.Proofs.YtppfcacnofjmdaaGreatDoor
namespace Go.Proofs.YtppfcacnofjmdaaGreatDoor
set_option linter.unusedVariables false
set_option linter.unusedSimpArgs false
open Go.RowKit
mutual
def Pol.nr : Pol → Nat
  | .mk _ _ _ _ rs ks _ => rs.length + Pol.nrs ks
def Pol.nrs : List Pol → Nat
  | [] => 0
  | k :: ks => k.nr + Pol.nrs ks
end
theorem Pol.nrs_eq : ∀ l : List Pol, Pol.nrs l = qT Pol.nr l
  | [] => rfl
  | k :: ks => by simp [Pol.nrs, qT, Pol.nrs_eq ks]
theorem Pol.nr_eq (p : Pol) : p.nr = p.rules.length + qT Pol.nr p.kids := by
  cases p; rw [← Pol.nrs_eq]; rfl
theorem seqS_count {α : Type} {f : Wlk → α → Int × Wlk} {c : α → Nat} (hf : ∀ w x, (f w x).1 = 0 → (f w x).2.rules = w.rules + c x) : ∀ {l : List α} {w : Wlk}, (seqS f w l).1 = 0 → (seqS f w l).2.rules = w.rules + qT c l
  | [], w, _ => by simp [seqS, qT]
  | x :: r, w, h => by
    rw [seqS] at h ⊢
    by_cases h0 : (f w x).1 = 0
    · rw [if_pos h0] at h ⊢
      rw [seqS_count hf h, hf w x h0]
      simp [qT]; omega
    · rw [if_neg h0] at h; exact absurd h h0
theorem ruleS_count (w : Wlk) (r : Rul) (h : (zq w r).1 = 0) : (zq w r).2.rules = w.rules + (1 : Nat) := by
  unfold zq at h ⊢
  split at h
  · rename_i hn; rw [if_pos hn]; rfl
  · cases h
theorem sumBy_one {α : Type} : ∀ l : List α, qT (fun _ => 1) l = l.length
  | [] => rfl
  | x :: r => by have := sumBy_one r; unfold qT at this ⊢; simp; omega
theorem sumBy_take {α : Type} (f : α → Nat) (l : List α) (k : Nat) : qT f (l.take k) ≤ qT f l := by
  have h : qT f (l.take k ++ l.drop k) = qT f (l.take k) + qT f (l.drop k) := by simp only [qT, List.map_append, List.sum_append]
  rw [List.take_append_drop] at h
  omega
theorem polS_count : ∀ (n : Nat) (w : Wlk) (p : Pol), (polS n w p).1 = 0 → (polS n w p).2.rules = w.rules + p.nr
  | 0, w, p, h => by cases h
  | n + 1, w, p, h => by
    have h1 : (zF w p).2.rules = w.rules := rfl
    rw [polS] at h ⊢
    rw [Pol.nr_eq]
    split at h
    · rename_i h2
      rw [if_pos h2]
      split at h
      · rename_i h3
        rw [if_pos h3, seqS_count (c := Pol.nr) (fun w x h => polS_count n w x h) h, seqS_count (c := fun _ => 1) ruleS_count h3, h1, sumBy_one]
        omega
      · rename_i h3; exact absurd h h3
    · rename_i h2; exact absurd h h2
def Dp : Nat → Pol → Prop
  | 0, _ => False
  | n + 1, p => ∀ k ∈ p.kids, Dp n k
theorem wj {n : Nat} {w : Wlk} {p : Pol} (h : (polS (n + 1) w p).1 = 0) : (zF w p).1 = 0 ∧ (seqS zq (zF w p).2 p.rules).1 = 0 ∧ (seqS (polS n) (seqS zq (zF w p).2 p.rules).2 p.kids).1 = 0 := by
  rw [polS] at h
  split at h
  · rename_i h2
    split at h
    · rename_i h3; exact ⟨h2, h3, h⟩
    · rename_i h3; exact absurd h h3
  · rename_i h2; exact absurd h h2
theorem polS_dp : ∀ (n : Nat) {w : Wlk} {p : Pol}, (polS n w p).1 = 0 → Dp n p
  | 0, w, p, h => by cases h
  | n + 1, w, p, h => seqS_each (fun w x h => polS_dp n h) (wj h).2.2
theorem seqS_eachP {α : Type} {f : Wlk → α → Int × Wlk} {P : Wlk → Prop} {Q : α → Prop} (hf : ∀ w x, P w → (f w x).1 = 0 → P (f w x).2 ∧ Q x) : ∀ {l : List α} {w : Wlk}, P w → (seqS f w l).1 = 0 → ∀ x ∈ l, Q x
  | [], w, _, _, x, hx => by simp at hx
  | y :: r, w, hw, h0, x, hx => by
    rw [seqS] at h0
    by_cases hy : (f w y).1 = 0
    · rw [if_pos hy] at h0
      rcases List.mem_cons.1 hx with rfl | hx
      · exact (hf w _ hw hy).2
      · exact seqS_eachP hf (hf w y hw hy).1 h0 x hx
    · rw [if_neg hy] at h0; exact absurd h0 hy
theorem right_kids {p : Pol} (h : zb p = 0) : ∀ k ∈ p.kids, zb k = 0 := by
  obtain ⟨h1, h2, h3⟩ := wj h
  have l1 : lim (zF ⟨[], 0⟩ p).2 := ⟨by show (0 : Int) ≤ 0; omega, by show (0 : Int) ≤ 64; omega⟩
  have l2 := jI (P := lim) (fun w x hw h => ruleS_lim hw h) l1 h2
  exact seqS_eachP (P := lim) (Q := fun k => zb k = 0) (fun w x hw h => ⟨polS_lim 3 w x hw h, (polS_le (n := 3) (m := 4) (by omega) (le_start w hw.1) h).1⟩) l2 h3
theorem right_nr {p : Pol} (h : zb p = 0) : p.nr ≤ 64 := by
  have h1 := polS_count 4 ⟨[], 0⟩ p h
  have h2 := polS_lim 4 ⟨[], 0⟩ p ⟨Int.le_refl _, by decide⟩ h
  have := h2.2
  rw [h1] at this
  simp only [Int.zero_add] at this
  omega
theorem nr_kid {p k : Pol} (h : k ∈ p.kids) : k.nr ≤ p.nr := by
  rw [Pol.nr_eq p]
  have := wb (f := Pol.nr) h
  omega
theorem rightS_head {p : Pol} (h : (zF ⟨[], 0⟩ p).1 = 1) : zb p = 1 := by
  unfold zb
  rw [polS, if_neg (by rw [h]; decide)]; exact h
theorem hasS_ruleS {s : ByteArray} {w : Wlk} {r : Rul} (h : hasS w.met s = true) : hasS (zq w r).2.met s = true := by
  unfold zq
  split
  · show hasS (w.met ++ [r.id]) s = true
    rw [hasS_snoc, h]; rfl
  · exact h
theorem hasS_headS {s : ByteArray} {w : Wlk} {p : Pol} (h : hasS w.met s = true) : hasS (zF w p).2.met s = true := by
  unfold zF nameM
  simp only
  split
  · rw [hasS_snoc, h]; rfl
  · exact h
theorem hasS_polS {s : ByteArray} : ∀ (n : Nat) {w : Wlk} {p : Pol}, hasS w.met s = true → (polS n w p).1 = 0 → hasS (polS n w p).2.met s = true
  | 0, w, p, _, h => by cases h
  | n + 1, w, p, hw, h => by
    obtain ⟨h1, h2, h3⟩ := wj h
    rw [polS, if_pos h1, if_pos h2]
    exact jI (P := fun w => hasS w.met s = true) (fun w x hw h => hasS_polS n hw h) (jI (P := fun w => hasS w.met s = true) (fun w x hw _ => hasS_ruleS hw) (hasS_headS hw) h2) h3
theorem seqS_pre {α : Type} {f : Wlk → α → Int × Wlk} : ∀ {l : List α} {w : Wlk} (k : Nat), (seqS f w l).1 = 0 → (seqS f w (l.take k)).1 = 0
  | [], w, k, _ => by simp [seqS]
  | x :: r, w, 0, _ => rfl
  | x :: r, w, k + 1, h => by
    rw [seqS] at h
    rw [List.take_succ_cons, seqS]
    by_cases h0 : (f w x).1 = 0
    · rw [if_pos h0] at h ⊢
      exact seqS_pre k h
    · rw [if_neg h0] at h; exact absurd h h0
theorem seqS_set {α : Type} {f : Wlk → α → Int × Wlk} {P : Wlk → Prop} (hP : ∀ w x, P w → (f w x).1 = 0 → P (f w x).2) {l : List α} {w : Wlk} (h : (seqS f w l).1 = 0) (hw : P w) {i : Nat} (hi : i < l.length) {y : α} (hy : ∀ v, P v → (f v y).1 = 1) : (seqS f w (l.set i y)).1 = 1 := by
  have h1 := seqS_pre i h
  have h2 := jI hP hw h1
  have e1 : (l.set i y).take i = l.take i := by rw [List.take_set, List.set_eq_of_length_le (by simp; omega)]
  have hi2 : i < (l.set i y).length := by simpa using hi
  have h3 := seqS_some (f := f) (w := w) hi2 (by rw [e1]; exact h1)
  rw [e1, List.getElem_set_self] at h3
  have h4 := hy _ h2
  rw [seqS_stop (i + 1) (by rw [h3, h4]; decide), h3, h4]
theorem nameOk_has {m : List ByteArray} {s : ByteArray} (h : hasS m s = true) : zO m s = false := by simp [zO, h]
theorem jG {p : Pol} (h : zb p = 0) : zO [] p.id = true ∧ (zF ⟨[], 0⟩ p).1 = headE p ∧ headE p = 0 ∧ 1 ≤ p.alg ∧ p.alg ≤ 6 := by
  have h1 := (wj h).1
  unfold zF at h1 ⊢
  simp only at h1 ⊢
  split at h1
  · rename_i hc
    rw [if_pos hc]
    simp only [Bool.and_eq_true, decide_eq_true_eq] at hc
    exact ⟨hc.1.1, rfl, h1, hc.1.2, hc.2⟩
  · cases h1
theorem wJ {p : Pol} (h1 : zO [] p.id = true) (h2 : 1 ≤ p.alg) (h3 : p.alg ≤ 6) : zF ⟨[], 0⟩ p = (headE p, ⟨[p.id], 0⟩) := by
  unfold zF
  simp [h1, h2, h3, nameM]
def Pol.putRules (p : Pol) (l : List Rul) : Pol := .mk p.id p.set p.alg p.target l p.kids p.obls
def Pol.putKids (p : Pol) (l : List Pol) : Pol := .mk p.id p.set p.alg p.target p.rules l p.obls
def Pol.putId (p : Pol) (s : ByteArray) : Pol := .mk s p.set p.alg p.target p.rules p.kids p.obls
def Rul.putId (r : Rul) (s : ByteArray) : Rul := ⟨s, r.deny, r.target, r.cond, r.obls⟩
theorem names_rule {p : Pol} (h : zb p = 0) {i : Nat} (hi : i < p.rules.length) : zb (p.putRules (p.rules.set i (p.rules[i].putId p.id))) = 1 := by
  obtain ⟨h1, h2, h3, h4, h5⟩ := jG h
  obtain ⟨k1, k2, k3⟩ := wj h
  have e0 := wJ h1 h4 h5
  have e1 : zF ⟨[], 0⟩ (p.putRules (p.rules.set i (p.rules[i].putId p.id))) = (headE p, ⟨[p.id], 0⟩) := by
    rw [wJ (p := p.putRules _) h1 h4 h5]
    refine congrArg (fun x => (x, _)) ?_
    unfold headE
    simp only [Pol.putRules, Pol.set, Pol.rules, Pol.kids, Pol.alg, Pol.target, Pol.obls, List.length_set]
    cases p; rfl
  rw [e0] at k2
  have hs := seqS_set (P := fun w => hasS w.met p.id = true) (fun w x hw _ => hasS_ruleS hw) k2 (by simp [hasS]) hi (y := p.rules[i].putId p.id) (fun v hv => by
    unfold zq
    rw [show (p.rules[i].putId p.id).id = p.id from rfl, nameOk_has hv]; rfl)
  unfold zb
  rw [polS, e1, if_pos h3]
  show (if (seqS zq ⟨[p.id], 0⟩ (p.rules.set i (p.rules[i].putId p.id))).1 = 0 then _ else seqS zq ⟨[p.id], 0⟩ (p.rules.set i (p.rules[i].putId p.id))).1 = 1
  rw [if_neg (by rw [hs]; decide), hs]
theorem names_kid {p : Pol} (h : zb p = 0) {i : Nat} (hi : i < p.kids.length) : zb (p.putKids (p.kids.set i (p.kids[i].putId p.id))) = 1 := by
  obtain ⟨h1, h2, h3, h4, h5⟩ := jG h
  obtain ⟨k1, k2, k3⟩ := wj h
  have e0 := wJ h1 h4 h5
  have e1 : zF ⟨[], 0⟩ (p.putKids (p.kids.set i (p.kids[i].putId p.id))) = (headE p, ⟨[p.id], 0⟩) := by
    rw [wJ (p := p.putKids _) h1 h4 h5]
    refine congrArg (fun x => (x, _)) ?_
    unfold headE
    simp only [Pol.putKids, Pol.set, Pol.rules, Pol.kids, Pol.alg, Pol.target, Pol.obls, List.length_set]
    cases p; rfl
  rw [e0] at k2 k3
  have hw2 := jI (P := fun w => hasS w.met p.id = true) (fun w x hw _ => hasS_ruleS hw) (by simp [hasS] : hasS [p.id] p.id = true) k2
  have hs := seqS_set (P := fun w => hasS w.met p.id = true) (fun w x hw h => hasS_polS 3 hw h) k3 hw2 hi (y := p.kids[i].putId p.id) (fun v hv => by
    rw [polS]
    have e : (zF v (p.kids[i].putId p.id)).1 = 1 := by
      unfold zF
      rw [show (p.kids[i].putId p.id).id = p.id from rfl, nameOk_has hv]; rfl
    rw [if_neg (by rw [e]; decide), e])
  unfold zb
  rw [polS, e1, if_pos h3]
  show (if (seqS zq ⟨[p.id], 0⟩ p.rules).1 = 0 then seqS (polS 3) (seqS zq ⟨[p.id], 0⟩ p.rules).2 (p.kids.set i (p.kids[i].putId p.id)) else _).1 = 1
  rw [if_pos k2, hs]
theorem nameS_X (s : ByteArray) : wO (⟨#[88]⟩ ++ s) = false := by
  have h0 : 0 < ((⟨#[88]⟩ : ByteArray) ++ s).size := by rw [ByteArray.size_append]; show 0 < 1 + s.size; omega
  refine nameS_no (k := 0) h0 ?_
  have : ((⟨#[88]⟩ : ByteArray) ++ s)[0] = 88 := by
    rw [ByteArray.getElem_append_left (by show 0 < 1; omega)]; rfl
  rw [this]; rfl
theorem names_id {p : Pol} (s : ByteArray) : zb (p.putId (⟨#[88]⟩ ++ s)) = 1 := by
  refine rightS_head ?_
  unfold zF
  simp only
  rw [show zO [] (p.putId (⟨#[88]⟩ ++ s)).id = false by
    show zO [] (⟨#[88]⟩ ++ s) = false
    simp [zO, nameS_X]]
  rfl
def zRul : Rul := ⟨⟨#[122, 122, 122]⟩, false, [], [], []⟩
def zPol : Pol := .mk ⟨#[122, 122, 122]⟩ false 1 [] [] [] []
theorem names_set {p : Pol} (h : zb p = 0) (hs : p.set = true) : zb (p.putRules [zRul]) = 1 := by
  obtain ⟨h1, h2, h3, h4, h5⟩ := jG h
  refine rightS_head ?_
  rw [wJ (p := p.putRules [zRul]) h1 h4 h5]
  unfold headE
  rw [if_pos (by rw [show (p.putRules [zRul]).set = true from hs]; rfl)]
theorem names_pol {p : Pol} (h : zb p = 0) (hs : p.set = false) : zb (p.putKids [zPol]) = 1 := by
  obtain ⟨h1, h2, h3, h4, h5⟩ := jG h
  refine rightS_head ?_
  rw [wJ (p := p.putKids [zPol]) h1 h4 h5]
  unfold headE
  rw [if_pos (by rw [show (p.putKids [zPol]).set = false from hs]; rfl)]
theorem right_shape {p : Pol} (h : zb p = 0) : (p.set = true → p.rules = []) ∧ (p.set = false → p.kids = []) := by
  obtain ⟨h1, h2, h3, h4, h5⟩ := jG h
  unfold headE at h3
  split at h3
  · cases h3
  · rename_i hc
    simp only [Bool.or_eq_true, Bool.and_eq_true, decide_eq_true_eq, Bool.not_eq_true'] at hc
    refine ⟨fun hs => ?_, fun hs => ?_⟩
    · refine List.length_eq_zero_iff.1 ?_
      have : ¬ 0 < p.rules.length := fun hl => hc (.inl ⟨hs, hl⟩)
      omega
    · refine List.length_eq_zero_iff.1 ?_
      have : ¬ 0 < p.kids.length := fun hl => hc (.inr ⟨hs, .inl hl⟩)
      omega
end Go.Proofs.YtppfcacnofjmdaaGreatDoor
namespace Go.Proofs.YtppfcacnofjmdaaGreatDoor
set_option linter.unusedVariables false
set_option linter.unusedSimpArgs false
open Go.RowKit
theorem mem_mks {m : Mk} (h : m ∈ mks) : m = (0, 0) ∨ m = (2, 0) ∨ m = (0, 2) ∨ m = (1, 0) ∨ m = (0, 1) ∨ m = (1, 1) := by
  unfold mks at h
  simpa using h
theorem decideS_dp (g : List Giv) : ∀ {n : Nat} {p : Pol}, Dp n p → ∀ {m : Nat}, n ≤ m → qF g m p = qF g n p
  | n + 1, p, h, m + 1, hm => by
    have e : p.kids.map (qF g m) = p.kids.map (qF g n) := List.map_congr_left fun k hk => decideS_dp g (h k hk) (by omega)
    rw [qF, qF, e]
theorem right_dp {p : Pol} (h : zb p = 0) : Dp 4 p := polS_dp 4 h
theorem right_kid_dp {p : Pol} (h : zb p = 0) : ∀ k ∈ p.kids, Dp 3 k := polS_dp 4 h
theorem decideS_kids (g : List Giv) {p : Pol} (h : zb p = 0) : p.kids.map (qF g 3) = p.kids.map (qF g 4) :=
  List.map_congr_left fun k hk => (decideS_dp g (right_kid_dp h k hk) (by omega)).symm
theorem decide_right (g : List Giv) {p : Pol} (h : zb p = 0) : qF g 4 p = if metT p.target g = 0 then noRs else wM p (metT p.target g) (p.rules.map (qaw g) ++ p.kids.map (qF g 4)) := by
  rw [← decideS_kids g h]; rfl
def Pol.putTarget (p : Pol) (t : Tar) : Pol := .mk p.id p.set p.alg t p.rules p.kids p.obls
def Pol.putAlg (p : Pol) (a : Int) : Pol := .mk p.id p.set a p.target p.rules p.kids p.obls
theorem unless_mem {l : List Mk} {a b : Mk} : zY l a b = a ∨ zY l a b = b := by
  unfold zY
  split
  · exact .inr rfl
  · exact .inl rfl
theorem eval_unless (g : List Giv) {p : Pol} (ht : p.target = []) (ha : p.alg = 5 ∨ p.alg = 6) (n : Nat) : (qF g (n + 1) p).m = (2, 0) ∨ (qF g (n + 1) p).m = (0, 2) := by
  rw [qF, ht, if_neg (by simp [metT])]
  unfold wM
  rw [if_neg (by simp [metT]), if_neg (by simp [metT])]
  have : ∀ l, allM p.alg l = (2, 0) ∨ allM p.alg l = (0, 2) := fun l => by
    rcases ha with h | h
    · rw [h]
      have := @unless_mem l (0, 2) (2, 0)
      show zY l (0, 2) (2, 0) = _ ∨ zY l (0, 2) (2, 0) = _
      rcases this with h | h <;> simp [h]
    · rw [h]
      have := @unless_mem l (2, 0) (0, 2)
      show zY l (2, 0) (0, 2) = _ ∨ zY l (2, 0) (0, 2) = _
      rcases this with h | h <;> simp [h]
  split
  · exact this _
  · exact this _
theorem joinR_put (p : Pol) (t : Tar) (k : Int) (l : List Rs) : wM (p.putTarget t) k l = wM p k l := rfl
theorem target_nil : zI [] = 0 := rfl
theorem headE_put : ∀ {p : Pol}, headE p = 0 → headE (p.putTarget []) = 0
  | .mk id set alg t rs ks os, h => by
    change (if (set && decide (0 < rs.length) || !set && (decide (0 < ks.length) || decide (alg = 4))) = true then (1 : Int) else if zI t = 0 then (if oblsS os = 0 then (if 16 < rs.length ∨ 16 < ks.length then 6 else 0) else oblsS os) else zI t) = 0 at h
    change (if (set && decide (0 < rs.length) || !set && (decide (0 < ks.length) || decide (alg = 4))) = true then (1 : Int) else if zI [] = 0 then (if oblsS os = 0 then (if 16 < rs.length ∨ 16 < ks.length then 6 else 0) else oblsS os) else zI []) = 0
    by_cases hc : (set && decide (0 < rs.length) || !set && (decide (0 < ks.length) || decide (alg = 4))) = true
    · rw [if_pos hc] at h; cases h
    · rw [if_neg hc] at h ⊢
      by_cases h1 : zI t = 0
      · rw [if_pos h1] at h
        rw [target_nil]; exact h
      · rw [if_neg h1] at h; exact absurd h h1
theorem right_put {p : Pol} (h : zb p = 0) : zb (p.putTarget []) = 0 := by
  obtain ⟨h1, h2, h3, h4, h5⟩ := jG h
  obtain ⟨k1, k2, k3⟩ := wj h
  have e0 := wJ h1 h4 h5
  have e1 : zF ⟨[], 0⟩ (p.putTarget []) = (0, ⟨[p.id], 0⟩) := by
    rw [wJ (p := p.putTarget _) h1 h4 h5, headE_put h3]; rfl
  rw [e0] at k2 k3
  unfold zb
  rw [polS, e1, if_pos rfl]
  show (if (seqS zq ⟨[p.id], 0⟩ p.rules).1 = 0 then seqS (polS 3) (seqS zq ⟨[p.id], 0⟩ p.rules).2 p.kids else _).1 = 0
  rw [if_pos k2]; exact k3
theorem joinR_m {p : Pol} (l : List Rs) : (wM p 2 l).m = allM p.alg (l.map Rs.m) := by
  unfold wM
  rw [if_neg (by omega), if_neg (by omega)]
  split <;> rfl
theorem eval_target (g : List Giv) (n : Nat) (p : Pol) : qF g (n + 1) p = if metT p.target g = 1 then ⟨qat (qF g (n + 1) (p.putTarget [])).m, []⟩ else if metT p.target g = 2 then qF g (n + 1) (p.putTarget []) else noRs := by
  have e : qF g (n + 1) (p.putTarget []) = wM p 2 (p.rules.map (qaw g) ++ p.kids.map (qF g n)) := rfl
  rw [e, joinR_m, qF]
  have hr := metT_range p.target g
  rcases (show metT p.target g = 0 ∨ metT p.target g = 1 ∨ metT p.target g = 2 by omega) with h | h | h
  · rw [h]; rfl
  · rw [h]; rfl
  · rw [h]; rfl
def wW (s : ByteArray) (k : Int) (p : Pol) : Pol := .mk s true k [] [] [p] []
def wantSet (k : Int) (x : Rs) : Rs :=
  if k = 4 ∧ x.m ≠ (0, 0) ∧ x.m ≠ (2, 0) ∧ x.m ≠ (0, 2) then ⟨(1, 1), []⟩
  else if k = 5 ∧ x.m ≠ (2, 0) ∧ x.m ≠ (0, 2) then ⟨(0, 2), []⟩
  else if k = 6 ∧ x.m ≠ (2, 0) ∧ x.m ≠ (0, 2) then ⟨(2, 0), []⟩ else x
theorem join_one {s : ByteArray} {k : Int} (hk : 1 ≤ k ∧ k ≤ 6) {p : Pol} {x : Rs} (hx : x.ok) : wM (wW s k p) 2 [x] = wantSet k x := by
  obtain ⟨m, o⟩ := x
  obtain ⟨h1, h2⟩ := hx
  simp only at h1 h2
  have hk' : k = 1 ∨ k = 2 ∨ k = 3 ∨ k = 4 ∨ k = 5 ∨ k = 6 := by omega
  rcases mem_mks h1 with rfl | rfl | rfl | rfl | rfl | rfl <;> rcases hk' with rfl | rfl | rfl | rfl | rfl | rfl <;>
    first
      | (simp [wM, wW, allM, joinL, joinM, overM, turnM, wy, onlyM, sureM, stepJ, zY, wF, jm, wantSet, Pol.alg, Pol.obls]; done)
      | (rw [h2 (by decide) (by decide)]; simp [wM, wW, allM, joinL, joinM, overM, turnM, wy, onlyM, sureM, stepJ, zY, wF, jm, wantSet, Pol.alg, Pol.obls]; done)
theorem eval_set (g : List Giv) {s : ByteArray} {k : Int} {p : Pol} (h : zb (wW s k p) = 0) : zb p = 0 ∧ qF g 4 (wW s k p) = wantSet k (qF g 4 p) := by
  obtain ⟨_, _, _, h4, h5⟩ := jG h
  refine ⟨right_kids h p (by simp [wW, Pol.kids]), ?_⟩
  rw [decide_right g h]
  show wM (wW s k p) 2 [qF g 4 p] = _
  exact join_one ⟨h4, h5⟩ (decideS_ok g 4 p)
def amongS : Nat → Obli → Pol → Bool
  | 0, _, _ => false
  | n + 1, o, p => p.obls.any (eqO o) || p.rules.any (fun r => r.obls.any (eqO o)) || p.kids.any (amongS n o)
where eqO (a b : Obli) : Bool := decide (a.on = b.on) && decide (a.kind = b.kind) && decide (a.arg = b.arg)
theorem eqO_refl (o : Obli) : amongS.eqO o o = true := by simp [amongS.eqO]
theorem partsO_mem {alg : Int} {m : Mk} : ∀ {l : List Rs} {o : Obli}, o ∈ wF alg m l → ∃ x ∈ l, x.m = m ∧ o ∈ x.obls
  | x :: r, o, h => by
    rw [wF] at h
    split at h
    · rename_i hx
      split at h
      · exact ⟨x, by simp, hx, h⟩
      · rcases List.mem_append.1 h with h | h
        · exact ⟨x, by simp, hx, h⟩
        · obtain ⟨y, hy, h1, h2⟩ := partsO_mem h
          exact ⟨y, List.mem_cons_of_mem _ hy, h1, h2⟩
    · obtain ⟨y, hy, h1, h2⟩ := partsO_mem h
      exact ⟨y, List.mem_cons_of_mem _ hy, h1, h2⟩
theorem dutiesS_mem {l : List Obli} {m : Mk} {o : Obli} (h : o ∈ jm l m) : o ∈ l ∧ dutyS m o = true := by
  unfold jm at h
  exact List.mem_filter.1 h
theorem effectS_obls {r : Rul} {t c : Int} {o : Obli} (h : o ∈ (jW r t c).obls) : o ∈ r.obls ∧ dutyS (jW r t c).m o = true := by
  unfold jW at h ⊢
  repeat' split at h
  · cases h
  · cases h
  · rename_i h1 h2
    rw [if_neg h1, if_neg h2]
    exact dutiesS_mem h
theorem decideS_obls (g : List Giv) : ∀ (n : Nat) (p : Pol) {o : Obli}, o ∈ (qF g n p).obls → dutyS (qF g n p).m o = true ∧ amongS n o p = true
  | 0, p, o, h => by cases h
  | n + 1, p, o, h => by
    rw [qF] at h ⊢
    by_cases hm : metT p.target g = 0
    · rw [if_pos hm] at h; cases h
    rw [if_neg hm] at h ⊢
    unfold wM at h ⊢
    rw [if_neg hm] at h ⊢
    by_cases h1 : metT p.target g = 1
    · rw [if_pos h1] at h; cases h
    rw [if_neg h1] at h ⊢
    split at h
    · cases h
    · rename_i hs
      rw [if_neg hs]
      simp only at h ⊢
      rw [amongS]
      rcases List.mem_append.1 h with h | h
      · obtain ⟨x, hx, h2, h3⟩ := partsO_mem h
        rw [← h2]
        rcases List.mem_append.1 hx with hx | hx
        · obtain ⟨r, hr, rfl⟩ := List.mem_map.1 hx
          obtain ⟨k1, k2⟩ := effectS_obls h3
          refine ⟨k2, ?_⟩
          have : p.rules.any (fun r => r.obls.any (amongS.eqO o)) = true := List.any_eq_true.2 ⟨r, hr, List.any_eq_true.2 ⟨o, k1, eqO_refl o⟩⟩
          rw [this]; simp
        · obtain ⟨k, hk, rfl⟩ := List.mem_map.1 hx
          obtain ⟨k1, k2⟩ := decideS_obls g n k h3
          refine ⟨k1, ?_⟩
          have : p.kids.any (amongS n o) = true := List.any_eq_true.2 ⟨k, hk, k2⟩
          rw [this]; simp
      · obtain ⟨k1, k2⟩ := dutiesS_mem h
        refine ⟨k2, ?_⟩
        have : p.obls.any (amongS.eqO o) = true := List.any_eq_true.2 ⟨o, k1, eqO_refl o⟩
        rw [this]; rfl
end Go.Proofs.YtppfcacnofjmdaaGreatDoor
namespace Go.Proofs.YtppfcacnofjmdaaGreatDoor
set_option linter.unusedVariables false
set_option linter.unusedSimpArgs false
open Go.RowKit
set_option maxHeartbeats 2000000
def ents (m : List ByteArray) : List (Value × PV) := m.map fun s => (.string s, .agg [])
def wlkO (w : Wlk) : List (Nat × Box) := [(1000000, .cells [.row 1000001, .p (pI w.rules)]), (1000001, .mp (ents w.met))]
abbrev wlkR : List (Nat × Nat) := [(1000000, 1000000), (1000001, 1000001)]
theorem ents_ok : ∀ m : List ByteArray, (ents m).all (fun x => kdOk .str x.1) = true
  | [] => rfl
  | s :: m => by
    have := ents_ok m
    simp only [ents, List.map_cons, List.all_cons, Bool.and_eq_true] at this ⊢
    exact ⟨rfl, this⟩
theorem mfind_ents (s : ByteArray) : ∀ m : List ByteArray, mfind (.string s) (ents m) = if hasS m s then some (.agg []) else none
  | [] => rfl
  | t :: m => by
    have ih := mfind_ents s m
    show (bif keyEq (.string s) (.string t) then some (PV.agg []) else mfind (.string s) (ents m)) = _
    rw [ih]
    by_cases e : s = t
    · subst e; simp [keyEq, hasS]
    · have e' : ∀ i : Decidable (s = t), @decide (s = t) i = false := fun i => by
        cases i with
        | isTrue h => exact absurd h e
        | isFalse h => rfl
      rw [show keyEq (.string s) (.string t) = false from e' _]
      unfold hasS
      rw [List.any_cons, e', cond_false, Bool.false_or]
theorem ents_snoc (m : List ByteArray) (s : ByteArray) : ents m ++ [(.string s, .agg [])] = ents (m ++ [s]) := by simp [ents]
theorem wname_h (m : List ByteArray) (n : Int) (s : ByteArray) (hs : s.size ≤ reachBytes) : zZ Tryz.prog 84 [.ptr 1000000 0, .p (pS s)] (wlkO ⟨m, n⟩) (.p (pB (zO m s))) (wlkO ⟨nameM m s, n⟩) := by
  by_cases hm : hasS m s = true
  · have e1 : zO m s = false := by simp [zO, hm]
    have e2 : nameM m s = m := by simp [nameM, e1]
    rw [e1, e2]
    refine ja (ts := [4]) Tryz.func84 (by kernel_rfl) rfl rfl rfl ?_
    (repeat refine qb ?_); refine qa ?_
    repeat (first | refine zR ?_ | refine zK ?_ | refine zM ?_ | refine zB ?_ | refine zA ?_ | refine zS ?_ | refine zL ?_)
    refine qc ?_
    (repeat refine qb ?_); refine qa ?_
    repeat (first | refine zR ?_ | refine zK ?_ | refine zM ?_ | refine zB ?_ | refine zA ?_ | refine zS ?_ | refine zL ?_)
    refine qw qe rfl rfl (ents_ok m) rfl ?_
    rw [mfind_ents, if_pos hm]
    repeat (first | refine zR ?_ | refine zK ?_ | refine zM ?_ | refine zB ?_ | refine zA ?_ | refine zS ?_ | refine zL ?_)
    refine qc ?_
    (repeat refine qb ?_); refine qs (by kernel_rfl) ?_
    repeat (refine qr qe rfl (by exact True.intro) rfl ?_)
    refine zj rfl rfl rfl rfl (name_h s hs) rfl rfl ?_
    repeat (refine qr qe rfl (by exact True.intro) rfl ?_)
    refine qQ ?_
    (repeat refine qb ?_); refine qf rfl (fun h => ?_) (fun h => ?_)
    · (repeat refine qb ?_); refine qa ?_
      repeat (first | refine zR ?_ | refine zK ?_ | refine zM ?_ | refine zB ?_ | refine zA ?_ | refine zS ?_ | refine zL ?_)
      refine qc ?_
      (repeat refine qb ?_); refine qk ?_
      exact ⟨Or.inr rfl, _, _, wlkR, Wk.refl _, rfl, rfl, rfl, rfl⟩
    · cases h
  · refine ja (ts := [4]) Tryz.func84 (by kernel_rfl) rfl rfl rfl ?_
    (repeat refine qb ?_); refine qa ?_
    repeat (first | refine zR ?_ | refine zK ?_ | refine zM ?_ | refine zB ?_ | refine zA ?_ | refine zS ?_ | refine zL ?_)
    refine qc ?_
    (repeat refine qb ?_); refine qa ?_
    repeat (first | refine zR ?_ | refine zK ?_ | refine zM ?_ | refine zB ?_ | refine zA ?_ | refine zS ?_ | refine zL ?_)
    refine qw qe rfl rfl (ents_ok m) rfl ?_
    rw [mfind_ents, if_neg hm]
    repeat (first | refine zR ?_ | refine zK ?_ | refine zM ?_ | refine zB ?_ | refine zA ?_ | refine zS ?_ | refine zL ?_)
    refine qc ?_
    (repeat refine qb ?_); refine qs (by kernel_rfl) ?_
    repeat (refine qr qe rfl (by exact True.intro) rfl ?_)
    refine zj rfl rfl rfl rfl (name_h s hs) rfl rfl ?_
    repeat (refine qr qe rfl (by exact True.intro) rfl ?_)
    refine qQ ?_
    (repeat refine qb ?_); refine qf rfl (fun h => ?_) (fun h => ?_)
    · have e0 : wO s = false := by simpa using h
      have e1 : zO m s = false := by simp [zO, e0]
      have e2 : nameM m s = m := by simp [nameM, e1]
      rw [e1, e2]
      (repeat refine qb ?_); refine qa ?_
      repeat (first | refine zR ?_ | refine zK ?_ | refine zM ?_ | refine zB ?_ | refine zA ?_ | refine zS ?_ | refine zL ?_)
      refine qc ?_
      (repeat refine qb ?_); refine qk ?_
      exact ⟨Or.inr rfl, _, _, wlkR, Wk.refl _, rfl, rfl, rfl, rfl⟩
    · have e0 : wO s = true := by simpa using h
      have e1 : zO m s = true := by simp [zO, e0, hm]
      have e2 : nameM m s = m ++ [s] := by simp [nameM, e1]
      rw [e1, e2]
      refine qm ?_
      (repeat refine qb ?_); refine qa ?_
      repeat (first | refine zR ?_ | refine zK ?_ | refine zM ?_ | refine zB ?_ | refine zA ?_ | refine zS ?_ | refine zL ?_)
      refine qn rfl (act_mapUpdate qe rfl rfl rfl rfl rfl rfl rfl rfl rfl (ents_ok m) (by rw [mfind_ents, if_neg hm]) rfl ?_)
      rw [ents_snoc]
      repeat (first | refine zR ?_ | refine zK ?_ | refine zM ?_ | refine zB ?_ | refine zA ?_ | refine zS ?_ | refine zL ?_)
      refine qc ?_
      (repeat refine qb ?_); refine qa ?_
      repeat (first | refine zR ?_ | refine zK ?_ | refine zM ?_ | refine zB ?_ | refine zA ?_ | refine zS ?_ | refine zL ?_)
      refine qc ?_
      (repeat refine qb ?_); refine qk ?_
      exact ⟨Or.inr rfl, _, _, wlkR, Wk.refl _, rfl, rfl, rfl, rfl⟩
def TarFit (t : Tar) : Prop := ∀ x ∈ t, ∀ y ∈ x, ∀ m ∈ y, m.Fit
structure RulFit (r : Rul) : Prop where
  id : r.id.size ≤ reachBytes
  tgt : TarFit r.target
  cond : ∀ n ∈ r.cond, n.Fit
  obls : ∀ o ∈ r.obls, o.Fit
theorem wrule_h (w : Wlk) (hw : 0 ≤ w.rules ∧ w.rules ≤ 64) (r : Rul) (hr : RulFit r) : zZ Tryz.prog 68 [.ptr 1000000 0, .p (.agg (zt r))] (wlkO w) (.p (pI (zq w r).1)) (wlkO (zq w r).2) := by
  have H := wname_h w.met w.rules r.id hr.id
  cases hn : zO w.met r.id with
  | false =>
    have e : zq w r = (1, w) := by simp [zq, hn]
    have e2 : nameM w.met r.id = w.met := by simp [nameM, hn]
    rw [hn, e2] at H
    rw [e]
    refine ja (ts := [4]) Tryz.func68 (by kernel_rfl) rfl rfl rfl ?_
    (repeat refine qb ?_); refine qa ?_
    repeat (first | refine zR ?_ | refine zK ?_ | refine zM ?_ | refine zB ?_ | refine zA ?_ | refine zS ?_ | refine zL ?_)
    refine qc ?_
    (repeat refine qb ?_); refine qa ?_
    repeat (first | refine zR ?_ | refine zK ?_ | refine zM ?_ | refine zB ?_ | refine zA ?_ | refine zS ?_ | refine zL ?_)
    refine qn rfl (zr wlkR rfl rfl rfl rfl rfl rfl (H) rfl rfl rfl ?_)
    repeat (first | refine zR ?_ | refine zK ?_ | refine zM ?_ | refine zB ?_ | refine zA ?_ | refine zS ?_ | refine zL ?_)
    refine qc ?_
    (repeat refine qb ?_); refine qf rfl (fun h => ?_) (fun h => ?_)
    · (repeat refine qb ?_); refine qa ?_
      repeat (first | refine zR ?_ | refine zK ?_ | refine zM ?_ | refine zB ?_ | refine zA ?_ | refine zS ?_ | refine zL ?_)
      refine qc ?_
      (repeat refine qb ?_); refine qk ?_
      exact ⟨Or.inr rfl, _, _, wlkR, Wk.refl _, rfl, rfl, rfl, rfl⟩
    · cases h
  | true =>
    have e2 : nameM w.met r.id = w.met ++ [r.id] := by simp [nameM, hn]
    rw [hn, e2] at H
    have e : zq w r = (if 64 < w.rules + 1 then 6 else ruleE r, ⟨w.met ++ [r.id], w.rules + 1⟩) := by simp [zq, hn]
    rw [e]
    refine ja (ts := [4]) Tryz.func68 (by kernel_rfl) rfl rfl rfl ?_
    (repeat refine qb ?_); refine qa ?_
    repeat (first | refine zR ?_ | refine zK ?_ | refine zM ?_ | refine zB ?_ | refine zA ?_ | refine zS ?_ | refine zL ?_)
    refine qc ?_
    (repeat refine qb ?_); refine qa ?_
    repeat (first | refine zR ?_ | refine zK ?_ | refine zM ?_ | refine zB ?_ | refine zA ?_ | refine zS ?_ | refine zL ?_)
    refine qn rfl (zr wlkR rfl rfl rfl rfl rfl rfl (H) rfl rfl rfl ?_)
    repeat (first | refine zR ?_ | refine zK ?_ | refine zM ?_ | refine zB ?_ | refine zA ?_ | refine zS ?_ | refine zL ?_)
    refine qc ?_
    (repeat refine qb ?_); refine qf rfl (fun h => ?_) (fun h => ?_)
    · cases h
    · refine qm ?_
      (repeat refine qb ?_); refine qa ?_
      repeat (first | refine zR ?_ | refine zK ?_ | refine zM ?_ | refine zB ?_ | refine zA ?_ | refine zS ?_ | refine zL ?_)
      refine qc ?_
      rw [show IntKind.i64.wrap (w.rules + 1) = w.rules + 1 from IntWalk.i64_in _ (by omega)]
      (repeat refine qb ?_); refine qa ?_
      repeat (first | refine zR ?_ | refine zK ?_ | refine zM ?_ | refine zB ?_ | refine zA ?_ | refine zS ?_ | refine zL ?_)
      refine qc ?_
      (repeat refine qb ?_); refine qf rfl (fun h => ?_) (fun h => ?_)
      · have h1 : 64 < w.rules + 1 := by simp at h; omega
        rw [if_pos h1]
        (repeat refine qb ?_); refine qa ?_
        repeat (first | refine zR ?_ | refine zK ?_ | refine zM ?_ | refine zB ?_ | refine zA ?_ | refine zS ?_ | refine zL ?_)
        refine qc ?_
        (repeat refine qb ?_); refine qk ?_
        exact ⟨Or.inr rfl, _, _, wlkR, Wk.refl _, rfl, rfl, rfl, rfl⟩
      · have h1 : ¬ 64 < w.rules + 1 := by simp at h; omega
        rw [if_neg h1]
        unfold ruleE
        refine qm ?_
        (repeat refine qb ?_); refine qa ?_
        repeat (first | refine zR ?_ | refine zK ?_ | refine zM ?_ | refine zB ?_ | refine zA ?_ | refine zS ?_ | refine zL ?_)
        refine qn rfl (qg rfl rfl rfl rfl (target_h r.target hr.tgt) rfl rfl ?_)
        repeat (first | refine zR ?_ | refine zK ?_ | refine zM ?_ | refine zB ?_ | refine zA ?_ | refine zS ?_ | refine zL ?_)
        refine qc ?_
        (repeat refine qb ?_); refine qa ?_
        repeat (first | refine zR ?_ | refine zK ?_ | refine zM ?_ | refine zB ?_ | refine zA ?_ | refine zS ?_ | refine zL ?_)
        refine qc ?_
        (repeat refine qb ?_); refine qf rfl (fun h => ?_) (fun h => ?_)
        · have h2 : ¬ zI r.target = 0 := by simpa using h
          rw [if_neg h2]
          (repeat refine qb ?_); refine qa ?_
          repeat (first | refine zR ?_ | refine zK ?_ | refine zM ?_ | refine zB ?_ | refine zA ?_ | refine zS ?_ | refine zL ?_)
          refine qc ?_
          (repeat refine qb ?_); refine qk ?_
          exact ⟨Or.inr rfl, _, _, wlkR, Wk.refl _, rfl, rfl, rfl, rfl⟩
        · have h2 : zI r.target = 0 := by simpa using h
          rw [if_pos h2]
          refine qm ?_
          (repeat refine qb ?_); refine qa ?_
          repeat (first | refine zR ?_ | refine zK ?_ | refine zM ?_ | refine zB ?_ | refine zA ?_ | refine zS ?_ | refine zL ?_)
          refine qn rfl (qg rfl rfl rfl rfl (expr_h r.cond hr.cond) rfl rfl ?_)
          repeat (first | refine zR ?_ | refine zK ?_ | refine zM ?_ | refine zB ?_ | refine zA ?_ | refine zS ?_ | refine zL ?_)
          refine qc ?_
          (repeat refine qb ?_); refine qa ?_
          repeat (first | refine zR ?_ | refine zK ?_ | refine zM ?_ | refine zB ?_ | refine zA ?_ | refine zS ?_ | refine zL ?_)
          refine qc ?_
          (repeat refine qb ?_); refine qf rfl (fun h => ?_) (fun h => ?_)
          · have h3 : ¬ zo r.cond = 0 := by simpa using h
            rw [if_neg h3]
            (repeat refine qb ?_); refine qa ?_
            repeat (first | refine zR ?_ | refine zK ?_ | refine zM ?_ | refine zB ?_ | refine zA ?_ | refine zS ?_ | refine zL ?_)
            refine qc ?_
            (repeat refine qb ?_); refine qk ?_
            exact ⟨Or.inr rfl, _, _, wlkR, Wk.refl _, rfl, rfl, rfl, rfl⟩
          · have h3 : zo r.cond = 0 := by simpa using h
            rw [if_pos h3]
            refine qm ?_
            (repeat refine qb ?_); refine qa ?_
            repeat (first | refine zR ?_ | refine zK ?_ | refine zM ?_ | refine zB ?_ | refine zA ?_ | refine zS ?_ | refine zL ?_)
            refine qn rfl (qg rfl rfl rfl rfl (obls_h r.obls hr.obls) rfl rfl ?_)
            repeat (first | refine zR ?_ | refine zK ?_ | refine zM ?_ | refine zB ?_ | refine zA ?_ | refine zS ?_ | refine zL ?_)
            refine qc ?_
            (repeat refine qb ?_); refine qk ?_
            exact ⟨Or.inr rfl, _, _, wlkR, Wk.refl _, rfl, rfl, rfl, rfl⟩
mutual
def polP : Pol → List PV
  | .mk id set alg target rules kids obls => [pS id, pB set, pI alg, tgtP target, .sl 5 (rules.map zt), .sl 7 (polPs kids), zQ obls]
def polPs : List Pol → List (List PV)
  | [] => []
  | k :: r => polP k :: polPs r
end
theorem polPs_eq : ∀ l : List Pol, polPs l = l.map polP
  | [] => rfl
  | k :: r => by rw [polPs, polPs_eq r]; rfl
theorem zf (p : Pol) : polP p = [pS p.id, pB p.set, pI p.alg, tgtP p.target, .sl 5 (p.rules.map zt), .sl 7 (p.kids.map polP), zQ p.obls] := by
  cases p
  rw [polP, polPs_eq]; rfl
structure HeadFit (p : Pol) : Prop where
  id : p.id.size ≤ reachBytes
  tgt : TarFit p.target
  rules : ∀ r ∈ p.rules, RulFit r
  obls : ∀ o ∈ p.obls, o.Fit
  nr : p.rules.length ≤ reachBytes
  nk : p.kids.length ≤ reachBytes
theorem whead_h (w : Wlk) (p : Pol) (hp : HeadFit p) : zZ Tryz.prog 67 [.ptr 1000000 0, .p (.agg (polP p))] (wlkO w) (.p (pI (zF w p).1)) (wlkO (zF w p).2) := by
  have H := wname_h w.met w.rules p.id hp.id
  have l1 : ((p.rules.map zt).length) = p.rules.length := by simp
  have l2 : ((p.kids.map polP).length) = p.kids.length := by simp
  rw [zf]
  unfold zF
  cases hn : zO w.met p.id with
  | false =>
    rw [hn] at H
    simp only [Bool.false_and, Bool.false_eq_true, if_false]
    refine ja (ts := [4]) Tryz.func67 (by kernel_rfl) rfl rfl rfl ?_
    (repeat refine qb ?_); refine qa ?_
    repeat (first | refine zR ?_ | refine zK ?_ | refine zM ?_ | refine zB ?_ | refine zA ?_ | refine zS ?_ | refine zL ?_)
    refine qc ?_
    (repeat refine qb ?_); refine qa ?_
    repeat (first | refine zR ?_ | refine zK ?_ | refine zM ?_ | refine zB ?_ | refine zA ?_ | refine zS ?_ | refine zL ?_)
    refine qn rfl (zr wlkR rfl rfl rfl rfl rfl rfl (H) rfl rfl rfl ?_)
    repeat (first | refine zR ?_ | refine zK ?_ | refine zM ?_ | refine zB ?_ | refine zA ?_ | refine zS ?_ | refine zL ?_)
    refine qc ?_
    (repeat refine qb ?_); refine qf rfl (fun h => ?_) (fun h => ?_)
    · (repeat refine qb ?_); refine qa ?_
      repeat (first | refine zR ?_ | refine zK ?_ | refine zM ?_ | refine zB ?_ | refine zA ?_ | refine zS ?_ | refine zL ?_)
      refine qc ?_
      (repeat refine qb ?_); refine qk ?_
      exact ⟨Or.inr rfl, _, _, wlkR, Wk.refl _, rfl, rfl, rfl, rfl⟩
    · cases h
  | true =>
    rw [hn] at H
    refine ja (ts := [4]) Tryz.func67 (by kernel_rfl) rfl rfl rfl ?_
    (repeat refine qb ?_); refine qa ?_
    repeat (first | refine zR ?_ | refine zK ?_ | refine zM ?_ | refine zB ?_ | refine zA ?_ | refine zS ?_ | refine zL ?_)
    refine qc ?_
    (repeat refine qb ?_); refine qa ?_
    repeat (first | refine zR ?_ | refine zK ?_ | refine zM ?_ | refine zB ?_ | refine zA ?_ | refine zS ?_ | refine zL ?_)
    refine qn rfl (zr wlkR rfl rfl rfl rfl rfl rfl (H) rfl rfl rfl ?_)
    repeat (first | refine zR ?_ | refine zK ?_ | refine zM ?_ | refine zB ?_ | refine zA ?_ | refine zS ?_ | refine zL ?_)
    by_cases h1 : p.alg < 1
    · rw [show decide (p.alg < 1) = true from decide_eq_true h1]
      repeat (first | refine zR ?_ | refine zK ?_ | refine zM ?_ | refine zB ?_ | refine zA ?_ | refine zS ?_ | refine zL ?_)
      refine qc ?_
      (repeat refine qb ?_); refine qf rfl (fun h => ?_) (fun h => ?_)
      · rw [if_neg (by simp; omega)]
        (repeat refine qb ?_); refine qa ?_
        repeat (first | refine zR ?_ | refine zK ?_ | refine zM ?_ | refine zB ?_ | refine zA ?_ | refine zS ?_ | refine zL ?_)
        refine qc ?_
        (repeat refine qb ?_); refine qk ?_
        exact ⟨Or.inr rfl, _, _, wlkR, Wk.refl _, rfl, rfl, rfl, rfl⟩
      · cases h
    · rw [show decide (p.alg < 1) = false from decide_eq_false h1]
      repeat (first | refine zR ?_ | refine zK ?_ | refine zM ?_ | refine zB ?_ | refine zA ?_ | refine zS ?_ | refine zL ?_)
      refine qc ?_
      (repeat refine qb ?_); refine qf rfl (fun h => ?_) (fun h => ?_)
      · have h2 : 6 < p.alg := by simpa using h
        rw [if_neg (by simp; omega)]
        (repeat refine qb ?_); refine qa ?_
        repeat (first | refine zR ?_ | refine zK ?_ | refine zM ?_ | refine zB ?_ | refine zA ?_ | refine zS ?_ | refine zL ?_)
        refine qc ?_
        (repeat refine qb ?_); refine qk ?_
        exact ⟨Or.inr rfl, _, _, wlkR, Wk.refl _, rfl, rfl, rfl, rfl⟩
      · have h2 : ¬ 6 < p.alg := by simpa using h
        rw [if_pos (by simp; omega)]
        unfold headE
        refine qm ?_
        (repeat refine qb ?_); refine qs (by kernel_rfl) ?_
        repeat (refine qr qe rfl (by exact True.intro) rfl ?_)
        refine qQ ?_
        rw [l1, l2]
        (repeat refine qb ?_); refine qf rfl (fun h => ?_) (fun h => ?_)
        · rw [if_pos (by revert h; cases p.set <;> simp)]
          (repeat refine qb ?_); refine qa ?_
          repeat (first | refine zR ?_ | refine zK ?_ | refine zM ?_ | refine zB ?_ | refine zA ?_ | refine zS ?_ | refine zL ?_)
          refine qc ?_
          (repeat refine qb ?_); refine qk ?_
          exact ⟨Or.inr rfl, _, _, wlkR, Wk.refl _, rfl, rfl, rfl, rfl⟩
        · rw [if_neg (by revert h; cases p.set <;> simp)]
          refine qm ?_
          (repeat refine qb ?_); refine qa ?_
          repeat (first | refine zR ?_ | refine zK ?_ | refine zM ?_ | refine zB ?_ | refine zA ?_ | refine zS ?_ | refine zL ?_)
          refine qn rfl (qg rfl rfl rfl rfl (target_h p.target hp.tgt) rfl rfl ?_)
          repeat (first | refine zR ?_ | refine zK ?_ | refine zM ?_ | refine zB ?_ | refine zA ?_ | refine zS ?_ | refine zL ?_)
          refine qc ?_
          (repeat refine qb ?_); refine qa ?_
          repeat (first | refine zR ?_ | refine zK ?_ | refine zM ?_ | refine zB ?_ | refine zA ?_ | refine zS ?_ | refine zL ?_)
          refine qc ?_
          (repeat refine qb ?_); refine qf rfl (fun h => ?_) (fun h => ?_)
          · have h3 : ¬ zI p.target = 0 := by simpa using h
            rw [if_neg h3]
            (repeat refine qb ?_); refine qa ?_
            repeat (first | refine zR ?_ | refine zK ?_ | refine zM ?_ | refine zB ?_ | refine zA ?_ | refine zS ?_ | refine zL ?_)
            refine qc ?_
            (repeat refine qb ?_); refine qk ?_
            exact ⟨Or.inr rfl, _, _, wlkR, Wk.refl _, rfl, rfl, rfl, rfl⟩
          · have h3 : zI p.target = 0 := by simpa using h
            rw [if_pos h3]
            refine qm ?_
            (repeat refine qb ?_); refine qa ?_
            repeat (first | refine zR ?_ | refine zK ?_ | refine zM ?_ | refine zB ?_ | refine zA ?_ | refine zS ?_ | refine zL ?_)
            refine qn rfl (qg rfl rfl rfl rfl (obls_h p.obls hp.obls) rfl rfl ?_)
            repeat (first | refine zR ?_ | refine zK ?_ | refine zM ?_ | refine zB ?_ | refine zA ?_ | refine zS ?_ | refine zL ?_)
            refine qc ?_
            (repeat refine qb ?_); refine qa ?_
            repeat (first | refine zR ?_ | refine zK ?_ | refine zM ?_ | refine zB ?_ | refine zA ?_ | refine zS ?_ | refine zL ?_)
            refine qc ?_
            (repeat refine qb ?_); refine qf rfl (fun h => ?_) (fun h => ?_)
            · have h4 : ¬ oblsS p.obls = 0 := by simpa using h
              rw [if_neg h4]
              (repeat refine qb ?_); refine qa ?_
              repeat (first | refine zR ?_ | refine zK ?_ | refine zM ?_ | refine zB ?_ | refine zA ?_ | refine zS ?_ | refine zL ?_)
              refine qc ?_
              (repeat refine qb ?_); refine qk ?_
              exact ⟨Or.inr rfl, _, _, wlkR, Wk.refl _, rfl, rfl, rfl, rfl⟩
            · have h4 : oblsS p.obls = 0 := by simpa using h
              rw [if_pos h4]
              refine qm ?_
              (repeat refine qb ?_); refine qs (by kernel_rfl) ?_
              repeat (refine qr qe rfl (by exact True.intro) rfl ?_)
              refine qQ ?_
              rw [l1, l2]
              (repeat refine qb ?_); refine qf rfl (fun h => ?_) (fun h => ?_)
              · rw [if_pos (by simp at h; omega)]
                (repeat refine qb ?_); refine qa ?_
                repeat (first | refine zR ?_ | refine zK ?_ | refine zM ?_ | refine zB ?_ | refine zA ?_ | refine zS ?_ | refine zL ?_)
                refine qc ?_
                (repeat refine qb ?_); refine qk ?_
                exact ⟨Or.inr rfl, _, _, wlkR, Wk.refl _, rfl, rfl, rfl, rfl⟩
              · rw [if_neg (by simp at h; omega)]
                refine qm ?_
                (repeat refine qb ?_); refine qa ?_
                repeat (first | refine zR ?_ | refine zK ?_ | refine zM ?_ | refine zB ?_ | refine zA ?_ | refine zS ?_ | refine zL ?_)
                refine qc ?_
                (repeat refine qb ?_); refine qk ?_
                exact ⟨Or.inr rfl, _, _, wlkR, Wk.refl _, rfl, rfl, rfl, rfl⟩
def PolFit : Nat → Pol → Prop
  | 0, _ => True
  | n + 1, p => HeadFit p ∧ ∀ k ∈ p.kids, PolFit n k
theorem wpol_h : ∀ (n : Nat) (hn : n ≤ 4) (w : Wlk) (p : Pol), lim w → PolFit n p → zZ Tryz.prog 44 [.ptr 1000000 0, .p (.agg (polP p)), .p (pI (5 - n))] (wlkO w) (.p (pI (polS n w p).1)) (wlkO (polS n w p).2)
  | 0, _, w, p, _, _ => by
    rw [zf]
    refine ja (ts := [6]) Tryz.func44 (by kernel_rfl) rfl rfl rfl ?_
    (repeat refine qb ?_); refine qa ?_
    repeat (first | refine zR ?_ | refine zK ?_ | refine zM ?_ | refine zB ?_ | refine zA ?_ | refine zS ?_ | refine zL ?_)
    refine qc ?_
    (repeat refine qb ?_); refine qa ?_
    repeat (first | refine zR ?_ | refine zK ?_ | refine zM ?_ | refine zB ?_ | refine zA ?_ | refine zS ?_ | refine zL ?_)
    refine qc ?_
    (repeat refine qb ?_); refine qf rfl (fun h => ?_) (fun h => ?_)
    · (repeat refine qb ?_); refine qa ?_
      repeat (first | refine zR ?_ | refine zK ?_ | refine zM ?_ | refine zB ?_ | refine zA ?_ | refine zS ?_ | refine zL ?_)
      refine qc ?_
      (repeat refine qb ?_); refine qk ?_
      exact ⟨Or.inr rfl, _, _, wlkR, Wk.refl _, rfl, rfl, rfl, rfl⟩
    · cases h
  | n + 1, hn, w, p, hw, hf => by
    have H := whead_h w p hf.1
    have IH := fun w k hw hk => wpol_h n (by omega) w k hw hk
    have l1 : ((p.rules.map zt).length) = p.rules.length := by simp
    have l2 : ((p.kids.map polP).length) = p.kids.length := by simp
    rw [zf] at H ⊢
    rw [polS]
    have hlen := hf.1.nr
    have hlen2 := hf.1.nk
    unfold reachBytes at hlen hlen2
    refine ja (ts := [6]) Tryz.func44 (by kernel_rfl) rfl rfl rfl ?_
    (repeat refine qb ?_); refine qa ?_
    repeat (first | refine zR ?_ | refine zK ?_ | refine zM ?_ | refine zB ?_ | refine zA ?_ | refine zS ?_ | refine zL ?_)
    refine qc ?_
    (repeat refine qb ?_); refine qa ?_
    repeat (first | refine zR ?_ | refine zK ?_ | refine zM ?_ | refine zB ?_ | refine zA ?_ | refine zS ?_ | refine zL ?_)
    refine qc ?_
    (repeat refine qb ?_); refine qf rfl (fun h => ?_) (fun h => ?_)
    · exfalso
      simp at h
      omega
    · refine qm ?_
      (repeat refine qb ?_); refine qa ?_
      repeat (first | refine zR ?_ | refine zK ?_ | refine zM ?_ | refine zB ?_ | refine zA ?_ | refine zS ?_ | refine zL ?_)
      refine qn rfl (zr wlkR rfl rfl rfl rfl rfl rfl (H) rfl rfl rfl ?_)
      repeat (first | refine zR ?_ | refine zK ?_ | refine zM ?_ | refine zB ?_ | refine zA ?_ | refine zS ?_ | refine zL ?_)
      refine qc ?_
      (repeat refine qb ?_); refine qa ?_
      repeat (first | refine zR ?_ | refine zK ?_ | refine zM ?_ | refine zB ?_ | refine zA ?_ | refine zS ?_ | refine zL ?_)
      refine qc ?_
      (repeat refine qb ?_); refine qf rfl (fun h => ?_) (fun h => ?_)
      · have h1 : ¬ (zF w p).1 = 0 := by simpa using h
        rw [if_neg h1]
        (repeat refine qb ?_); refine qa ?_
        repeat (first | refine zR ?_ | refine zK ?_ | refine zM ?_ | refine zB ?_ | refine zA ?_ | refine zS ?_ | refine zL ?_)
        refine qc ?_
        (repeat refine qb ?_); refine qk ?_
        exact ⟨Or.inr rfl, _, _, wlkR, Wk.refl _, rfl, rfl, rfl, rfl⟩
      · have h1 : (zF w p).1 = 0 := by simpa using h
        rw [if_pos h1]
        have hw1 : lim (zF w p).2 := hw
        generalize (zF w p).2 = w1 at *
        refine qm ?_
        (repeat refine qb ?_); refine qa ?_
        repeat (first | refine zR ?_ | refine zK ?_ | refine zM ?_ | refine zB ?_ | refine zA ?_ | refine zS ?_ | refine zL ?_)
        refine qc ?_
        (repeat refine qb ?_); refine ql ?_
        refine SW.wk (qq [0, 2, 4, 23, 24, 25] [(1000000, 1000000), (1000001, 1000001), (4, 4)] rfl rfl) ?_
        refine qO (fun m s => ∃ (k : Nat) (kk : Int) (wk : Wlk), k ≤ p.rules.length ∧ m = p.rules.length - k ∧ kk = k ∧ (seqS zq w1 (p.rules.take k)).1 = 0 ∧ wk = (seqS zq w1 (p.rules.take k)).2 ∧
          s = ⟨52, [(0, .ptr 1000000 0), (2, .p (pI (5 - (n + 1 : Nat)))), (4, .ptr 4 0), (23, .p (.sl 5 (p.rules.map zt))), (24, .p (pI p.rules.length)), (25, .p (pI kk))], wlkO wk ++ [(4, .cells ([pS p.id, pB p.set, pI p.alg, tgtP p.target, .sl 5 (p.rules.map zt), .sl 7 (p.kids.map polP), zQ p.obls].map .p))]⟩) p.rules.length ⟨0, 0, w1, Nat.zero_le _, rfl, rfl, rfl, rfl, by rw [← l1]; rfl⟩ ?_
        rintro m s ⟨k, _, wk, hk, rfl, rfl, ha, hwk, rfl⟩
        have hlk : lim wk := by rw [hwk]; exact jI (P := lim) (fun w x hw h => ruleS_lim hw h) hw1 ha
        (repeat refine qb ?_); refine qa ?_
        repeat (first | refine zR ?_ | refine zK ?_ | refine zM ?_ | refine zB ?_ | refine zA ?_ | refine zS ?_ | refine zL ?_)
        refine qc ?_
        (repeat refine qb ?_); refine qf rfl (fun hlt => ?_) (fun hlt => ?_)
        · refine qm ?_
          simp only [decide_eq_true_eq] at hlt
          have hlt' : k < p.rules.length := by omega
          have hst := seqS_some hlt' ha
          rw [← hwk] at hst
          (repeat refine qb ?_); refine ql ?_
          (repeat refine qb ?_); refine qa ?_
          repeat (first | refine zR ?_ | refine zK ?_ | refine zM ?_ | refine zB ?_ | refine zA ?_ | refine zS ?_ | refine zL ?_)
          refine qw qe rfl rfl (by rw [l1]; omega) rfl ?_
          rw [qJ hlt']
          repeat (first | refine zR ?_ | refine zK ?_ | refine zM ?_ | refine zB ?_ | refine zA ?_ | refine zS ?_ | refine zL ?_)
          refine qc ?_
          have H2 := wrule_h wk hlk p.rules[k] (hf.1.rules _ (List.getElem_mem hlt'))
          (repeat refine qb ?_); refine qa ?_
          repeat (first | refine zR ?_ | refine zK ?_ | refine zM ?_ | refine zB ?_ | refine zA ?_ | refine zS ?_ | refine zL ?_)
          refine qn rfl (zr wlkR rfl rfl rfl rfl rfl rfl (H2) rfl rfl rfl ?_)
          repeat (first | refine zR ?_ | refine zK ?_ | refine zM ?_ | refine zB ?_ | refine zA ?_ | refine zS ?_ | refine zL ?_)
          refine qc ?_
          (repeat refine qb ?_); refine qa ?_
          repeat (first | refine zR ?_ | refine zK ?_ | refine zM ?_ | refine zB ?_ | refine zA ?_ | refine zS ?_ | refine zL ?_)
          refine qc ?_
          (repeat refine qb ?_); refine qf rfl (fun h => ?_) (fun h => ?_)
          · have h2 : ¬ (zq wk p.rules[k]).1 = 0 := by simpa using h
            have e : seqS zq w1 p.rules = zq wk p.rules[k] := by rw [seqS_stop (k + 1) (by rw [hst]; exact h2), hst]
            rw [e, if_neg h2]
            (repeat refine qb ?_); refine qa ?_
            repeat (first | refine zR ?_ | refine zK ?_ | refine zM ?_ | refine zB ?_ | refine zA ?_ | refine zS ?_ | refine zL ?_)
            refine qc ?_
            (repeat refine qb ?_); refine qk ?_
            exact ⟨Or.inr rfl, _, _, wlkR, Wk.refl _, rfl, rfl, rfl, rfl⟩
          · have h2 : (zq wk p.rules[k]).1 = 0 := by simpa using h
            refine qm ?_
            (repeat refine qb ?_); refine qa ?_
            repeat (first | refine zR ?_ | refine zK ?_ | refine zM ?_ | refine zB ?_ | refine zA ?_ | refine zS ?_ | refine zL ?_)
            refine qc ?_
            refine ⟨_, _, ?_, qq [0, 2, 4, 23, 24, 25] [(1000000, 1000000), (1000001, 1000001), (4, 4)] rfl rfl, k + 1, _, _, hlt', rfl, qz hlt' (by omega), by rw [hst]; exact h2, by rw [hst], rfl⟩
            omega
        · refine qK ?_
          simp only [decide_eq_false_iff_not] at hlt
          have hkk : k = p.rules.length := by omega
          subst hkk
          rw [List.take_length] at ha hwk
          rw [if_pos ha, ← hwk]
          clear hwk
          (repeat refine qb ?_); refine qa ?_
          repeat (first | refine zR ?_ | refine zK ?_ | refine zM ?_ | refine zB ?_ | refine zA ?_ | refine zS ?_ | refine zL ?_)
          refine qc ?_
          (repeat refine qb ?_); refine ql ?_
          refine SW.wk (qq [0, 2, 37, 38, 39] [(1000000, 1000000), (1000001, 1000001)] rfl rfl) ?_
          refine qO (fun m s => ∃ (k : Nat) (kk : Int) (w2 : Wlk), k ≤ p.kids.length ∧ m = p.kids.length - k ∧ kk = k ∧ (seqS (polS n) wk (p.kids.take k)).1 = 0 ∧ w2 = (seqS (polS n) wk (p.kids.take k)).2 ∧
            s = ⟨52, [(0, .ptr 1000000 0), (2, .p (pI (5 - (n + 1 : Nat)))), (37, .p (.sl 7 (p.kids.map polP))), (38, .p (pI p.kids.length)), (39, .p (pI kk))], wlkO w2⟩) p.kids.length ⟨0, 0, wk, Nat.zero_le _, rfl, rfl, rfl, rfl, by rw [← l2]; rfl⟩ ?_
          rintro m s ⟨k, _, w2, hk, rfl, rfl, ha, hwk, rfl⟩
          have hl2 : lim w2 := by rw [hwk]; exact jI (P := lim) (fun w x hw h => polS_lim n w x hw h) hlk ha
          (repeat refine qb ?_); refine qa ?_
          repeat (first | refine zR ?_ | refine zK ?_ | refine zM ?_ | refine zB ?_ | refine zA ?_ | refine zS ?_ | refine zL ?_)
          refine qc ?_
          (repeat refine qb ?_); refine qf rfl (fun hlt => ?_) (fun hlt => ?_)
          · refine qm ?_
            simp only [decide_eq_true_eq] at hlt
            have hlt' : k < p.kids.length := by omega
            have hst := seqS_some hlt' ha
            rw [← hwk] at hst
            (repeat refine qb ?_); refine ql ?_
            (repeat refine qb ?_); refine qa ?_
            repeat (first | refine zR ?_ | refine zK ?_ | refine zM ?_ | refine zB ?_ | refine zA ?_ | refine zS ?_ | refine zL ?_)
            refine qw qe rfl rfl (by rw [l2]; omega) rfl ?_
            rw [qJ hlt', zf]
            repeat (first | refine zR ?_ | refine zK ?_ | refine zM ?_ | refine zB ?_ | refine zA ?_ | refine zS ?_ | refine zL ?_)
            refine qc ?_
            have H2 := IH w2 p.kids[k] hl2 (hf.2 _ (List.getElem_mem hlt'))
            rw [zf] at H2
            (repeat refine qb ?_); refine qa ?_
            repeat (first | refine zR ?_ | refine zK ?_ | refine zM ?_ | refine zB ?_ | refine zA ?_ | refine zS ?_ | refine zL ?_)
            rw [show IntKind.i64.wrap ((5 : Int) - (n + 1 : Nat) + 1) = 5 - (n : Int) by rw [IntWalk.i64_in _ (by omega)]; omega]
            refine qn rfl (zr wlkR rfl rfl rfl rfl rfl rfl (H2) rfl rfl rfl ?_)
            repeat (first | refine zR ?_ | refine zK ?_ | refine zM ?_ | refine zB ?_ | refine zA ?_ | refine zS ?_ | refine zL ?_)
            refine qc ?_
            (repeat refine qb ?_); refine qa ?_
            repeat (first | refine zR ?_ | refine zK ?_ | refine zM ?_ | refine zB ?_ | refine zA ?_ | refine zS ?_ | refine zL ?_)
            refine qc ?_
            (repeat refine qb ?_); refine qf rfl (fun h => ?_) (fun h => ?_)
            · have h2 : ¬ (polS n w2 p.kids[k]).1 = 0 := by simpa using h
              have e : seqS (polS n) wk p.kids = polS n w2 p.kids[k] := by rw [seqS_stop (k + 1) (by rw [hst]; exact h2), hst]
              rw [e]
              (repeat refine qb ?_); refine qa ?_
              repeat (first | refine zR ?_ | refine zK ?_ | refine zM ?_ | refine zB ?_ | refine zA ?_ | refine zS ?_ | refine zL ?_)
              refine qc ?_
              (repeat refine qb ?_); refine qk ?_
              exact ⟨Or.inr rfl, _, _, wlkR, Wk.refl _, rfl, rfl, rfl, rfl⟩
            · have h2 : (polS n w2 p.kids[k]).1 = 0 := by simpa using h
              refine qm ?_
              (repeat refine qb ?_); refine qa ?_
              repeat (first | refine zR ?_ | refine zK ?_ | refine zM ?_ | refine zB ?_ | refine zA ?_ | refine zS ?_ | refine zL ?_)
              refine qc ?_
              refine ⟨_, _, ?_, qq [0, 2, 37, 38, 39] [(1000000, 1000000), (1000001, 1000001)] rfl rfl, k + 1, _, _, hlt', rfl, qz hlt' (by omega), by rw [hst]; exact h2, by rw [hst], rfl⟩
              omega
          · refine qK ?_
            simp only [decide_eq_false_iff_not] at hlt
            have hkk : k = p.kids.length := by omega
            subst hkk
            rw [List.take_length] at ha hwk
            rw [ha, ← hwk]
            (repeat refine qb ?_); refine qa ?_
            repeat (first | refine zR ?_ | refine zK ?_ | refine zM ?_ | refine zB ?_ | refine zA ?_ | refine zS ?_ | refine zL ?_)
            refine qc ?_
            (repeat refine qb ?_); refine qk ?_
            exact ⟨Or.inr rfl, _, _, wlkR, Wk.refl _, rfl, rfl, rfl, rfl⟩
theorem right_h (p : Pol) (hf : PolFit 4 p) : Holds Tryz.prog 17 [.agg (polP p)] (.p (pI (zb p))) [] := by
  have H := wpol_h 4 (Nat.le_refl _) ⟨[], 0⟩ p ⟨Int.le_refl _, by decide⟩ hf
  rw [zf] at H ⊢
  refine qA (ts := [2]) Tryz.func17 (by kernel_rfl) rfl rfl rfl ?_
  (repeat refine qb ?_); refine qa ?_
  repeat (first | refine zR ?_ | refine zK ?_ | refine zM ?_ | refine zB ?_ | refine zA ?_ | refine zS ?_ | refine zL ?_)
  refine qc ?_
  (repeat refine qb ?_); refine qa ?_
  repeat (first | refine zR ?_ | refine zK ?_ | refine zM ?_ | refine zB ?_ | refine zA ?_ | refine zS ?_ | refine zL ?_)
  refine qc ?_
  (repeat refine qb ?_); refine qa ?_
  repeat (first | refine zR ?_ | refine zK ?_ | refine zM ?_ | refine zB ?_ | refine zA ?_ | refine zS ?_ | refine zL ?_)
  refine qn rfl (zr [(6, 1000000), (4, 1000001)] rfl rfl rfl rfl rfl rfl (H) rfl rfl rfl ?_)
  repeat (first | refine zR ?_ | refine zK ?_ | refine zM ?_ | refine zB ?_ | refine zA ?_ | refine zS ?_ | refine zL ?_)
  refine qc ?_
  (repeat refine qb ?_); refine qk ?_
  exact ⟨Or.inr rfl, _, _, [], Wk.refl _, rfl, rfl, rfl, rfl⟩
end Go.Proofs.YtppfcacnofjmdaaGreatDoor
namespace Go.Proofs.YtppfcacnofjmdaaGreatDoor
set_option linter.unusedVariables false
set_option linter.unusedSimpArgs false
open Go.RowKit
theorem opens_tint : Opens Tryz.prog 3 1 rInt := opens_int Tryz.underlying3 (by kernel_rfl)
theorem opens_tstr : Opens Tryz.prog 9 1 rStr := opens_str Tryz.underlying9 (by kernel_rfl)
theorem opens_tbool : Opens Tryz.prog 4 1 rBool := opens_bool Tryz.underlying4 (by kernel_rfl)
set_option maxRecDepth 100000 in
theorem opens_val : Opens Tryz.prog 52 3 rVal := by
  refine ⟨by kernel_rfl, fun H enc w fuel cs x h hw => ?_⟩
  obtain ⟨hlen, m, _, hf⟩ := jl Tryz.underlying52 h hw
  have hc : Tryz.prog.cellsOf 52 = 3 := by kernel_rfl
  rw [hc] at hlen
  match cs, hlen with
  | [c0, c1, c2], _ =>
    obtain ⟨k, hk⟩ := opens_tint.field (off := 0) (hf 0 _ rfl)
    obtain ⟨n, hn⟩ := opens_tint.field (off := 1) (hf 1 _ rfl)
    obtain ⟨s, hs⟩ := opens_tstr.field (off := 2) (hf 2 _ rfl)
    simp only [rInt, rStr, List.drop_succ_cons, List.drop_zero, List.take_succ_cons, List.take_zero, List.cons.injEq, and_true] at hk hn hs
    obtain ⟨rfl, hk⟩ := hk
    obtain ⟨rfl, hn⟩ := hn
    obtain ⟨rfl, hs⟩ := hs
    exact ⟨⟨k, n, s⟩, rfl, hk, hn, hs⟩
theorem opens_vals : Opens Tryz.prog 86 1 (rSl rVal 3) := wK Tryz.underlying86 (by kernel_rfl) (by decide +kernel) (by omega) opens_val
end Go.Proofs.YtppfcacnofjmdaaGreatDoor
namespace Go.Proofs.YtppfcacnofjmdaaGreatDoor
set_option linter.unusedVariables false
set_option linter.unusedSimpArgs false
open Go.RowKit
set_option maxRecDepth 100000 in
theorem opens_atr : Opens Tryz.prog 54 3 rAtr := by
  refine ⟨by kernel_rfl, fun H enc w fuel cs x h hw => ?_⟩
  obtain ⟨hlen, m, _, hf⟩ := jl Tryz.underlying54 h hw
  have hc : Tryz.prog.cellsOf 54 = 3 := by kernel_rfl
  rw [hc] at hlen
  match cs, hlen with
  | [c0, c1, c2], _ =>
    obtain ⟨k, hk⟩ := opens_tint.field (off := 0) (hf 0 _ rfl)
    obtain ⟨n, hn⟩ := opens_tstr.field (off := 1) (hf 1 _ rfl)
    obtain ⟨s, hs⟩ := opens_tbool.field (off := 2) (hf 2 _ rfl)
    simp only [rInt, rStr, rBool, List.drop_succ_cons, List.drop_zero, List.take_succ_cons, List.take_zero, List.cons.injEq, and_true] at hk hn hs
    obtain ⟨rfl, hk⟩ := hk
    obtain ⟨rfl, hn⟩ := hn
    obtain rfl := hs
    exact ⟨⟨k, n, s⟩, rfl, hk, hn⟩
set_option maxRecDepth 100000 in
theorem opens_mat : Opens Tryz.prog 62 7 rMat := by
  refine ⟨by kernel_rfl, fun H enc w fuel cs x h hw => ?_⟩
  obtain ⟨hlen, m, _, hf⟩ := jl Tryz.underlying62 h hw
  have hc : Tryz.prog.cellsOf 62 = 7 := by kernel_rfl
  rw [hc] at hlen
  match cs, hlen with
  | [c0, c1, c2, c3, c4, c5, c6], _ =>
    obtain ⟨a, ha⟩ := opens_atr.field (off := 0) (hf 0 _ rfl)
    obtain ⟨o, ho⟩ := opens_tint.field (off := 3) (hf 1 _ rfl)
    obtain ⟨v, hv⟩ := opens_val.field (off := 4) (hf 2 _ rfl)
    simp only [rInt, rAtr, rVal, Atr.cells, Val.cells, List.drop_succ_cons, List.drop_zero, List.take_succ_cons, List.take_zero, List.cons.injEq, and_true] at ha ho hv
    obtain ⟨⟨rfl, rfl, rfl⟩, ha⟩ := ha
    obtain ⟨rfl, ho⟩ := ho
    obtain ⟨⟨rfl, rfl, rfl⟩, hv⟩ := hv
    exact ⟨⟨a, o, v⟩, rfl, ha, ho, hv⟩
set_option maxRecDepth 100000 in
theorem opens_giv : Opens Tryz.prog 88 3 rGiv := by
  refine ⟨by kernel_rfl, fun H enc w fuel cs x h hw => ?_⟩
  obtain ⟨hlen, m, _, hf⟩ := jl Tryz.underlying88 h hw
  have hc : Tryz.prog.cellsOf 88 = 3 := by kernel_rfl
  rw [hc] at hlen
  match cs, hlen with
  | [c0, c1, c2], _ =>
    obtain ⟨k, hk⟩ := opens_tint.field (off := 0) (hf 0 _ rfl)
    obtain ⟨n, hn⟩ := opens_tstr.field (off := 1) (hf 1 _ rfl)
    obtain ⟨s, hs⟩ := opens_vals.field (off := 2) (hf 2 _ rfl)
    simp only [rInt, rStr, rSl, List.drop_succ_cons, List.drop_zero, List.take_succ_cons, List.take_zero, List.cons.injEq, and_true] at hk hn hs
    obtain ⟨rfl, hk⟩ := hk
    obtain ⟨rfl, hn⟩ := hn
    obtain ⟨A, c, rfl, h1, h2, h3⟩ := hs
    exact ⟨⟨k, n, s⟩, A, c, rfl, hk, hn, h1, h2, h3⟩
theorem opens_givs : Opens Tryz.prog 29 1 (rSl rGiv 3) := wK Tryz.underlying29 (by kernel_rfl) (by decide +kernel) (by omega) opens_giv
theorem opens_mats : Opens Tryz.prog 63 1 (rSl rMat 7) := wK Tryz.underlying63 (by kernel_rfl) (by decide +kernel) (by omega) opens_mat
theorem opens_matss : Opens Tryz.prog 64 1 (rSl (rSl rMat 7) 1) := wK Tryz.underlying64 (by kernel_rfl) (by decide +kernel) (by omega) opens_mats
theorem opens_tar : Opens Tryz.prog 23 1 (rSl (rSl (rSl rMat 7) 1) 1) := wK Tryz.underlying23 (by kernel_rfl) (by decide +kernel) (by omega) opens_matss
end Go.Proofs.YtppfcacnofjmdaaGreatDoor
namespace Go.Proofs.YtppfcacnofjmdaaGreatDoor
set_option linter.unusedVariables false
set_option linter.unusedSimpArgs false
open Go.RowKit
set_option maxRecDepth 100000 in
theorem opens_obl : Opens Tryz.prog 43 3 rObl := by
  refine ⟨by kernel_rfl, fun H enc w fuel cs x h hw => ?_⟩
  obtain ⟨hlen, m, _, hf⟩ := jl Tryz.underlying43 h hw
  have hc : Tryz.prog.cellsOf 43 = 3 := by kernel_rfl
  rw [hc] at hlen
  match cs, hlen with
  | [c0, c1, c2], _ =>
    obtain ⟨k, hk⟩ := opens_tint.field (off := 0) (hf 0 _ rfl)
    obtain ⟨n, hn⟩ := opens_tint.field (off := 1) (hf 1 _ rfl)
    obtain ⟨s, hs⟩ := opens_tstr.field (off := 2) (hf 2 _ rfl)
    simp only [rInt, rStr, List.drop_succ_cons, List.drop_zero, List.take_succ_cons, List.take_zero, List.cons.injEq, and_true] at hk hn hs
    obtain ⟨rfl, hk⟩ := hk
    obtain ⟨rfl, hn⟩ := hn
    obtain ⟨rfl, hs⟩ := hs
    exact ⟨⟨k, n, s⟩, rfl, hk, hn, hs⟩
set_option maxRecDepth 100000 in
theorem opens_nod : Opens Tryz.prog 56 7 rNod := by
  refine ⟨by kernel_rfl, fun H enc w fuel cs x h hw => ?_⟩
  obtain ⟨hlen, m, _, hf⟩ := jl Tryz.underlying56 h hw
  have hc : Tryz.prog.cellsOf 56 = 7 := by kernel_rfl
  rw [hc] at hlen
  match cs, hlen with
  | [c0, c1, c2, c3, c4, c5, c6], _ =>
    obtain ⟨o, ho⟩ := opens_tint.field (off := 0) (hf 0 _ rfl)
    obtain ⟨v, hv⟩ := opens_val.field (off := 1) (hf 1 _ rfl)
    obtain ⟨a, ha⟩ := opens_atr.field (off := 4) (hf 2 _ rfl)
    simp only [rInt, rAtr, rVal, Atr.cells, Val.cells, List.drop_succ_cons, List.drop_zero, List.take_succ_cons, List.take_zero, List.cons.injEq, and_true] at ha ho hv
    obtain ⟨⟨rfl, rfl, rfl⟩, ha⟩ := ha
    obtain ⟨rfl, ho⟩ := ho
    obtain ⟨⟨rfl, rfl, rfl⟩, hv⟩ := hv
    exact ⟨⟨o, v, a⟩, rfl, ho, hv, ha⟩
theorem opens_obls : Opens Tryz.prog 26 1 (rSl rObl 3) := wK Tryz.underlying26 (by kernel_rfl) (by decide +kernel) (by omega) opens_obl
theorem opens_nods : Opens Tryz.prog 50 1 (rSl rNod 7) := wK Tryz.underlying50 (by kernel_rfl) (by decide +kernel) (by omega) opens_nod
theorem obl_pv {w : World} {cs : List Value} {x : Obli} (h : rObl w cs x) : rPV (fun _ => True) w cs x.pv := by
  rw [h.1]; exact plain_rPV (xs := [.int .i64 x.on, .int .i64 x.kind, .string x.arg]) (by simp [plain])
theorem nod_pv {w : World} {cs : List Value} {x : Nod} (h : rNod w cs x) : rPV (fun _ => True) w cs x.pv := by
  rw [h.1]; exact plain_rPV (xs := [.int .i64 x.op, .int .i64 x.val.kind, .int .i64 x.val.n, .string x.val.s, .int .i64 x.attr.cat, .string x.attr.name, .bool x.attr.must]) (by simp [plain])
theorem obls_rel {w : World} {A : Option Addr} {c : Nat} {l : List Obli} (h : SlAt rObl 3 w A l) (hl : l.length ≤ c) (hc : l.length ≤ reachBytes ∧ c ≤ maxLen) : RelP (fun _ => True) w (zQ l) (.slice A l.length c) :=
  rel_sl h hl hc (fun x => ⟨rfl, rfl⟩) fun x _ cs h => obl_pv h
theorem nods_rel {w : World} {A : Option Addr} {c : Nat} {l : List Nod} (h : SlAt rNod 7 w A l) (hl : l.length ≤ c) (hc : l.length ≤ reachBytes ∧ c ≤ maxLen) : RelP (fun _ => True) w (qar l) (.slice A l.length c) :=
  rel_sl h hl hc (fun x => ⟨rfl, rfl⟩) fun x _ cs h => nod_pv h
end Go.Proofs.YtppfcacnofjmdaaGreatDoor
namespace Go.Proofs.YtppfcacnofjmdaaGreatDoor
set_option linter.unusedVariables false
set_option linter.unusedSimpArgs false
open Go.RowKit
theorem SlV.rel {α : Type} {R : Rp α} {f : α → List PV} {z : Nat} {w : World} {v : Value} {l : List α} (h : SlV R z w v l) (hz : ∀ x, (f x).length = z ∧ (f x).all oneP = true) (hf : ∀ x ∈ l, ∀ cs, R w cs x → rPV (fun _ => True) w cs (f x)) : RelP (fun _ => True) w (.sl z (l.map f)) v := by
  obtain ⟨A, c, rfl, h1, h2, h3⟩ := h
  exact rel_sl h3 h1 h2 hz hf
theorem SlV.fit {α : Type} {R : Rp α} {size : Nat} {w : World} {v : Value} {l : List α} {F : α → Prop} (h : SlV R size w v l) (hR : ∀ cs x, R w cs x → F x) : (∀ x ∈ l, F x) ∧ l.length ≤ reachBytes := by
  obtain ⟨A, c, rfl, h1, h2, h3⟩ := h
  exact ⟨h3.fit hR, h2.1⟩
theorem jf {ok : Nat → Prop} {w : World} {c : Value} {cs : List Value} {p : PV} {ps : List PV} (h : RelP ok w p c) (t : rPV ok w cs ps) : rPV ok w (c :: cs) (p :: ps) := by
  refine ⟨by simp [t.1], fun j s u hs hu => ?_⟩
  cases j with
  | zero => simp at hs hu; subst hs; subst hu; exact h
  | succ j => exact t.2 j s u (by simpa using hs) (by simpa using hu)
theorem rPV_nil {ok : Nat → Prop} {w : World} : rPV ok w [] [] := ⟨rfl, fun j s u hs _ => by simp at hs⟩
set_option maxRecDepth 100000 in
theorem opens_rul : Opens Tryz.prog 59 5 rRul := by
  refine ⟨by kernel_rfl, fun H enc w fuel cs x h hw => ?_⟩
  obtain ⟨hlen, m, _, hf⟩ := jl Tryz.underlying59 h hw
  have hc : Tryz.prog.cellsOf 59 = 5 := by kernel_rfl
  rw [hc] at hlen
  match cs, hlen with
  | [c0, c1, c2, c3, c4], _ =>
    obtain ⟨o, ho⟩ := opens_tstr.field (off := 0) (hf 0 _ rfl)
    obtain ⟨b, hb⟩ := opens_tbool.field (off := 1) (hf 1 _ rfl)
    obtain ⟨t, h2⟩ := opens_tar.field (off := 2) (hf 2 _ rfl)
    obtain ⟨n, h3⟩ := opens_nods.field (off := 3) (hf 3 _ rfl)
    obtain ⟨l, h4⟩ := opens_obls.field (off := 4) (hf 4 _ rfl)
    simp only [rStr, rBool, List.drop_succ_cons, List.drop_zero, List.take_succ_cons, List.take_zero, List.cons.injEq, and_true] at ho hb h2 h3 h4
    obtain ⟨rfl, ho⟩ := ho
    subst hb
    exact ⟨⟨o, b, t, n, l⟩, c2, c3, c4, rfl, ho, .of h2, .of h3, .of h4⟩
theorem opens_ruls : Opens Tryz.prog 24 1 (rSl rRul 5) := wK Tryz.underlying24 (by kernel_rfl) (by decide +kernel) (by omega) opens_rul
theorem tar_pv {w : World} {v : Value} {t : Tar} (h : SlV rTar' 1 w v t) : RelP (fun _ => True) w (tgtP t) v := by
  obtain ⟨A, c, rfl, h1, h2, h3⟩ := h
  exact tgt_rel h3 h1 h2
theorem rul_pv {w : World} {cs : List Value} {x : Rul} (h : rRul w cs x) : rPV (fun _ => True) w cs (zt x) := by
  obtain ⟨c2, c3, c4, rfl, _, h2, h3, h4⟩ := h
  exact jf (.v rfl) (jf (.v rfl) (jf (tar_pv h2) (jf (h3.rel (fun x => ⟨rfl, rfl⟩) fun x _ cs h => nod_pv h) (jf (h4.rel (fun x => ⟨rfl, rfl⟩) fun x _ cs h => obl_pv h) rPV_nil))))
theorem rul_fit {w : World} {cs : List Value} {x : Rul} (h : rRul w cs x) : RulFit x := by
  obtain ⟨c2, c3, c4, rfl, h1, ⟨A, c, rfl, _, _, h2⟩, h3, h4⟩ := h
  exact ⟨h1, tgt_fit h2, (h3.fit fun _ _ h => h.2).1, (h4.fit fun _ _ h => h.2).1⟩
def rPolX : Rp Pol := fun w cs p => ∃ n, rPolN n w cs p
def OpensS {α : Type} (P : Program) (t : TypeId) (size : Nat) (R : Rp α) (s : Nat) : Prop :=
  P.cellsOf t = size ∧ ∀ (H : Type) (enc : TypeId × Value → H) (w : World) (fuel : Nat) (cs : List Value) (x : DataW H × List MemPlace), SizeOf.sizeOf x.1 < s →
    DataW.trod enc P w 0 (fun _ => true) true fuel t cs = some x → (∀ n ∈ x.1.weights P t, n ≤ reachBytes) → ∃ y, R w cs y
theorem sl_openS {α : Type} {P : Program} {t e : TypeId} {size s : Nat} {R : Rp α} (ht : P.underlying t = some (.slice e)) (hb : 1 ≤ P.bytesOf e) (hs : 1 ≤ size) (he : OpensS P e size R s)
    {H : Type} {enc : TypeId × Value → H} {w : World} {fuel : Nat} {cs : List Value} {x : DataW H × List MemPlace} (hx : SizeOf.sizeOf x.1 ≤ s) (h : DataW.trod enc P w 0 (fun _ => true) true fuel t cs = some x) (hw : ∀ n ∈ x.1.weights P t, n ≤ reachBytes) : ∃ y, rSl R size w cs y := by
  rcases Go.Deep.open_slice ht h with ⟨rfl, _⟩ | ⟨a, len, cap, m, n, D, Pl, rfl, _, hlc, hcm, hm, rfl, hel⟩
  · exact ⟨[], none, 0, rfl, Nat.le_refl _, ⟨Nat.zero_le _, Nat.zero_le _⟩, SlAt.nil⟩
  · simp only [if_true] at hm
    subst hm
    have hcap : m ≤ reachBytes := by
      have h1 := hw ((((List.range len).map D).length + ((List.range (m - len)).map fun j => D (len + j)).length) * P.bytesOf e) (by simp [DataW.weights, ht])
      simp only [List.length_map, List.length_range] at h1
      have h2 : len + (m - len) = m := by omega
      rw [h2] at h1
      exact Nat.le_trans (Nat.le_mul_of_pos_right m hb) h1
    have hcap' : m ≤ maxLen := by unfold maxLen; unfold reachBytes at hcap; omega
    have hsz : ∀ i, i < m → SizeOf.sizeOf (D i) < s := fun i hi => by
      simp only [DataW.slice.sizeOf_spec] at hx
      rcases Nat.lt_or_ge i len with hil | hil
      · have : D i ∈ (List.range len).map D := List.mem_map.2 ⟨i, List.mem_range.2 hil, rfl⟩
        have := List.sizeOf_lt_of_mem this
        omega
      · have : D i ∈ (List.range (m - len)).map fun j => D (len + j) := List.mem_map.2 ⟨i - len, List.mem_range.2 (by omega), by rw [show len + (i - len) = i by omega]⟩
        have := List.sizeOf_lt_of_mem this
        omega
    have hcell : ∀ i, i < m → ∃ cs', cs'.length = size ∧ (∀ j u, cs'[j]? = some u → w.cell? ((a.add (i * size)).add j) = some u) ∧ ∃ y, R w cs' y := fun i hi => by
      obtain ⟨cs', h1, h2⟩ := hel i hi
      rw [he.1] at h1
      obtain ⟨_, h3, h4⟩ := World.cells?_some h1
      refine ⟨cs', h3, fun j u hj => ?_, ?_⟩
      · have : j < size := by rw [← h3]; exact (List.getElem?_eq_some_iff.1 hj).1
        rw [h4 j this, hj]
      · refine he.2 H enc w n cs' _ (hsz i hi) h2 fun k hk => hw k ?_
        simp only [DataW.weights, ht, List.mem_cons, List.mem_append]
        rcases Nat.lt_or_ge i len with hil | hil
        · exact Or.inr (Or.inl (jc (List.mem_map.2 ⟨i, List.mem_range.2 hil, rfl⟩) k hk))
        · refine Or.inr (Or.inr (jc (d := D i) (List.mem_map.2 ⟨i - len, List.mem_range.2 (by omega), ?_⟩) k hk))
          rw [show len + (i - len) = i by omega]
    rcases Nat.eq_zero_or_pos len with h0 | hpos
    · subst h0
      exact ⟨[], some a, m, rfl, Nat.zero_le _, ⟨Nat.zero_le _, hcap'⟩, SlAt.nil⟩
    · have hsp : a.spot = none ∧ a.block < w.heap.size := by
        obtain ⟨cs', h1, h2, _⟩ := hcell 0 (by omega)
        obtain ⟨u, hu⟩ : ∃ u, cs'[0]? = some u := ⟨cs'[0]'(by omega), List.getElem?_eq_getElem _⟩
        have h3 := h2 0 u hu
        simp only [Nat.zero_mul, Addr.add, if_true] at h3
        exact ⟨(lt_of_cell h3).2, (lt_of_cell h3).1⟩
      obtain ⟨b, o, sp⟩ := a
      obtain ⟨rfl, hlt⟩ := hsp
      have hadd : ∀ o k : Nat, (⟨b, o, none⟩ : Addr).add k = ⟨b, o + k, none⟩ := fun o k => by
        unfold Addr.add; split
        · simp [*]
        · rfl
      have hex : ∀ i : Nat, ∃ y : α, i < m → ∃ cs', cs'.length = size ∧ CellsAt w b (o + i * size) cs' ∧ R w cs' y := fun i => by
        by_cases hi : i < m
        · obtain ⟨cs', h1, h2, y, hy⟩ := hcell i hi
          refine ⟨y, fun _ => ⟨cs', h1, fun j u hj => ?_, hy⟩⟩
          have := h2 j u hj
          rw [hadd, hadd] at this
          exact this
        · obtain ⟨_, _, _, y, _⟩ := hcell 0 (by omega)
          exact ⟨y, fun h => absurd h hi⟩
      obtain ⟨f, hf⟩ := Classical.axiomOfChoice hex
      refine ⟨(List.range len).map f, some ⟨b, o, none⟩, m, by simp, by simpa using hlc, ⟨by simp; omega, hcap'⟩, fun _ => ⟨b, o, rfl, hlt, fun i hi => ?_⟩⟩
      have hi' : i < len := by simpa using hi
      obtain ⟨cs', h1, h2, h3⟩ := hf i (by omega)
      exact ⟨cs', h1, h2, by simpa using h3⟩
theorem struct_openS {H : Type} {enc : TypeId × Value → H} {P : Program} {w : World} {fuel : Nat} {t : TypeId} {fs : Array Field} {cs : List Value} {x : DataW H × List MemPlace} (ht : P.underlying t = some (.struct fs))
    (h : DataW.trod enc P w 0 (fun _ => true) true fuel t cs = some x) (hw : ∀ n ∈ x.1.weights P t, n ≤ reachBytes) :
    cs.length = P.cellsOf t ∧ ∃ m, ∀ (i : Nat) (f : Field), fs[i]? = some f → ∃ y, DataW.trod enc P w 0 (fun _ => true) true m f.type ((cs.drop f.offset).take (P.cellsOf f.type)) = some y ∧ (∀ n ∈ y.1.weights P f.type, n ≤ reachBytes) ∧ SizeOf.sizeOf y.1 < SizeOf.sizeOf x.1 := by
  obtain ⟨xs, n, hn, hx, hlen, hxl, hf⟩ := DataW.trod_struct ht h
  refine ⟨hlen, n, fun i f hi => ?_⟩
  have hil : i < fs.size := (Array.getElem?_eq_some_iff.1 hi).1
  have hy : xs[i]? = some (xs[i]'(by omega)) := List.getElem?_eq_getElem (by omega)
  refine ⟨_, (hf i f hi).trans hy, fun k hk => hw k ?_, ?_⟩
  · subst hx
    simp only [DataW.weights, ht]
    refine DataW.weights_mem_each (j := i) (t := f.type) (d := (xs[i]'(by omega)).1) ?_ ?_ k hk
    · rw [List.getElem?_map, Array.getElem?_toList, hi]; rfl
    · rw [List.getElem?_map, hy]; rfl
  · subst hx
    have h1 : (xs[i]'(by omega)).1 ∈ xs.map (·.1) := List.mem_map.2 ⟨_, List.getElem_mem _, rfl⟩
    have h2 := List.sizeOf_lt_of_mem h1
    simp only [DataW.agg.sizeOf_spec]
    omega
theorem hd3 {α : Type} {P : α → Prop} {Q R : α → Prop} (h : ∃ y, P y ∧ Q y ∧ R y) : ∃ y, P y ∧ Q y := by
  obtain ⟨y, a, b, _⟩ := h; exact ⟨y, a, b⟩
set_option maxRecDepth 100000 in
theorem opens_polS : ∀ s, OpensS Tryz.prog 28 7 (rPolN s) s := by
  intro s
  induction s with
  | zero => exact ⟨by kernel_rfl, fun H enc w fuel cs x hx => absurd hx (Nat.not_lt_zero _)⟩
  | succ s ih =>
    refine ⟨by kernel_rfl, fun H enc w fuel cs x hx h hw => ?_⟩
    obtain ⟨hlen, m, hf⟩ := struct_openS Tryz.underlying28 h hw
    have hc : Tryz.prog.cellsOf 28 = 7 := by kernel_rfl
    rw [hc] at hlen
    match cs, hlen with
    | [c0, c1, c2, c3, c4, c5, c6], _ =>
      obtain ⟨o, ho⟩ := opens_tstr.field (off := 0) (hd3 (hf 0 _ rfl))
      obtain ⟨b, hb⟩ := opens_tbool.field (off := 1) (hd3 (hf 1 _ rfl))
      obtain ⟨n, hn⟩ := opens_tint.field (off := 2) (hd3 (hf 2 _ rfl))
      obtain ⟨t, h3⟩ := opens_tar.field (off := 3) (hd3 (hf 3 _ rfl))
      obtain ⟨r, h4⟩ := opens_ruls.field (off := 4) (hd3 (hf 4 _ rfl))
      obtain ⟨l, h6⟩ := opens_obls.field (off := 6) (hd3 (hf 6 _ rfl))
      obtain ⟨y, h5, hy1, hy2⟩ := hf 5 _ rfl
      obtain ⟨k, h5⟩ := sl_openS Tryz.underlying25 (by decide +kernel) (by omega) ih (by omega) h5 hy1
      have hc1 : Tryz.prog.cellsOf 25 = 1 := by kernel_rfl
      simp only [rStr, rBool, rInt, hc1, List.drop_succ_cons, List.drop_zero, List.take_succ_cons, List.take_zero, List.cons.injEq, and_true] at ho hb hn h3 h4 h5 h6
      obtain ⟨rfl, ho⟩ := ho
      subst hb
      obtain ⟨rfl, hn⟩ := hn
      exact ⟨.mk o b n t r k l, c3, c4, c5, c6, rfl, ho, hn, .of h3, .of h4, .of h5, .of h6⟩
theorem opens_pol : Opens Tryz.prog 28 7 rPolX := ⟨(opens_polS 0).1, fun H enc w fuel cs x h hw => by
  obtain ⟨p, hp⟩ := (opens_polS (SizeOf.sizeOf x.1 + 1)).2 H enc w fuel cs x (Nat.lt_succ_self _) h hw
  exact ⟨p, _, hp⟩⟩
theorem polP_shape (x : Pol) : (polP x).length = 7 ∧ (polP x).all oneP = true := by rw [zf]; exact ⟨rfl, rfl⟩
theorem pol_pv : ∀ (n : Nat) {w : World} {cs : List Value} {p : Pol}, rPolN n w cs p → rPV (fun _ => True) w cs (polP p)
  | n + 1, w, cs, p, ⟨c3, c4, c5, c6, he, _, _, h3, h4, h5, h6⟩ => by
    subst he
    rw [zf]
    exact jf (.v rfl) (jf (.v rfl) (jf (.v rfl) (jf (tar_pv h3) (jf (h4.rel (fun x => ⟨rfl, rfl⟩) fun x _ cs h => rul_pv h)
      (jf (h5.rel polP_shape fun x _ cs h => pol_pv n h) (jf (h6.rel (fun x => ⟨rfl, rfl⟩) fun x _ cs h => obl_pv h) rPV_nil))))))
theorem pol_fit : ∀ (m : Nat) {n : Nat} {w : World} {cs : List Value} {p : Pol}, rPolN n w cs p → PolFit m p
  | 0, _, _, _, _, _ => trivial
  | m + 1, n + 1, w, cs, p, ⟨c3, c4, c5, c6, he, hid, _, ⟨A, c, ha, _, _, h3⟩, h4, h5, h6⟩ => by
    have k4 := h4.fit (F := RulFit) fun _ _ h => rul_fit h
    have k5 := h5.fit (F := PolFit m) fun _ _ h => pol_fit m h
    have k6 := h6.fit (F := Obli.Fit) fun _ _ h => h.2
    exact ⟨⟨hid, tgt_fit h3, k4.1, k6.1, k4.2, k5.2⟩, k5.1⟩
end Go.Proofs.YtppfcacnofjmdaaGreatDoor
namespace Go.Proofs.YtppfcacnofjmdaaGreatDoor
set_option linter.unusedVariables false
set_option linter.unusedSimpArgs false
open Go.RowKit
def PolF : Nat → Pol → Prop
  | 0, _ => False
  | n + 1, p => HeadFit p ∧ R64 p.alg ∧ ∀ k ∈ p.kids, PolF n k
theorem polF_fit : ∀ (m : Nat) {n : Nat} {p : Pol}, PolF n p → PolFit m p
  | 0, _, _, _ => True.intro
  | m + 1, n + 1, p, h => ⟨h.1, fun k hk => polF_fit m (h.2.2 k hk)⟩
theorem polF_of : ∀ {n : Nat} {w : World} {cs : List Value} {p : Pol}, rPolN n w cs p → PolF n p
  | n + 1, w, cs, p, h => by
    have h1 := pol_fit 1 h
    obtain ⟨c3, c4, c5, c6, he, hid, ha, _, _, h5, _⟩ := h
    exact ⟨h1.1, ha, (h5.fit (F := PolF n) fun _ _ h => polF_of h).1⟩
end Go.Proofs.YtppfcacnofjmdaaGreatDoor
namespace Go.Proofs.YtppfcacnofjmdaaGreatDoor
set_option linter.unusedVariables false
set_option linter.unusedSimpArgs false
open Go.RowKit
theorem SWT.wk {P : Program} {ops l : List Oper} {Q : St → Prop} {st st' : St} (h : Wk st st') (h' : SWT P ops l Q st') : SWT P ops l Q st := fun w0 Sx γ a w QQ hI hQ => by
  obtain ⟨γ', hI'⟩ := h w0 Sx γ a w hI
  exact h' w0 Sx γ' a w QQ hI' hQ
def TarL (t : Tar) : Prop := t.length ≤ 3000 ∧ ∀ x ∈ t, x.length ≤ 3000 ∧ ∀ y ∈ x, y.length ≤ 3000
theorem xsz_le {t : Tar} {x : List (List Mat)} (h : x ∈ t) : xsz x ≤ tsz t := by
  have := wb (f := xsz) h
  unfold tsz; omega
theorem len_sumBy {α : Type} (f : α → Nat) (h : ∀ x, 1 ≤ f x) : ∀ l : List α, l.length ≤ qT f l
  | [] => Nat.zero_le _
  | x :: r => by
    have h1 := len_sumBy f h r
    have h2 := h x
    simp only [qT, List.map_cons, List.sum_cons, List.length_cons] at h1 ⊢
    omega
theorem tarL_of {t : Tar} {n : Nat} (h : tsz t ≤ n) (hn : n ≤ 3000) : TarL t := by
  refine ⟨by unfold tsz at h; omega, fun x hx => ?_⟩
  have h1 := xsz_le hx
  refine ⟨by unfold xsz at h1; omega, fun y hy => ?_⟩
  have h4 : asz y ≤ xsz x := by have := wb (f := asz) hy; unfold xsz; omega
  unfold asz at h4
  omega
theorem sz_facts {p : Pol} {n : Nat} (h : p.sz ≤ n) (hn : n ≤ 3000) : TarL p.target ∧ p.rules.length ≤ 3000 ∧ p.kids.length ≤ 3000 ∧ p.obls.length ≤ 3000 ∧ (∀ r ∈ p.rules, TarL r.target ∧ r.cond.length ≤ 3000 ∧ r.obls.length ≤ 3000) ∧ ∀ k ∈ p.kids, k.sz ≤ n := by
  have h1 := Pol.sz_eq p
  have h2 := len_sumBy Pol.sz (fun p => by rw [Pol.sz_eq]; omega) p.kids
  have h3 : p.obls.length ≤ osz p.obls := by unfold osz; omega
  refine ⟨tarL_of (n := n) (by omega) hn, by omega, by omega, by omega, fun r hr => ?_, fun k hk => ?_⟩
  · have h4 := wb (f := rusz) hr
    have h5 : r.obls.length ≤ osz r.obls := by unfold osz; omega
    have h6 : rusz r = txt r.id + tsz r.target + r.cond.length + osz r.obls + qT nsz r.cond := rfl
    exact ⟨tarL_of (n := n) (by omega) hn, by omega, by omega⟩
  · have := wb (f := Pol.sz) hk
    omega
end Go.Proofs.YtppfcacnofjmdaaGreatDoor
namespace Go.Proofs.YtppfcacnofjmdaaGreatDoor
set_option linter.unusedVariables false
set_option linter.unusedSimpArgs false
open Go.RowKit
def SWB (P : Program) (ops : List Oper) (κ : Kap) (ls : Array Bool) (fuel : Nat) (Q : St → Prop) (st : St) : Prop := ∀ (w0 : Base) (Sx : Nat → Prop) (γ : Nat → Value) (a : Act) (w : World) (QQ : Exit → Act → World → Prop), Sim w0 Sx γ st a w →
  (∀ st' γ' a' w', Sim w0 Sx γ' st' a' w' → Q st' → QQ .normal a' w') → wpAnyP P ops.toArray (NoPanic QQ) fuel (pendOf γ st.own w κ) ls a w
def SWBo (P : Program) (ops : List Oper) (κ : Kap) (ls : Array Bool) (fuel : Nat) (Q : St → Prop) (st : St) (i : Nat) : Prop := ∀ (w0 : Base) (Sx : Nat → Prop) (γ : Nat → Value) (a : Act) (w : World) (QQ : Exit → Act → World → Prop), Sim w0 Sx γ st a w →
  (∀ st' γ' a' w', Sim w0 Sx γ' st' a' w' → Q st' → QQ .normal a' w') → wpOp P ops.toArray (NoPanic QQ) i (fun a' w' => (∀ p ∈ alive ops.toArray i (pendOf γ st.own w κ), p.2 w') ∧ wpAnyP P ops.toArray (NoPanic QQ) fuel (alive ops.toArray i (pendOf γ st.own w κ)) (ls.setIfInBounds i true) a' w') a w
section
variable {P : Program} {ops : List Oper} {κ : Kap} {ls : Array Bool} {fuel : Nat} {st : St} {Q : St → Prop} {i j : Nat} {o : Oper}
theorem zd (hr : Region.ready .any ops.toArray ls = []) (h : Q st) : SWB P ops κ ls fuel Q st := fun _ _ γ a w _ hI hQ => by
  cases fuel with
  | zero => exact ⟨hr, hQ st γ a w hI h⟩
  | succ f => exact ⟨fun _ => hQ st γ a w hI h, fun i hi => by rw [hr] at hi; cases hi⟩
theorem qo (i : Nat) (hr : Region.ready .any ops.toArray ls = [i]) (h : SWBo P ops κ ls fuel Q st i) : SWB P ops κ ls (fuel + 1) Q st := fun w0 Sx γ a w QQ hI hQ =>
  ⟨fun h0 => (by rw [hr] at h0; cases h0), fun k hk => by
    rw [hr] at hk
    obtain rfl : k = i := by simpa using hk
    exact h w0 Sx γ a w QQ hI hQ⟩
theorem zE (i j : Nat) (hr : Region.ready .any ops.toArray ls = [i, j]) (h : SWBo P ops κ ls fuel Q st i) (h2 : SWBo P ops κ ls fuel Q st j) : SWB P ops κ ls (fuel + 1) Q st := fun w0 Sx γ a w QQ hI hQ =>
  ⟨fun h0 => (by rw [hr] at h0; cases h0), fun k hk => by
    rw [hr] at hk
    have hk : k = i ∨ k = j := by simpa using hk
    rcases hk with rfl | rfl
    · exact h w0 Sx γ a w QQ hI hQ
    · exact h2 w0 Sx γ a w QQ hI hQ⟩
theorem swb_fork3 (i j k : Nat) (hr : Region.ready .any ops.toArray ls = [i, j, k]) (h : SWBo P ops κ ls fuel Q st i) (h2 : SWBo P ops κ ls fuel Q st j) (h3 : SWBo P ops κ ls fuel Q st k) : SWB P ops κ ls (fuel + 1) Q st := fun w0 Sx γ a w QQ hI hQ =>
  ⟨fun h0 => (by rw [hr] at h0; cases h0), fun m hk => by
    rw [hr] at hk
    have hk : m = i ∨ m = j ∨ m = k := by simpa using hk
    rcases hk with rfl | rfl | rfl
    · exact h w0 Sx γ a w QQ hI hQ
    · exact h2 w0 Sx γ a w QQ hI hQ
    · exact h3 w0 Sx γ a w QQ hI hQ⟩
theorem qy {K : List Nat} {s : SV} (hB : (Region.free .any ops.toArray ls i && (Region.ready .any ops.toArray ls).contains i) = true) (hs : Region.noSelect ops.toArray = true) (hi : nthO ops i = some o) (hw : zw ops st o = some true) (hr : RdO P K st o s) (hd : zn st o.dst = true)
    (h : SWB P ops ((i, K) :: κ) (ls.setIfInBounds i true) fuel Q (st.put o.dst s)) : SWB P ops κ ls (fuel + 1) Q st := fun w0 Sx γ a w QQ hI hQ => by
  obtain ⟨v, h1, h2⟩ := hr w0 Sx γ a w hI
  have hrest := h w0 Sx γ _ w QQ (hI.put (dst := o.dst) hd h1) hQ
  simp only [wP] at hrest
  rw [Bool.and_eq_true] at hB
  have hio := (qZ ops i).trans hi
  exact wpAnyP_first hio (Region.noSelect_spec hs) (fun _ _ _ h => h) fuel _ ls a w (Region.free_spec hio hB.1) (by simpa using hB.2) (Or.inl ⟨zD hI hw, h2⟩) (SameOn.refl _ _) wC hrest
theorem swb_sk (hB : (Region.free .any ops.toArray ls i && (Region.ready .any ops.toArray ls).contains i) = true) (hs : Region.noSelect ops.toArray = true) (hi : nthO ops i = some o) (hw : zw ops st o = some false) (hd : zn st o.dst = true)
    (h : SWB P ops κ (ls.setIfInBounds i true) fuel Q (st.put o.dst (.tup []))) : SWB P ops κ ls (fuel + 1) Q st := fun w0 Sx γ a w QQ hI hQ => by
  have hrest := h w0 Sx γ _ w QQ (hI.skip hd) hQ
  simp only [wP] at hrest
  rw [Bool.and_eq_true] at hB
  have hio := (qZ ops i).trans hi
  refine wpAnyP_first hio (Region.noSelect_spec hs) (fun _ _ _ h => h) (S := fun _ => True) fuel _ ls a w (Region.free_spec hio hB.1) (by simpa using hB.2) (Or.inr ⟨zD hI hw, rfl⟩) trivial wC ?_
  refine jC _ (fun p hp => ?_) _ _ _ hrest
  rcases List.mem_cons.1 hp with rfl | hp
  · exact .inl fun _ => trivial
  · exact .inr ⟨p, hp, rfl, fun _ h => h⟩
theorem qd {Ws : List Nat} (hi : nthO ops i = some o) (hw : zw ops st o = some true) (hK : (kapB o κ).all (fun p => Ws.all fun j => p.2.contains j) = true) (h : ActOk P Ws o st (SWB P ops (kapB o κ) (ls.setIfInBounds i true) fuel Q)) : SWBo P ops κ ls fuel Q st i := fun w0 Sx γ a w QQ hI hQ => by
  have hsub : ∀ p ∈ kapB o κ, ∀ j ∈ Ws, j ∈ p.2 := fun p hp j hj => by simpa using List.all_eq_true.1 (List.all_eq_true.1 hK p hp) j hj
  have hio := (qZ ops i).trans hi
  unfold wpOp
  rw [hio]
  simp only [zD hI hw, if_true]
  refine Or.inl ?_
  have := h w0 Sx γ a w (NoPanic QQ) hI
  have mono : ∀ {a' w'}, (∃ γ' st', SWB P ops (kapB o κ) (ls.setIfInBounds i true) fuel Q st' ∧ Sim w0 Sx γ' st' a' w' ∧ SameOn (vis Ws γ st.own) w w' ∧ ∀ K : List Nat, (∀ i ∈ Ws, i ∈ K) → ∀ b, b < w.heap.size → vis K γ st.own b → vis K γ' st'.own b) →
      (∀ p ∈ alive ops.toArray i (pendOf γ st.own w κ), p.2 w') ∧ wpAnyP P ops.toArray (NoPanic QQ) fuel (alive ops.toArray i (pendOf γ st.own w κ)) (ls.setIfInBounds i true) a' w' := fun {a' w'} ⟨γ', st', h1, h2, h3, h4⟩ => by
    have hc : Covers (alive ops.toArray i (pendOf γ st.own w κ)) (pendOf γ' st'.own w' (kapB o κ)) := fun p hp => by
      obtain ⟨hp1, hp2⟩ := mem_alive.1 hp
      obtain ⟨q, hq, rfl⟩ := List.mem_map.1 hp1
      have hq' : q ∈ kapB o κ := List.mem_filter.2 ⟨hq, by rw [hp2 o hio]; rfl⟩
      have hs := hsub q hq'
      refine .inr ⟨_, List.mem_map.2 ⟨q, hq', rfl⟩, rfl, fun x hx => ⟨Nat.le_trans h3.size hx.size, fun b hb hv => ?_⟩⟩
      have e1 := h3.block b hb (fun j bx hj hjW hjb => hv j bx hj (by simpa using hs j (by simpa using hjW)) hjb)
      have e2 := hx.block b (Nat.lt_of_lt_of_le hb h3.size) (h4 q.2 hs b hb hv)
      exact e2.trans e1
    exact ⟨hc.at wC, jC _ hc _ _ _ (h1 w0 Sx γ' a' w' QQ h2 hQ)⟩
  unfold Oper.wp at this ⊢
  generalize (execOp a.eval o).run P w = res at *
  cases res with
  | ok n w' =>
    cases n <;> simp only [Oper.upon] at this ⊢ <;> first
      | exact mono this
      | exact this
      | exact Calls.mono this (fun e w'' he => by cases e <;> first | exact mono he | exact he)
      | exact Rows.mono this (fun _ _ he => mono he)
  | halt x w' => cases x <;> simp only [Oper.upon] at this ⊢ <;> exact this
theorem zH {id : Nat} {l : List Oper} {QS : SEx → St → Prop} (n : Nat) (hn : l.length = n) (hm : P.follows .mixedOrders = true) (h : SWB P l [] (Array.replicate n false) n (QS .normal) st) : SW P (.region id l.toArray true) QS st := fun w0 Sx γ a w QQ hI hQ => by
  refine wp_region_noPanic (wp_region_any hm (wZ _ [] _ _ _ ?_))
  have h1 := h w0 Sx γ a w.drew QQ hI.drew fun s' γ' a' w' hI' hq => hQ .normal s' γ' a' w' hI' hq
  have e : l.toArray.size = n := by simpa using hn
  rw [e]
  exact h1
end
end Go.Proofs.YtppfcacnofjmdaaGreatDoor
namespace Go.Proofs.YtppfcacnofjmdaaGreatDoor
set_option linter.unusedVariables false
set_option linter.unusedSimpArgs false
open Go.RowKit
set_option maxHeartbeats 4000000
def rsP (x : Rs) : List PV := [mkP x.m, zQ x.obls]
def rssP (l : List Rs) : PV := .sl 2 (l.map rsP)
theorem dutiesS_take {l : List Obli} {m : Mk} {k : Nat} (h : k < l.length) : jm (l.take (k + 1)) m = if dutyS m l[k] then jm (l.take k) m ++ [l[k]] else jm (l.take k) m := by
  unfold jm
  rw [List.take_succ_eq_append_getElem h, List.filter_append]
  cases hd : dutyS m l[k] <;> simp [hd]
theorem wq (l : List Obli) (m : Mk) : (jm l m).length ≤ l.length := List.length_filter_le _ _
theorem duties_h (l : List Obli) (hn : l.length ≤ 1000000) (m : Mk) (hm : m ∈ mks) : Holds Tryz.prog 70 [zQ l, mkP m] (.p (zQ (jm l m))) [] := by
  have lm : (l.map Obli.pv).length = l.length := by simp
  refine .ofW ?_
  refine qR (T := TTab) qe Tryz.func70 (by kernel_rfl) rfl rfl rfl ?_
  (repeat refine qb ?_); refine qa ?_
  repeat (first | refine zR ?_ | refine zK ?_ | refine zM ?_ | refine zB ?_ | refine zA ?_ | refine zS ?_ | refine zL ?_)
  refine qc ?_
  (repeat refine qb ?_); refine qa ?_
  repeat (first | refine zR ?_ | refine zK ?_ | refine zM ?_ | refine zB ?_ | refine zA ?_ | refine zS ?_ | refine zL ?_)
  refine qc ?_
  (repeat refine qb ?_); refine qa ?_
  repeat (first | refine zR ?_ | refine zK ?_ | refine zM ?_ | refine zB ?_ | refine zA ?_ | refine zS ?_ | refine zL ?_)
  refine qc ?_
  (repeat refine qb ?_); refine ql ?_
  refine SW.wk (jP 5 900 43 3 rfl rfl) ?_
  refine SW.wk (qq [1, 5, 8, 9, 10] [(900, 0)] rfl rfl) ?_
  refine qO (fun n s => ∃ (k : Nat) (kk : Int) (L : List Obli), k ≤ l.length ∧ n = l.length - k ∧ kk = k ∧ L = jm (l.take k) m ∧ s = ⟨36, [(1, .p (mkP m)), (5, .row 0), (8, .p (zQ l)), (9, .p (pI (l.map Obli.pv).length)), (10, .p (pI kk))], [(0, .row 43 3 (L.map Obli.pv))]⟩) l.length ⟨0, 0, [], Nat.zero_le _, rfl, rfl, rfl, rfl⟩ ?_
  rintro n s ⟨k, _, L, hk, rfl, rfl, hL, rfl⟩
  (repeat refine qb ?_); refine qa ?_
  repeat (first | refine zR ?_ | refine zK ?_ | refine zM ?_ | refine zB ?_ | refine zA ?_ | refine zS ?_ | refine zL ?_)
  refine qc ?_
  (repeat refine qb ?_); refine qf rfl (fun hlt => ?_) (fun hlt => ?_)
  · refine qm ?_
    rw [lm] at hlt
    simp only [decide_eq_true_eq] at hlt
    have hlt' : k < l.length := by omega
    have hs := dutiesS_take (m := m) hlt'
    have hLl : L.length ≤ k := by rw [hL]; have := wq (l.take k) m; simp at this; omega
    (repeat refine qb ?_); refine ql ?_
    (repeat refine qb ?_); refine qa ?_
    repeat (first | refine zR ?_ | refine zK ?_ | refine zM ?_ | refine zB ?_ | refine zA ?_ | refine zS ?_ | refine zL ?_)
    refine qw qe rfl rfl (by rw [lm]; omega) rfl ?_
    rw [qJ hlt']
    repeat (first | refine zR ?_ | refine zK ?_ | refine zM ?_ | refine zB ?_ | refine zA ?_ | refine zS ?_ | refine zL ?_)
    refine qc ?_
    have hd : dutyS m l[k] = bif (l[k].on == 1) && mkE m (2, 0) then true else (l[k].on == 2) && mkE m (0, 2) := by
      rw [mkE_eq hm (by simp [mks]), mkE_eq hm (by simp [mks])]
      unfold dutyS
      rw [Bool.eq_iff_iff]
      simp
    (repeat refine qb ?_); refine qs (by kernel_rfl) ?_
    repeat (refine qr qe rfl (by exact True.intro) rfl ?_)
    refine qQ ?_
    (repeat refine qb ?_); refine qf rfl (fun hc => ?_) (fun hc => ?_)
    · have hd' : dutyS m l[k] = true := by
        rw [hd]
        revert hc
        unfold mkE
        cases (l[k].on == 1) <;> cases (l[k].on == 2) <;> simp [hb]
      rw [hd', if_pos rfl] at hs
      (repeat refine qb ?_); refine qa ?_
      repeat (first | refine zR ?_ | refine zK ?_ | refine zM ?_ | refine zB ?_ | refine zA ?_ | refine zS ?_ | refine zL ?_)
      refine qn rfl (qp qe rfl rfl rfl rfl rfl rfl rfl rfl rfl rfl rfl rfl rfl rfl rfl rfl (by simp only [List.length_append, List.length_map, List.length_take, List.length_cons, List.length_nil]; unfold reachBytes; omega) (by simp only [List.length_append, List.length_map, List.length_take, List.length_cons, List.length_nil]; omega) ?_)
      repeat (first | refine zR ?_ | refine zK ?_ | refine zM ?_ | refine zB ?_ | refine zA ?_ | refine zS ?_ | refine zL ?_)
      refine qc ?_
      (repeat refine qb ?_); refine qa ?_
      repeat (first | refine zR ?_ | refine zK ?_ | refine zM ?_ | refine zB ?_ | refine zA ?_ | refine zS ?_ | refine zL ?_)
      refine qc ?_
      refine ⟨_, _, ?_, qq [1, 5, 8, 9, 10] [(33, 0)] rfl rfl, k + 1, _, jm (l.take (k + 1)) m, hlt', rfl, qz hlt' (by omega), rfl, ?_⟩
      · omega
      · rw [hs, ← hL, List.map_append]; rfl
    · have hd' : dutyS m l[k] = false := by
        rw [hd]
        revert hc
        unfold mkE
        cases (l[k].on == 1) <;> cases (l[k].on == 2) <;> simp [hb]
      rw [hd', if_neg (by simp)] at hs
      refine qm ?_
      (repeat refine qb ?_); refine qa ?_
      repeat (first | refine zR ?_ | refine zK ?_ | refine zM ?_ | refine zB ?_ | refine zA ?_ | refine zS ?_ | refine zL ?_)
      refine qc ?_
      refine ⟨_, _, ?_, qq [1, 5, 8, 9, 10] [(0, 0)] rfl rfl, k + 1, _, L, hlt', rfl, qz hlt' (by omega), by rw [hs]; exact hL, rfl⟩
      omega
  · refine qK ?_
    rw [lm] at hlt
    simp only [decide_eq_false_iff_not] at hlt
    have hkk : k = l.length := by omega
    subst hkk
    rw [List.take_length] at hL
    subst hL
    (repeat refine qb ?_); refine qa ?_
    repeat (first | refine zR ?_ | refine zK ?_ | refine zM ?_ | refine zB ?_ | refine zA ?_ | refine zS ?_ | refine zL ?_)
    refine qc ?_
    (repeat refine qb ?_); refine qk ?_
    exact ⟨Or.inr rfl, _, _, [], _, zN (k := 0) rfl, rfl, rfl, .refl _, rfl, rfl⟩
theorem effect_h (r : Rul) (t c : Int) (ho : r.obls.length ≤ 1000000) : Holds Tryz.prog 51 [.agg (zt r), pI t, pI c] (.p (.agg (rsP (jW r t c)))) [] := by
  obtain ⟨id, deny, tg, cond, obls⟩ := r
  unfold jW effM
  simp only at ho ⊢
  refine .ofW ?_
  cases deny with
  | true =>
    rw [if_pos rfl]
    refine qR (T := TTab) qe Tryz.func51 (by kernel_rfl) rfl rfl rfl ?_
    (repeat refine qb ?_); refine qa ?_
    repeat (first | refine zR ?_ | refine zK ?_ | refine zM ?_ | refine zB ?_ | refine zA ?_ | refine zS ?_ | refine zL ?_)
    refine qc ?_
    (repeat refine qb ?_); refine qa ?_
    repeat (first | refine zR ?_ | refine zK ?_ | refine zM ?_ | refine zB ?_ | refine zA ?_ | refine zS ?_ | refine zL ?_)
    refine qc ?_
    (repeat refine qb ?_); refine qa ?_
    repeat (first | refine zR ?_ | refine zK ?_ | refine zM ?_ | refine zB ?_ | refine zA ?_ | refine zS ?_ | refine zL ?_)
    refine qc ?_
    (repeat refine qb ?_); refine qf rfl (fun hd => ?_) (fun hd => ?_)
    · (repeat refine qb ?_); refine qa ?_
      repeat (first | refine zR ?_ | refine zK ?_ | refine zM ?_ | refine zB ?_ | refine zA ?_ | refine zS ?_ | refine zL ?_)
      refine qc ?_
      (repeat refine qb ?_); refine ql ?_
      (repeat refine qb ?_); refine qs (by kernel_rfl) ?_
      repeat (refine qr qe rfl (by exact True.intro) rfl ?_)
      refine qQ ?_
      (repeat refine qb ?_); refine qf rfl (fun h0 => ?_) (fun h0 => ?_)
      · have h0' : t = 0 ∨ (t = 2 ∧ c = 0) := by
          revert h0
          by_cases a : t = 0 <;> by_cases b : t = 2 <;> by_cases d : c = 0 <;> simp [a, b, d]
        rw [if_pos h0']
        (repeat refine qb ?_); refine qa ?_
        repeat (first | refine zR ?_ | refine zK ?_ | refine zM ?_ | refine zB ?_ | refine zA ?_ | refine zS ?_ | refine zL ?_)
        refine qc ?_
        (repeat refine qb ?_); refine qk ?_
        exact ⟨Or.inr rfl, _, _, [], _, Wk.refl _, rfl, rfl, .p (CvL.agg (.cons (.refl _) (.cons (.nil 3) .nil))), rfl, rfl⟩
      · have h0' : ¬ (t = 0 ∨ (t = 2 ∧ c = 0)) := by
          revert h0
          by_cases a : t = 0 <;> by_cases b : t = 2 <;> by_cases d : c = 0 <;> simp [a, b, d]
        rw [if_neg h0']
        (repeat refine qb ?_); refine qs (by kernel_rfl) ?_
        repeat (refine qr qe rfl (by exact True.intro) rfl ?_)
        refine qQ ?_
        (repeat refine qb ?_); refine qf rfl (fun h1 => ?_) (fun h1 => ?_)
        · have h1' : t = 1 ∨ c = 1 := by
            revert h1
            by_cases a : t = 1 <;> by_cases d : c = 1 <;> simp [a, d]
          rw [if_pos h1']
          (repeat refine qb ?_); refine qa ?_
          repeat (first | refine zR ?_ | refine zK ?_ | refine zM ?_ | refine zB ?_ | refine zA ?_ | refine zS ?_ | refine zL ?_)
          refine qn rfl (qg rfl rfl rfl rfl (qas (0, 2) (by simp [mks])) rfl rfl ?_)
          repeat (first | refine zR ?_ | refine zK ?_ | refine zM ?_ | refine zB ?_ | refine zA ?_ | refine zS ?_ | refine zL ?_)
          refine qc ?_
          (repeat refine qb ?_); refine qk ?_
          exact ⟨Or.inr rfl, _, _, [], _, Wk.refl _, rfl, rfl, .p (CvL.agg (.cons (.refl _) (.cons (.nil 3) .nil))), rfl, rfl⟩
        · have h1' : ¬ (t = 1 ∨ c = 1) := by
            revert h1
            by_cases a : t = 1 <;> by_cases d : c = 1 <;> simp [a, d]
          rw [if_neg h1']
          refine qm ?_
          (repeat refine qb ?_); refine qa ?_
          repeat (first | refine zR ?_ | refine zK ?_ | refine zM ?_ | refine zB ?_ | refine zA ?_ | refine zS ?_ | refine zL ?_)
          refine qn rfl (qD rfl rfl rfl rfl (duties_h obls ho (0, 2) (by simp [mks])) rfl rfl rfl ?_)
          repeat (first | refine zR ?_ | refine zK ?_ | refine zM ?_ | refine zB ?_ | refine zA ?_ | refine zS ?_ | refine zL ?_)
          refine qc ?_
          (repeat refine qb ?_); refine qk ?_
          exact ⟨Or.inr rfl, _, _, [], _, Wk.refl _, rfl, rfl, .refl _, rfl, rfl⟩
    · cases hd
  | false =>
    simp only [Bool.false_eq_true, if_false]
    refine qR (T := TTab) qe Tryz.func51 (by kernel_rfl) rfl rfl rfl ?_
    (repeat refine qb ?_); refine qa ?_
    repeat (first | refine zR ?_ | refine zK ?_ | refine zM ?_ | refine zB ?_ | refine zA ?_ | refine zS ?_ | refine zL ?_)
    refine qc ?_
    (repeat refine qb ?_); refine qa ?_
    repeat (first | refine zR ?_ | refine zK ?_ | refine zM ?_ | refine zB ?_ | refine zA ?_ | refine zS ?_ | refine zL ?_)
    refine qc ?_
    (repeat refine qb ?_); refine qa ?_
    repeat (first | refine zR ?_ | refine zK ?_ | refine zM ?_ | refine zB ?_ | refine zA ?_ | refine zS ?_ | refine zL ?_)
    refine qc ?_
    (repeat refine qb ?_); refine qf rfl (fun hd => ?_) (fun hd => ?_)
    · cases hd
    · refine qm ?_
      (repeat refine qb ?_); refine ql ?_
      (repeat refine qb ?_); refine qs (by kernel_rfl) ?_
      repeat (refine qr qe rfl (by exact True.intro) rfl ?_)
      refine qQ ?_
      (repeat refine qb ?_); refine qf rfl (fun h0 => ?_) (fun h0 => ?_)
      · have h0' : t = 0 ∨ (t = 2 ∧ c = 0) := by
          revert h0
          by_cases a : t = 0 <;> by_cases b : t = 2 <;> by_cases d : c = 0 <;> simp [a, b, d]
        rw [if_pos h0']
        (repeat refine qb ?_); refine qa ?_
        repeat (first | refine zR ?_ | refine zK ?_ | refine zM ?_ | refine zB ?_ | refine zA ?_ | refine zS ?_ | refine zL ?_)
        refine qc ?_
        (repeat refine qb ?_); refine qk ?_
        exact ⟨Or.inr rfl, _, _, [], _, Wk.refl _, rfl, rfl, .p (CvL.agg (.cons (.refl _) (.cons (.nil 3) .nil))), rfl, rfl⟩
      · have h0' : ¬ (t = 0 ∨ (t = 2 ∧ c = 0)) := by
          revert h0
          by_cases a : t = 0 <;> by_cases b : t = 2 <;> by_cases d : c = 0 <;> simp [a, b, d]
        rw [if_neg h0']
        (repeat refine qb ?_); refine qs (by kernel_rfl) ?_
        repeat (refine qr qe rfl (by exact True.intro) rfl ?_)
        refine qQ ?_
        (repeat refine qb ?_); refine qf rfl (fun h1 => ?_) (fun h1 => ?_)
        · have h1' : t = 1 ∨ c = 1 := by
            revert h1
            by_cases a : t = 1 <;> by_cases d : c = 1 <;> simp [a, d]
          rw [if_pos h1']
          (repeat refine qb ?_); refine qa ?_
          repeat (first | refine zR ?_ | refine zK ?_ | refine zM ?_ | refine zB ?_ | refine zA ?_ | refine zS ?_ | refine zL ?_)
          refine qn rfl (qg rfl rfl rfl rfl (qas (2, 0) (by simp [mks])) rfl rfl ?_)
          repeat (first | refine zR ?_ | refine zK ?_ | refine zM ?_ | refine zB ?_ | refine zA ?_ | refine zS ?_ | refine zL ?_)
          refine qc ?_
          (repeat refine qb ?_); refine qk ?_
          exact ⟨Or.inr rfl, _, _, [], _, Wk.refl _, rfl, rfl, .p (CvL.agg (.cons (.refl _) (.cons (.nil 3) .nil))), rfl, rfl⟩
        · have h1' : ¬ (t = 1 ∨ c = 1) := by
            revert h1
            by_cases a : t = 1 <;> by_cases d : c = 1 <;> simp [a, d]
          rw [if_neg h1']
          refine qm ?_
          (repeat refine qb ?_); refine qa ?_
          repeat (first | refine zR ?_ | refine zK ?_ | refine zM ?_ | refine zB ?_ | refine zA ?_ | refine zS ?_ | refine zL ?_)
          refine qn rfl (qD rfl rfl rfl rfl (duties_h obls ho (2, 0) (by simp [mks])) rfl rfl rfl ?_)
          repeat (first | refine zR ?_ | refine zK ?_ | refine zM ?_ | refine zB ?_ | refine zA ?_ | refine zS ?_ | refine zL ?_)
          refine qc ?_
          (repeat refine qb ?_); refine qk ?_
          exact ⟨Or.inr rfl, _, _, [], _, Wk.refl _, rfl, rfl, .refl _, rfl, rfl⟩
theorem ruleR_h (r : Rul) (g : List Giv) (hr : RulFit r) (ht : TarSm r.target) (ho : r.obls.length ≤ 1000000) (hf : ∀ x ∈ g, x.Fit) (hn : g.length ≤ 1000000) (hb : ∀ x ∈ g, x.bag.length ≤ 1000000) : Holds Tryz.prog 27 [.agg (zt r), zP g] (.p (.agg (rsP (qaw g r)))) [] := by
  have H1 := metT_h r.target g hr.tgt ht hf hn hb
  have H2 := cond_h r.cond g hr.cond hf hn hb
  have H3 := effect_h r (metT r.target g) (qam r.cond g) ho
  obtain ⟨id, deny, tg, cond, obls⟩ := r
  unfold qaw
  simp only at H1 H2 H3 ⊢
  generalize metT tg g = t at *
  generalize qam cond g = c at *
  refine .ofW ?_
  refine qR (T := TTab) qe Tryz.func27 (by kernel_rfl) rfl rfl rfl ?_
  (repeat refine qb ?_); refine qa ?_
  repeat (first | refine zR ?_ | refine zK ?_ | refine zM ?_ | refine zB ?_ | refine zA ?_ | refine zS ?_ | refine zL ?_)
  refine qc ?_
  (repeat refine qb ?_); refine zl [4] [(0, true), (1, true), (2, true), (3, true), (5, true), (6, true), (7, true), (4, false), (8, false), (9, false), (10, false)] (by kernel_rfl) (by kernel_rfl) (by kernel_rfl) ?_
  repeat (first | refine yR ?_ | refine yK ?_ | refine yM ?_ | refine yB ?_ | refine yA ?_ | refine yS ?_ | refine yL ?_)
  refine qak rfl rfl rfl (qg rfl rfl rfl rfl (H1) rfl rfl ?_)
  repeat (first | refine yR ?_ | refine yK ?_ | refine yM ?_ | refine yB ?_ | refine yA ?_ | refine yS ?_ | refine yL ?_)
  refine qak rfl rfl rfl (qg rfl rfl rfl rfl (H2) rfl rfl ?_)
  repeat (first | refine yR ?_ | refine yK ?_ | refine yM ?_ | refine yB ?_ | refine yA ?_ | refine yS ?_ | refine yL ?_)
  refine qak rfl rfl rfl (qD rfl rfl rfl rfl (H3) rfl rfl rfl ?_)
  repeat (first | refine yR ?_ | refine yK ?_ | refine yM ?_ | refine yB ?_ | refine yA ?_ | refine yS ?_ | refine yL ?_)
  refine swm_nil ?_
  (repeat refine qb ?_); refine qk ?_
  exact ⟨Or.inr rfl, _, _, [], _, Wk.refl _, rfl, rfl, .refl _, rfl, rfl⟩
end Go.Proofs.YtppfcacnofjmdaaGreatDoor
namespace Go.Proofs.YtppfcacnofjmdaaGreatDoor
set_option linter.unusedVariables false
set_option linter.unusedSimpArgs false
open Go.RowKit
theorem wk_nilc {st : St} (j i d : Nat) (e : TypeId) (z : Nat) {cs : List SV} (hj : lk j st.own = some (.cells cs)) (hi : cs[i]? = some (.p (.v (.slice none 0 0)))) (hd : lk d st.own = none) (hdl : Nat.blt d 1000000 = true := by rfl) :
    Wk st ⟨st.n, st.fr, setB j (.cells (cs.set i (.row d))) ((d, .row e z []) :: st.own)⟩ := fun w0 Sx γ a w hI => by
  have hbx : BoxOk w0 Sx (upd γ d (.slice none 0 0)) ((d, .row e z []) :: st.own) w d (.row e z []) := by
    refine .row ?_ (by simp) (Nat.zero_le _) (fun b hb => by simp [upd, qV] at hb)
    rw [show upd γ d (.slice none 0 0) d = .slice none 0 0 from if_pos rfl]
    exact rowO_nil
  obtain ⟨h1, h2, h3, _⟩ := hI.heap.add (Below.refl _ w) hd (by simpa [Nat.blt, Nat.lt_iff_add_one_le] using hdl) (g := .slice none 0 0) (fun b hb => by cases hb) hbx
  have hdj : j ≠ d := fun h => by subst h; rw [hj] at hd; cases hd
  have hI1 : Sim w0 Sx (upd γ d (.slice none 0 0)) ⟨st.n, st.fr, (d, .row e z []) :: st.own⟩ a w := by
    refine ⟨hI.below, hI.size, hI.defers, fun k s hk => ?_, h1⟩
    have hr := hI.fr k s hk
    refine hr.keep2 (Nat.le_refl _) (fun b hb hok => ⟨rfl, h2 b hb hok⟩) fun i hi => h3 i fun e => ?_
    subst e
    rw [hr.live (jU hd)] at hi; cases hi
  have hj1 : lk j ((d, Box.row e z []) :: st.own) = some (.cells cs) := by rw [qE, if_neg hdj]; exact hj
  cases hI1.heap.box j _ hj1 with
  | @cells _ us ty b hg hB hh hl h hone =>
    have := hI1.setBox (bx' := .cells (cs.set i (.row d))) hj1 (b := b) (by rw [hg]; rfl) (Below.refl 0 w) (fun _ _ => rfl) (fun own' e1 e2 e3 => .cells (us := us) hg hB hh (by simpa using hl) (fun k s u hs hu => by
      by_cases hk : k = i
      · subst hk
        have hkl : k < cs.length := (List.getElem?_eq_some_iff.1 hi).1
        rw [List.getElem?_set_self hkl] at hs
        cases hs
        have h0 := (h k _ u hi hu).v_inv
        rw [h0]
        exact e3 (.row (by unfold hp; rw [qE, if_pos rfl]; simp [upd]))
      · rw [List.getElem?_set_ne (Ne.symm hk)] at hs
        exact e3 (h k s u hs hu)) hone)
    exact ⟨_, this.1⟩
end Go.Proofs.YtppfcacnofjmdaaGreatDoor
namespace Go.Proofs.YtppfcacnofjmdaaGreatDoor
set_option linter.unusedVariables false
set_option linter.unusedSimpArgs false
open Go.RowKit
set_option maxHeartbeats 4000000
def oblN (l : List Rs) : Nat := qT (fun x => x.obls.length) l
theorem oblN_take {l : List Rs} {k : Nat} (h : k < l.length) : oblN (l.take (k + 1)) = oblN (l.take k) + l[k].obls.length := zG h
theorem oblN_le (l : List Rs) (k : Nat) : oblN (l.take k) ≤ oblN l := sumBy_take _ l k
theorem rs_app (M : Mk) (a b : List Obli) : rsP ⟨M, a ++ b⟩ = [mkP M, .sl 3 (a.map Obli.pv ++ b.map Obli.pv)] := by
  unfold rsP
  simp only
  rw [show zQ (a ++ b) = .sl 3 ((a ++ b).map Obli.pv) from rfl, List.map_append]
def joinX (alg : Int) (obls : List Obli) (M : Mk) (t : Int) (parts : List Rs) : Rs :=
  if t = 0 then ⟨(0, 0), []⟩ else if t = 1 then ⟨qat M, []⟩
  else if M ≠ (2, 0) ∧ M ≠ (0, 2) then ⟨M, []⟩ else ⟨M, wF alg M parts ++ jm obls M⟩
theorem join_h (p : Pol) (t : Int) (parts : List Rs) (hn : parts.length ≤ 1000000) (hm : ∀ x ∈ parts, x.m ∈ mks) (ho : oblN parts ≤ 500000) (hp : p.obls.length ≤ 500000) : Holds Tryz.prog 69 [.agg (polP p), pI t, rssP parts] (.p (.agg (rsP (wM p t parts)))) [] := by
  obtain ⟨id, set, alg, tg, rules, kids, obls⟩ := p
  have lp : (parts.map rsP).length = parts.length := by simp
  replace hp : obls.length ≤ 500000 := hp
  have hM : allM alg (parts.map Rs.m) ∈ mks := allM_mem fun m h => by
    obtain ⟨x, hx, rfl⟩ := List.mem_map.1 h
    exact hm x hx
  have HC := combAll_h alg (parts.map Rs.m) (by simpa using hn) (fun m h => by
    obtain ⟨x, hx, rfl⟩ := List.mem_map.1 h
    exact hm x hx)
  rw [show wM (.mk id set alg tg rules kids obls) t parts = joinX alg obls (allM alg (parts.map Rs.m)) t parts from rfl, zf]
  simp only [Pol.id, Pol.set, Pol.alg, Pol.target, Pol.rules, Pol.kids, Pol.obls]
  obtain ⟨M, hMe⟩ : ∃ M, M = allM alg (parts.map Rs.m) := ⟨_, rfl⟩
  rw [← hMe] at hM HC ⊢
  clear hMe
  unfold joinX
  refine .ofW ?_
  refine qR (T := TTab) qe Tryz.func69 (by kernel_rfl) rfl rfl rfl ?_
  (repeat refine qb ?_); refine qa ?_
  repeat (first | refine zR ?_ | refine zK ?_ | refine zM ?_ | refine zB ?_ | refine zA ?_ | refine zS ?_ | refine zL ?_)
  refine qc ?_
  (repeat refine qb ?_); refine qa ?_
  repeat (first | refine zR ?_ | refine zK ?_ | refine zM ?_ | refine zB ?_ | refine zA ?_ | refine zS ?_ | refine zL ?_)
  refine qc ?_
  (repeat refine qb ?_); refine qa ?_
  repeat (first | refine zR ?_ | refine zK ?_ | refine zM ?_ | refine zB ?_ | refine zA ?_ | refine zS ?_ | refine zL ?_)
  refine qc ?_
  (repeat refine qb ?_); refine ql ?_
  refine SW.wk (jP 7 900 36 1 rfl rfl) ?_
  refine SW.wk (qq [1, 2, 3, 6, 7, 15, 16, 17] [(3, 3), (6, 6), (900, 0)] rfl rfl) ?_
  refine qO (fun n s => ∃ (k : Nat) (kk : Int), k ≤ parts.length ∧ n = parts.length - k ∧ kk = k ∧ s = ⟨84, [(1, .p (pI t)), (2, .p (rssP parts)), (3, .ptr 3 0), (6, .ptr 6 0), (7, .row 0), (15, .p (rssP parts)), (16, .p (pI (parts.map rsP).length)), (17, .p (pI kk))], [(3, .cells [.p (pS id), .p (pB set), .p (pI alg), .p (tgtP tg), .p (.sl 5 (rules.map zt)), .p (.sl 7 (kids.map polP)), .p (zQ obls)]), (6, .cells [.p (.v (.complex .f64 0 0)), .p nilV]), (0, .row 36 1 (((parts.take k).map Rs.m).map fun m => [mkP m]))]⟩) parts.length ⟨0, 0, Nat.zero_le _, rfl, rfl, rfl⟩ ?_
  rintro n s ⟨k, _, hk, rfl, rfl, rfl⟩
  (repeat refine qb ?_); refine qa ?_
  repeat (first | refine zR ?_ | refine zK ?_ | refine zM ?_ | refine zB ?_ | refine zA ?_ | refine zS ?_ | refine zL ?_)
  refine qc ?_
  (repeat refine qb ?_); refine qf rfl (fun hlt => ?_) (fun hlt => ?_)
  · refine qm ?_
    rw [lp] at hlt
    simp only [decide_eq_true_eq] at hlt
    have hlt' : k < parts.length := by omega
    obtain ⟨x, hx⟩ : ∃ x, x = parts[k] := ⟨_, rfl⟩
    (repeat refine qb ?_); refine ql ?_
    (repeat refine qb ?_); refine qa ?_
    repeat (first | refine zR ?_ | refine zK ?_ | refine zM ?_ | refine zB ?_ | refine zA ?_ | refine zS ?_ | refine zL ?_)
    refine qw qe rfl rfl (by rw [lp]; omega) rfl ?_
    rw [qJ hlt', ← hx]
    repeat (first | refine zR ?_ | refine zK ?_ | refine zM ?_ | refine zB ?_ | refine zA ?_ | refine zS ?_ | refine zL ?_)
    refine qc ?_
    (repeat refine qb ?_); refine qa ?_
    repeat (first | refine zR ?_ | refine zK ?_ | refine zM ?_ | refine zB ?_ | refine zA ?_ | refine zS ?_ | refine zL ?_)
    refine qn rfl (qp qe rfl rfl rfl rfl rfl rfl rfl rfl rfl rfl rfl rfl rfl rfl rfl rfl (by simp only [List.length_append, List.length_map, List.length_take, List.length_cons, List.length_nil]; unfold reachBytes; omega) (by simp only [List.length_append, List.length_map, List.length_take, List.length_cons, List.length_nil]; omega) ?_)
    repeat (first | refine zR ?_ | refine zK ?_ | refine zM ?_ | refine zB ?_ | refine zA ?_ | refine zS ?_ | refine zL ?_)
    refine qc ?_
    (repeat refine qb ?_); refine qa ?_
    repeat (first | refine zR ?_ | refine zK ?_ | refine zM ?_ | refine zB ?_ | refine zA ?_ | refine zS ?_ | refine zL ?_)
    refine qc ?_
    refine ⟨_, _, ?_, qq [1, 2, 3, 6, 7, 15, 16, 17] [(3, 3), (6, 6), (25, 0)] rfl rfl, k + 1, _, hlt', rfl, qz hlt' (by omega), ?_⟩
    · omega
    · rw [List.take_succ_eq_append_getElem hlt', ← hx, List.map_append, List.map_append]; rfl
  · refine qK ?_
    rw [lp] at hlt
    simp only [decide_eq_false_iff_not] at hlt
    have hkk : k = parts.length := by omega
    subst hkk
    rw [List.take_length]
    (repeat refine qb ?_); refine qa ?_
    repeat (first | refine zR ?_ | refine zK ?_ | refine zM ?_ | refine zB ?_ | refine zA ?_ | refine zS ?_ | refine zL ?_)
    refine qn rfl (qg rfl rfl rfl rfl (HC) rfl rfl ?_)
    repeat (first | refine zR ?_ | refine zK ?_ | refine zM ?_ | refine zB ?_ | refine zA ?_ | refine zS ?_ | refine zL ?_)
    refine qc ?_
    (repeat refine qb ?_); refine ql ?_
    (repeat refine qb ?_); refine qa ?_
    repeat (first | refine zR ?_ | refine zK ?_ | refine zM ?_ | refine zB ?_ | refine zA ?_ | refine zS ?_ | refine zL ?_)
    refine qc ?_
    (repeat refine qb ?_); refine qf rfl (fun c0 => ?_) (fun c0 => ?_)
    · have e : t = 0 := by simpa using c0
      rw [if_pos e]
      (repeat refine qb ?_); refine qa ?_
      repeat (first | refine zR ?_ | refine zK ?_ | refine zM ?_ | refine zB ?_ | refine zA ?_ | refine zS ?_ | refine zL ?_)
      refine qc ?_
      (repeat refine qb ?_); refine qk ?_
      exact ⟨Or.inr rfl, _, _, [], _, Wk.refl _, rfl, rfl, .p (CvL.agg (.cons (.refl _) (.cons (.nil 3) .nil))), rfl, rfl⟩
    have n0 : ¬ t = 0 := by simpa using c0
    rw [if_neg n0]
    (repeat refine qb ?_); refine qa ?_
    repeat (first | refine zR ?_ | refine zK ?_ | refine zM ?_ | refine zB ?_ | refine zA ?_ | refine zS ?_ | refine zL ?_)
    refine qc ?_
    (repeat refine qb ?_); refine qf rfl (fun c1 => ?_) (fun c1 => ?_)
    · have e : t = 1 := by simpa using c1
      rw [if_pos e]
      (repeat refine qb ?_); refine qa ?_
      repeat (first | refine zR ?_ | refine zK ?_ | refine zM ?_ | refine zB ?_ | refine zA ?_ | refine zS ?_ | refine zL ?_)
      refine qn rfl (qg rfl rfl rfl rfl (qas M hM) rfl rfl ?_)
      repeat (first | refine zR ?_ | refine zK ?_ | refine zM ?_ | refine zB ?_ | refine zA ?_ | refine zS ?_ | refine zL ?_)
      refine qc ?_
      (repeat refine qb ?_); refine qk ?_
      exact ⟨Or.inr rfl, _, _, [], _, Wk.refl _, rfl, rfl, .p (CvL.agg (.cons (.refl _) (.cons (.nil 3) .nil))), rfl, rfl⟩
    have n1 : ¬ t = 1 := by simpa using c1
    rw [if_neg n1]
    have hP : mkE M (2, 0) = decide (M = (2, 0)) := mkE_eq hM (by simp [mks])
    have hD : mkE M (0, 2) = decide (M = (0, 2)) := mkE_eq hM (by simp [mks])
    (repeat refine qb ?_); refine qs (by kernel_rfl) ?_
    repeat (refine qr qe rfl (by exact True.intro) rfl ?_)
    refine qQ ?_
    (repeat refine qb ?_); refine qf rfl (fun c2 => ?_) (fun c2 => ?_)
    · have e : M ≠ (2, 0) ∧ M ≠ (0, 2) := by
        change (bif !mkE M (2, 0) then !mkE M (0, 2) else false) = true at c2
        rw [hP, hD] at c2
        revert c2
        by_cases a : M = (2, 0) <;> by_cases b : M = (0, 2) <;> simp [a, b]
      rw [if_pos e]
      (repeat refine qb ?_); refine qa ?_
      repeat (first | refine zR ?_ | refine zK ?_ | refine zM ?_ | refine zB ?_ | refine zA ?_ | refine zS ?_ | refine zL ?_)
      refine qc ?_
      (repeat refine qb ?_); refine qk ?_
      exact ⟨Or.inr rfl, _, _, [], _, Wk.refl _, rfl, rfl, .p (CvL.agg (.cons (.refl _) (.cons (.nil 3) .nil))), rfl, rfl⟩
    have e : ¬ (M ≠ (2, 0) ∧ M ≠ (0, 2)) := by
      change (bif !mkE M (2, 0) then !mkE M (0, 2) else false) = false at c2
      rw [hP, hD] at c2
      revert c2
      by_cases a : M = (2, 0) <;> by_cases b : M = (0, 2) <;> simp [a, b]
    rw [if_neg e]
    refine qm ?_
    (repeat refine qb ?_); refine qa ?_
    repeat (first | refine zR ?_ | refine zK ?_ | refine zM ?_ | refine zB ?_ | refine zA ?_ | refine zS ?_ | refine zL ?_)
    refine qc ?_
    (repeat refine qb ?_); refine qa ?_
    repeat (first | refine zR ?_ | refine zK ?_ | refine zM ?_ | refine zB ?_ | refine zA ?_ | refine zS ?_ | refine zL ?_)
    refine qc ?_
    (repeat refine qb ?_); refine ql ?_
    refine SW.wk (wk_nilc 12 1 900 43 3 rfl rfl rfl) ?_
    refine SW.wk (qq [3, 6, 10, 12, 55, 56, 57] [(3, 3), (6, 6), (12, 12), (900, 0)] rfl rfl) ?_
    refine qO (fun n s => ∃ (k : Nat) (kk : Int) (acc : List Obli), k ≤ parts.length ∧ n = parts.length - k ∧ kk = k ∧ acc.length ≤ oblN (parts.take k) ∧ wF alg M parts = acc ++ wF alg M (parts.drop k) ∧ s = ⟨84, [(3, .ptr 3 0), (6, .ptr 6 0), (10, .p (mkP M)), (12, .ptr 12 0), (55, .p (rssP parts)), (56, .p (pI (parts.map rsP).length)), (57, .p (pI kk))], [(3, .cells [.p (pS id), .p (pB set), .p (pI alg), .p (tgtP tg), .p (.sl 5 (rules.map zt)), .p (.sl 7 (kids.map polP)), .p (zQ obls)]), (6, .cells [.p (.v (.complex .f64 0 0)), .p nilV]), (12, .cells [.p (mkP M), .row 0]), (0, .row 43 3 (acc.map Obli.pv))]⟩) parts.length ⟨0, 0, [], Nat.zero_le _, rfl, rfl, Nat.zero_le _, rfl, rfl⟩ ?_
    rintro n s ⟨k, _, acc, hk, rfl, rfl, hacc, hfin, rfl⟩
    have htk := oblN_le parts k
    (repeat refine qb ?_); refine qa ?_
    repeat (first | refine zR ?_ | refine zK ?_ | refine zM ?_ | refine zB ?_ | refine zA ?_ | refine zS ?_ | refine zL ?_)
    refine qc ?_
    (repeat refine qb ?_); refine qf rfl (fun hlt => ?_) (fun hlt => ?_)
    · refine qm ?_
      rw [lp] at hlt
      simp only [decide_eq_true_eq] at hlt
      have hlt' : k < parts.length := by omega
      have hs := oblN_take hlt'
      have htk2 := oblN_le parts (k + 1)
      have hxm := hm _ (List.getElem_mem hlt')
      rw [List.drop_eq_getElem_cons hlt', wF] at hfin
      (repeat refine qb ?_); refine ql ?_
      (repeat refine qb ?_); refine qa ?_
      repeat (first | refine zR ?_ | refine zK ?_ | refine zM ?_ | refine zB ?_ | refine zA ?_ | refine zS ?_ | refine zL ?_)
      refine qw qe rfl rfl (by rw [lp]; omega) rfl ?_
      rw [qJ hlt']
      repeat (first | refine zR ?_ | refine zK ?_ | refine zM ?_ | refine zB ?_ | refine zA ?_ | refine zS ?_ | refine zL ?_)
      refine qc ?_
      generalize parts[k] = x at *
      have hE : mkE x.m M = decide (x.m = M) := mkE_eq hxm hM
      (repeat refine qb ?_); refine qa ?_
      repeat (first | refine zR ?_ | refine zK ?_ | refine zM ?_ | refine zB ?_ | refine zA ?_ | refine zS ?_ | refine zL ?_)
      refine qc ?_
      (repeat refine qb ?_); refine qf rfl (fun cx => ?_) (fun cx => ?_)
      · have e : ¬ x.m = M := by
          change (!mkE x.m M) = true at cx
          rw [hE] at cx
          simpa using cx
        rw [if_neg e] at hfin
        refine qK ?_
        (repeat refine qb ?_); refine qa ?_
        repeat (first | refine zR ?_ | refine zK ?_ | refine zM ?_ | refine zB ?_ | refine zA ?_ | refine zS ?_ | refine zL ?_)
        refine qc ?_
        refine ⟨_, _, ?_, qq [3, 6, 10, 12, 55, 56, 57] [(3, 3), (6, 6), (12, 12), (0, 0)] rfl rfl, k + 1, _, acc, hlt', rfl, qz hlt' (by omega), by omega, hfin, rfl⟩
        omega
      · have e : x.m = M := by
          change (!mkE x.m M) = false at cx
          rw [hE] at cx
          simpa using cx
        rw [if_pos e] at hfin
        refine qm ?_
        (repeat refine qb ?_); refine qa ?_
        repeat (first | refine zR ?_ | refine zK ?_ | refine zM ?_ | refine zB ?_ | refine zA ?_ | refine zS ?_ | refine zL ?_)
        refine qn rfl (qp qe rfl rfl rfl rfl rfl rfl rfl rfl rfl rfl rfl rfl rfl rfl rfl rfl (by simp only [List.length_append, List.length_map, List.length_take, List.length_cons, List.length_nil]; unfold reachBytes; omega) (by simp only [List.length_append, List.length_map, List.length_take, List.length_cons, List.length_nil]; omega) ?_)
        repeat (first | refine zR ?_ | refine zK ?_ | refine zM ?_ | refine zB ?_ | refine zA ?_ | refine zS ?_ | refine zL ?_)
        refine qc ?_
        (repeat refine qb ?_); refine qa ?_
        repeat (first | refine zR ?_ | refine zK ?_ | refine zM ?_ | refine zB ?_ | refine zA ?_ | refine zS ?_ | refine zL ?_)
        refine qc ?_
        (repeat refine qb ?_); refine qf rfl (fun c3 => ?_) (fun c3 => ?_)
        · have e3 : alg = 3 := by simpa using c3
          rw [if_pos e3] at hfin
          refine qK ?_
          obtain ⟨acc2, ha2⟩ : ∃ acc2, acc2 = acc ++ x.obls := ⟨_, rfl⟩
          have hl2 : acc2.length = acc.length + x.obls.length := by rw [ha2, List.length_append]
          rw [← ha2] at hfin
          refine SW.wk (qq [3, 6, 10, 12] [(3, 3), (6, 6), (12, 12), (69, 69)] rfl rfl) ?_
          have eL : acc.map Obli.pv ++ x.obls.map Obli.pv = acc2.map Obli.pv := by rw [ha2, List.map_append]
          change SW _ _ _ ⟨84, [(3, .ptr 3 0), (6, .ptr 6 0), (10, .p (mkP M)), (12, .ptr 12 0)], [(3, .cells [.p (pS id), .p (pB set), .p (pI alg), .p (tgtP tg), .p (.sl 5 (rules.map zt)), .p (.sl 7 (kids.map polP)), .p (zQ obls)]), (6, .cells [.p (.v (.complex .f64 0 0)), .p nilV]), (12, .cells [.p (mkP M), .row 69]), (69, .row 43 3 (acc.map Obli.pv ++ x.obls.map Obli.pv))]⟩
          rw [eL]
          have hacc2 : acc2.length ≤ 1000000 := by omega
          have hdl := wq obls M
          (repeat refine qb ?_); refine zH 9 rfl (by kernel_rfl) ?_
          refine qy (i := 0) (K := [12, 69]) (by kernel_rfl) (by kernel_rfl) rfl rfl (qi qe rfl (by exact True.intro)) rfl ?_
          refine qy (i := 1) (K := []) (by kernel_rfl) (by kernel_rfl) rfl rfl (qi qe rfl (by exact True.intro)) rfl ?_
          refine qy (i := 2) (K := [12, 69]) (by kernel_rfl) (by kernel_rfl) rfl rfl (qi qe rfl (by exact True.intro)) rfl ?_
          refine qy (i := 3) (K := [12, 69]) (by kernel_rfl) (by kernel_rfl) rfl rfl (qi qe rfl (by exact True.intro)) rfl ?_
          refine qy (i := 4) (K := [12, 69]) (by kernel_rfl) (by kernel_rfl) rfl rfl (qi qe rfl (by exact True.intro)) rfl ?_
          refine qo 5 (by kernel_rfl) ?_
          refine qd rfl rfl rfl (qD rfl rfl rfl rfl ((duties_h obls (by omega) M hM)) rfl rfl rfl ?_)
          refine qo 6 (by kernel_rfl) ?_
          refine qd rfl rfl rfl (qp qe rfl rfl rfl rfl rfl rfl rfl rfl rfl rfl rfl rfl rfl rfl rfl rfl (by simp only [List.length_append, List.length_map, List.length_take, List.length_cons, List.length_nil]; unfold reachBytes; omega) (by simp only [List.length_append, List.length_map, List.length_take, List.length_cons, List.length_nil]; omega) ?_)
          refine qy (i := 7) (K := [12, 69]) (by kernel_rfl) (by kernel_rfl) rfl rfl (qi qe rfl (by exact True.intro)) rfl ?_
          refine qo 8 (by kernel_rfl) ?_
          first | refine qd rfl rfl rfl (aM (h := ?_)) | refine qd rfl rfl rfl (aB (h := ?_)) | refine qd rfl rfl rfl (aA (h := ?_)) | refine qd rfl rfl rfl (aS (h := ?_)) | refine qd rfl rfl rfl (aL (h := ?_)) | refine qd rfl rfl rfl (qv (K := []) (qi qe rfl (by exact True.intro)) rfl ?_)
          refine zd (by kernel_rfl) ?_
          refine SW.wk (qq [3, 6, 12] [(3, 3), (6, 6), (12, 12), (81, 81)] rfl rfl) ?_
          refine ?fk22_223
          rotate_left
          (repeat refine qb ?_); refine qa ?_
          repeat (first | refine zR ?_ | refine zK ?_ | refine zM ?_ | refine zB ?_ | refine zA ?_ | refine zS ?_ | refine zL ?_)
          refine qc ?_
          (repeat refine qb ?_); refine qk ?_
          rw [hfin, rs_app]
          exact ⟨Or.inr rfl, _, _, [], _, zN (k := 81) rfl, rfl, rfl, .refl _, rfl, rfl⟩
        · have e3 : ¬ alg = 3 := by simpa using c3
          rw [if_neg e3] at hfin
          refine qm ?_
          (repeat refine qb ?_); refine qa ?_
          repeat (first | refine zR ?_ | refine zK ?_ | refine zM ?_ | refine zB ?_ | refine zA ?_ | refine zS ?_ | refine zL ?_)
          refine qc ?_
          refine ⟨_, _, ?_, qq [3, 6, 10, 12, 55, 56, 57] [(3, 3), (6, 6), (12, 12), (69, 0)] rfl rfl, k + 1, _, acc ++ x.obls, hlt', rfl, qz hlt' (by omega), by rw [List.length_append]; omega, by rw [List.append_assoc]; exact hfin, ?_⟩
          · omega
          · rw [List.map_append]; rfl
    · refine qK ?_
      rw [lp] at hlt
      simp only [decide_eq_false_iff_not] at hlt
      have hkk : k = parts.length := by omega
      subst hkk
      rw [List.drop_length, wF, List.append_nil] at hfin
      obtain ⟨acc2, ha2⟩ : ∃ acc2, acc2 = acc := ⟨_, rfl⟩
      rw [← ha2] at hfin hacc ⊢
      have hacc2 : acc2.length ≤ 1000000 := by omega
      have hdl := wq obls M
      (repeat refine qb ?_); refine zH 9 rfl (by kernel_rfl) ?_
      refine qy (i := 0) (K := [12, 0]) (by kernel_rfl) (by kernel_rfl) rfl rfl (qi qe rfl (by exact True.intro)) rfl ?_
      refine qy (i := 1) (K := []) (by kernel_rfl) (by kernel_rfl) rfl rfl (qi qe rfl (by exact True.intro)) rfl ?_
      refine qy (i := 2) (K := [12, 0]) (by kernel_rfl) (by kernel_rfl) rfl rfl (qi qe rfl (by exact True.intro)) rfl ?_
      refine qy (i := 3) (K := [12, 0]) (by kernel_rfl) (by kernel_rfl) rfl rfl (qi qe rfl (by exact True.intro)) rfl ?_
      refine qy (i := 4) (K := [12, 0]) (by kernel_rfl) (by kernel_rfl) rfl rfl (qi qe rfl (by exact True.intro)) rfl ?_
      refine qo 5 (by kernel_rfl) ?_
      refine qd rfl rfl rfl (qD rfl rfl rfl rfl ((duties_h obls (by omega) M hM)) rfl rfl rfl ?_)
      refine qo 6 (by kernel_rfl) ?_
      refine qd rfl rfl rfl (qp qe rfl rfl rfl rfl rfl rfl rfl rfl rfl rfl rfl rfl rfl rfl rfl rfl (by simp only [List.length_append, List.length_map, List.length_take, List.length_cons, List.length_nil]; unfold reachBytes; omega) (by simp only [List.length_append, List.length_map, List.length_take, List.length_cons, List.length_nil]; omega) ?_)
      refine qy (i := 7) (K := [12, 0]) (by kernel_rfl) (by kernel_rfl) rfl rfl (qi qe rfl (by exact True.intro)) rfl ?_
      refine qo 8 (by kernel_rfl) ?_
      first | refine qd rfl rfl rfl (aM (h := ?_)) | refine qd rfl rfl rfl (aB (h := ?_)) | refine qd rfl rfl rfl (aA (h := ?_)) | refine qd rfl rfl rfl (aS (h := ?_)) | refine qd rfl rfl rfl (aL (h := ?_)) | refine qd rfl rfl rfl (qv (K := []) (qi qe rfl (by exact True.intro)) rfl ?_)
      refine zd (by kernel_rfl) ?_
      refine SW.wk (qq [3, 6, 12] [(3, 3), (6, 6), (12, 12), (81, 81)] rfl rfl) ?_
      refine ?fk22_265
      rotate_left
      (repeat refine qb ?_); refine qa ?_
      repeat (first | refine zR ?_ | refine zK ?_ | refine zM ?_ | refine zB ?_ | refine zA ?_ | refine zS ?_ | refine zL ?_)
      refine qc ?_
      (repeat refine qb ?_); refine qk ?_
      rw [hfin, rs_app]
      exact ⟨Or.inr rfl, _, _, [], _, zN (k := 81) rfl, rfl, rfl, .refl _, rfl, rfl⟩
end Go.Proofs.YtppfcacnofjmdaaGreatDoor
