/-
  Layer 12 (expr): a node of what stands ahead of it, by shades.
-/
import Derived.Test.YtjpcchipejmocaaSh
import Derived.Test.YtjpcchipejmocaaExH
import Derived.Test.YtjpcchipejmocaaExF
import Derived.Test.YtjpcchipejmocaaAskH
namespace Go.Proofs.Ytjpcchipejmocaa
open Go.RowKit
set_option maxHeartbeats 4000000
def itmRow (S : List Itm) : List (Nat × Box) := [(1000000, .row 87 5 (S.map Itm.pv))]
theorem drop_get {S : List Itm} {lo i : Nat} {x : Itm} (h : (S.drop lo)[i]? = some x) : (S.map Itm.pv).getD (lo + i) [] = x.pv := by
  rw [List.getElem?_drop] at h
  rw [List.getD_eq_getElem?_getD, List.getElem?_map, h]; rfl
theorem errS_at : ∀ {l : List Itm} {k : Nat} (hk : k < l.length), errS (l.take k) = 0 → l[k].e ≠ 0 → errS l = l[k].e
  | x :: r, 0, _, _, h => by simp only [List.getElem_cons_zero] at h ⊢; rw [errS, if_neg h]
  | x :: r, k + 1, hk, h0, h => by
    rw [List.take_succ_cons, errS] at h0
    by_cases hx : x.e = 0
    · rw [if_pos hx] at h0
      rw [errS, if_pos hx]
      exact errS_at (by simpa using hk) h0 (by simpa using h)
    · rw [if_neg hx] at h0; exact absurd h0 hx
theorem errS_step : ∀ {l : List Itm} {k : Nat} (hk : k < l.length), errS (l.take k) = 0 → l[k].e = 0 → errS (l.take (k + 1)) = 0
  | x :: r, 0, _, _, h => by simp only [List.getElem_cons_zero] at h; rw [Nat.zero_add, List.take_succ_cons, List.take_zero, errS, if_pos h]; rfl
  | x :: r, k + 1, hk, h0, h => by
    rw [List.take_succ_cons, errS] at h0
    by_cases hx : x.e = 0
    · rw [if_pos hx] at h0
      rw [List.take_succ_cons, errS, if_pos hx]
      exact errS_step (by simpa using hk) h0 (by simpa using h)
    · rw [if_neg hx] at h0; exact absurd h0 hx
theorem node_lit (val : Val) (attr : Atr) (S : List Itm) (lo : Nat) (g : List Giv) : HoldsW Try.prog 46 [.p (.agg (Nod.mk 1 val attr).pv), .view 1000000 5 lo S.length, .p (givsP g)] (itmRow S) (.p (.agg (nodeS (Nod.mk 1 val attr) (S.drop lo) g).pv)) (itmRow S) := by
  have e : nodeS (Nod.mk 1 val attr) (S.drop lo) g = ⟨[], val, 0⟩ := rfl
  rw [e]
  refine holdsC_of (T := TTab) ttab_ok Try.func46 (by kernel_rfl) rfl rfl rfl ?_
  (repeat refine sw_seq ?_); refine sw_region ?_
  repeat (first | refine sR (h := ?_) | refine sK (h := ?_) | refine sT (h := aM (h := ?_)) | refine sT (h := aB (h := ?_)) | refine sT (h := aA (h := ?_)) | refine sT (h := aS (h := ?_)) | refine sT (h := aL (h := ?_)))
  refine swt_nil ?_
  (repeat refine sw_seq ?_); refine sw_region ?_
  repeat (first | refine sR (h := ?_) | refine sK (h := ?_) | refine sT (h := aM (h := ?_)) | refine sT (h := aB (h := ?_)) | refine sT (h := aA (h := ?_)) | refine sT (h := aS (h := ?_)) | refine sT (h := aL (h := ?_)))
  refine swt_nil ?_
  (repeat refine sw_seq ?_); refine sw_block ?_
  (repeat refine sw_seq ?_); refine sw_region ?_
  repeat (first | refine sR (h := ?_) | refine sK (h := ?_) | refine sT (h := aM (h := ?_)) | refine sT (h := aB (h := ?_)) | refine sT (h := aA (h := ?_)) | refine sT (h := aS (h := ?_)) | refine sT (h := aL (h := ?_)))
  refine swt_nil ?_
  (repeat refine sw_seq ?_); refine sw_cond rfl (fun h1 => ?_) (fun h1 => ?_)
  · (repeat refine sw_seq ?_); refine sw_region ?_
    repeat (first | refine sR (h := ?_) | refine sK (h := ?_) | refine sT (h := aM (h := ?_)) | refine sT (h := aB (h := ?_)) | refine sT (h := aA (h := ?_)) | refine sT (h := aS (h := ?_)) | refine sT (h := aL (h := ?_)))
    refine swt_nil ?_
    (repeat refine sw_seq ?_); refine sw_ret ?_
    exact ⟨Or.inr rfl, _, _, [(1000000, 1000000)], _, Wk.refl _, rfl, rfl, .p (CvL.agg (.cons (.nil 3) (.refl _))), rfl, rfl⟩
  · cases h1
theorem node_attr (val : Val) (attr : Atr) (S : List Itm) (lo : Nat) (g : List Giv) (hn : g.length ≤ 1000000) (hb : ∀ x ∈ g, x.bag.length ≤ 1000000) : HoldsW Try.prog 46 [.p (.agg (Nod.mk 2 val attr).pv), .view 1000000 5 lo S.length, .p (givsP g)] (itmRow S) (.p (.agg (nodeS (Nod.mk 2 val attr) (S.drop lo) g).pv)) (itmRow S) := by
  have e : nodeS (Nod.mk 2 val attr) (S.drop lo) g = ⟨(getS attr g).1, noVal, (getS attr g).2⟩ := rfl
  rw [e]
  refine holdsC_of (T := TTab) ttab_ok Try.func46 (by kernel_rfl) rfl rfl rfl ?_
  (repeat refine sw_seq ?_); refine sw_region ?_
  repeat (first | refine sR (h := ?_) | refine sK (h := ?_) | refine sT (h := aM (h := ?_)) | refine sT (h := aB (h := ?_)) | refine sT (h := aA (h := ?_)) | refine sT (h := aS (h := ?_)) | refine sT (h := aL (h := ?_)))
  refine swt_nil ?_
  (repeat refine sw_seq ?_); refine sw_region ?_
  repeat (first | refine sR (h := ?_) | refine sK (h := ?_) | refine sT (h := aM (h := ?_)) | refine sT (h := aB (h := ?_)) | refine sT (h := aA (h := ?_)) | refine sT (h := aS (h := ?_)) | refine sT (h := aL (h := ?_)))
  refine swt_nil ?_
  (repeat refine sw_seq ?_); refine sw_block ?_
  (repeat refine sw_seq ?_); refine sw_region ?_
  repeat (first | refine sR (h := ?_) | refine sK (h := ?_) | refine sT (h := aM (h := ?_)) | refine sT (h := aB (h := ?_)) | refine sT (h := aA (h := ?_)) | refine sT (h := aS (h := ?_)) | refine sT (h := aL (h := ?_)))
  refine swt_nil ?_
  (repeat refine sw_seq ?_); refine sw_cond rfl (fun h1 => ?_) (fun h1 => ?_)
  · cases h1
  · (repeat refine sw_seq ?_); refine sw_region ?_
    repeat (first | refine sR (h := ?_) | refine sK (h := ?_) | refine sT (h := aM (h := ?_)) | refine sT (h := aB (h := ?_)) | refine sT (h := aA (h := ?_)) | refine sT (h := aS (h := ?_)) | refine sT (h := aL (h := ?_)))
    refine swt_nil ?_
    (repeat refine sw_seq ?_); refine sw_cond rfl (fun h2 => ?_) (fun h2 => ?_)
    · (repeat refine sw_seq ?_); refine sw_region ?_
      repeat (first | refine sR (h := ?_) | refine sK (h := ?_) | refine sT (h := aM (h := ?_)) | refine sT (h := aB (h := ?_)) | refine sT (h := aA (h := ?_)) | refine sT (h := aS (h := ?_)) | refine sT (h := aL (h := ?_)))
      refine swt_act rfl (act_call rfl rfl rfl rfl (get_h attr g hn hb) rfl rfl rfl ?_)
      repeat (first | refine sR (h := ?_) | refine sK (h := ?_) | refine sT (h := aM (h := ?_)) | refine sT (h := aB (h := ?_)) | refine sT (h := aA (h := ?_)) | refine sT (h := aS (h := ?_)) | refine sT (h := aL (h := ?_)))
      refine swt_nil ?_
      (repeat refine sw_seq ?_); refine sw_region ?_
      repeat (first | refine sR (h := ?_) | refine sK (h := ?_) | refine sT (h := aM (h := ?_)) | refine sT (h := aB (h := ?_)) | refine sT (h := aA (h := ?_)) | refine sT (h := aS (h := ?_)) | refine sT (h := aL (h := ?_)))
      refine swt_nil ?_
      (repeat refine sw_seq ?_); refine sw_ret ?_
      exact ⟨Or.inr rfl, _, _, [(1000000, 1000000)], _, Wk.refl _, rfl, rfl, .refl _, rfl, rfl⟩
    · cases h2
theorem drop_one {S : List Itm} {lo : Nat} (h : lo + 1 = S.length) : ∃ x, S.drop lo = [x] := List.length_eq_one_iff.1 (by rw [List.length_drop]; omega)
theorem drop_two {S : List Itm} {lo : Nat} (h : lo + 2 = S.length) : ∃ x y, S.drop lo = [x, y] := by
  have : (S.drop lo).length = 2 := by rw [List.length_drop]; omega
  match hd : S.drop lo, this with
  | [x, y], _ => exact ⟨x, y, rfl⟩
theorem nodeS_last {op : Int} {val : Val} {attr : Atr} {l : List Itm} {g : List Giv} (h1 : ¬ op = 1) (h2 : ¬ op = 2) (hd : decS op l = false) : nodeS (Nod.mk op val attr) l g = if errS l ≠ 0 then ⟨[], noVal, errS l⟩ else lastS op l := by
  unfold nodeS
  simp only
  rw [if_neg h1, if_neg h2, hd, if_neg (by simp)]
theorem node_one_h (val : Val) (attr : Atr) (S : List Itm) (lo : Nat) (g : List Giv) (hlo : lo + 1 = S.length) (hl : S.length ≤ 1000000) : HoldsW Try.prog 46 [.p (.agg (Nod.mk 3 val attr).pv), .view 1000000 5 lo S.length, .p (givsP g)] (itmRow S) (.p (.agg (nodeS (Nod.mk 3 val attr) (S.drop lo) g).pv)) (itmRow S) := by
  have hN := nodeS_last (val := val) (attr := attr) (g := g) (op := 3) (l := S.drop lo) (by omega) (by omega) rfl
  refine holdsC_of (T := TTab) ttab_ok Try.func46 (by kernel_rfl) rfl rfl rfl ?_
  (repeat refine sw_seq ?_); refine sw_region ?_
  repeat (first | refine sR (h := ?_) | refine sK (h := ?_) | refine sT (h := aM (h := ?_)) | refine sT (h := aB (h := ?_)) | refine sT (h := aA (h := ?_)) | refine sT (h := aS (h := ?_)) | refine sT (h := aL (h := ?_)))
  refine swt_nil ?_
  (repeat refine sw_seq ?_); refine sw_region ?_
  repeat (first | refine sR (h := ?_) | refine sK (h := ?_) | refine sT (h := aM (h := ?_)) | refine sT (h := aB (h := ?_)) | refine sT (h := aA (h := ?_)) | refine sT (h := aS (h := ?_)) | refine sT (h := aL (h := ?_)))
  refine swt_nil ?_
  (repeat refine sw_seq ?_); refine sw_block ?_
  (repeat refine sw_seq ?_); refine sw_region ?_
  repeat (first | refine sR (h := ?_) | refine sK (h := ?_) | refine sT (h := aM (h := ?_)) | refine sT (h := aB (h := ?_)) | refine sT (h := aA (h := ?_)) | refine sT (h := aS (h := ?_)) | refine sT (h := aL (h := ?_)))
  refine swt_nil ?_
  (repeat refine sw_seq ?_); refine sw_cond rfl (fun h1 => ?_) (fun h1 => ?_)
  · cases h1
  · (repeat refine sw_seq ?_); refine sw_region ?_
    repeat (first | refine sR (h := ?_) | refine sK (h := ?_) | refine sT (h := aM (h := ?_)) | refine sT (h := aB (h := ?_)) | refine sT (h := aA (h := ?_)) | refine sT (h := aS (h := ?_)) | refine sT (h := aL (h := ?_)))
    refine swt_nil ?_
    (repeat refine sw_seq ?_); refine sw_cond rfl (fun h2 => ?_) (fun h2 => ?_)
    · cases h2
    · (repeat refine sw_seq ?_); refine sw_region ?_
      repeat (first | refine sR (h := ?_) | refine sK (h := ?_) | refine sT (h := aM (h := ?_)) | refine sT (h := aB (h := ?_)) | refine sT (h := aA (h := ?_)) | refine sT (h := aS (h := ?_)) | refine sT (h := aL (h := ?_)))
      refine swt_nil ?_
      (repeat refine sw_seq ?_); refine sw_cond rfl (fun h3 => ?_) (fun h3 => ?_)
      · cases h3
      · (repeat refine sw_seq ?_); refine sw_region ?_
        repeat (first | refine sR (h := ?_) | refine sK (h := ?_) | refine sT (h := aM (h := ?_)) | refine sT (h := aB (h := ?_)) | refine sT (h := aA (h := ?_)) | refine sT (h := aS (h := ?_)) | refine sT (h := aL (h := ?_)))
        refine swt_nil ?_
        (repeat refine sw_seq ?_); refine sw_cond rfl (fun h4 => ?_) (fun h4 => ?_)
        · cases h4
        · refine sw_skip ?_
          refine SW.wk (wk_only [1, 3, 6] [(1000000, 1000000), (3, 3), (6, 6)] rfl rfl) ?_
          (repeat refine sw_seq ?_); refine sw_region ?_
          repeat (first | refine sR (h := ?_) | refine sK (h := ?_) | refine sT (h := aM (h := ?_)) | refine sT (h := aB (h := ?_)) | refine sT (h := aA (h := ?_)) | refine sT (h := aS (h := ?_)) | refine sT (h := aL (h := ?_)))
          refine swt_nil ?_
          (repeat refine sw_seq ?_); refine sw_region ?_
          repeat (first | refine sR (h := ?_) | refine sK (h := ?_) | refine sT (h := aM (h := ?_)) | refine sT (h := aB (h := ?_)) | refine sT (h := aA (h := ?_)) | refine sT (h := aS (h := ?_)) | refine sT (h := aL (h := ?_)))
          refine swt_nil ?_
          (repeat refine sw_seq ?_); refine sw_block ?_
          refine SW.wk (wk_nil 10 900 24 3 rfl rfl) ?_
          refine SW.wk (wk_only [1, 3, 6, 10, 55, 56, 57] [(1000000, 1000000), (3, 3), (6, 6), (900, 0)] rfl rfl) ?_
          refine sw_loop (fun m s => ∃ (k : Nat) (kk : Int), k ≤ (S.drop lo).length ∧ m = (S.drop lo).length - k ∧ kk = k ∧ errS ((S.drop lo).take k) = 0 ∧ s = ⟨122, [(1, .view 1000000 5 lo S.length), (3, .ptr 3 0), (6, .ptr 6 0), (10, .row 0), (55, .view 1000000 5 lo S.length), (56, .p (pI ((S.length - lo : Nat) : Int))), (57, .p (pI kk))], [(1000000, .row 87 5 (S.map Itm.pv)), (3, .cells ((Nod.mk 3 val attr).pv.map .p)), (6, .cells (([.v (.slice none 0 0), pI 0, pI 0, pS ⟨#[]⟩, pI 0] : List PV).map .p)), (0, .row 24 3 ((((S.drop lo).take k).map Itm.v).map Val.pv))]⟩) (S.drop lo).length ⟨0, 0, Nat.zero_le _, rfl, rfl, rfl, rfl⟩ ?_
          rintro m s ⟨k, _, hk, rfl, rfl, he0, rfl⟩
          (repeat refine sw_seq ?_); refine sw_region ?_
          repeat (first | refine sR (h := ?_) | refine sK (h := ?_) | refine sT (h := aM (h := ?_)) | refine sT (h := aB (h := ?_)) | refine sT (h := aA (h := ?_)) | refine sT (h := aS (h := ?_)) | refine sT (h := aL (h := ?_)))
          refine swt_nil ?_
          (repeat refine sw_seq ?_); refine sw_cond rfl (fun hlt => ?_) (fun hlt => ?_)
          · refine sw_skip ?_
            have hlt' : k < (S.drop lo).length := by rw [List.length_drop]; simpa using hlt
            have hk2 : k < S.length - lo := by rwa [List.length_drop] at hlt'
            have hget : (S.drop lo)[k]? = some (S.drop lo)[k] := List.getElem?_eq_getElem hlt'
            (repeat refine sw_seq ?_); refine sw_block ?_
            (repeat refine sw_seq ?_); refine sw_region ?_
            repeat (first | refine sR (h := ?_) | refine sK (h := ?_) | refine sT (h := aM (h := ?_)) | refine sT (h := aB (h := ?_)) | refine sT (h := aA (h := ?_)) | refine sT (h := aS (h := ?_)) | refine sT (h := aL (h := ?_)))
            refine swt_read ttab_ok rfl rfl (by omega) rfl ?_
            repeat (first | refine sR (h := ?_) | refine sK (h := ?_) | refine sT (h := aM (h := ?_)) | refine sT (h := aB (h := ?_)) | refine sT (h := aA (h := ?_)) | refine sT (h := aS (h := ?_)) | refine sT (h := aL (h := ?_)))
            refine swt_read ttab_ok rfl (opR_elem rfl rfl rfl rfl rfl (show (S.map Itm.pv).getD (lo + Int.toNat (k : Int)) [] = (S.drop lo)[k].pv from drop_get hget) rfl) (by rw [List.length_map, Int.toNat_natCast]; omega) rfl ?_
            repeat (first | refine sR (h := ?_) | refine sK (h := ?_) | refine sT (h := aM (h := ?_)) | refine sT (h := aB (h := ?_)) | refine sT (h := aA (h := ?_)) | refine sT (h := aS (h := ?_)) | refine sT (h := aL (h := ?_)))
            refine swt_nil ?_
            (repeat refine sw_seq ?_); refine sw_region ?_
            repeat (first | refine sR (h := ?_) | refine sK (h := ?_) | refine sT (h := aM (h := ?_)) | refine sT (h := aB (h := ?_)) | refine sT (h := aA (h := ?_)) | refine sT (h := aS (h := ?_)) | refine sT (h := aL (h := ?_)))
            refine swt_nil ?_
            (repeat refine sw_seq ?_); refine sw_cond rfl (fun hne => ?_) (fun hne => ?_)
            · have hne' : (S.drop lo)[k].e ≠ 0 := by simpa using hne
              have e1 := errS_at hlt' he0 hne'
              rw [hN, e1, if_pos hne']
              (repeat refine sw_seq ?_); refine sw_region ?_
              repeat (first | refine sR (h := ?_) | refine sK (h := ?_) | refine sT (h := aM (h := ?_)) | refine sT (h := aB (h := ?_)) | refine sT (h := aA (h := ?_)) | refine sT (h := aS (h := ?_)) | refine sT (h := aL (h := ?_)))
              refine swt_nil ?_
              (repeat refine sw_seq ?_); refine sw_ret ?_
              exact ⟨Or.inr rfl, _, _, [(1000000, 1000000)], _, Wk.refl _, rfl, rfl, .p (CvL.agg (.cons (.nil 3) (.refl _))), rfl, rfl⟩
            · have hne' : (S.drop lo)[k].e = 0 := by simpa using hne
              refine sw_skip ?_
              (repeat refine sw_seq ?_); refine sw_region ?_
              repeat (first | refine sR (h := ?_) | refine sK (h := ?_) | refine sT (h := aM (h := ?_)) | refine sT (h := aB (h := ?_)) | refine sT (h := aA (h := ?_)) | refine sT (h := aS (h := ?_)) | refine sT (h := aL (h := ?_)))
              refine swt_act rfl (act_append_row ttab_ok rfl rfl rfl rfl rfl rfl rfl rfl rfl rfl rfl rfl rfl rfl rfl rfl (by simp only [List.length_append, List.length_map, List.length_take, List.length_drop]; unfold reachBytes; simp; omega) (by simp only [List.length_append, List.length_map, List.length_take, List.length_drop]; simp; omega) ?_)
              repeat (first | refine sR (h := ?_) | refine sK (h := ?_) | refine sT (h := aM (h := ?_)) | refine sT (h := aB (h := ?_)) | refine sT (h := aA (h := ?_)) | refine sT (h := aS (h := ?_)) | refine sT (h := aL (h := ?_)))
              refine swt_nil ?_
              (repeat refine sw_seq ?_); refine sw_region ?_
              repeat (first | refine sR (h := ?_) | refine sK (h := ?_) | refine sT (h := aM (h := ?_)) | refine sT (h := aB (h := ?_)) | refine sT (h := aA (h := ?_)) | refine sT (h := aS (h := ?_)) | refine sT (h := aL (h := ?_)))
              refine swt_nil ?_
              refine ⟨_, _, ?_, wk_only [1, 3, 6, 10, 55, 56, 57] [(1000000, 1000000), (3, 3), (6, 6), (71, 0)] rfl rfl, k + 1, _, hlt', rfl, wrap_succ hlt' (by rw [List.length_drop]; omega), errS_step hlt' he0 hne', ?_⟩
              · omega
              · rw [List.take_succ_eq_append_getElem hlt', List.map_append, List.map_append]; rfl
          · refine sw_exit ?_
            have hkk : k = (S.drop lo).length := by
              have : ¬ (k : Int) < ((S.length - lo : Nat) : Int) := by simpa using hlt
              rw [List.length_drop] at hk ⊢
              omega
            subst hkk
            rw [List.take_length] at he0 ⊢
            rw [hN, if_neg (by simp [he0])]
            clear hN
            (repeat refine sw_seq ?_); refine sw_region ?_
            repeat (first | refine sR (h := ?_) | refine sK (h := ?_) | refine sT (h := aM (h := ?_)) | refine sT (h := aB (h := ?_)) | refine sT (h := aA (h := ?_)) | refine sT (h := aS (h := ?_)) | refine sT (h := aL (h := ?_)))
            refine swt_nil ?_
            obtain ⟨x, hx⟩ := drop_one hlo
            have h0 : (S.drop lo)[0]? = some x := by rw [hx]; rfl
            rw [hx]
            (repeat refine sw_seq ?_); refine sw_block ?_
            (repeat refine sw_seq ?_); refine sw_region ?_
            repeat (first | refine sR (h := ?_) | refine sK (h := ?_) | refine sT (h := aM (h := ?_)) | refine sT (h := aB (h := ?_)) | refine sT (h := aA (h := ?_)) | refine sT (h := aS (h := ?_)) | refine sT (h := aL (h := ?_)))
            refine swt_nil ?_
            (repeat refine sw_seq ?_); refine sw_cond rfl (fun h5 => ?_) (fun h5 => ?_)
            · (repeat refine sw_seq ?_); refine sw_region ?_
              repeat (first | refine sR (h := ?_) | refine sK (h := ?_) | refine sT (h := aM (h := ?_)) | refine sT (h := aB (h := ?_)) | refine sT (h := aA (h := ?_)) | refine sT (h := aS (h := ?_)) | refine sT (h := aL (h := ?_)))
              refine swt_read ttab_ok rfl rfl (by omega) rfl ?_
              repeat (first | refine sR (h := ?_) | refine sK (h := ?_) | refine sT (h := aM (h := ?_)) | refine sT (h := aB (h := ?_)) | refine sT (h := aA (h := ?_)) | refine sT (h := aS (h := ?_)) | refine sT (h := aL (h := ?_)))
              refine swt_read ttab_ok rfl (opR_elem rfl rfl rfl rfl rfl (show (S.map Itm.pv).getD (lo + Int.toNat 0) [] = x.pv from drop_get h0) rfl) (by rw [List.length_map]; omega) rfl ?_
              repeat (first | refine sR (h := ?_) | refine sK (h := ?_) | refine sT (h := aM (h := ?_)) | refine sT (h := aB (h := ?_)) | refine sT (h := aA (h := ?_)) | refine sT (h := aS (h := ?_)) | refine sT (h := aL (h := ?_)))
              refine swt_nil ?_
              (repeat refine sw_seq ?_); refine sw_cond rfl (fun h6 => ?_) (fun h6 => ?_)
              · have h7 : ¬ x.bag.length = 1 := by
                  intro h7
                  simp at h6
                  omega
                have e2 : lastS 3 [x] = ⟨[], noVal, 4⟩ := by unfold lastS; rw [if_pos rfl]; exact if_neg h7
                rw [e2]
                (repeat refine sw_seq ?_); refine sw_region ?_
                repeat (first | refine sR (h := ?_) | refine sK (h := ?_) | refine sT (h := aM (h := ?_)) | refine sT (h := aB (h := ?_)) | refine sT (h := aA (h := ?_)) | refine sT (h := aS (h := ?_)) | refine sT (h := aL (h := ?_)))
                refine swt_nil ?_
                (repeat refine sw_seq ?_); refine sw_ret ?_
                exact ⟨Or.inr rfl, _, _, [(1000000, 1000000)], _, Wk.refl _, rfl, rfl, .p (CvL.agg (.cons (.nil 3) (.refl _))), rfl, rfl⟩
              · have h7 : x.bag.length = 1 := by
                  have : ((x.bag.map Val.pv).length : Int) = 1 := by simpa using h6
                  rw [List.length_map] at this
                  omega
                obtain ⟨v, hv⟩ := List.length_eq_one_iff.1 h7
                have e2 : lastS 3 [x] = ⟨[], v, 0⟩ := by
                  unfold lastS
                  rw [if_pos rfl]
                  show (if x.bag.length = 1 then _ else _) = _
                  rw [if_pos h7]
                  show Itm.mk [] (x.bag.getD 0 noVal) 0 = _
                  rw [hv]; rfl
                rw [e2]
                refine sw_skip ?_
                (repeat refine sw_seq ?_); refine sw_region ?_
                repeat (first | refine sR (h := ?_) | refine sK (h := ?_) | refine sT (h := aM (h := ?_)) | refine sT (h := aB (h := ?_)) | refine sT (h := aA (h := ?_)) | refine sT (h := aS (h := ?_)) | refine sT (h := aL (h := ?_)))
                refine swt_read ttab_ok rfl rfl (by omega) rfl ?_
                repeat (first | refine sR (h := ?_) | refine sK (h := ?_) | refine sT (h := aM (h := ?_)) | refine sT (h := aB (h := ?_)) | refine sT (h := aA (h := ?_)) | refine sT (h := aS (h := ?_)) | refine sT (h := aL (h := ?_)))
                refine swt_read ttab_ok rfl (opR_elem rfl rfl rfl rfl rfl (show (S.map Itm.pv).getD (lo + Int.toNat 0) [] = x.pv from drop_get h0) rfl) (by rw [List.length_map]; omega) rfl ?_
                repeat (first | refine sR (h := ?_) | refine sK (h := ?_) | refine sT (h := aM (h := ?_)) | refine sT (h := aB (h := ?_)) | refine sT (h := aA (h := ?_)) | refine sT (h := aS (h := ?_)) | refine sT (h := aL (h := ?_)))
                refine swt_read ttab_ok rfl rfl (by rw [List.length_map, h7]; omega) rfl ?_
                rw [show (x.bag.map Val.pv).getD (Int.toNat 0) [] = v.pv by rw [hv]; rfl]
                repeat (first | refine sR (h := ?_) | refine sK (h := ?_) | refine sT (h := aM (h := ?_)) | refine sT (h := aB (h := ?_)) | refine sT (h := aA (h := ?_)) | refine sT (h := aS (h := ?_)) | refine sT (h := aL (h := ?_)))
                refine swt_nil ?_
                (repeat refine sw_seq ?_); refine sw_ret ?_
                exact ⟨Or.inr rfl, _, _, [(1000000, 1000000)], _, Wk.refl _, rfl, rfl, .p (CvL.agg (.cons (.nil 3) (.refl _))), rfl, rfl⟩
            · cases h5
theorem node_size_h (val : Val) (attr : Atr) (S : List Itm) (lo : Nat) (g : List Giv) (hlo : lo + 1 = S.length) (hl : S.length ≤ 1000000) : HoldsW Try.prog 46 [.p (.agg (Nod.mk 4 val attr).pv), .view 1000000 5 lo S.length, .p (givsP g)] (itmRow S) (.p (.agg (nodeS (Nod.mk 4 val attr) (S.drop lo) g).pv)) (itmRow S) := by
  have hN := nodeS_last (val := val) (attr := attr) (g := g) (op := 4) (l := S.drop lo) (by omega) (by omega) rfl
  refine holdsC_of (T := TTab) ttab_ok Try.func46 (by kernel_rfl) rfl rfl rfl ?_
  (repeat refine sw_seq ?_); refine sw_region ?_
  repeat (first | refine sR (h := ?_) | refine sK (h := ?_) | refine sT (h := aM (h := ?_)) | refine sT (h := aB (h := ?_)) | refine sT (h := aA (h := ?_)) | refine sT (h := aS (h := ?_)) | refine sT (h := aL (h := ?_)))
  refine swt_nil ?_
  (repeat refine sw_seq ?_); refine sw_region ?_
  repeat (first | refine sR (h := ?_) | refine sK (h := ?_) | refine sT (h := aM (h := ?_)) | refine sT (h := aB (h := ?_)) | refine sT (h := aA (h := ?_)) | refine sT (h := aS (h := ?_)) | refine sT (h := aL (h := ?_)))
  refine swt_nil ?_
  (repeat refine sw_seq ?_); refine sw_block ?_
  (repeat refine sw_seq ?_); refine sw_region ?_
  repeat (first | refine sR (h := ?_) | refine sK (h := ?_) | refine sT (h := aM (h := ?_)) | refine sT (h := aB (h := ?_)) | refine sT (h := aA (h := ?_)) | refine sT (h := aS (h := ?_)) | refine sT (h := aL (h := ?_)))
  refine swt_nil ?_
  (repeat refine sw_seq ?_); refine sw_cond rfl (fun h1 => ?_) (fun h1 => ?_)
  · cases h1
  · (repeat refine sw_seq ?_); refine sw_region ?_
    repeat (first | refine sR (h := ?_) | refine sK (h := ?_) | refine sT (h := aM (h := ?_)) | refine sT (h := aB (h := ?_)) | refine sT (h := aA (h := ?_)) | refine sT (h := aS (h := ?_)) | refine sT (h := aL (h := ?_)))
    refine swt_nil ?_
    (repeat refine sw_seq ?_); refine sw_cond rfl (fun h2 => ?_) (fun h2 => ?_)
    · cases h2
    · (repeat refine sw_seq ?_); refine sw_region ?_
      repeat (first | refine sR (h := ?_) | refine sK (h := ?_) | refine sT (h := aM (h := ?_)) | refine sT (h := aB (h := ?_)) | refine sT (h := aA (h := ?_)) | refine sT (h := aS (h := ?_)) | refine sT (h := aL (h := ?_)))
      refine swt_nil ?_
      (repeat refine sw_seq ?_); refine sw_cond rfl (fun h3 => ?_) (fun h3 => ?_)
      · cases h3
      · (repeat refine sw_seq ?_); refine sw_region ?_
        repeat (first | refine sR (h := ?_) | refine sK (h := ?_) | refine sT (h := aM (h := ?_)) | refine sT (h := aB (h := ?_)) | refine sT (h := aA (h := ?_)) | refine sT (h := aS (h := ?_)) | refine sT (h := aL (h := ?_)))
        refine swt_nil ?_
        (repeat refine sw_seq ?_); refine sw_cond rfl (fun h4 => ?_) (fun h4 => ?_)
        · cases h4
        · refine sw_skip ?_
          refine SW.wk (wk_only [1, 3, 6] [(1000000, 1000000), (3, 3), (6, 6)] rfl rfl) ?_
          (repeat refine sw_seq ?_); refine sw_region ?_
          repeat (first | refine sR (h := ?_) | refine sK (h := ?_) | refine sT (h := aM (h := ?_)) | refine sT (h := aB (h := ?_)) | refine sT (h := aA (h := ?_)) | refine sT (h := aS (h := ?_)) | refine sT (h := aL (h := ?_)))
          refine swt_nil ?_
          (repeat refine sw_seq ?_); refine sw_region ?_
          repeat (first | refine sR (h := ?_) | refine sK (h := ?_) | refine sT (h := aM (h := ?_)) | refine sT (h := aB (h := ?_)) | refine sT (h := aA (h := ?_)) | refine sT (h := aS (h := ?_)) | refine sT (h := aL (h := ?_)))
          refine swt_nil ?_
          (repeat refine sw_seq ?_); refine sw_block ?_
          refine SW.wk (wk_nil 10 900 24 3 rfl rfl) ?_
          refine SW.wk (wk_only [1, 3, 6, 10, 55, 56, 57] [(1000000, 1000000), (3, 3), (6, 6), (900, 0)] rfl rfl) ?_
          refine sw_loop (fun m s => ∃ (k : Nat) (kk : Int), k ≤ (S.drop lo).length ∧ m = (S.drop lo).length - k ∧ kk = k ∧ errS ((S.drop lo).take k) = 0 ∧ s = ⟨122, [(1, .view 1000000 5 lo S.length), (3, .ptr 3 0), (6, .ptr 6 0), (10, .row 0), (55, .view 1000000 5 lo S.length), (56, .p (pI ((S.length - lo : Nat) : Int))), (57, .p (pI kk))], [(1000000, .row 87 5 (S.map Itm.pv)), (3, .cells ((Nod.mk 4 val attr).pv.map .p)), (6, .cells (([.v (.slice none 0 0), pI 0, pI 0, pS ⟨#[]⟩, pI 0] : List PV).map .p)), (0, .row 24 3 ((((S.drop lo).take k).map Itm.v).map Val.pv))]⟩) (S.drop lo).length ⟨0, 0, Nat.zero_le _, rfl, rfl, rfl, rfl⟩ ?_
          rintro m s ⟨k, _, hk, rfl, rfl, he0, rfl⟩
          (repeat refine sw_seq ?_); refine sw_region ?_
          repeat (first | refine sR (h := ?_) | refine sK (h := ?_) | refine sT (h := aM (h := ?_)) | refine sT (h := aB (h := ?_)) | refine sT (h := aA (h := ?_)) | refine sT (h := aS (h := ?_)) | refine sT (h := aL (h := ?_)))
          refine swt_nil ?_
          (repeat refine sw_seq ?_); refine sw_cond rfl (fun hlt => ?_) (fun hlt => ?_)
          · refine sw_skip ?_
            have hlt' : k < (S.drop lo).length := by rw [List.length_drop]; simpa using hlt
            have hk2 : k < S.length - lo := by rwa [List.length_drop] at hlt'
            have hget : (S.drop lo)[k]? = some (S.drop lo)[k] := List.getElem?_eq_getElem hlt'
            (repeat refine sw_seq ?_); refine sw_block ?_
            (repeat refine sw_seq ?_); refine sw_region ?_
            repeat (first | refine sR (h := ?_) | refine sK (h := ?_) | refine sT (h := aM (h := ?_)) | refine sT (h := aB (h := ?_)) | refine sT (h := aA (h := ?_)) | refine sT (h := aS (h := ?_)) | refine sT (h := aL (h := ?_)))
            refine swt_read ttab_ok rfl rfl (by omega) rfl ?_
            repeat (first | refine sR (h := ?_) | refine sK (h := ?_) | refine sT (h := aM (h := ?_)) | refine sT (h := aB (h := ?_)) | refine sT (h := aA (h := ?_)) | refine sT (h := aS (h := ?_)) | refine sT (h := aL (h := ?_)))
            refine swt_read ttab_ok rfl (opR_elem rfl rfl rfl rfl rfl (show (S.map Itm.pv).getD (lo + Int.toNat (k : Int)) [] = (S.drop lo)[k].pv from drop_get hget) rfl) (by rw [List.length_map, Int.toNat_natCast]; omega) rfl ?_
            repeat (first | refine sR (h := ?_) | refine sK (h := ?_) | refine sT (h := aM (h := ?_)) | refine sT (h := aB (h := ?_)) | refine sT (h := aA (h := ?_)) | refine sT (h := aS (h := ?_)) | refine sT (h := aL (h := ?_)))
            refine swt_nil ?_
            (repeat refine sw_seq ?_); refine sw_region ?_
            repeat (first | refine sR (h := ?_) | refine sK (h := ?_) | refine sT (h := aM (h := ?_)) | refine sT (h := aB (h := ?_)) | refine sT (h := aA (h := ?_)) | refine sT (h := aS (h := ?_)) | refine sT (h := aL (h := ?_)))
            refine swt_nil ?_
            (repeat refine sw_seq ?_); refine sw_cond rfl (fun hne => ?_) (fun hne => ?_)
            · have hne' : (S.drop lo)[k].e ≠ 0 := by simpa using hne
              have e1 := errS_at hlt' he0 hne'
              rw [hN, e1, if_pos hne']
              (repeat refine sw_seq ?_); refine sw_region ?_
              repeat (first | refine sR (h := ?_) | refine sK (h := ?_) | refine sT (h := aM (h := ?_)) | refine sT (h := aB (h := ?_)) | refine sT (h := aA (h := ?_)) | refine sT (h := aS (h := ?_)) | refine sT (h := aL (h := ?_)))
              refine swt_nil ?_
              (repeat refine sw_seq ?_); refine sw_ret ?_
              exact ⟨Or.inr rfl, _, _, [(1000000, 1000000)], _, Wk.refl _, rfl, rfl, .p (CvL.agg (.cons (.nil 3) (.refl _))), rfl, rfl⟩
            · have hne' : (S.drop lo)[k].e = 0 := by simpa using hne
              refine sw_skip ?_
              (repeat refine sw_seq ?_); refine sw_region ?_
              repeat (first | refine sR (h := ?_) | refine sK (h := ?_) | refine sT (h := aM (h := ?_)) | refine sT (h := aB (h := ?_)) | refine sT (h := aA (h := ?_)) | refine sT (h := aS (h := ?_)) | refine sT (h := aL (h := ?_)))
              refine swt_act rfl (act_append_row ttab_ok rfl rfl rfl rfl rfl rfl rfl rfl rfl rfl rfl rfl rfl rfl rfl rfl (by simp only [List.length_append, List.length_map, List.length_take, List.length_drop]; unfold reachBytes; simp; omega) (by simp only [List.length_append, List.length_map, List.length_take, List.length_drop]; simp; omega) ?_)
              repeat (first | refine sR (h := ?_) | refine sK (h := ?_) | refine sT (h := aM (h := ?_)) | refine sT (h := aB (h := ?_)) | refine sT (h := aA (h := ?_)) | refine sT (h := aS (h := ?_)) | refine sT (h := aL (h := ?_)))
              refine swt_nil ?_
              (repeat refine sw_seq ?_); refine sw_region ?_
              repeat (first | refine sR (h := ?_) | refine sK (h := ?_) | refine sT (h := aM (h := ?_)) | refine sT (h := aB (h := ?_)) | refine sT (h := aA (h := ?_)) | refine sT (h := aS (h := ?_)) | refine sT (h := aL (h := ?_)))
              refine swt_nil ?_
              refine ⟨_, _, ?_, wk_only [1, 3, 6, 10, 55, 56, 57] [(1000000, 1000000), (3, 3), (6, 6), (71, 0)] rfl rfl, k + 1, _, hlt', rfl, wrap_succ hlt' (by rw [List.length_drop]; omega), errS_step hlt' he0 hne', ?_⟩
              · omega
              · rw [List.take_succ_eq_append_getElem hlt', List.map_append, List.map_append]; rfl
          · refine sw_exit ?_
            have hkk : k = (S.drop lo).length := by
              have : ¬ (k : Int) < ((S.length - lo : Nat) : Int) := by simpa using hlt
              rw [List.length_drop] at hk ⊢
              omega
            subst hkk
            rw [List.take_length] at he0 ⊢
            rw [hN, if_neg (by simp [he0])]
            clear hN
            (repeat refine sw_seq ?_); refine sw_region ?_
            repeat (first | refine sR (h := ?_) | refine sK (h := ?_) | refine sT (h := aM (h := ?_)) | refine sT (h := aB (h := ?_)) | refine sT (h := aA (h := ?_)) | refine sT (h := aS (h := ?_)) | refine sT (h := aL (h := ?_)))
            refine swt_nil ?_
            obtain ⟨x, hx⟩ := drop_one hlo
            have h0 : (S.drop lo)[0]? = some x := by rw [hx]; rfl
            rw [hx]
            (repeat refine sw_seq ?_); refine sw_block ?_
            (repeat refine sw_seq ?_); refine sw_region ?_
            repeat (first | refine sR (h := ?_) | refine sK (h := ?_) | refine sT (h := aM (h := ?_)) | refine sT (h := aB (h := ?_)) | refine sT (h := aA (h := ?_)) | refine sT (h := aS (h := ?_)) | refine sT (h := aL (h := ?_)))
            refine swt_nil ?_
            (repeat refine sw_seq ?_); refine sw_cond rfl (fun h5 => ?_) (fun h5 => ?_)
            · cases h5
            · (repeat refine sw_seq ?_); refine sw_region ?_
              repeat (first | refine sR (h := ?_) | refine sK (h := ?_) | refine sT (h := aM (h := ?_)) | refine sT (h := aB (h := ?_)) | refine sT (h := aA (h := ?_)) | refine sT (h := aS (h := ?_)) | refine sT (h := aL (h := ?_)))
              refine swt_nil ?_
              (repeat refine sw_seq ?_); refine sw_cond rfl (fun h6 => ?_) (fun h6 => ?_)
              · have e2 : lastS 4 [x] = ⟨[], ⟨2, x.bag.length, ⟨#[]⟩⟩, 0⟩ := rfl
                rw [e2]
                (repeat refine sw_seq ?_); refine sw_region ?_
                repeat (first | refine sR (h := ?_) | refine sK (h := ?_) | refine sT (h := aM (h := ?_)) | refine sT (h := aB (h := ?_)) | refine sT (h := aA (h := ?_)) | refine sT (h := aS (h := ?_)) | refine sT (h := aL (h := ?_)))
                refine swt_read ttab_ok rfl rfl (by omega) rfl ?_
                repeat (first | refine sR (h := ?_) | refine sK (h := ?_) | refine sT (h := aM (h := ?_)) | refine sT (h := aB (h := ?_)) | refine sT (h := aA (h := ?_)) | refine sT (h := aS (h := ?_)) | refine sT (h := aL (h := ?_)))
                refine swt_read ttab_ok rfl (opR_elem rfl rfl rfl rfl rfl (show (S.map Itm.pv).getD (lo + Int.toNat 0) [] = x.pv from drop_get h0) rfl) (by rw [List.length_map]; omega) rfl ?_
                repeat (first | refine sR (h := ?_) | refine sK (h := ?_) | refine sT (h := aM (h := ?_)) | refine sT (h := aB (h := ?_)) | refine sT (h := aA (h := ?_)) | refine sT (h := aS (h := ?_)) | refine sT (h := aL (h := ?_)))
                rw [List.length_map]
                refine swt_nil ?_
                (repeat refine sw_seq ?_); refine sw_ret ?_
                exact ⟨Or.inr rfl, _, _, [(1000000, 1000000)], _, Wk.refl _, rfl, rfl, .p (CvL.agg (.cons (.nil 3) (.refl _))), rfl, rfl⟩
              · cases h6
theorem node_has_h (val : Val) (attr : Atr) (S : List Itm) (lo : Nat) (g : List Giv) (hlo : lo + 2 = S.length) (hl : S.length ≤ 1000000) (hS : ∀ x ∈ S, x.Fit) : HoldsW Try.prog 46 [.p (.agg (Nod.mk 5 val attr).pv), .view 1000000 5 lo S.length, .p (givsP g)] (itmRow S) (.p (.agg (nodeS (Nod.mk 5 val attr) (S.drop lo) g).pv)) (itmRow S) := by
  have hN := nodeS_last (val := val) (attr := attr) (g := g) (op := 5) (l := S.drop lo) (by omega) (by omega) rfl
  refine holdsC_of (T := TTab) ttab_ok Try.func46 (by kernel_rfl) rfl rfl rfl ?_
  (repeat refine sw_seq ?_); refine sw_region ?_
  repeat (first | refine sR (h := ?_) | refine sK (h := ?_) | refine sT (h := aM (h := ?_)) | refine sT (h := aB (h := ?_)) | refine sT (h := aA (h := ?_)) | refine sT (h := aS (h := ?_)) | refine sT (h := aL (h := ?_)))
  refine swt_nil ?_
  (repeat refine sw_seq ?_); refine sw_region ?_
  repeat (first | refine sR (h := ?_) | refine sK (h := ?_) | refine sT (h := aM (h := ?_)) | refine sT (h := aB (h := ?_)) | refine sT (h := aA (h := ?_)) | refine sT (h := aS (h := ?_)) | refine sT (h := aL (h := ?_)))
  refine swt_nil ?_
  (repeat refine sw_seq ?_); refine sw_block ?_
  (repeat refine sw_seq ?_); refine sw_region ?_
  repeat (first | refine sR (h := ?_) | refine sK (h := ?_) | refine sT (h := aM (h := ?_)) | refine sT (h := aB (h := ?_)) | refine sT (h := aA (h := ?_)) | refine sT (h := aS (h := ?_)) | refine sT (h := aL (h := ?_)))
  refine swt_nil ?_
  (repeat refine sw_seq ?_); refine sw_cond rfl (fun h1 => ?_) (fun h1 => ?_)
  · cases h1
  · (repeat refine sw_seq ?_); refine sw_region ?_
    repeat (first | refine sR (h := ?_) | refine sK (h := ?_) | refine sT (h := aM (h := ?_)) | refine sT (h := aB (h := ?_)) | refine sT (h := aA (h := ?_)) | refine sT (h := aS (h := ?_)) | refine sT (h := aL (h := ?_)))
    refine swt_nil ?_
    (repeat refine sw_seq ?_); refine sw_cond rfl (fun h2 => ?_) (fun h2 => ?_)
    · cases h2
    · (repeat refine sw_seq ?_); refine sw_region ?_
      repeat (first | refine sR (h := ?_) | refine sK (h := ?_) | refine sT (h := aM (h := ?_)) | refine sT (h := aB (h := ?_)) | refine sT (h := aA (h := ?_)) | refine sT (h := aS (h := ?_)) | refine sT (h := aL (h := ?_)))
      refine swt_nil ?_
      (repeat refine sw_seq ?_); refine sw_cond rfl (fun h3 => ?_) (fun h3 => ?_)
      · cases h3
      · (repeat refine sw_seq ?_); refine sw_region ?_
        repeat (first | refine sR (h := ?_) | refine sK (h := ?_) | refine sT (h := aM (h := ?_)) | refine sT (h := aB (h := ?_)) | refine sT (h := aA (h := ?_)) | refine sT (h := aS (h := ?_)) | refine sT (h := aL (h := ?_)))
        refine swt_nil ?_
        (repeat refine sw_seq ?_); refine sw_cond rfl (fun h4 => ?_) (fun h4 => ?_)
        · cases h4
        · refine sw_skip ?_
          refine SW.wk (wk_only [1, 3, 6] [(1000000, 1000000), (3, 3), (6, 6)] rfl rfl) ?_
          (repeat refine sw_seq ?_); refine sw_region ?_
          repeat (first | refine sR (h := ?_) | refine sK (h := ?_) | refine sT (h := aM (h := ?_)) | refine sT (h := aB (h := ?_)) | refine sT (h := aA (h := ?_)) | refine sT (h := aS (h := ?_)) | refine sT (h := aL (h := ?_)))
          refine swt_nil ?_
          (repeat refine sw_seq ?_); refine sw_region ?_
          repeat (first | refine sR (h := ?_) | refine sK (h := ?_) | refine sT (h := aM (h := ?_)) | refine sT (h := aB (h := ?_)) | refine sT (h := aA (h := ?_)) | refine sT (h := aS (h := ?_)) | refine sT (h := aL (h := ?_)))
          refine swt_nil ?_
          (repeat refine sw_seq ?_); refine sw_block ?_
          refine SW.wk (wk_nil 10 900 24 3 rfl rfl) ?_
          refine SW.wk (wk_only [1, 3, 6, 10, 55, 56, 57] [(1000000, 1000000), (3, 3), (6, 6), (900, 0)] rfl rfl) ?_
          refine sw_loop (fun m s => ∃ (k : Nat) (kk : Int), k ≤ (S.drop lo).length ∧ m = (S.drop lo).length - k ∧ kk = k ∧ errS ((S.drop lo).take k) = 0 ∧ s = ⟨122, [(1, .view 1000000 5 lo S.length), (3, .ptr 3 0), (6, .ptr 6 0), (10, .row 0), (55, .view 1000000 5 lo S.length), (56, .p (pI ((S.length - lo : Nat) : Int))), (57, .p (pI kk))], [(1000000, .row 87 5 (S.map Itm.pv)), (3, .cells ((Nod.mk 5 val attr).pv.map .p)), (6, .cells (([.v (.slice none 0 0), pI 0, pI 0, pS ⟨#[]⟩, pI 0] : List PV).map .p)), (0, .row 24 3 ((((S.drop lo).take k).map Itm.v).map Val.pv))]⟩) (S.drop lo).length ⟨0, 0, Nat.zero_le _, rfl, rfl, rfl, rfl⟩ ?_
          rintro m s ⟨k, _, hk, rfl, rfl, he0, rfl⟩
          (repeat refine sw_seq ?_); refine sw_region ?_
          repeat (first | refine sR (h := ?_) | refine sK (h := ?_) | refine sT (h := aM (h := ?_)) | refine sT (h := aB (h := ?_)) | refine sT (h := aA (h := ?_)) | refine sT (h := aS (h := ?_)) | refine sT (h := aL (h := ?_)))
          refine swt_nil ?_
          (repeat refine sw_seq ?_); refine sw_cond rfl (fun hlt => ?_) (fun hlt => ?_)
          · refine sw_skip ?_
            have hlt' : k < (S.drop lo).length := by rw [List.length_drop]; simpa using hlt
            have hk2 : k < S.length - lo := by rwa [List.length_drop] at hlt'
            have hget : (S.drop lo)[k]? = some (S.drop lo)[k] := List.getElem?_eq_getElem hlt'
            (repeat refine sw_seq ?_); refine sw_block ?_
            (repeat refine sw_seq ?_); refine sw_region ?_
            repeat (first | refine sR (h := ?_) | refine sK (h := ?_) | refine sT (h := aM (h := ?_)) | refine sT (h := aB (h := ?_)) | refine sT (h := aA (h := ?_)) | refine sT (h := aS (h := ?_)) | refine sT (h := aL (h := ?_)))
            refine swt_read ttab_ok rfl rfl (by omega) rfl ?_
            repeat (first | refine sR (h := ?_) | refine sK (h := ?_) | refine sT (h := aM (h := ?_)) | refine sT (h := aB (h := ?_)) | refine sT (h := aA (h := ?_)) | refine sT (h := aS (h := ?_)) | refine sT (h := aL (h := ?_)))
            refine swt_read ttab_ok rfl (opR_elem rfl rfl rfl rfl rfl (show (S.map Itm.pv).getD (lo + Int.toNat (k : Int)) [] = (S.drop lo)[k].pv from drop_get hget) rfl) (by rw [List.length_map, Int.toNat_natCast]; omega) rfl ?_
            repeat (first | refine sR (h := ?_) | refine sK (h := ?_) | refine sT (h := aM (h := ?_)) | refine sT (h := aB (h := ?_)) | refine sT (h := aA (h := ?_)) | refine sT (h := aS (h := ?_)) | refine sT (h := aL (h := ?_)))
            refine swt_nil ?_
            (repeat refine sw_seq ?_); refine sw_region ?_
            repeat (first | refine sR (h := ?_) | refine sK (h := ?_) | refine sT (h := aM (h := ?_)) | refine sT (h := aB (h := ?_)) | refine sT (h := aA (h := ?_)) | refine sT (h := aS (h := ?_)) | refine sT (h := aL (h := ?_)))
            refine swt_nil ?_
            (repeat refine sw_seq ?_); refine sw_cond rfl (fun hne => ?_) (fun hne => ?_)
            · have hne' : (S.drop lo)[k].e ≠ 0 := by simpa using hne
              have e1 := errS_at hlt' he0 hne'
              rw [hN, e1, if_pos hne']
              (repeat refine sw_seq ?_); refine sw_region ?_
              repeat (first | refine sR (h := ?_) | refine sK (h := ?_) | refine sT (h := aM (h := ?_)) | refine sT (h := aB (h := ?_)) | refine sT (h := aA (h := ?_)) | refine sT (h := aS (h := ?_)) | refine sT (h := aL (h := ?_)))
              refine swt_nil ?_
              (repeat refine sw_seq ?_); refine sw_ret ?_
              exact ⟨Or.inr rfl, _, _, [(1000000, 1000000)], _, Wk.refl _, rfl, rfl, .p (CvL.agg (.cons (.nil 3) (.refl _))), rfl, rfl⟩
            · have hne' : (S.drop lo)[k].e = 0 := by simpa using hne
              refine sw_skip ?_
              (repeat refine sw_seq ?_); refine sw_region ?_
              repeat (first | refine sR (h := ?_) | refine sK (h := ?_) | refine sT (h := aM (h := ?_)) | refine sT (h := aB (h := ?_)) | refine sT (h := aA (h := ?_)) | refine sT (h := aS (h := ?_)) | refine sT (h := aL (h := ?_)))
              refine swt_act rfl (act_append_row ttab_ok rfl rfl rfl rfl rfl rfl rfl rfl rfl rfl rfl rfl rfl rfl rfl rfl (by simp only [List.length_append, List.length_map, List.length_take, List.length_drop]; unfold reachBytes; simp; omega) (by simp only [List.length_append, List.length_map, List.length_take, List.length_drop]; simp; omega) ?_)
              repeat (first | refine sR (h := ?_) | refine sK (h := ?_) | refine sT (h := aM (h := ?_)) | refine sT (h := aB (h := ?_)) | refine sT (h := aA (h := ?_)) | refine sT (h := aS (h := ?_)) | refine sT (h := aL (h := ?_)))
              refine swt_nil ?_
              (repeat refine sw_seq ?_); refine sw_region ?_
              repeat (first | refine sR (h := ?_) | refine sK (h := ?_) | refine sT (h := aM (h := ?_)) | refine sT (h := aB (h := ?_)) | refine sT (h := aA (h := ?_)) | refine sT (h := aS (h := ?_)) | refine sT (h := aL (h := ?_)))
              refine swt_nil ?_
              refine ⟨_, _, ?_, wk_only [1, 3, 6, 10, 55, 56, 57] [(1000000, 1000000), (3, 3), (6, 6), (71, 0)] rfl rfl, k + 1, _, hlt', rfl, wrap_succ hlt' (by rw [List.length_drop]; omega), errS_step hlt' he0 hne', ?_⟩
              · omega
              · rw [List.take_succ_eq_append_getElem hlt', List.map_append, List.map_append]; rfl
          · refine sw_exit ?_
            have hkk : k = (S.drop lo).length := by
              have : ¬ (k : Int) < ((S.length - lo : Nat) : Int) := by simpa using hlt
              rw [List.length_drop] at hk ⊢
              omega
            subst hkk
            rw [List.take_length] at he0 ⊢
            rw [hN, if_neg (by simp [he0])]
            clear hN
            (repeat refine sw_seq ?_); refine sw_region ?_
            repeat (first | refine sR (h := ?_) | refine sK (h := ?_) | refine sT (h := aM (h := ?_)) | refine sT (h := aB (h := ?_)) | refine sT (h := aA (h := ?_)) | refine sT (h := aS (h := ?_)) | refine sT (h := aL (h := ?_)))
            refine swt_nil ?_
            obtain ⟨x, y, hx⟩ := drop_two hlo
            have h0 : (S.drop lo)[0]? = some x := by rw [hx]; rfl
            have h1' : (S.drop lo)[1]? = some y := by rw [hx]; rfl
            have hxl : x.bag.length ≤ 1000000 := (hS x (List.mem_of_mem_drop (i := lo) (by rw [hx]; simp))).len
            rw [hx]
            (repeat refine sw_seq ?_); refine sw_block ?_
            (repeat refine sw_seq ?_); refine sw_region ?_
            repeat (first | refine sR (h := ?_) | refine sK (h := ?_) | refine sT (h := aM (h := ?_)) | refine sT (h := aB (h := ?_)) | refine sT (h := aA (h := ?_)) | refine sT (h := aS (h := ?_)) | refine sT (h := aL (h := ?_)))
            refine swt_nil ?_
            (repeat refine sw_seq ?_); refine sw_cond rfl (fun h5 => ?_) (fun h5 => ?_)
            · cases h5
            · (repeat refine sw_seq ?_); refine sw_region ?_
              repeat (first | refine sR (h := ?_) | refine sK (h := ?_) | refine sT (h := aM (h := ?_)) | refine sT (h := aB (h := ?_)) | refine sT (h := aA (h := ?_)) | refine sT (h := aS (h := ?_)) | refine sT (h := aL (h := ?_)))
              refine swt_nil ?_
              (repeat refine sw_seq ?_); refine sw_cond rfl (fun h6 => ?_) (fun h6 => ?_)
              · cases h6
              · (repeat refine sw_seq ?_); refine sw_region ?_
                repeat (first | refine sR (h := ?_) | refine sK (h := ?_) | refine sT (h := aM (h := ?_)) | refine sT (h := aB (h := ?_)) | refine sT (h := aA (h := ?_)) | refine sT (h := aS (h := ?_)) | refine sT (h := aL (h := ?_)))
                refine swt_nil ?_
                (repeat refine sw_seq ?_); refine sw_cond rfl (fun h7 => ?_) (fun h7 => ?_)
                · have e2 : lastS 5 [x, y] = itmT (hasV x.bag y.v) := rfl
                  rw [e2]
                  (repeat refine sw_seq ?_); refine sw_region_draw [6] [(0, true), (1, true), (2, true), (3, true), (4, true), (5, true), (6, true), (7, true), (8, false), (9, false), (10, false)] (by kernel_rfl) (by kernel_rfl) (by kernel_rfl) ?_
                  repeat (first | refine mR (h := ?_) | refine mK (h := ?_) | refine mT (h := aM (h := ?_)) | refine mT (h := aB (h := ?_)) | refine mT (h := aA (h := ?_)) | refine mT (h := aS (h := ?_)) | refine mT (h := aL (h := ?_)))
                  refine swm_read ttab_ok rfl rfl rfl (by omega) rfl ?_
                  repeat (first | refine mR (h := ?_) | refine mK (h := ?_) | refine mT (h := aM (h := ?_)) | refine mT (h := aB (h := ?_)) | refine mT (h := aA (h := ?_)) | refine mT (h := aS (h := ?_)) | refine mT (h := aL (h := ?_)))
                  refine swm_read ttab_ok rfl rfl (opR_elem rfl rfl rfl rfl rfl (show (S.map Itm.pv).getD (lo + Int.toNat 0) [] = x.pv from drop_get h0) rfl) (by rw [List.length_map]; omega) rfl ?_
                  repeat (first | refine mR (h := ?_) | refine mK (h := ?_) | refine mT (h := aM (h := ?_)) | refine mT (h := aB (h := ?_)) | refine mT (h := aA (h := ?_)) | refine mT (h := aS (h := ?_)) | refine mT (h := aL (h := ?_)))
                  refine swm_read ttab_ok rfl rfl rfl (by omega) rfl ?_
                  repeat (first | refine mR (h := ?_) | refine mK (h := ?_) | refine mT (h := aM (h := ?_)) | refine mT (h := aB (h := ?_)) | refine mT (h := aA (h := ?_)) | refine mT (h := aS (h := ?_)) | refine mT (h := aL (h := ?_)))
                  refine swm_read ttab_ok rfl rfl (opR_elem rfl rfl rfl rfl rfl (show (S.map Itm.pv).getD (lo + Int.toNat 1) [] = y.pv from drop_get h1') rfl) (by rw [List.length_map]; show lo + 1 < _; omega) rfl ?_
                  repeat (first | refine mR (h := ?_) | refine mK (h := ?_) | refine mT (h := aM (h := ?_)) | refine mT (h := aB (h := ?_)) | refine mT (h := aA (h := ?_)) | refine mT (h := aS (h := ?_)) | refine mT (h := aL (h := ?_)))
                  refine swm_act rfl rfl rfl (act_call_flat rfl rfl rfl rfl (has_h x.bag y.v hxl) rfl rfl ?_)
                  repeat (first | refine mR (h := ?_) | refine mK (h := ?_) | refine mT (h := aM (h := ?_)) | refine mT (h := aB (h := ?_)) | refine mT (h := aA (h := ?_)) | refine mT (h := aS (h := ?_)) | refine mT (h := aL (h := ?_)))
                  refine swm_act rfl rfl rfl (act_call rfl rfl rfl rfl (truth_h (hasV x.bag y.v)) rfl rfl rfl ?_)
                  repeat (first | refine mR (h := ?_) | refine mK (h := ?_) | refine mT (h := aM (h := ?_)) | refine mT (h := aB (h := ?_)) | refine mT (h := aA (h := ?_)) | refine mT (h := aS (h := ?_)) | refine mT (h := aL (h := ?_)))
                  refine swm_nil ?_
                  (repeat refine sw_seq ?_); refine sw_ret ?_
                  exact ⟨Or.inr rfl, _, _, [(1000000, 1000000)], _, Wk.refl _, rfl, rfl, .refl _, rfl, rfl⟩
                · cases h7
theorem node_6_h (val : Val) (attr : Atr) (S : List Itm) (lo : Nat) (g : List Giv) (hl : S.length ≤ 1000000) (hlo : lo ≤ S.length) (hS : ∀ x ∈ S, x.Fit) : HoldsW Try.prog 46 [.p (.agg (Nod.mk 6 val attr).pv), .view 1000000 5 lo S.length, .p (givsP g)] (itmRow S) (.p (.agg (nodeS (Nod.mk 6 val attr) (S.drop lo) g).pv)) (itmRow S) := by
  have hN := nodeS_last (val := val) (attr := attr) (g := g) (op := 6) (l := S.drop lo) (by omega) (by omega) rfl
  refine holdsC_of (T := TTab) ttab_ok Try.func46 (by kernel_rfl) rfl rfl rfl ?_
  (repeat refine sw_seq ?_); refine sw_region ?_
  repeat (first | refine sR (h := ?_) | refine sK (h := ?_) | refine sT (h := aM (h := ?_)) | refine sT (h := aB (h := ?_)) | refine sT (h := aA (h := ?_)) | refine sT (h := aS (h := ?_)) | refine sT (h := aL (h := ?_)))
  refine swt_nil ?_
  (repeat refine sw_seq ?_); refine sw_region ?_
  repeat (first | refine sR (h := ?_) | refine sK (h := ?_) | refine sT (h := aM (h := ?_)) | refine sT (h := aB (h := ?_)) | refine sT (h := aA (h := ?_)) | refine sT (h := aS (h := ?_)) | refine sT (h := aL (h := ?_)))
  refine swt_nil ?_
  (repeat refine sw_seq ?_); refine sw_block ?_
  (repeat refine sw_seq ?_); refine sw_region ?_
  repeat (first | refine sR (h := ?_) | refine sK (h := ?_) | refine sT (h := aM (h := ?_)) | refine sT (h := aB (h := ?_)) | refine sT (h := aA (h := ?_)) | refine sT (h := aS (h := ?_)) | refine sT (h := aL (h := ?_)))
  refine swt_nil ?_
  (repeat refine sw_seq ?_); refine sw_cond rfl (fun h1 => ?_) (fun h1 => ?_)
  · cases h1
  · (repeat refine sw_seq ?_); refine sw_region ?_
    repeat (first | refine sR (h := ?_) | refine sK (h := ?_) | refine sT (h := aM (h := ?_)) | refine sT (h := aB (h := ?_)) | refine sT (h := aA (h := ?_)) | refine sT (h := aS (h := ?_)) | refine sT (h := aL (h := ?_)))
    refine swt_nil ?_
    (repeat refine sw_seq ?_); refine sw_cond rfl (fun h2 => ?_) (fun h2 => ?_)
    · cases h2
    · (repeat refine sw_seq ?_); refine sw_region ?_
      repeat (first | refine sR (h := ?_) | refine sK (h := ?_) | refine sT (h := aM (h := ?_)) | refine sT (h := aB (h := ?_)) | refine sT (h := aA (h := ?_)) | refine sT (h := aS (h := ?_)) | refine sT (h := aL (h := ?_)))
      refine swt_nil ?_
      (repeat refine sw_seq ?_); refine sw_cond rfl (fun h3 => ?_) (fun h3 => ?_)
      · cases h3
      · (repeat refine sw_seq ?_); refine sw_region ?_
        repeat (first | refine sR (h := ?_) | refine sK (h := ?_) | refine sT (h := aM (h := ?_)) | refine sT (h := aB (h := ?_)) | refine sT (h := aA (h := ?_)) | refine sT (h := aS (h := ?_)) | refine sT (h := aL (h := ?_)))
        refine swt_nil ?_
        (repeat refine sw_seq ?_); refine sw_cond rfl (fun h4 => ?_) (fun h4 => ?_)
        · cases h4
        · refine sw_skip ?_
          refine SW.wk (wk_only [1, 3, 6] [(1000000, 1000000), (3, 3), (6, 6)] rfl rfl) ?_
          (repeat refine sw_seq ?_); refine sw_region ?_
          repeat (first | refine sR (h := ?_) | refine sK (h := ?_) | refine sT (h := aM (h := ?_)) | refine sT (h := aB (h := ?_)) | refine sT (h := aA (h := ?_)) | refine sT (h := aS (h := ?_)) | refine sT (h := aL (h := ?_)))
          refine swt_nil ?_
          (repeat refine sw_seq ?_); refine sw_region ?_
          repeat (first | refine sR (h := ?_) | refine sK (h := ?_) | refine sT (h := aM (h := ?_)) | refine sT (h := aB (h := ?_)) | refine sT (h := aA (h := ?_)) | refine sT (h := aS (h := ?_)) | refine sT (h := aL (h := ?_)))
          refine swt_nil ?_
          (repeat refine sw_seq ?_); refine sw_block ?_
          refine SW.wk (wk_nil 10 900 24 3 rfl rfl) ?_
          refine SW.wk (wk_only [1, 3, 6, 10, 55, 56, 57] [(1000000, 1000000), (3, 3), (6, 6), (900, 0)] rfl rfl) ?_
          refine sw_loop (fun m s => ∃ (k : Nat) (kk : Int), k ≤ (S.drop lo).length ∧ m = (S.drop lo).length - k ∧ kk = k ∧ errS ((S.drop lo).take k) = 0 ∧ s = ⟨122, [(1, .view 1000000 5 lo S.length), (3, .ptr 3 0), (6, .ptr 6 0), (10, .row 0), (55, .view 1000000 5 lo S.length), (56, .p (pI ((S.length - lo : Nat) : Int))), (57, .p (pI kk))], [(1000000, .row 87 5 (S.map Itm.pv)), (3, .cells ((Nod.mk 6 val attr).pv.map .p)), (6, .cells (([.v (.slice none 0 0), pI 0, pI 0, pS ⟨#[]⟩, pI 0] : List PV).map .p)), (0, .row 24 3 ((((S.drop lo).take k).map Itm.v).map Val.pv))]⟩) (S.drop lo).length ⟨0, 0, Nat.zero_le _, rfl, rfl, rfl, rfl⟩ ?_
          rintro m s ⟨k, _, hk, rfl, rfl, he0, rfl⟩
          (repeat refine sw_seq ?_); refine sw_region ?_
          repeat (first | refine sR (h := ?_) | refine sK (h := ?_) | refine sT (h := aM (h := ?_)) | refine sT (h := aB (h := ?_)) | refine sT (h := aA (h := ?_)) | refine sT (h := aS (h := ?_)) | refine sT (h := aL (h := ?_)))
          refine swt_nil ?_
          (repeat refine sw_seq ?_); refine sw_cond rfl (fun hlt => ?_) (fun hlt => ?_)
          · refine sw_skip ?_
            have hlt' : k < (S.drop lo).length := by rw [List.length_drop]; simpa using hlt
            have hk2 : k < S.length - lo := by rwa [List.length_drop] at hlt'
            have hget : (S.drop lo)[k]? = some (S.drop lo)[k] := List.getElem?_eq_getElem hlt'
            (repeat refine sw_seq ?_); refine sw_block ?_
            (repeat refine sw_seq ?_); refine sw_region ?_
            repeat (first | refine sR (h := ?_) | refine sK (h := ?_) | refine sT (h := aM (h := ?_)) | refine sT (h := aB (h := ?_)) | refine sT (h := aA (h := ?_)) | refine sT (h := aS (h := ?_)) | refine sT (h := aL (h := ?_)))
            refine swt_read ttab_ok rfl rfl (by omega) rfl ?_
            repeat (first | refine sR (h := ?_) | refine sK (h := ?_) | refine sT (h := aM (h := ?_)) | refine sT (h := aB (h := ?_)) | refine sT (h := aA (h := ?_)) | refine sT (h := aS (h := ?_)) | refine sT (h := aL (h := ?_)))
            refine swt_read ttab_ok rfl (opR_elem rfl rfl rfl rfl rfl (show (S.map Itm.pv).getD (lo + Int.toNat (k : Int)) [] = (S.drop lo)[k].pv from drop_get hget) rfl) (by rw [List.length_map, Int.toNat_natCast]; omega) rfl ?_
            repeat (first | refine sR (h := ?_) | refine sK (h := ?_) | refine sT (h := aM (h := ?_)) | refine sT (h := aB (h := ?_)) | refine sT (h := aA (h := ?_)) | refine sT (h := aS (h := ?_)) | refine sT (h := aL (h := ?_)))
            refine swt_nil ?_
            (repeat refine sw_seq ?_); refine sw_region ?_
            repeat (first | refine sR (h := ?_) | refine sK (h := ?_) | refine sT (h := aM (h := ?_)) | refine sT (h := aB (h := ?_)) | refine sT (h := aA (h := ?_)) | refine sT (h := aS (h := ?_)) | refine sT (h := aL (h := ?_)))
            refine swt_nil ?_
            (repeat refine sw_seq ?_); refine sw_cond rfl (fun hne => ?_) (fun hne => ?_)
            · have hne' : (S.drop lo)[k].e ≠ 0 := by simpa using hne
              have e1 := errS_at hlt' he0 hne'
              rw [hN, e1, if_pos hne']
              (repeat refine sw_seq ?_); refine sw_region ?_
              repeat (first | refine sR (h := ?_) | refine sK (h := ?_) | refine sT (h := aM (h := ?_)) | refine sT (h := aB (h := ?_)) | refine sT (h := aA (h := ?_)) | refine sT (h := aS (h := ?_)) | refine sT (h := aL (h := ?_)))
              refine swt_nil ?_
              (repeat refine sw_seq ?_); refine sw_ret ?_
              exact ⟨Or.inr rfl, _, _, [(1000000, 1000000)], _, Wk.refl _, rfl, rfl, .p (CvL.agg (.cons (.nil 3) (.refl _))), rfl, rfl⟩
            · have hne' : (S.drop lo)[k].e = 0 := by simpa using hne
              refine sw_skip ?_
              (repeat refine sw_seq ?_); refine sw_region ?_
              repeat (first | refine sR (h := ?_) | refine sK (h := ?_) | refine sT (h := aM (h := ?_)) | refine sT (h := aB (h := ?_)) | refine sT (h := aA (h := ?_)) | refine sT (h := aS (h := ?_)) | refine sT (h := aL (h := ?_)))
              refine swt_act rfl (act_append_row ttab_ok rfl rfl rfl rfl rfl rfl rfl rfl rfl rfl rfl rfl rfl rfl rfl rfl (by simp only [List.length_append, List.length_map, List.length_take, List.length_drop]; unfold reachBytes; simp; omega) (by simp only [List.length_append, List.length_map, List.length_take, List.length_drop]; simp; omega) ?_)
              repeat (first | refine sR (h := ?_) | refine sK (h := ?_) | refine sT (h := aM (h := ?_)) | refine sT (h := aB (h := ?_)) | refine sT (h := aA (h := ?_)) | refine sT (h := aS (h := ?_)) | refine sT (h := aL (h := ?_)))
              refine swt_nil ?_
              (repeat refine sw_seq ?_); refine sw_region ?_
              repeat (first | refine sR (h := ?_) | refine sK (h := ?_) | refine sT (h := aM (h := ?_)) | refine sT (h := aB (h := ?_)) | refine sT (h := aA (h := ?_)) | refine sT (h := aS (h := ?_)) | refine sT (h := aL (h := ?_)))
              refine swt_nil ?_
              refine ⟨_, _, ?_, wk_only [1, 3, 6, 10, 55, 56, 57] [(1000000, 1000000), (3, 3), (6, 6), (71, 0)] rfl rfl, k + 1, _, hlt', rfl, wrap_succ hlt' (by rw [List.length_drop]; omega), errS_step hlt' he0 hne', ?_⟩
              · omega
              · rw [List.take_succ_eq_append_getElem hlt', List.map_append, List.map_append]; rfl
          · refine sw_exit ?_
            have hkk : k = (S.drop lo).length := by
              have : ¬ (k : Int) < ((S.length - lo : Nat) : Int) := by simpa using hlt
              rw [List.length_drop] at hk ⊢
              omega
            subst hkk
            rw [List.take_length] at he0 ⊢
            rw [hN, if_neg (by simp [he0])]
            clear hN
            (repeat refine sw_seq ?_); refine sw_region ?_
            repeat (first | refine sR (h := ?_) | refine sK (h := ?_) | refine sT (h := aM (h := ?_)) | refine sT (h := aB (h := ?_)) | refine sT (h := aA (h := ?_)) | refine sT (h := aS (h := ?_)) | refine sT (h := aL (h := ?_)))
            refine swt_nil ?_
            (repeat refine sw_seq ?_); refine sw_block ?_
            (repeat refine sw_seq ?_); refine sw_region ?_
            repeat (first | refine sR (h := ?_) | refine sK (h := ?_) | refine sT (h := aM (h := ?_)) | refine sT (h := aB (h := ?_)) | refine sT (h := aA (h := ?_)) | refine sT (h := aS (h := ?_)) | refine sT (h := aL (h := ?_)))
            refine swt_nil ?_
            (repeat refine sw_seq ?_); refine sw_cond rfl (fun h5 => ?_) (fun h5 => ?_)
            · cases h5
            · (repeat refine sw_seq ?_); refine sw_region ?_
              repeat (first | refine sR (h := ?_) | refine sK (h := ?_) | refine sT (h := aM (h := ?_)) | refine sT (h := aB (h := ?_)) | refine sT (h := aA (h := ?_)) | refine sT (h := aS (h := ?_)) | refine sT (h := aL (h := ?_)))
              refine swt_nil ?_
              (repeat refine sw_seq ?_); refine sw_cond rfl (fun h6 => ?_) (fun h6 => ?_)
              · cases h6
              · (repeat refine sw_seq ?_); refine sw_region ?_
                repeat (first | refine sR (h := ?_) | refine sK (h := ?_) | refine sT (h := aM (h := ?_)) | refine sT (h := aB (h := ?_)) | refine sT (h := aA (h := ?_)) | refine sT (h := aS (h := ?_)) | refine sT (h := aL (h := ?_)))
                refine swt_nil ?_
                (repeat refine sw_seq ?_); refine sw_cond rfl (fun h7 => ?_) (fun h7 => ?_)
                · cases h7
                · refine sw_skip ?_
                  have e2 : lastS 6 (S.drop lo) = ⟨[], (callS 6 ((S.drop lo).map Itm.v)).1, (callS 6 ((S.drop lo).map Itm.v)).2⟩ := rfl
                  rw [e2]
                  (repeat refine sw_seq ?_); refine sw_region ?_
                  repeat (first | refine sR (h := ?_) | refine sK (h := ?_) | refine sT (h := aM (h := ?_)) | refine sT (h := aB (h := ?_)) | refine sT (h := aA (h := ?_)) | refine sT (h := aS (h := ?_)) | refine sT (h := aL (h := ?_)))
                  refine swt_act rfl (act_call_flat rfl rfl rfl rfl (call_h 6 ((S.drop lo).map Itm.v) (fun v hv => by obtain ⟨x, hx, rfl⟩ := List.mem_map.1 hv; exact (hS x (List.mem_of_mem_drop hx)).v)) rfl rfl ?_)
                  repeat (first | refine sR (h := ?_) | refine sK (h := ?_) | refine sT (h := aM (h := ?_)) | refine sT (h := aB (h := ?_)) | refine sT (h := aA (h := ?_)) | refine sT (h := aS (h := ?_)) | refine sT (h := aL (h := ?_)))
                  refine swt_nil ?_
                  generalize callS 6 ((S.drop lo).map Itm.v) = r
                  (repeat refine sw_seq ?_); refine sw_region ?_
                  repeat (first | refine sR (h := ?_) | refine sK (h := ?_) | refine sT (h := aM (h := ?_)) | refine sT (h := aB (h := ?_)) | refine sT (h := aA (h := ?_)) | refine sT (h := aS (h := ?_)) | refine sT (h := aL (h := ?_)))
                  refine swt_nil ?_
                  (repeat refine sw_seq ?_); refine sw_ret ?_
                  exact ⟨Or.inr rfl, _, _, [(1000000, 1000000)], _, Wk.refl _, rfl, rfl, .p (CvL.agg (.cons (.nil 3) (.refl _))), rfl, rfl⟩
theorem node_7_h (val : Val) (attr : Atr) (S : List Itm) (lo : Nat) (g : List Giv) (hl : S.length ≤ 1000000) (hlo : lo ≤ S.length) (hS : ∀ x ∈ S, x.Fit) : HoldsW Try.prog 46 [.p (.agg (Nod.mk 7 val attr).pv), .view 1000000 5 lo S.length, .p (givsP g)] (itmRow S) (.p (.agg (nodeS (Nod.mk 7 val attr) (S.drop lo) g).pv)) (itmRow S) := by
  have hN := nodeS_last (val := val) (attr := attr) (g := g) (op := 7) (l := S.drop lo) (by omega) (by omega) rfl
  refine holdsC_of (T := TTab) ttab_ok Try.func46 (by kernel_rfl) rfl rfl rfl ?_
  (repeat refine sw_seq ?_); refine sw_region ?_
  repeat (first | refine sR (h := ?_) | refine sK (h := ?_) | refine sT (h := aM (h := ?_)) | refine sT (h := aB (h := ?_)) | refine sT (h := aA (h := ?_)) | refine sT (h := aS (h := ?_)) | refine sT (h := aL (h := ?_)))
  refine swt_nil ?_
  (repeat refine sw_seq ?_); refine sw_region ?_
  repeat (first | refine sR (h := ?_) | refine sK (h := ?_) | refine sT (h := aM (h := ?_)) | refine sT (h := aB (h := ?_)) | refine sT (h := aA (h := ?_)) | refine sT (h := aS (h := ?_)) | refine sT (h := aL (h := ?_)))
  refine swt_nil ?_
  (repeat refine sw_seq ?_); refine sw_block ?_
  (repeat refine sw_seq ?_); refine sw_region ?_
  repeat (first | refine sR (h := ?_) | refine sK (h := ?_) | refine sT (h := aM (h := ?_)) | refine sT (h := aB (h := ?_)) | refine sT (h := aA (h := ?_)) | refine sT (h := aS (h := ?_)) | refine sT (h := aL (h := ?_)))
  refine swt_nil ?_
  (repeat refine sw_seq ?_); refine sw_cond rfl (fun h1 => ?_) (fun h1 => ?_)
  · cases h1
  · (repeat refine sw_seq ?_); refine sw_region ?_
    repeat (first | refine sR (h := ?_) | refine sK (h := ?_) | refine sT (h := aM (h := ?_)) | refine sT (h := aB (h := ?_)) | refine sT (h := aA (h := ?_)) | refine sT (h := aS (h := ?_)) | refine sT (h := aL (h := ?_)))
    refine swt_nil ?_
    (repeat refine sw_seq ?_); refine sw_cond rfl (fun h2 => ?_) (fun h2 => ?_)
    · cases h2
    · (repeat refine sw_seq ?_); refine sw_region ?_
      repeat (first | refine sR (h := ?_) | refine sK (h := ?_) | refine sT (h := aM (h := ?_)) | refine sT (h := aB (h := ?_)) | refine sT (h := aA (h := ?_)) | refine sT (h := aS (h := ?_)) | refine sT (h := aL (h := ?_)))
      refine swt_nil ?_
      (repeat refine sw_seq ?_); refine sw_cond rfl (fun h3 => ?_) (fun h3 => ?_)
      · cases h3
      · (repeat refine sw_seq ?_); refine sw_region ?_
        repeat (first | refine sR (h := ?_) | refine sK (h := ?_) | refine sT (h := aM (h := ?_)) | refine sT (h := aB (h := ?_)) | refine sT (h := aA (h := ?_)) | refine sT (h := aS (h := ?_)) | refine sT (h := aL (h := ?_)))
        refine swt_nil ?_
        (repeat refine sw_seq ?_); refine sw_cond rfl (fun h4 => ?_) (fun h4 => ?_)
        · cases h4
        · refine sw_skip ?_
          refine SW.wk (wk_only [1, 3, 6] [(1000000, 1000000), (3, 3), (6, 6)] rfl rfl) ?_
          (repeat refine sw_seq ?_); refine sw_region ?_
          repeat (first | refine sR (h := ?_) | refine sK (h := ?_) | refine sT (h := aM (h := ?_)) | refine sT (h := aB (h := ?_)) | refine sT (h := aA (h := ?_)) | refine sT (h := aS (h := ?_)) | refine sT (h := aL (h := ?_)))
          refine swt_nil ?_
          (repeat refine sw_seq ?_); refine sw_region ?_
          repeat (first | refine sR (h := ?_) | refine sK (h := ?_) | refine sT (h := aM (h := ?_)) | refine sT (h := aB (h := ?_)) | refine sT (h := aA (h := ?_)) | refine sT (h := aS (h := ?_)) | refine sT (h := aL (h := ?_)))
          refine swt_nil ?_
          (repeat refine sw_seq ?_); refine sw_block ?_
          refine SW.wk (wk_nil 10 900 24 3 rfl rfl) ?_
          refine SW.wk (wk_only [1, 3, 6, 10, 55, 56, 57] [(1000000, 1000000), (3, 3), (6, 6), (900, 0)] rfl rfl) ?_
          refine sw_loop (fun m s => ∃ (k : Nat) (kk : Int), k ≤ (S.drop lo).length ∧ m = (S.drop lo).length - k ∧ kk = k ∧ errS ((S.drop lo).take k) = 0 ∧ s = ⟨122, [(1, .view 1000000 5 lo S.length), (3, .ptr 3 0), (6, .ptr 6 0), (10, .row 0), (55, .view 1000000 5 lo S.length), (56, .p (pI ((S.length - lo : Nat) : Int))), (57, .p (pI kk))], [(1000000, .row 87 5 (S.map Itm.pv)), (3, .cells ((Nod.mk 7 val attr).pv.map .p)), (6, .cells (([.v (.slice none 0 0), pI 0, pI 0, pS ⟨#[]⟩, pI 0] : List PV).map .p)), (0, .row 24 3 ((((S.drop lo).take k).map Itm.v).map Val.pv))]⟩) (S.drop lo).length ⟨0, 0, Nat.zero_le _, rfl, rfl, rfl, rfl⟩ ?_
          rintro m s ⟨k, _, hk, rfl, rfl, he0, rfl⟩
          (repeat refine sw_seq ?_); refine sw_region ?_
          repeat (first | refine sR (h := ?_) | refine sK (h := ?_) | refine sT (h := aM (h := ?_)) | refine sT (h := aB (h := ?_)) | refine sT (h := aA (h := ?_)) | refine sT (h := aS (h := ?_)) | refine sT (h := aL (h := ?_)))
          refine swt_nil ?_
          (repeat refine sw_seq ?_); refine sw_cond rfl (fun hlt => ?_) (fun hlt => ?_)
          · refine sw_skip ?_
            have hlt' : k < (S.drop lo).length := by rw [List.length_drop]; simpa using hlt
            have hk2 : k < S.length - lo := by rwa [List.length_drop] at hlt'
            have hget : (S.drop lo)[k]? = some (S.drop lo)[k] := List.getElem?_eq_getElem hlt'
            (repeat refine sw_seq ?_); refine sw_block ?_
            (repeat refine sw_seq ?_); refine sw_region ?_
            repeat (first | refine sR (h := ?_) | refine sK (h := ?_) | refine sT (h := aM (h := ?_)) | refine sT (h := aB (h := ?_)) | refine sT (h := aA (h := ?_)) | refine sT (h := aS (h := ?_)) | refine sT (h := aL (h := ?_)))
            refine swt_read ttab_ok rfl rfl (by omega) rfl ?_
            repeat (first | refine sR (h := ?_) | refine sK (h := ?_) | refine sT (h := aM (h := ?_)) | refine sT (h := aB (h := ?_)) | refine sT (h := aA (h := ?_)) | refine sT (h := aS (h := ?_)) | refine sT (h := aL (h := ?_)))
            refine swt_read ttab_ok rfl (opR_elem rfl rfl rfl rfl rfl (show (S.map Itm.pv).getD (lo + Int.toNat (k : Int)) [] = (S.drop lo)[k].pv from drop_get hget) rfl) (by rw [List.length_map, Int.toNat_natCast]; omega) rfl ?_
            repeat (first | refine sR (h := ?_) | refine sK (h := ?_) | refine sT (h := aM (h := ?_)) | refine sT (h := aB (h := ?_)) | refine sT (h := aA (h := ?_)) | refine sT (h := aS (h := ?_)) | refine sT (h := aL (h := ?_)))
            refine swt_nil ?_
            (repeat refine sw_seq ?_); refine sw_region ?_
            repeat (first | refine sR (h := ?_) | refine sK (h := ?_) | refine sT (h := aM (h := ?_)) | refine sT (h := aB (h := ?_)) | refine sT (h := aA (h := ?_)) | refine sT (h := aS (h := ?_)) | refine sT (h := aL (h := ?_)))
            refine swt_nil ?_
            (repeat refine sw_seq ?_); refine sw_cond rfl (fun hne => ?_) (fun hne => ?_)
            · have hne' : (S.drop lo)[k].e ≠ 0 := by simpa using hne
              have e1 := errS_at hlt' he0 hne'
              rw [hN, e1, if_pos hne']
              (repeat refine sw_seq ?_); refine sw_region ?_
              repeat (first | refine sR (h := ?_) | refine sK (h := ?_) | refine sT (h := aM (h := ?_)) | refine sT (h := aB (h := ?_)) | refine sT (h := aA (h := ?_)) | refine sT (h := aS (h := ?_)) | refine sT (h := aL (h := ?_)))
              refine swt_nil ?_
              (repeat refine sw_seq ?_); refine sw_ret ?_
              exact ⟨Or.inr rfl, _, _, [(1000000, 1000000)], _, Wk.refl _, rfl, rfl, .p (CvL.agg (.cons (.nil 3) (.refl _))), rfl, rfl⟩
            · have hne' : (S.drop lo)[k].e = 0 := by simpa using hne
              refine sw_skip ?_
              (repeat refine sw_seq ?_); refine sw_region ?_
              repeat (first | refine sR (h := ?_) | refine sK (h := ?_) | refine sT (h := aM (h := ?_)) | refine sT (h := aB (h := ?_)) | refine sT (h := aA (h := ?_)) | refine sT (h := aS (h := ?_)) | refine sT (h := aL (h := ?_)))
              refine swt_act rfl (act_append_row ttab_ok rfl rfl rfl rfl rfl rfl rfl rfl rfl rfl rfl rfl rfl rfl rfl rfl (by simp only [List.length_append, List.length_map, List.length_take, List.length_drop]; unfold reachBytes; simp; omega) (by simp only [List.length_append, List.length_map, List.length_take, List.length_drop]; simp; omega) ?_)
              repeat (first | refine sR (h := ?_) | refine sK (h := ?_) | refine sT (h := aM (h := ?_)) | refine sT (h := aB (h := ?_)) | refine sT (h := aA (h := ?_)) | refine sT (h := aS (h := ?_)) | refine sT (h := aL (h := ?_)))
              refine swt_nil ?_
              (repeat refine sw_seq ?_); refine sw_region ?_
              repeat (first | refine sR (h := ?_) | refine sK (h := ?_) | refine sT (h := aM (h := ?_)) | refine sT (h := aB (h := ?_)) | refine sT (h := aA (h := ?_)) | refine sT (h := aS (h := ?_)) | refine sT (h := aL (h := ?_)))
              refine swt_nil ?_
              refine ⟨_, _, ?_, wk_only [1, 3, 6, 10, 55, 56, 57] [(1000000, 1000000), (3, 3), (6, 6), (71, 0)] rfl rfl, k + 1, _, hlt', rfl, wrap_succ hlt' (by rw [List.length_drop]; omega), errS_step hlt' he0 hne', ?_⟩
              · omega
              · rw [List.take_succ_eq_append_getElem hlt', List.map_append, List.map_append]; rfl
          · refine sw_exit ?_
            have hkk : k = (S.drop lo).length := by
              have : ¬ (k : Int) < ((S.length - lo : Nat) : Int) := by simpa using hlt
              rw [List.length_drop] at hk ⊢
              omega
            subst hkk
            rw [List.take_length] at he0 ⊢
            rw [hN, if_neg (by simp [he0])]
            clear hN
            (repeat refine sw_seq ?_); refine sw_region ?_
            repeat (first | refine sR (h := ?_) | refine sK (h := ?_) | refine sT (h := aM (h := ?_)) | refine sT (h := aB (h := ?_)) | refine sT (h := aA (h := ?_)) | refine sT (h := aS (h := ?_)) | refine sT (h := aL (h := ?_)))
            refine swt_nil ?_
            (repeat refine sw_seq ?_); refine sw_block ?_
            (repeat refine sw_seq ?_); refine sw_region ?_
            repeat (first | refine sR (h := ?_) | refine sK (h := ?_) | refine sT (h := aM (h := ?_)) | refine sT (h := aB (h := ?_)) | refine sT (h := aA (h := ?_)) | refine sT (h := aS (h := ?_)) | refine sT (h := aL (h := ?_)))
            refine swt_nil ?_
            (repeat refine sw_seq ?_); refine sw_cond rfl (fun h5 => ?_) (fun h5 => ?_)
            · cases h5
            · (repeat refine sw_seq ?_); refine sw_region ?_
              repeat (first | refine sR (h := ?_) | refine sK (h := ?_) | refine sT (h := aM (h := ?_)) | refine sT (h := aB (h := ?_)) | refine sT (h := aA (h := ?_)) | refine sT (h := aS (h := ?_)) | refine sT (h := aL (h := ?_)))
              refine swt_nil ?_
              (repeat refine sw_seq ?_); refine sw_cond rfl (fun h6 => ?_) (fun h6 => ?_)
              · cases h6
              · (repeat refine sw_seq ?_); refine sw_region ?_
                repeat (first | refine sR (h := ?_) | refine sK (h := ?_) | refine sT (h := aM (h := ?_)) | refine sT (h := aB (h := ?_)) | refine sT (h := aA (h := ?_)) | refine sT (h := aS (h := ?_)) | refine sT (h := aL (h := ?_)))
                refine swt_nil ?_
                (repeat refine sw_seq ?_); refine sw_cond rfl (fun h7 => ?_) (fun h7 => ?_)
                · cases h7
                · refine sw_skip ?_
                  have e2 : lastS 7 (S.drop lo) = ⟨[], (callS 7 ((S.drop lo).map Itm.v)).1, (callS 7 ((S.drop lo).map Itm.v)).2⟩ := rfl
                  rw [e2]
                  (repeat refine sw_seq ?_); refine sw_region ?_
                  repeat (first | refine sR (h := ?_) | refine sK (h := ?_) | refine sT (h := aM (h := ?_)) | refine sT (h := aB (h := ?_)) | refine sT (h := aA (h := ?_)) | refine sT (h := aS (h := ?_)) | refine sT (h := aL (h := ?_)))
                  refine swt_act rfl (act_call_flat rfl rfl rfl rfl (call_h 7 ((S.drop lo).map Itm.v) (fun v hv => by obtain ⟨x, hx, rfl⟩ := List.mem_map.1 hv; exact (hS x (List.mem_of_mem_drop hx)).v)) rfl rfl ?_)
                  repeat (first | refine sR (h := ?_) | refine sK (h := ?_) | refine sT (h := aM (h := ?_)) | refine sT (h := aB (h := ?_)) | refine sT (h := aA (h := ?_)) | refine sT (h := aS (h := ?_)) | refine sT (h := aL (h := ?_)))
                  refine swt_nil ?_
                  generalize callS 7 ((S.drop lo).map Itm.v) = r
                  (repeat refine sw_seq ?_); refine sw_region ?_
                  repeat (first | refine sR (h := ?_) | refine sK (h := ?_) | refine sT (h := aM (h := ?_)) | refine sT (h := aB (h := ?_)) | refine sT (h := aA (h := ?_)) | refine sT (h := aS (h := ?_)) | refine sT (h := aL (h := ?_)))
                  refine swt_nil ?_
                  (repeat refine sw_seq ?_); refine sw_ret ?_
                  exact ⟨Or.inr rfl, _, _, [(1000000, 1000000)], _, Wk.refl _, rfl, rfl, .p (CvL.agg (.cons (.nil 3) (.refl _))), rfl, rfl⟩
theorem node_8_h (val : Val) (attr : Atr) (S : List Itm) (lo : Nat) (g : List Giv) (hl : S.length ≤ 1000000) (hlo : lo ≤ S.length) (hS : ∀ x ∈ S, x.Fit) : HoldsW Try.prog 46 [.p (.agg (Nod.mk 8 val attr).pv), .view 1000000 5 lo S.length, .p (givsP g)] (itmRow S) (.p (.agg (nodeS (Nod.mk 8 val attr) (S.drop lo) g).pv)) (itmRow S) := by
  have hN := nodeS_last (val := val) (attr := attr) (g := g) (op := 8) (l := S.drop lo) (by omega) (by omega) rfl
  refine holdsC_of (T := TTab) ttab_ok Try.func46 (by kernel_rfl) rfl rfl rfl ?_
  (repeat refine sw_seq ?_); refine sw_region ?_
  repeat (first | refine sR (h := ?_) | refine sK (h := ?_) | refine sT (h := aM (h := ?_)) | refine sT (h := aB (h := ?_)) | refine sT (h := aA (h := ?_)) | refine sT (h := aS (h := ?_)) | refine sT (h := aL (h := ?_)))
  refine swt_nil ?_
  (repeat refine sw_seq ?_); refine sw_region ?_
  repeat (first | refine sR (h := ?_) | refine sK (h := ?_) | refine sT (h := aM (h := ?_)) | refine sT (h := aB (h := ?_)) | refine sT (h := aA (h := ?_)) | refine sT (h := aS (h := ?_)) | refine sT (h := aL (h := ?_)))
  refine swt_nil ?_
  (repeat refine sw_seq ?_); refine sw_block ?_
  (repeat refine sw_seq ?_); refine sw_region ?_
  repeat (first | refine sR (h := ?_) | refine sK (h := ?_) | refine sT (h := aM (h := ?_)) | refine sT (h := aB (h := ?_)) | refine sT (h := aA (h := ?_)) | refine sT (h := aS (h := ?_)) | refine sT (h := aL (h := ?_)))
  refine swt_nil ?_
  (repeat refine sw_seq ?_); refine sw_cond rfl (fun h1 => ?_) (fun h1 => ?_)
  · cases h1
  · (repeat refine sw_seq ?_); refine sw_region ?_
    repeat (first | refine sR (h := ?_) | refine sK (h := ?_) | refine sT (h := aM (h := ?_)) | refine sT (h := aB (h := ?_)) | refine sT (h := aA (h := ?_)) | refine sT (h := aS (h := ?_)) | refine sT (h := aL (h := ?_)))
    refine swt_nil ?_
    (repeat refine sw_seq ?_); refine sw_cond rfl (fun h2 => ?_) (fun h2 => ?_)
    · cases h2
    · (repeat refine sw_seq ?_); refine sw_region ?_
      repeat (first | refine sR (h := ?_) | refine sK (h := ?_) | refine sT (h := aM (h := ?_)) | refine sT (h := aB (h := ?_)) | refine sT (h := aA (h := ?_)) | refine sT (h := aS (h := ?_)) | refine sT (h := aL (h := ?_)))
      refine swt_nil ?_
      (repeat refine sw_seq ?_); refine sw_cond rfl (fun h3 => ?_) (fun h3 => ?_)
      · cases h3
      · (repeat refine sw_seq ?_); refine sw_region ?_
        repeat (first | refine sR (h := ?_) | refine sK (h := ?_) | refine sT (h := aM (h := ?_)) | refine sT (h := aB (h := ?_)) | refine sT (h := aA (h := ?_)) | refine sT (h := aS (h := ?_)) | refine sT (h := aL (h := ?_)))
        refine swt_nil ?_
        (repeat refine sw_seq ?_); refine sw_cond rfl (fun h4 => ?_) (fun h4 => ?_)
        · cases h4
        · refine sw_skip ?_
          refine SW.wk (wk_only [1, 3, 6] [(1000000, 1000000), (3, 3), (6, 6)] rfl rfl) ?_
          (repeat refine sw_seq ?_); refine sw_region ?_
          repeat (first | refine sR (h := ?_) | refine sK (h := ?_) | refine sT (h := aM (h := ?_)) | refine sT (h := aB (h := ?_)) | refine sT (h := aA (h := ?_)) | refine sT (h := aS (h := ?_)) | refine sT (h := aL (h := ?_)))
          refine swt_nil ?_
          (repeat refine sw_seq ?_); refine sw_region ?_
          repeat (first | refine sR (h := ?_) | refine sK (h := ?_) | refine sT (h := aM (h := ?_)) | refine sT (h := aB (h := ?_)) | refine sT (h := aA (h := ?_)) | refine sT (h := aS (h := ?_)) | refine sT (h := aL (h := ?_)))
          refine swt_nil ?_
          (repeat refine sw_seq ?_); refine sw_block ?_
          refine SW.wk (wk_nil 10 900 24 3 rfl rfl) ?_
          refine SW.wk (wk_only [1, 3, 6, 10, 55, 56, 57] [(1000000, 1000000), (3, 3), (6, 6), (900, 0)] rfl rfl) ?_
          refine sw_loop (fun m s => ∃ (k : Nat) (kk : Int), k ≤ (S.drop lo).length ∧ m = (S.drop lo).length - k ∧ kk = k ∧ errS ((S.drop lo).take k) = 0 ∧ s = ⟨122, [(1, .view 1000000 5 lo S.length), (3, .ptr 3 0), (6, .ptr 6 0), (10, .row 0), (55, .view 1000000 5 lo S.length), (56, .p (pI ((S.length - lo : Nat) : Int))), (57, .p (pI kk))], [(1000000, .row 87 5 (S.map Itm.pv)), (3, .cells ((Nod.mk 8 val attr).pv.map .p)), (6, .cells (([.v (.slice none 0 0), pI 0, pI 0, pS ⟨#[]⟩, pI 0] : List PV).map .p)), (0, .row 24 3 ((((S.drop lo).take k).map Itm.v).map Val.pv))]⟩) (S.drop lo).length ⟨0, 0, Nat.zero_le _, rfl, rfl, rfl, rfl⟩ ?_
          rintro m s ⟨k, _, hk, rfl, rfl, he0, rfl⟩
          (repeat refine sw_seq ?_); refine sw_region ?_
          repeat (first | refine sR (h := ?_) | refine sK (h := ?_) | refine sT (h := aM (h := ?_)) | refine sT (h := aB (h := ?_)) | refine sT (h := aA (h := ?_)) | refine sT (h := aS (h := ?_)) | refine sT (h := aL (h := ?_)))
          refine swt_nil ?_
          (repeat refine sw_seq ?_); refine sw_cond rfl (fun hlt => ?_) (fun hlt => ?_)
          · refine sw_skip ?_
            have hlt' : k < (S.drop lo).length := by rw [List.length_drop]; simpa using hlt
            have hk2 : k < S.length - lo := by rwa [List.length_drop] at hlt'
            have hget : (S.drop lo)[k]? = some (S.drop lo)[k] := List.getElem?_eq_getElem hlt'
            (repeat refine sw_seq ?_); refine sw_block ?_
            (repeat refine sw_seq ?_); refine sw_region ?_
            repeat (first | refine sR (h := ?_) | refine sK (h := ?_) | refine sT (h := aM (h := ?_)) | refine sT (h := aB (h := ?_)) | refine sT (h := aA (h := ?_)) | refine sT (h := aS (h := ?_)) | refine sT (h := aL (h := ?_)))
            refine swt_read ttab_ok rfl rfl (by omega) rfl ?_
            repeat (first | refine sR (h := ?_) | refine sK (h := ?_) | refine sT (h := aM (h := ?_)) | refine sT (h := aB (h := ?_)) | refine sT (h := aA (h := ?_)) | refine sT (h := aS (h := ?_)) | refine sT (h := aL (h := ?_)))
            refine swt_read ttab_ok rfl (opR_elem rfl rfl rfl rfl rfl (show (S.map Itm.pv).getD (lo + Int.toNat (k : Int)) [] = (S.drop lo)[k].pv from drop_get hget) rfl) (by rw [List.length_map, Int.toNat_natCast]; omega) rfl ?_
            repeat (first | refine sR (h := ?_) | refine sK (h := ?_) | refine sT (h := aM (h := ?_)) | refine sT (h := aB (h := ?_)) | refine sT (h := aA (h := ?_)) | refine sT (h := aS (h := ?_)) | refine sT (h := aL (h := ?_)))
            refine swt_nil ?_
            (repeat refine sw_seq ?_); refine sw_region ?_
            repeat (first | refine sR (h := ?_) | refine sK (h := ?_) | refine sT (h := aM (h := ?_)) | refine sT (h := aB (h := ?_)) | refine sT (h := aA (h := ?_)) | refine sT (h := aS (h := ?_)) | refine sT (h := aL (h := ?_)))
            refine swt_nil ?_
            (repeat refine sw_seq ?_); refine sw_cond rfl (fun hne => ?_) (fun hne => ?_)
            · have hne' : (S.drop lo)[k].e ≠ 0 := by simpa using hne
              have e1 := errS_at hlt' he0 hne'
              rw [hN, e1, if_pos hne']
              (repeat refine sw_seq ?_); refine sw_region ?_
              repeat (first | refine sR (h := ?_) | refine sK (h := ?_) | refine sT (h := aM (h := ?_)) | refine sT (h := aB (h := ?_)) | refine sT (h := aA (h := ?_)) | refine sT (h := aS (h := ?_)) | refine sT (h := aL (h := ?_)))
              refine swt_nil ?_
              (repeat refine sw_seq ?_); refine sw_ret ?_
              exact ⟨Or.inr rfl, _, _, [(1000000, 1000000)], _, Wk.refl _, rfl, rfl, .p (CvL.agg (.cons (.nil 3) (.refl _))), rfl, rfl⟩
            · have hne' : (S.drop lo)[k].e = 0 := by simpa using hne
              refine sw_skip ?_
              (repeat refine sw_seq ?_); refine sw_region ?_
              repeat (first | refine sR (h := ?_) | refine sK (h := ?_) | refine sT (h := aM (h := ?_)) | refine sT (h := aB (h := ?_)) | refine sT (h := aA (h := ?_)) | refine sT (h := aS (h := ?_)) | refine sT (h := aL (h := ?_)))
              refine swt_act rfl (act_append_row ttab_ok rfl rfl rfl rfl rfl rfl rfl rfl rfl rfl rfl rfl rfl rfl rfl rfl (by simp only [List.length_append, List.length_map, List.length_take, List.length_drop]; unfold reachBytes; simp; omega) (by simp only [List.length_append, List.length_map, List.length_take, List.length_drop]; simp; omega) ?_)
              repeat (first | refine sR (h := ?_) | refine sK (h := ?_) | refine sT (h := aM (h := ?_)) | refine sT (h := aB (h := ?_)) | refine sT (h := aA (h := ?_)) | refine sT (h := aS (h := ?_)) | refine sT (h := aL (h := ?_)))
              refine swt_nil ?_
              (repeat refine sw_seq ?_); refine sw_region ?_
              repeat (first | refine sR (h := ?_) | refine sK (h := ?_) | refine sT (h := aM (h := ?_)) | refine sT (h := aB (h := ?_)) | refine sT (h := aA (h := ?_)) | refine sT (h := aS (h := ?_)) | refine sT (h := aL (h := ?_)))
              refine swt_nil ?_
              refine ⟨_, _, ?_, wk_only [1, 3, 6, 10, 55, 56, 57] [(1000000, 1000000), (3, 3), (6, 6), (71, 0)] rfl rfl, k + 1, _, hlt', rfl, wrap_succ hlt' (by rw [List.length_drop]; omega), errS_step hlt' he0 hne', ?_⟩
              · omega
              · rw [List.take_succ_eq_append_getElem hlt', List.map_append, List.map_append]; rfl
          · refine sw_exit ?_
            have hkk : k = (S.drop lo).length := by
              have : ¬ (k : Int) < ((S.length - lo : Nat) : Int) := by simpa using hlt
              rw [List.length_drop] at hk ⊢
              omega
            subst hkk
            rw [List.take_length] at he0 ⊢
            rw [hN, if_neg (by simp [he0])]
            clear hN
            (repeat refine sw_seq ?_); refine sw_region ?_
            repeat (first | refine sR (h := ?_) | refine sK (h := ?_) | refine sT (h := aM (h := ?_)) | refine sT (h := aB (h := ?_)) | refine sT (h := aA (h := ?_)) | refine sT (h := aS (h := ?_)) | refine sT (h := aL (h := ?_)))
            refine swt_nil ?_
            (repeat refine sw_seq ?_); refine sw_block ?_
            (repeat refine sw_seq ?_); refine sw_region ?_
            repeat (first | refine sR (h := ?_) | refine sK (h := ?_) | refine sT (h := aM (h := ?_)) | refine sT (h := aB (h := ?_)) | refine sT (h := aA (h := ?_)) | refine sT (h := aS (h := ?_)) | refine sT (h := aL (h := ?_)))
            refine swt_nil ?_
            (repeat refine sw_seq ?_); refine sw_cond rfl (fun h5 => ?_) (fun h5 => ?_)
            · cases h5
            · (repeat refine sw_seq ?_); refine sw_region ?_
              repeat (first | refine sR (h := ?_) | refine sK (h := ?_) | refine sT (h := aM (h := ?_)) | refine sT (h := aB (h := ?_)) | refine sT (h := aA (h := ?_)) | refine sT (h := aS (h := ?_)) | refine sT (h := aL (h := ?_)))
              refine swt_nil ?_
              (repeat refine sw_seq ?_); refine sw_cond rfl (fun h6 => ?_) (fun h6 => ?_)
              · cases h6
              · (repeat refine sw_seq ?_); refine sw_region ?_
                repeat (first | refine sR (h := ?_) | refine sK (h := ?_) | refine sT (h := aM (h := ?_)) | refine sT (h := aB (h := ?_)) | refine sT (h := aA (h := ?_)) | refine sT (h := aS (h := ?_)) | refine sT (h := aL (h := ?_)))
                refine swt_nil ?_
                (repeat refine sw_seq ?_); refine sw_cond rfl (fun h7 => ?_) (fun h7 => ?_)
                · cases h7
                · refine sw_skip ?_
                  have e2 : lastS 8 (S.drop lo) = ⟨[], (callS 8 ((S.drop lo).map Itm.v)).1, (callS 8 ((S.drop lo).map Itm.v)).2⟩ := rfl
                  rw [e2]
                  (repeat refine sw_seq ?_); refine sw_region ?_
                  repeat (first | refine sR (h := ?_) | refine sK (h := ?_) | refine sT (h := aM (h := ?_)) | refine sT (h := aB (h := ?_)) | refine sT (h := aA (h := ?_)) | refine sT (h := aS (h := ?_)) | refine sT (h := aL (h := ?_)))
                  refine swt_act rfl (act_call_flat rfl rfl rfl rfl (call_h 8 ((S.drop lo).map Itm.v) (fun v hv => by obtain ⟨x, hx, rfl⟩ := List.mem_map.1 hv; exact (hS x (List.mem_of_mem_drop hx)).v)) rfl rfl ?_)
                  repeat (first | refine sR (h := ?_) | refine sK (h := ?_) | refine sT (h := aM (h := ?_)) | refine sT (h := aB (h := ?_)) | refine sT (h := aA (h := ?_)) | refine sT (h := aS (h := ?_)) | refine sT (h := aL (h := ?_)))
                  refine swt_nil ?_
                  generalize callS 8 ((S.drop lo).map Itm.v) = r
                  (repeat refine sw_seq ?_); refine sw_region ?_
                  repeat (first | refine sR (h := ?_) | refine sK (h := ?_) | refine sT (h := aM (h := ?_)) | refine sT (h := aB (h := ?_)) | refine sT (h := aA (h := ?_)) | refine sT (h := aS (h := ?_)) | refine sT (h := aL (h := ?_)))
                  refine swt_nil ?_
                  (repeat refine sw_seq ?_); refine sw_ret ?_
                  exact ⟨Or.inr rfl, _, _, [(1000000, 1000000)], _, Wk.refl _, rfl, rfl, .p (CvL.agg (.cons (.nil 3) (.refl _))), rfl, rfl⟩
theorem node_9_h (val : Val) (attr : Atr) (S : List Itm) (lo : Nat) (g : List Giv) (hl : S.length ≤ 1000000) (hlo : lo ≤ S.length) (hS : ∀ x ∈ S, x.Fit) : HoldsW Try.prog 46 [.p (.agg (Nod.mk 9 val attr).pv), .view 1000000 5 lo S.length, .p (givsP g)] (itmRow S) (.p (.agg (nodeS (Nod.mk 9 val attr) (S.drop lo) g).pv)) (itmRow S) := by
  have hN := nodeS_last (val := val) (attr := attr) (g := g) (op := 9) (l := S.drop lo) (by omega) (by omega) rfl
  refine holdsC_of (T := TTab) ttab_ok Try.func46 (by kernel_rfl) rfl rfl rfl ?_
  (repeat refine sw_seq ?_); refine sw_region ?_
  repeat (first | refine sR (h := ?_) | refine sK (h := ?_) | refine sT (h := aM (h := ?_)) | refine sT (h := aB (h := ?_)) | refine sT (h := aA (h := ?_)) | refine sT (h := aS (h := ?_)) | refine sT (h := aL (h := ?_)))
  refine swt_nil ?_
  (repeat refine sw_seq ?_); refine sw_region ?_
  repeat (first | refine sR (h := ?_) | refine sK (h := ?_) | refine sT (h := aM (h := ?_)) | refine sT (h := aB (h := ?_)) | refine sT (h := aA (h := ?_)) | refine sT (h := aS (h := ?_)) | refine sT (h := aL (h := ?_)))
  refine swt_nil ?_
  (repeat refine sw_seq ?_); refine sw_block ?_
  (repeat refine sw_seq ?_); refine sw_region ?_
  repeat (first | refine sR (h := ?_) | refine sK (h := ?_) | refine sT (h := aM (h := ?_)) | refine sT (h := aB (h := ?_)) | refine sT (h := aA (h := ?_)) | refine sT (h := aS (h := ?_)) | refine sT (h := aL (h := ?_)))
  refine swt_nil ?_
  (repeat refine sw_seq ?_); refine sw_cond rfl (fun h1 => ?_) (fun h1 => ?_)
  · cases h1
  · (repeat refine sw_seq ?_); refine sw_region ?_
    repeat (first | refine sR (h := ?_) | refine sK (h := ?_) | refine sT (h := aM (h := ?_)) | refine sT (h := aB (h := ?_)) | refine sT (h := aA (h := ?_)) | refine sT (h := aS (h := ?_)) | refine sT (h := aL (h := ?_)))
    refine swt_nil ?_
    (repeat refine sw_seq ?_); refine sw_cond rfl (fun h2 => ?_) (fun h2 => ?_)
    · cases h2
    · (repeat refine sw_seq ?_); refine sw_region ?_
      repeat (first | refine sR (h := ?_) | refine sK (h := ?_) | refine sT (h := aM (h := ?_)) | refine sT (h := aB (h := ?_)) | refine sT (h := aA (h := ?_)) | refine sT (h := aS (h := ?_)) | refine sT (h := aL (h := ?_)))
      refine swt_nil ?_
      (repeat refine sw_seq ?_); refine sw_cond rfl (fun h3 => ?_) (fun h3 => ?_)
      · cases h3
      · (repeat refine sw_seq ?_); refine sw_region ?_
        repeat (first | refine sR (h := ?_) | refine sK (h := ?_) | refine sT (h := aM (h := ?_)) | refine sT (h := aB (h := ?_)) | refine sT (h := aA (h := ?_)) | refine sT (h := aS (h := ?_)) | refine sT (h := aL (h := ?_)))
        refine swt_nil ?_
        (repeat refine sw_seq ?_); refine sw_cond rfl (fun h4 => ?_) (fun h4 => ?_)
        · cases h4
        · refine sw_skip ?_
          refine SW.wk (wk_only [1, 3, 6] [(1000000, 1000000), (3, 3), (6, 6)] rfl rfl) ?_
          (repeat refine sw_seq ?_); refine sw_region ?_
          repeat (first | refine sR (h := ?_) | refine sK (h := ?_) | refine sT (h := aM (h := ?_)) | refine sT (h := aB (h := ?_)) | refine sT (h := aA (h := ?_)) | refine sT (h := aS (h := ?_)) | refine sT (h := aL (h := ?_)))
          refine swt_nil ?_
          (repeat refine sw_seq ?_); refine sw_region ?_
          repeat (first | refine sR (h := ?_) | refine sK (h := ?_) | refine sT (h := aM (h := ?_)) | refine sT (h := aB (h := ?_)) | refine sT (h := aA (h := ?_)) | refine sT (h := aS (h := ?_)) | refine sT (h := aL (h := ?_)))
          refine swt_nil ?_
          (repeat refine sw_seq ?_); refine sw_block ?_
          refine SW.wk (wk_nil 10 900 24 3 rfl rfl) ?_
          refine SW.wk (wk_only [1, 3, 6, 10, 55, 56, 57] [(1000000, 1000000), (3, 3), (6, 6), (900, 0)] rfl rfl) ?_
          refine sw_loop (fun m s => ∃ (k : Nat) (kk : Int), k ≤ (S.drop lo).length ∧ m = (S.drop lo).length - k ∧ kk = k ∧ errS ((S.drop lo).take k) = 0 ∧ s = ⟨122, [(1, .view 1000000 5 lo S.length), (3, .ptr 3 0), (6, .ptr 6 0), (10, .row 0), (55, .view 1000000 5 lo S.length), (56, .p (pI ((S.length - lo : Nat) : Int))), (57, .p (pI kk))], [(1000000, .row 87 5 (S.map Itm.pv)), (3, .cells ((Nod.mk 9 val attr).pv.map .p)), (6, .cells (([.v (.slice none 0 0), pI 0, pI 0, pS ⟨#[]⟩, pI 0] : List PV).map .p)), (0, .row 24 3 ((((S.drop lo).take k).map Itm.v).map Val.pv))]⟩) (S.drop lo).length ⟨0, 0, Nat.zero_le _, rfl, rfl, rfl, rfl⟩ ?_
          rintro m s ⟨k, _, hk, rfl, rfl, he0, rfl⟩
          (repeat refine sw_seq ?_); refine sw_region ?_
          repeat (first | refine sR (h := ?_) | refine sK (h := ?_) | refine sT (h := aM (h := ?_)) | refine sT (h := aB (h := ?_)) | refine sT (h := aA (h := ?_)) | refine sT (h := aS (h := ?_)) | refine sT (h := aL (h := ?_)))
          refine swt_nil ?_
          (repeat refine sw_seq ?_); refine sw_cond rfl (fun hlt => ?_) (fun hlt => ?_)
          · refine sw_skip ?_
            have hlt' : k < (S.drop lo).length := by rw [List.length_drop]; simpa using hlt
            have hk2 : k < S.length - lo := by rwa [List.length_drop] at hlt'
            have hget : (S.drop lo)[k]? = some (S.drop lo)[k] := List.getElem?_eq_getElem hlt'
            (repeat refine sw_seq ?_); refine sw_block ?_
            (repeat refine sw_seq ?_); refine sw_region ?_
            repeat (first | refine sR (h := ?_) | refine sK (h := ?_) | refine sT (h := aM (h := ?_)) | refine sT (h := aB (h := ?_)) | refine sT (h := aA (h := ?_)) | refine sT (h := aS (h := ?_)) | refine sT (h := aL (h := ?_)))
            refine swt_read ttab_ok rfl rfl (by omega) rfl ?_
            repeat (first | refine sR (h := ?_) | refine sK (h := ?_) | refine sT (h := aM (h := ?_)) | refine sT (h := aB (h := ?_)) | refine sT (h := aA (h := ?_)) | refine sT (h := aS (h := ?_)) | refine sT (h := aL (h := ?_)))
            refine swt_read ttab_ok rfl (opR_elem rfl rfl rfl rfl rfl (show (S.map Itm.pv).getD (lo + Int.toNat (k : Int)) [] = (S.drop lo)[k].pv from drop_get hget) rfl) (by rw [List.length_map, Int.toNat_natCast]; omega) rfl ?_
            repeat (first | refine sR (h := ?_) | refine sK (h := ?_) | refine sT (h := aM (h := ?_)) | refine sT (h := aB (h := ?_)) | refine sT (h := aA (h := ?_)) | refine sT (h := aS (h := ?_)) | refine sT (h := aL (h := ?_)))
            refine swt_nil ?_
            (repeat refine sw_seq ?_); refine sw_region ?_
            repeat (first | refine sR (h := ?_) | refine sK (h := ?_) | refine sT (h := aM (h := ?_)) | refine sT (h := aB (h := ?_)) | refine sT (h := aA (h := ?_)) | refine sT (h := aS (h := ?_)) | refine sT (h := aL (h := ?_)))
            refine swt_nil ?_
            (repeat refine sw_seq ?_); refine sw_cond rfl (fun hne => ?_) (fun hne => ?_)
            · have hne' : (S.drop lo)[k].e ≠ 0 := by simpa using hne
              have e1 := errS_at hlt' he0 hne'
              rw [hN, e1, if_pos hne']
              (repeat refine sw_seq ?_); refine sw_region ?_
              repeat (first | refine sR (h := ?_) | refine sK (h := ?_) | refine sT (h := aM (h := ?_)) | refine sT (h := aB (h := ?_)) | refine sT (h := aA (h := ?_)) | refine sT (h := aS (h := ?_)) | refine sT (h := aL (h := ?_)))
              refine swt_nil ?_
              (repeat refine sw_seq ?_); refine sw_ret ?_
              exact ⟨Or.inr rfl, _, _, [(1000000, 1000000)], _, Wk.refl _, rfl, rfl, .p (CvL.agg (.cons (.nil 3) (.refl _))), rfl, rfl⟩
            · have hne' : (S.drop lo)[k].e = 0 := by simpa using hne
              refine sw_skip ?_
              (repeat refine sw_seq ?_); refine sw_region ?_
              repeat (first | refine sR (h := ?_) | refine sK (h := ?_) | refine sT (h := aM (h := ?_)) | refine sT (h := aB (h := ?_)) | refine sT (h := aA (h := ?_)) | refine sT (h := aS (h := ?_)) | refine sT (h := aL (h := ?_)))
              refine swt_act rfl (act_append_row ttab_ok rfl rfl rfl rfl rfl rfl rfl rfl rfl rfl rfl rfl rfl rfl rfl rfl (by simp only [List.length_append, List.length_map, List.length_take, List.length_drop]; unfold reachBytes; simp; omega) (by simp only [List.length_append, List.length_map, List.length_take, List.length_drop]; simp; omega) ?_)
              repeat (first | refine sR (h := ?_) | refine sK (h := ?_) | refine sT (h := aM (h := ?_)) | refine sT (h := aB (h := ?_)) | refine sT (h := aA (h := ?_)) | refine sT (h := aS (h := ?_)) | refine sT (h := aL (h := ?_)))
              refine swt_nil ?_
              (repeat refine sw_seq ?_); refine sw_region ?_
              repeat (first | refine sR (h := ?_) | refine sK (h := ?_) | refine sT (h := aM (h := ?_)) | refine sT (h := aB (h := ?_)) | refine sT (h := aA (h := ?_)) | refine sT (h := aS (h := ?_)) | refine sT (h := aL (h := ?_)))
              refine swt_nil ?_
              refine ⟨_, _, ?_, wk_only [1, 3, 6, 10, 55, 56, 57] [(1000000, 1000000), (3, 3), (6, 6), (71, 0)] rfl rfl, k + 1, _, hlt', rfl, wrap_succ hlt' (by rw [List.length_drop]; omega), errS_step hlt' he0 hne', ?_⟩
              · omega
              · rw [List.take_succ_eq_append_getElem hlt', List.map_append, List.map_append]; rfl
          · refine sw_exit ?_
            have hkk : k = (S.drop lo).length := by
              have : ¬ (k : Int) < ((S.length - lo : Nat) : Int) := by simpa using hlt
              rw [List.length_drop] at hk ⊢
              omega
            subst hkk
            rw [List.take_length] at he0 ⊢
            rw [hN, if_neg (by simp [he0])]
            clear hN
            (repeat refine sw_seq ?_); refine sw_region ?_
            repeat (first | refine sR (h := ?_) | refine sK (h := ?_) | refine sT (h := aM (h := ?_)) | refine sT (h := aB (h := ?_)) | refine sT (h := aA (h := ?_)) | refine sT (h := aS (h := ?_)) | refine sT (h := aL (h := ?_)))
            refine swt_nil ?_
            (repeat refine sw_seq ?_); refine sw_block ?_
            (repeat refine sw_seq ?_); refine sw_region ?_
            repeat (first | refine sR (h := ?_) | refine sK (h := ?_) | refine sT (h := aM (h := ?_)) | refine sT (h := aB (h := ?_)) | refine sT (h := aA (h := ?_)) | refine sT (h := aS (h := ?_)) | refine sT (h := aL (h := ?_)))
            refine swt_nil ?_
            (repeat refine sw_seq ?_); refine sw_cond rfl (fun h5 => ?_) (fun h5 => ?_)
            · cases h5
            · (repeat refine sw_seq ?_); refine sw_region ?_
              repeat (first | refine sR (h := ?_) | refine sK (h := ?_) | refine sT (h := aM (h := ?_)) | refine sT (h := aB (h := ?_)) | refine sT (h := aA (h := ?_)) | refine sT (h := aS (h := ?_)) | refine sT (h := aL (h := ?_)))
              refine swt_nil ?_
              (repeat refine sw_seq ?_); refine sw_cond rfl (fun h6 => ?_) (fun h6 => ?_)
              · cases h6
              · (repeat refine sw_seq ?_); refine sw_region ?_
                repeat (first | refine sR (h := ?_) | refine sK (h := ?_) | refine sT (h := aM (h := ?_)) | refine sT (h := aB (h := ?_)) | refine sT (h := aA (h := ?_)) | refine sT (h := aS (h := ?_)) | refine sT (h := aL (h := ?_)))
                refine swt_nil ?_
                (repeat refine sw_seq ?_); refine sw_cond rfl (fun h7 => ?_) (fun h7 => ?_)
                · cases h7
                · refine sw_skip ?_
                  have e2 : lastS 9 (S.drop lo) = ⟨[], (callS 9 ((S.drop lo).map Itm.v)).1, (callS 9 ((S.drop lo).map Itm.v)).2⟩ := rfl
                  rw [e2]
                  (repeat refine sw_seq ?_); refine sw_region ?_
                  repeat (first | refine sR (h := ?_) | refine sK (h := ?_) | refine sT (h := aM (h := ?_)) | refine sT (h := aB (h := ?_)) | refine sT (h := aA (h := ?_)) | refine sT (h := aS (h := ?_)) | refine sT (h := aL (h := ?_)))
                  refine swt_act rfl (act_call_flat rfl rfl rfl rfl (call_h 9 ((S.drop lo).map Itm.v) (fun v hv => by obtain ⟨x, hx, rfl⟩ := List.mem_map.1 hv; exact (hS x (List.mem_of_mem_drop hx)).v)) rfl rfl ?_)
                  repeat (first | refine sR (h := ?_) | refine sK (h := ?_) | refine sT (h := aM (h := ?_)) | refine sT (h := aB (h := ?_)) | refine sT (h := aA (h := ?_)) | refine sT (h := aS (h := ?_)) | refine sT (h := aL (h := ?_)))
                  refine swt_nil ?_
                  generalize callS 9 ((S.drop lo).map Itm.v) = r
                  (repeat refine sw_seq ?_); refine sw_region ?_
                  repeat (first | refine sR (h := ?_) | refine sK (h := ?_) | refine sT (h := aM (h := ?_)) | refine sT (h := aB (h := ?_)) | refine sT (h := aA (h := ?_)) | refine sT (h := aS (h := ?_)) | refine sT (h := aL (h := ?_)))
                  refine swt_nil ?_
                  (repeat refine sw_seq ?_); refine sw_ret ?_
                  exact ⟨Or.inr rfl, _, _, [(1000000, 1000000)], _, Wk.refl _, rfl, rfl, .p (CvL.agg (.cons (.nil 3) (.refl _))), rfl, rfl⟩
theorem node_10_h (val : Val) (attr : Atr) (S : List Itm) (lo : Nat) (g : List Giv) (hl : S.length ≤ 1000000) (hlo : lo ≤ S.length) (hS : ∀ x ∈ S, x.Fit) : HoldsW Try.prog 46 [.p (.agg (Nod.mk 10 val attr).pv), .view 1000000 5 lo S.length, .p (givsP g)] (itmRow S) (.p (.agg (nodeS (Nod.mk 10 val attr) (S.drop lo) g).pv)) (itmRow S) := by
  have hN := nodeS_last (val := val) (attr := attr) (g := g) (op := 10) (l := S.drop lo) (by omega) (by omega) rfl
  refine holdsC_of (T := TTab) ttab_ok Try.func46 (by kernel_rfl) rfl rfl rfl ?_
  (repeat refine sw_seq ?_); refine sw_region ?_
  repeat (first | refine sR (h := ?_) | refine sK (h := ?_) | refine sT (h := aM (h := ?_)) | refine sT (h := aB (h := ?_)) | refine sT (h := aA (h := ?_)) | refine sT (h := aS (h := ?_)) | refine sT (h := aL (h := ?_)))
  refine swt_nil ?_
  (repeat refine sw_seq ?_); refine sw_region ?_
  repeat (first | refine sR (h := ?_) | refine sK (h := ?_) | refine sT (h := aM (h := ?_)) | refine sT (h := aB (h := ?_)) | refine sT (h := aA (h := ?_)) | refine sT (h := aS (h := ?_)) | refine sT (h := aL (h := ?_)))
  refine swt_nil ?_
  (repeat refine sw_seq ?_); refine sw_block ?_
  (repeat refine sw_seq ?_); refine sw_region ?_
  repeat (first | refine sR (h := ?_) | refine sK (h := ?_) | refine sT (h := aM (h := ?_)) | refine sT (h := aB (h := ?_)) | refine sT (h := aA (h := ?_)) | refine sT (h := aS (h := ?_)) | refine sT (h := aL (h := ?_)))
  refine swt_nil ?_
  (repeat refine sw_seq ?_); refine sw_cond rfl (fun h1 => ?_) (fun h1 => ?_)
  · cases h1
  · (repeat refine sw_seq ?_); refine sw_region ?_
    repeat (first | refine sR (h := ?_) | refine sK (h := ?_) | refine sT (h := aM (h := ?_)) | refine sT (h := aB (h := ?_)) | refine sT (h := aA (h := ?_)) | refine sT (h := aS (h := ?_)) | refine sT (h := aL (h := ?_)))
    refine swt_nil ?_
    (repeat refine sw_seq ?_); refine sw_cond rfl (fun h2 => ?_) (fun h2 => ?_)
    · cases h2
    · (repeat refine sw_seq ?_); refine sw_region ?_
      repeat (first | refine sR (h := ?_) | refine sK (h := ?_) | refine sT (h := aM (h := ?_)) | refine sT (h := aB (h := ?_)) | refine sT (h := aA (h := ?_)) | refine sT (h := aS (h := ?_)) | refine sT (h := aL (h := ?_)))
      refine swt_nil ?_
      (repeat refine sw_seq ?_); refine sw_cond rfl (fun h3 => ?_) (fun h3 => ?_)
      · cases h3
      · (repeat refine sw_seq ?_); refine sw_region ?_
        repeat (first | refine sR (h := ?_) | refine sK (h := ?_) | refine sT (h := aM (h := ?_)) | refine sT (h := aB (h := ?_)) | refine sT (h := aA (h := ?_)) | refine sT (h := aS (h := ?_)) | refine sT (h := aL (h := ?_)))
        refine swt_nil ?_
        (repeat refine sw_seq ?_); refine sw_cond rfl (fun h4 => ?_) (fun h4 => ?_)
        · cases h4
        · refine sw_skip ?_
          refine SW.wk (wk_only [1, 3, 6] [(1000000, 1000000), (3, 3), (6, 6)] rfl rfl) ?_
          (repeat refine sw_seq ?_); refine sw_region ?_
          repeat (first | refine sR (h := ?_) | refine sK (h := ?_) | refine sT (h := aM (h := ?_)) | refine sT (h := aB (h := ?_)) | refine sT (h := aA (h := ?_)) | refine sT (h := aS (h := ?_)) | refine sT (h := aL (h := ?_)))
          refine swt_nil ?_
          (repeat refine sw_seq ?_); refine sw_region ?_
          repeat (first | refine sR (h := ?_) | refine sK (h := ?_) | refine sT (h := aM (h := ?_)) | refine sT (h := aB (h := ?_)) | refine sT (h := aA (h := ?_)) | refine sT (h := aS (h := ?_)) | refine sT (h := aL (h := ?_)))
          refine swt_nil ?_
          (repeat refine sw_seq ?_); refine sw_block ?_
          refine SW.wk (wk_nil 10 900 24 3 rfl rfl) ?_
          refine SW.wk (wk_only [1, 3, 6, 10, 55, 56, 57] [(1000000, 1000000), (3, 3), (6, 6), (900, 0)] rfl rfl) ?_
          refine sw_loop (fun m s => ∃ (k : Nat) (kk : Int), k ≤ (S.drop lo).length ∧ m = (S.drop lo).length - k ∧ kk = k ∧ errS ((S.drop lo).take k) = 0 ∧ s = ⟨122, [(1, .view 1000000 5 lo S.length), (3, .ptr 3 0), (6, .ptr 6 0), (10, .row 0), (55, .view 1000000 5 lo S.length), (56, .p (pI ((S.length - lo : Nat) : Int))), (57, .p (pI kk))], [(1000000, .row 87 5 (S.map Itm.pv)), (3, .cells ((Nod.mk 10 val attr).pv.map .p)), (6, .cells (([.v (.slice none 0 0), pI 0, pI 0, pS ⟨#[]⟩, pI 0] : List PV).map .p)), (0, .row 24 3 ((((S.drop lo).take k).map Itm.v).map Val.pv))]⟩) (S.drop lo).length ⟨0, 0, Nat.zero_le _, rfl, rfl, rfl, rfl⟩ ?_
          rintro m s ⟨k, _, hk, rfl, rfl, he0, rfl⟩
          (repeat refine sw_seq ?_); refine sw_region ?_
          repeat (first | refine sR (h := ?_) | refine sK (h := ?_) | refine sT (h := aM (h := ?_)) | refine sT (h := aB (h := ?_)) | refine sT (h := aA (h := ?_)) | refine sT (h := aS (h := ?_)) | refine sT (h := aL (h := ?_)))
          refine swt_nil ?_
          (repeat refine sw_seq ?_); refine sw_cond rfl (fun hlt => ?_) (fun hlt => ?_)
          · refine sw_skip ?_
            have hlt' : k < (S.drop lo).length := by rw [List.length_drop]; simpa using hlt
            have hk2 : k < S.length - lo := by rwa [List.length_drop] at hlt'
            have hget : (S.drop lo)[k]? = some (S.drop lo)[k] := List.getElem?_eq_getElem hlt'
            (repeat refine sw_seq ?_); refine sw_block ?_
            (repeat refine sw_seq ?_); refine sw_region ?_
            repeat (first | refine sR (h := ?_) | refine sK (h := ?_) | refine sT (h := aM (h := ?_)) | refine sT (h := aB (h := ?_)) | refine sT (h := aA (h := ?_)) | refine sT (h := aS (h := ?_)) | refine sT (h := aL (h := ?_)))
            refine swt_read ttab_ok rfl rfl (by omega) rfl ?_
            repeat (first | refine sR (h := ?_) | refine sK (h := ?_) | refine sT (h := aM (h := ?_)) | refine sT (h := aB (h := ?_)) | refine sT (h := aA (h := ?_)) | refine sT (h := aS (h := ?_)) | refine sT (h := aL (h := ?_)))
            refine swt_read ttab_ok rfl (opR_elem rfl rfl rfl rfl rfl (show (S.map Itm.pv).getD (lo + Int.toNat (k : Int)) [] = (S.drop lo)[k].pv from drop_get hget) rfl) (by rw [List.length_map, Int.toNat_natCast]; omega) rfl ?_
            repeat (first | refine sR (h := ?_) | refine sK (h := ?_) | refine sT (h := aM (h := ?_)) | refine sT (h := aB (h := ?_)) | refine sT (h := aA (h := ?_)) | refine sT (h := aS (h := ?_)) | refine sT (h := aL (h := ?_)))
            refine swt_nil ?_
            (repeat refine sw_seq ?_); refine sw_region ?_
            repeat (first | refine sR (h := ?_) | refine sK (h := ?_) | refine sT (h := aM (h := ?_)) | refine sT (h := aB (h := ?_)) | refine sT (h := aA (h := ?_)) | refine sT (h := aS (h := ?_)) | refine sT (h := aL (h := ?_)))
            refine swt_nil ?_
            (repeat refine sw_seq ?_); refine sw_cond rfl (fun hne => ?_) (fun hne => ?_)
            · have hne' : (S.drop lo)[k].e ≠ 0 := by simpa using hne
              have e1 := errS_at hlt' he0 hne'
              rw [hN, e1, if_pos hne']
              (repeat refine sw_seq ?_); refine sw_region ?_
              repeat (first | refine sR (h := ?_) | refine sK (h := ?_) | refine sT (h := aM (h := ?_)) | refine sT (h := aB (h := ?_)) | refine sT (h := aA (h := ?_)) | refine sT (h := aS (h := ?_)) | refine sT (h := aL (h := ?_)))
              refine swt_nil ?_
              (repeat refine sw_seq ?_); refine sw_ret ?_
              exact ⟨Or.inr rfl, _, _, [(1000000, 1000000)], _, Wk.refl _, rfl, rfl, .p (CvL.agg (.cons (.nil 3) (.refl _))), rfl, rfl⟩
            · have hne' : (S.drop lo)[k].e = 0 := by simpa using hne
              refine sw_skip ?_
              (repeat refine sw_seq ?_); refine sw_region ?_
              repeat (first | refine sR (h := ?_) | refine sK (h := ?_) | refine sT (h := aM (h := ?_)) | refine sT (h := aB (h := ?_)) | refine sT (h := aA (h := ?_)) | refine sT (h := aS (h := ?_)) | refine sT (h := aL (h := ?_)))
              refine swt_act rfl (act_append_row ttab_ok rfl rfl rfl rfl rfl rfl rfl rfl rfl rfl rfl rfl rfl rfl rfl rfl (by simp only [List.length_append, List.length_map, List.length_take, List.length_drop]; unfold reachBytes; simp; omega) (by simp only [List.length_append, List.length_map, List.length_take, List.length_drop]; simp; omega) ?_)
              repeat (first | refine sR (h := ?_) | refine sK (h := ?_) | refine sT (h := aM (h := ?_)) | refine sT (h := aB (h := ?_)) | refine sT (h := aA (h := ?_)) | refine sT (h := aS (h := ?_)) | refine sT (h := aL (h := ?_)))
              refine swt_nil ?_
              (repeat refine sw_seq ?_); refine sw_region ?_
              repeat (first | refine sR (h := ?_) | refine sK (h := ?_) | refine sT (h := aM (h := ?_)) | refine sT (h := aB (h := ?_)) | refine sT (h := aA (h := ?_)) | refine sT (h := aS (h := ?_)) | refine sT (h := aL (h := ?_)))
              refine swt_nil ?_
              refine ⟨_, _, ?_, wk_only [1, 3, 6, 10, 55, 56, 57] [(1000000, 1000000), (3, 3), (6, 6), (71, 0)] rfl rfl, k + 1, _, hlt', rfl, wrap_succ hlt' (by rw [List.length_drop]; omega), errS_step hlt' he0 hne', ?_⟩
              · omega
              · rw [List.take_succ_eq_append_getElem hlt', List.map_append, List.map_append]; rfl
          · refine sw_exit ?_
            have hkk : k = (S.drop lo).length := by
              have : ¬ (k : Int) < ((S.length - lo : Nat) : Int) := by simpa using hlt
              rw [List.length_drop] at hk ⊢
              omega
            subst hkk
            rw [List.take_length] at he0 ⊢
            rw [hN, if_neg (by simp [he0])]
            clear hN
            (repeat refine sw_seq ?_); refine sw_region ?_
            repeat (first | refine sR (h := ?_) | refine sK (h := ?_) | refine sT (h := aM (h := ?_)) | refine sT (h := aB (h := ?_)) | refine sT (h := aA (h := ?_)) | refine sT (h := aS (h := ?_)) | refine sT (h := aL (h := ?_)))
            refine swt_nil ?_
            (repeat refine sw_seq ?_); refine sw_block ?_
            (repeat refine sw_seq ?_); refine sw_region ?_
            repeat (first | refine sR (h := ?_) | refine sK (h := ?_) | refine sT (h := aM (h := ?_)) | refine sT (h := aB (h := ?_)) | refine sT (h := aA (h := ?_)) | refine sT (h := aS (h := ?_)) | refine sT (h := aL (h := ?_)))
            refine swt_nil ?_
            (repeat refine sw_seq ?_); refine sw_cond rfl (fun h5 => ?_) (fun h5 => ?_)
            · cases h5
            · (repeat refine sw_seq ?_); refine sw_region ?_
              repeat (first | refine sR (h := ?_) | refine sK (h := ?_) | refine sT (h := aM (h := ?_)) | refine sT (h := aB (h := ?_)) | refine sT (h := aA (h := ?_)) | refine sT (h := aS (h := ?_)) | refine sT (h := aL (h := ?_)))
              refine swt_nil ?_
              (repeat refine sw_seq ?_); refine sw_cond rfl (fun h6 => ?_) (fun h6 => ?_)
              · cases h6
              · (repeat refine sw_seq ?_); refine sw_region ?_
                repeat (first | refine sR (h := ?_) | refine sK (h := ?_) | refine sT (h := aM (h := ?_)) | refine sT (h := aB (h := ?_)) | refine sT (h := aA (h := ?_)) | refine sT (h := aS (h := ?_)) | refine sT (h := aL (h := ?_)))
                refine swt_nil ?_
                (repeat refine sw_seq ?_); refine sw_cond rfl (fun h7 => ?_) (fun h7 => ?_)
                · cases h7
                · refine sw_skip ?_
                  have e2 : lastS 10 (S.drop lo) = ⟨[], (callS 10 ((S.drop lo).map Itm.v)).1, (callS 10 ((S.drop lo).map Itm.v)).2⟩ := rfl
                  rw [e2]
                  (repeat refine sw_seq ?_); refine sw_region ?_
                  repeat (first | refine sR (h := ?_) | refine sK (h := ?_) | refine sT (h := aM (h := ?_)) | refine sT (h := aB (h := ?_)) | refine sT (h := aA (h := ?_)) | refine sT (h := aS (h := ?_)) | refine sT (h := aL (h := ?_)))
                  refine swt_act rfl (act_call_flat rfl rfl rfl rfl (call_h 10 ((S.drop lo).map Itm.v) (fun v hv => by obtain ⟨x, hx, rfl⟩ := List.mem_map.1 hv; exact (hS x (List.mem_of_mem_drop hx)).v)) rfl rfl ?_)
                  repeat (first | refine sR (h := ?_) | refine sK (h := ?_) | refine sT (h := aM (h := ?_)) | refine sT (h := aB (h := ?_)) | refine sT (h := aA (h := ?_)) | refine sT (h := aS (h := ?_)) | refine sT (h := aL (h := ?_)))
                  refine swt_nil ?_
                  generalize callS 10 ((S.drop lo).map Itm.v) = r
                  (repeat refine sw_seq ?_); refine sw_region ?_
                  repeat (first | refine sR (h := ?_) | refine sK (h := ?_) | refine sT (h := aM (h := ?_)) | refine sT (h := aB (h := ?_)) | refine sT (h := aA (h := ?_)) | refine sT (h := aS (h := ?_)) | refine sT (h := aL (h := ?_)))
                  refine swt_nil ?_
                  (repeat refine sw_seq ?_); refine sw_ret ?_
                  exact ⟨Or.inr rfl, _, _, [(1000000, 1000000)], _, Wk.refl _, rfl, rfl, .p (CvL.agg (.cons (.nil 3) (.refl _))), rfl, rfl⟩
theorem node_11_h (val : Val) (attr : Atr) (S : List Itm) (lo : Nat) (g : List Giv) (hl : S.length ≤ 1000000) (hlo : lo ≤ S.length) (hS : ∀ x ∈ S, x.Fit) : HoldsW Try.prog 46 [.p (.agg (Nod.mk 11 val attr).pv), .view 1000000 5 lo S.length, .p (givsP g)] (itmRow S) (.p (.agg (nodeS (Nod.mk 11 val attr) (S.drop lo) g).pv)) (itmRow S) := by
  have hN := nodeS_last (val := val) (attr := attr) (g := g) (op := 11) (l := S.drop lo) (by omega) (by omega) rfl
  refine holdsC_of (T := TTab) ttab_ok Try.func46 (by kernel_rfl) rfl rfl rfl ?_
  (repeat refine sw_seq ?_); refine sw_region ?_
  repeat (first | refine sR (h := ?_) | refine sK (h := ?_) | refine sT (h := aM (h := ?_)) | refine sT (h := aB (h := ?_)) | refine sT (h := aA (h := ?_)) | refine sT (h := aS (h := ?_)) | refine sT (h := aL (h := ?_)))
  refine swt_nil ?_
  (repeat refine sw_seq ?_); refine sw_region ?_
  repeat (first | refine sR (h := ?_) | refine sK (h := ?_) | refine sT (h := aM (h := ?_)) | refine sT (h := aB (h := ?_)) | refine sT (h := aA (h := ?_)) | refine sT (h := aS (h := ?_)) | refine sT (h := aL (h := ?_)))
  refine swt_nil ?_
  (repeat refine sw_seq ?_); refine sw_block ?_
  (repeat refine sw_seq ?_); refine sw_region ?_
  repeat (first | refine sR (h := ?_) | refine sK (h := ?_) | refine sT (h := aM (h := ?_)) | refine sT (h := aB (h := ?_)) | refine sT (h := aA (h := ?_)) | refine sT (h := aS (h := ?_)) | refine sT (h := aL (h := ?_)))
  refine swt_nil ?_
  (repeat refine sw_seq ?_); refine sw_cond rfl (fun h1 => ?_) (fun h1 => ?_)
  · cases h1
  · (repeat refine sw_seq ?_); refine sw_region ?_
    repeat (first | refine sR (h := ?_) | refine sK (h := ?_) | refine sT (h := aM (h := ?_)) | refine sT (h := aB (h := ?_)) | refine sT (h := aA (h := ?_)) | refine sT (h := aS (h := ?_)) | refine sT (h := aL (h := ?_)))
    refine swt_nil ?_
    (repeat refine sw_seq ?_); refine sw_cond rfl (fun h2 => ?_) (fun h2 => ?_)
    · cases h2
    · (repeat refine sw_seq ?_); refine sw_region ?_
      repeat (first | refine sR (h := ?_) | refine sK (h := ?_) | refine sT (h := aM (h := ?_)) | refine sT (h := aB (h := ?_)) | refine sT (h := aA (h := ?_)) | refine sT (h := aS (h := ?_)) | refine sT (h := aL (h := ?_)))
      refine swt_nil ?_
      (repeat refine sw_seq ?_); refine sw_cond rfl (fun h3 => ?_) (fun h3 => ?_)
      · cases h3
      · (repeat refine sw_seq ?_); refine sw_region ?_
        repeat (first | refine sR (h := ?_) | refine sK (h := ?_) | refine sT (h := aM (h := ?_)) | refine sT (h := aB (h := ?_)) | refine sT (h := aA (h := ?_)) | refine sT (h := aS (h := ?_)) | refine sT (h := aL (h := ?_)))
        refine swt_nil ?_
        (repeat refine sw_seq ?_); refine sw_cond rfl (fun h4 => ?_) (fun h4 => ?_)
        · cases h4
        · refine sw_skip ?_
          refine SW.wk (wk_only [1, 3, 6] [(1000000, 1000000), (3, 3), (6, 6)] rfl rfl) ?_
          (repeat refine sw_seq ?_); refine sw_region ?_
          repeat (first | refine sR (h := ?_) | refine sK (h := ?_) | refine sT (h := aM (h := ?_)) | refine sT (h := aB (h := ?_)) | refine sT (h := aA (h := ?_)) | refine sT (h := aS (h := ?_)) | refine sT (h := aL (h := ?_)))
          refine swt_nil ?_
          (repeat refine sw_seq ?_); refine sw_region ?_
          repeat (first | refine sR (h := ?_) | refine sK (h := ?_) | refine sT (h := aM (h := ?_)) | refine sT (h := aB (h := ?_)) | refine sT (h := aA (h := ?_)) | refine sT (h := aS (h := ?_)) | refine sT (h := aL (h := ?_)))
          refine swt_nil ?_
          (repeat refine sw_seq ?_); refine sw_block ?_
          refine SW.wk (wk_nil 10 900 24 3 rfl rfl) ?_
          refine SW.wk (wk_only [1, 3, 6, 10, 55, 56, 57] [(1000000, 1000000), (3, 3), (6, 6), (900, 0)] rfl rfl) ?_
          refine sw_loop (fun m s => ∃ (k : Nat) (kk : Int), k ≤ (S.drop lo).length ∧ m = (S.drop lo).length - k ∧ kk = k ∧ errS ((S.drop lo).take k) = 0 ∧ s = ⟨122, [(1, .view 1000000 5 lo S.length), (3, .ptr 3 0), (6, .ptr 6 0), (10, .row 0), (55, .view 1000000 5 lo S.length), (56, .p (pI ((S.length - lo : Nat) : Int))), (57, .p (pI kk))], [(1000000, .row 87 5 (S.map Itm.pv)), (3, .cells ((Nod.mk 11 val attr).pv.map .p)), (6, .cells (([.v (.slice none 0 0), pI 0, pI 0, pS ⟨#[]⟩, pI 0] : List PV).map .p)), (0, .row 24 3 ((((S.drop lo).take k).map Itm.v).map Val.pv))]⟩) (S.drop lo).length ⟨0, 0, Nat.zero_le _, rfl, rfl, rfl, rfl⟩ ?_
          rintro m s ⟨k, _, hk, rfl, rfl, he0, rfl⟩
          (repeat refine sw_seq ?_); refine sw_region ?_
          repeat (first | refine sR (h := ?_) | refine sK (h := ?_) | refine sT (h := aM (h := ?_)) | refine sT (h := aB (h := ?_)) | refine sT (h := aA (h := ?_)) | refine sT (h := aS (h := ?_)) | refine sT (h := aL (h := ?_)))
          refine swt_nil ?_
          (repeat refine sw_seq ?_); refine sw_cond rfl (fun hlt => ?_) (fun hlt => ?_)
          · refine sw_skip ?_
            have hlt' : k < (S.drop lo).length := by rw [List.length_drop]; simpa using hlt
            have hk2 : k < S.length - lo := by rwa [List.length_drop] at hlt'
            have hget : (S.drop lo)[k]? = some (S.drop lo)[k] := List.getElem?_eq_getElem hlt'
            (repeat refine sw_seq ?_); refine sw_block ?_
            (repeat refine sw_seq ?_); refine sw_region ?_
            repeat (first | refine sR (h := ?_) | refine sK (h := ?_) | refine sT (h := aM (h := ?_)) | refine sT (h := aB (h := ?_)) | refine sT (h := aA (h := ?_)) | refine sT (h := aS (h := ?_)) | refine sT (h := aL (h := ?_)))
            refine swt_read ttab_ok rfl rfl (by omega) rfl ?_
            repeat (first | refine sR (h := ?_) | refine sK (h := ?_) | refine sT (h := aM (h := ?_)) | refine sT (h := aB (h := ?_)) | refine sT (h := aA (h := ?_)) | refine sT (h := aS (h := ?_)) | refine sT (h := aL (h := ?_)))
            refine swt_read ttab_ok rfl (opR_elem rfl rfl rfl rfl rfl (show (S.map Itm.pv).getD (lo + Int.toNat (k : Int)) [] = (S.drop lo)[k].pv from drop_get hget) rfl) (by rw [List.length_map, Int.toNat_natCast]; omega) rfl ?_
            repeat (first | refine sR (h := ?_) | refine sK (h := ?_) | refine sT (h := aM (h := ?_)) | refine sT (h := aB (h := ?_)) | refine sT (h := aA (h := ?_)) | refine sT (h := aS (h := ?_)) | refine sT (h := aL (h := ?_)))
            refine swt_nil ?_
            (repeat refine sw_seq ?_); refine sw_region ?_
            repeat (first | refine sR (h := ?_) | refine sK (h := ?_) | refine sT (h := aM (h := ?_)) | refine sT (h := aB (h := ?_)) | refine sT (h := aA (h := ?_)) | refine sT (h := aS (h := ?_)) | refine sT (h := aL (h := ?_)))
            refine swt_nil ?_
            (repeat refine sw_seq ?_); refine sw_cond rfl (fun hne => ?_) (fun hne => ?_)
            · have hne' : (S.drop lo)[k].e ≠ 0 := by simpa using hne
              have e1 := errS_at hlt' he0 hne'
              rw [hN, e1, if_pos hne']
              (repeat refine sw_seq ?_); refine sw_region ?_
              repeat (first | refine sR (h := ?_) | refine sK (h := ?_) | refine sT (h := aM (h := ?_)) | refine sT (h := aB (h := ?_)) | refine sT (h := aA (h := ?_)) | refine sT (h := aS (h := ?_)) | refine sT (h := aL (h := ?_)))
              refine swt_nil ?_
              (repeat refine sw_seq ?_); refine sw_ret ?_
              exact ⟨Or.inr rfl, _, _, [(1000000, 1000000)], _, Wk.refl _, rfl, rfl, .p (CvL.agg (.cons (.nil 3) (.refl _))), rfl, rfl⟩
            · have hne' : (S.drop lo)[k].e = 0 := by simpa using hne
              refine sw_skip ?_
              (repeat refine sw_seq ?_); refine sw_region ?_
              repeat (first | refine sR (h := ?_) | refine sK (h := ?_) | refine sT (h := aM (h := ?_)) | refine sT (h := aB (h := ?_)) | refine sT (h := aA (h := ?_)) | refine sT (h := aS (h := ?_)) | refine sT (h := aL (h := ?_)))
              refine swt_act rfl (act_append_row ttab_ok rfl rfl rfl rfl rfl rfl rfl rfl rfl rfl rfl rfl rfl rfl rfl rfl (by simp only [List.length_append, List.length_map, List.length_take, List.length_drop]; unfold reachBytes; simp; omega) (by simp only [List.length_append, List.length_map, List.length_take, List.length_drop]; simp; omega) ?_)
              repeat (first | refine sR (h := ?_) | refine sK (h := ?_) | refine sT (h := aM (h := ?_)) | refine sT (h := aB (h := ?_)) | refine sT (h := aA (h := ?_)) | refine sT (h := aS (h := ?_)) | refine sT (h := aL (h := ?_)))
              refine swt_nil ?_
              (repeat refine sw_seq ?_); refine sw_region ?_
              repeat (first | refine sR (h := ?_) | refine sK (h := ?_) | refine sT (h := aM (h := ?_)) | refine sT (h := aB (h := ?_)) | refine sT (h := aA (h := ?_)) | refine sT (h := aS (h := ?_)) | refine sT (h := aL (h := ?_)))
              refine swt_nil ?_
              refine ⟨_, _, ?_, wk_only [1, 3, 6, 10, 55, 56, 57] [(1000000, 1000000), (3, 3), (6, 6), (71, 0)] rfl rfl, k + 1, _, hlt', rfl, wrap_succ hlt' (by rw [List.length_drop]; omega), errS_step hlt' he0 hne', ?_⟩
              · omega
              · rw [List.take_succ_eq_append_getElem hlt', List.map_append, List.map_append]; rfl
          · refine sw_exit ?_
            have hkk : k = (S.drop lo).length := by
              have : ¬ (k : Int) < ((S.length - lo : Nat) : Int) := by simpa using hlt
              rw [List.length_drop] at hk ⊢
              omega
            subst hkk
            rw [List.take_length] at he0 ⊢
            rw [hN, if_neg (by simp [he0])]
            clear hN
            (repeat refine sw_seq ?_); refine sw_region ?_
            repeat (first | refine sR (h := ?_) | refine sK (h := ?_) | refine sT (h := aM (h := ?_)) | refine sT (h := aB (h := ?_)) | refine sT (h := aA (h := ?_)) | refine sT (h := aS (h := ?_)) | refine sT (h := aL (h := ?_)))
            refine swt_nil ?_
            (repeat refine sw_seq ?_); refine sw_block ?_
            (repeat refine sw_seq ?_); refine sw_region ?_
            repeat (first | refine sR (h := ?_) | refine sK (h := ?_) | refine sT (h := aM (h := ?_)) | refine sT (h := aB (h := ?_)) | refine sT (h := aA (h := ?_)) | refine sT (h := aS (h := ?_)) | refine sT (h := aL (h := ?_)))
            refine swt_nil ?_
            (repeat refine sw_seq ?_); refine sw_cond rfl (fun h5 => ?_) (fun h5 => ?_)
            · cases h5
            · (repeat refine sw_seq ?_); refine sw_region ?_
              repeat (first | refine sR (h := ?_) | refine sK (h := ?_) | refine sT (h := aM (h := ?_)) | refine sT (h := aB (h := ?_)) | refine sT (h := aA (h := ?_)) | refine sT (h := aS (h := ?_)) | refine sT (h := aL (h := ?_)))
              refine swt_nil ?_
              (repeat refine sw_seq ?_); refine sw_cond rfl (fun h6 => ?_) (fun h6 => ?_)
              · cases h6
              · (repeat refine sw_seq ?_); refine sw_region ?_
                repeat (first | refine sR (h := ?_) | refine sK (h := ?_) | refine sT (h := aM (h := ?_)) | refine sT (h := aB (h := ?_)) | refine sT (h := aA (h := ?_)) | refine sT (h := aS (h := ?_)) | refine sT (h := aL (h := ?_)))
                refine swt_nil ?_
                (repeat refine sw_seq ?_); refine sw_cond rfl (fun h7 => ?_) (fun h7 => ?_)
                · cases h7
                · refine sw_skip ?_
                  have e2 : lastS 11 (S.drop lo) = ⟨[], (callS 11 ((S.drop lo).map Itm.v)).1, (callS 11 ((S.drop lo).map Itm.v)).2⟩ := rfl
                  rw [e2]
                  (repeat refine sw_seq ?_); refine sw_region ?_
                  repeat (first | refine sR (h := ?_) | refine sK (h := ?_) | refine sT (h := aM (h := ?_)) | refine sT (h := aB (h := ?_)) | refine sT (h := aA (h := ?_)) | refine sT (h := aS (h := ?_)) | refine sT (h := aL (h := ?_)))
                  refine swt_act rfl (act_call_flat rfl rfl rfl rfl (call_h 11 ((S.drop lo).map Itm.v) (fun v hv => by obtain ⟨x, hx, rfl⟩ := List.mem_map.1 hv; exact (hS x (List.mem_of_mem_drop hx)).v)) rfl rfl ?_)
                  repeat (first | refine sR (h := ?_) | refine sK (h := ?_) | refine sT (h := aM (h := ?_)) | refine sT (h := aB (h := ?_)) | refine sT (h := aA (h := ?_)) | refine sT (h := aS (h := ?_)) | refine sT (h := aL (h := ?_)))
                  refine swt_nil ?_
                  generalize callS 11 ((S.drop lo).map Itm.v) = r
                  (repeat refine sw_seq ?_); refine sw_region ?_
                  repeat (first | refine sR (h := ?_) | refine sK (h := ?_) | refine sT (h := aM (h := ?_)) | refine sT (h := aB (h := ?_)) | refine sT (h := aA (h := ?_)) | refine sT (h := aS (h := ?_)) | refine sT (h := aL (h := ?_)))
                  refine swt_nil ?_
                  (repeat refine sw_seq ?_); refine sw_ret ?_
                  exact ⟨Or.inr rfl, _, _, [(1000000, 1000000)], _, Wk.refl _, rfl, rfl, .p (CvL.agg (.cons (.nil 3) (.refl _))), rfl, rfl⟩
theorem node_12_h (val : Val) (attr : Atr) (S : List Itm) (lo : Nat) (g : List Giv) (hl : S.length ≤ 1000000) (hlo : lo + 2 = S.length) (hS : ∀ x ∈ S, x.Fit) : HoldsW Try.prog 46 [.p (.agg (Nod.mk 12 val attr).pv), .view 1000000 5 lo S.length, .p (givsP g)] (itmRow S) (.p (.agg (nodeS (Nod.mk 12 val attr) (S.drop lo) g).pv)) (itmRow S) := by
  obtain ⟨x, y, hx⟩ := drop_two hlo
  have h0 : (S.drop lo)[0]? = some x := by rw [hx]; rfl
  have h1' : (S.drop lo)[1]? = some y := by rw [hx]; rfl
  have hd0 : decS 12 (S.drop lo) = (x.is 0 || y.is 0) := by rw [hx]; rfl
  cases hdec : (x.is 0 || y.is 0) with
  | true =>
    have e : nodeS (Nod.mk 12 val attr) (S.drop lo) g = itmT false := by
      unfold nodeS
      simp only
      rw [if_neg (by omega), if_neg (by omega), hd0, hdec, if_pos rfl]; rfl
    rw [e]
    refine holdsC_of (T := TTab) ttab_ok Try.func46 (by kernel_rfl) rfl rfl rfl ?_
    (repeat refine sw_seq ?_); refine sw_region ?_
    repeat (first | refine sR (h := ?_) | refine sK (h := ?_) | refine sT (h := aM (h := ?_)) | refine sT (h := aB (h := ?_)) | refine sT (h := aA (h := ?_)) | refine sT (h := aS (h := ?_)) | refine sT (h := aL (h := ?_)))
    refine swt_nil ?_
    (repeat refine sw_seq ?_); refine sw_region ?_
    repeat (first | refine sR (h := ?_) | refine sK (h := ?_) | refine sT (h := aM (h := ?_)) | refine sT (h := aB (h := ?_)) | refine sT (h := aA (h := ?_)) | refine sT (h := aS (h := ?_)) | refine sT (h := aL (h := ?_)))
    refine swt_nil ?_
    (repeat refine sw_seq ?_); refine sw_block ?_
    (repeat refine sw_seq ?_); refine sw_region ?_
    repeat (first | refine sR (h := ?_) | refine sK (h := ?_) | refine sT (h := aM (h := ?_)) | refine sT (h := aB (h := ?_)) | refine sT (h := aA (h := ?_)) | refine sT (h := aS (h := ?_)) | refine sT (h := aL (h := ?_)))
    refine swt_nil ?_
    (repeat refine sw_seq ?_); refine sw_cond rfl (fun h1 => ?_) (fun h1 => ?_)
    · cases h1
    · (repeat refine sw_seq ?_); refine sw_region ?_
      repeat (first | refine sR (h := ?_) | refine sK (h := ?_) | refine sT (h := aM (h := ?_)) | refine sT (h := aB (h := ?_)) | refine sT (h := aA (h := ?_)) | refine sT (h := aS (h := ?_)) | refine sT (h := aL (h := ?_)))
      refine swt_nil ?_
      (repeat refine sw_seq ?_); refine sw_cond rfl (fun h2 => ?_) (fun h2 => ?_)
      · cases h2
      · (repeat refine sw_seq ?_); refine sw_region ?_
        repeat (first | refine sR (h := ?_) | refine sK (h := ?_) | refine sT (h := aM (h := ?_)) | refine sT (h := aB (h := ?_)) | refine sT (h := aA (h := ?_)) | refine sT (h := aS (h := ?_)) | refine sT (h := aL (h := ?_)))
        refine swt_nil ?_
        (repeat refine sw_seq ?_); refine sw_cond rfl (fun h3 => ?_) (fun h3 => ?_)
        rotate_left
        · cases h3
        refine sw_skip ?_
        (repeat refine sw_seq ?_); refine sw_cond rfl (fun h4 => ?_) (fun h4 => ?_)
        rotate_left
        · cases h4
        (repeat refine sw_seq ?_); refine sw_region ?_
        repeat (first | refine sR (h := ?_) | refine sK (h := ?_) | refine sT (h := aM (h := ?_)) | refine sT (h := aB (h := ?_)) | refine sT (h := aA (h := ?_)) | refine sT (h := aS (h := ?_)) | refine sT (h := aL (h := ?_)))
        refine swt_nil ?_
        (repeat refine sw_seq ?_); refine sw_region_spec (by kernel_rfl) ?_
        repeat (refine sws_read ttab_ok rfl (by exact True.intro) rfl ?_)
        refine sws_read ttab_ok rfl (by omega) rfl ?_
        refine sws_read ttab_ok (opR_elem rfl rfl rfl rfl rfl (show (S.map Itm.pv).getD (lo + Int.toNat 0) [] = x.pv from drop_get h0) rfl) (by rw [List.length_map]; omega) rfl ?_
        repeat (refine sws_read ttab_ok rfl (by exact True.intro) rfl ?_)
        refine sws_call rfl rfl rfl rfl (is_h x _) rfl rfl ?_
        repeat (refine sws_read ttab_ok rfl (by exact True.intro) rfl ?_)
        refine sws_read ttab_ok rfl (by omega) rfl ?_
        refine sws_read ttab_ok (opR_elem rfl rfl rfl rfl rfl (show (S.map Itm.pv).getD (lo + Int.toNat 1) [] = y.pv from drop_get h1') rfl) (by rw [List.length_map]; show lo + 1 < _; omega) rfl ?_
        repeat (refine sws_read ttab_ok rfl (by exact True.intro) rfl ?_)
        refine sws_call rfl rfl rfl rfl (is_h y _) rfl rfl ?_
        repeat (refine sws_read ttab_ok rfl (by exact True.intro) rfl ?_)
        refine sws_nil ?_
        (repeat refine sw_seq ?_); refine sw_cond rfl (fun h9 => ?_) (fun h9 => ?_)
        · (repeat refine sw_seq ?_); refine sw_region ?_
          repeat (first | refine sR (h := ?_) | refine sK (h := ?_) | refine sT (h := aM (h := ?_)) | refine sT (h := aB (h := ?_)) | refine sT (h := aA (h := ?_)) | refine sT (h := aS (h := ?_)) | refine sT (h := aL (h := ?_)))
          refine swt_act rfl (act_call rfl rfl rfl rfl (truth_h false) rfl rfl rfl ?_)
          repeat (first | refine sR (h := ?_) | refine sK (h := ?_) | refine sT (h := aM (h := ?_)) | refine sT (h := aB (h := ?_)) | refine sT (h := aA (h := ?_)) | refine sT (h := aS (h := ?_)) | refine sT (h := aL (h := ?_)))
          refine swt_nil ?_
          (repeat refine sw_seq ?_); refine sw_ret ?_
          exact ⟨Or.inr rfl, _, _, [(1000000, 1000000)], _, Wk.refl _, rfl, rfl, .refl _, rfl, rfl⟩
        · have h9' : (x.is 0 || y.is 0) = false := by
            rw [← h9]
            show _ = (bif x.is 0 then true else y.is 0)
            cases x.is 0 <;> rfl
          rw [hdec] at h9'
          cases h9'
  | false =>
    have hN := nodeS_last (val := val) (attr := attr) (g := g) (op := 12) (l := S.drop lo) (by omega) (by omega) (hd0.trans hdec)
    refine holdsC_of (T := TTab) ttab_ok Try.func46 (by kernel_rfl) rfl rfl rfl ?_
    (repeat refine sw_seq ?_); refine sw_region ?_
    repeat (first | refine sR (h := ?_) | refine sK (h := ?_) | refine sT (h := aM (h := ?_)) | refine sT (h := aB (h := ?_)) | refine sT (h := aA (h := ?_)) | refine sT (h := aS (h := ?_)) | refine sT (h := aL (h := ?_)))
    refine swt_nil ?_
    (repeat refine sw_seq ?_); refine sw_region ?_
    repeat (first | refine sR (h := ?_) | refine sK (h := ?_) | refine sT (h := aM (h := ?_)) | refine sT (h := aB (h := ?_)) | refine sT (h := aA (h := ?_)) | refine sT (h := aS (h := ?_)) | refine sT (h := aL (h := ?_)))
    refine swt_nil ?_
    (repeat refine sw_seq ?_); refine sw_block ?_
    (repeat refine sw_seq ?_); refine sw_region ?_
    repeat (first | refine sR (h := ?_) | refine sK (h := ?_) | refine sT (h := aM (h := ?_)) | refine sT (h := aB (h := ?_)) | refine sT (h := aA (h := ?_)) | refine sT (h := aS (h := ?_)) | refine sT (h := aL (h := ?_)))
    refine swt_nil ?_
    (repeat refine sw_seq ?_); refine sw_cond rfl (fun h1 => ?_) (fun h1 => ?_)
    · cases h1
    · (repeat refine sw_seq ?_); refine sw_region ?_
      repeat (first | refine sR (h := ?_) | refine sK (h := ?_) | refine sT (h := aM (h := ?_)) | refine sT (h := aB (h := ?_)) | refine sT (h := aA (h := ?_)) | refine sT (h := aS (h := ?_)) | refine sT (h := aL (h := ?_)))
      refine swt_nil ?_
      (repeat refine sw_seq ?_); refine sw_cond rfl (fun h2 => ?_) (fun h2 => ?_)
      · cases h2
      · (repeat refine sw_seq ?_); refine sw_region ?_
        repeat (first | refine sR (h := ?_) | refine sK (h := ?_) | refine sT (h := aM (h := ?_)) | refine sT (h := aB (h := ?_)) | refine sT (h := aA (h := ?_)) | refine sT (h := aS (h := ?_)) | refine sT (h := aL (h := ?_)))
        refine swt_nil ?_
        (repeat refine sw_seq ?_); refine sw_cond rfl (fun h3 => ?_) (fun h3 => ?_)
        rotate_left
        · cases h3
        refine sw_skip ?_
        (repeat refine sw_seq ?_); refine sw_cond rfl (fun h4 => ?_) (fun h4 => ?_)
        rotate_left
        · cases h4
        (repeat refine sw_seq ?_); refine sw_region ?_
        repeat (first | refine sR (h := ?_) | refine sK (h := ?_) | refine sT (h := aM (h := ?_)) | refine sT (h := aB (h := ?_)) | refine sT (h := aA (h := ?_)) | refine sT (h := aS (h := ?_)) | refine sT (h := aL (h := ?_)))
        refine swt_nil ?_
        (repeat refine sw_seq ?_); refine sw_region_spec (by kernel_rfl) ?_
        repeat (refine sws_read ttab_ok rfl (by exact True.intro) rfl ?_)
        refine sws_read ttab_ok rfl (by omega) rfl ?_
        refine sws_read ttab_ok (opR_elem rfl rfl rfl rfl rfl (show (S.map Itm.pv).getD (lo + Int.toNat 0) [] = x.pv from drop_get h0) rfl) (by rw [List.length_map]; omega) rfl ?_
        repeat (refine sws_read ttab_ok rfl (by exact True.intro) rfl ?_)
        refine sws_call rfl rfl rfl rfl (is_h x _) rfl rfl ?_
        repeat (refine sws_read ttab_ok rfl (by exact True.intro) rfl ?_)
        refine sws_read ttab_ok rfl (by omega) rfl ?_
        refine sws_read ttab_ok (opR_elem rfl rfl rfl rfl rfl (show (S.map Itm.pv).getD (lo + Int.toNat 1) [] = y.pv from drop_get h1') rfl) (by rw [List.length_map]; show lo + 1 < _; omega) rfl ?_
        repeat (refine sws_read ttab_ok rfl (by exact True.intro) rfl ?_)
        refine sws_call rfl rfl rfl rfl (is_h y _) rfl rfl ?_
        repeat (refine sws_read ttab_ok rfl (by exact True.intro) rfl ?_)
        refine sws_nil ?_
        (repeat refine sw_seq ?_); refine sw_cond rfl (fun h9 => ?_) (fun h9 => ?_)
        · have h9' : (x.is 0 || y.is 0) = true := by
            rw [← h9]
            show _ = (bif x.is 0 then true else y.is 0)
            cases x.is 0 <;> rfl
          rw [hdec] at h9'
          cases h9'
        · refine sw_skip ?_
          clear h0 h1' hx
          refine SW.wk (wk_only [1, 3, 6] [(1000000, 1000000), (3, 3), (6, 6)] rfl rfl) ?_
          (repeat refine sw_seq ?_); refine sw_region ?_
          repeat (first | refine sR (h := ?_) | refine sK (h := ?_) | refine sT (h := aM (h := ?_)) | refine sT (h := aB (h := ?_)) | refine sT (h := aA (h := ?_)) | refine sT (h := aS (h := ?_)) | refine sT (h := aL (h := ?_)))
          refine swt_nil ?_
          (repeat refine sw_seq ?_); refine sw_region ?_
          repeat (first | refine sR (h := ?_) | refine sK (h := ?_) | refine sT (h := aM (h := ?_)) | refine sT (h := aB (h := ?_)) | refine sT (h := aA (h := ?_)) | refine sT (h := aS (h := ?_)) | refine sT (h := aL (h := ?_)))
          refine swt_nil ?_
          (repeat refine sw_seq ?_); refine sw_block ?_
          refine SW.wk (wk_nil 10 900 24 3 rfl rfl) ?_
          refine SW.wk (wk_only [1, 3, 6, 10, 55, 56, 57] [(1000000, 1000000), (3, 3), (6, 6), (900, 0)] rfl rfl) ?_
          refine sw_loop (fun m s => ∃ (k : Nat) (kk : Int), k ≤ (S.drop lo).length ∧ m = (S.drop lo).length - k ∧ kk = k ∧ errS ((S.drop lo).take k) = 0 ∧ s = ⟨122, [(1, .view 1000000 5 lo S.length), (3, .ptr 3 0), (6, .ptr 6 0), (10, .row 0), (55, .view 1000000 5 lo S.length), (56, .p (pI ((S.length - lo : Nat) : Int))), (57, .p (pI kk))], [(1000000, .row 87 5 (S.map Itm.pv)), (3, .cells ((Nod.mk 12 val attr).pv.map .p)), (6, .cells (([.v (.slice none 0 0), pI 0, pI 0, pS ⟨#[]⟩, pI 0] : List PV).map .p)), (0, .row 24 3 ((((S.drop lo).take k).map Itm.v).map Val.pv))]⟩) (S.drop lo).length ⟨0, 0, Nat.zero_le _, rfl, rfl, rfl, rfl⟩ ?_
          rintro m s ⟨k, _, hk, rfl, rfl, he0, rfl⟩
          (repeat refine sw_seq ?_); refine sw_region ?_
          repeat (first | refine sR (h := ?_) | refine sK (h := ?_) | refine sT (h := aM (h := ?_)) | refine sT (h := aB (h := ?_)) | refine sT (h := aA (h := ?_)) | refine sT (h := aS (h := ?_)) | refine sT (h := aL (h := ?_)))
          refine swt_nil ?_
          (repeat refine sw_seq ?_); refine sw_cond rfl (fun hlt => ?_) (fun hlt => ?_)
          · refine sw_skip ?_
            have hlt' : k < (S.drop lo).length := by rw [List.length_drop]; simpa using hlt
            have hk2 : k < S.length - lo := by rwa [List.length_drop] at hlt'
            have hget : (S.drop lo)[k]? = some (S.drop lo)[k] := List.getElem?_eq_getElem hlt'
            (repeat refine sw_seq ?_); refine sw_block ?_
            (repeat refine sw_seq ?_); refine sw_region ?_
            repeat (first | refine sR (h := ?_) | refine sK (h := ?_) | refine sT (h := aM (h := ?_)) | refine sT (h := aB (h := ?_)) | refine sT (h := aA (h := ?_)) | refine sT (h := aS (h := ?_)) | refine sT (h := aL (h := ?_)))
            refine swt_read ttab_ok rfl rfl (by omega) rfl ?_
            repeat (first | refine sR (h := ?_) | refine sK (h := ?_) | refine sT (h := aM (h := ?_)) | refine sT (h := aB (h := ?_)) | refine sT (h := aA (h := ?_)) | refine sT (h := aS (h := ?_)) | refine sT (h := aL (h := ?_)))
            refine swt_read ttab_ok rfl (opR_elem rfl rfl rfl rfl rfl (show (S.map Itm.pv).getD (lo + Int.toNat (k : Int)) [] = (S.drop lo)[k].pv from drop_get hget) rfl) (by rw [List.length_map, Int.toNat_natCast]; omega) rfl ?_
            repeat (first | refine sR (h := ?_) | refine sK (h := ?_) | refine sT (h := aM (h := ?_)) | refine sT (h := aB (h := ?_)) | refine sT (h := aA (h := ?_)) | refine sT (h := aS (h := ?_)) | refine sT (h := aL (h := ?_)))
            refine swt_nil ?_
            (repeat refine sw_seq ?_); refine sw_region ?_
            repeat (first | refine sR (h := ?_) | refine sK (h := ?_) | refine sT (h := aM (h := ?_)) | refine sT (h := aB (h := ?_)) | refine sT (h := aA (h := ?_)) | refine sT (h := aS (h := ?_)) | refine sT (h := aL (h := ?_)))
            refine swt_nil ?_
            (repeat refine sw_seq ?_); refine sw_cond rfl (fun hne => ?_) (fun hne => ?_)
            · have hne' : (S.drop lo)[k].e ≠ 0 := by simpa using hne
              have e1 := errS_at hlt' he0 hne'
              rw [hN, e1, if_pos hne']
              (repeat refine sw_seq ?_); refine sw_region ?_
              repeat (first | refine sR (h := ?_) | refine sK (h := ?_) | refine sT (h := aM (h := ?_)) | refine sT (h := aB (h := ?_)) | refine sT (h := aA (h := ?_)) | refine sT (h := aS (h := ?_)) | refine sT (h := aL (h := ?_)))
              refine swt_nil ?_
              (repeat refine sw_seq ?_); refine sw_ret ?_
              exact ⟨Or.inr rfl, _, _, [(1000000, 1000000)], _, Wk.refl _, rfl, rfl, .p (CvL.agg (.cons (.nil 3) (.refl _))), rfl, rfl⟩
            · have hne' : (S.drop lo)[k].e = 0 := by simpa using hne
              refine sw_skip ?_
              (repeat refine sw_seq ?_); refine sw_region ?_
              repeat (first | refine sR (h := ?_) | refine sK (h := ?_) | refine sT (h := aM (h := ?_)) | refine sT (h := aB (h := ?_)) | refine sT (h := aA (h := ?_)) | refine sT (h := aS (h := ?_)) | refine sT (h := aL (h := ?_)))
              refine swt_act rfl (act_append_row ttab_ok rfl rfl rfl rfl rfl rfl rfl rfl rfl rfl rfl rfl rfl rfl rfl rfl (by simp only [List.length_append, List.length_map, List.length_take, List.length_drop]; unfold reachBytes; simp; omega) (by simp only [List.length_append, List.length_map, List.length_take, List.length_drop]; simp; omega) ?_)
              repeat (first | refine sR (h := ?_) | refine sK (h := ?_) | refine sT (h := aM (h := ?_)) | refine sT (h := aB (h := ?_)) | refine sT (h := aA (h := ?_)) | refine sT (h := aS (h := ?_)) | refine sT (h := aL (h := ?_)))
              refine swt_nil ?_
              (repeat refine sw_seq ?_); refine sw_region ?_
              repeat (first | refine sR (h := ?_) | refine sK (h := ?_) | refine sT (h := aM (h := ?_)) | refine sT (h := aB (h := ?_)) | refine sT (h := aA (h := ?_)) | refine sT (h := aS (h := ?_)) | refine sT (h := aL (h := ?_)))
              refine swt_nil ?_
              refine ⟨_, _, ?_, wk_only [1, 3, 6, 10, 55, 56, 57] [(1000000, 1000000), (3, 3), (6, 6), (71, 0)] rfl rfl, k + 1, _, hlt', rfl, wrap_succ hlt' (by rw [List.length_drop]; omega), errS_step hlt' he0 hne', ?_⟩
              · omega
              · rw [List.take_succ_eq_append_getElem hlt', List.map_append, List.map_append]; rfl
          · refine sw_exit ?_
            have hkk : k = (S.drop lo).length := by
              have : ¬ (k : Int) < ((S.length - lo : Nat) : Int) := by simpa using hlt
              rw [List.length_drop] at hk ⊢
              omega
            subst hkk
            rw [List.take_length] at he0 ⊢
            rw [hN, if_neg (by simp [he0])]
            clear hN
            (repeat refine sw_seq ?_); refine sw_region ?_
            repeat (first | refine sR (h := ?_) | refine sK (h := ?_) | refine sT (h := aM (h := ?_)) | refine sT (h := aB (h := ?_)) | refine sT (h := aA (h := ?_)) | refine sT (h := aS (h := ?_)) | refine sT (h := aL (h := ?_)))
            refine swt_nil ?_
            (repeat refine sw_seq ?_); refine sw_block ?_
            (repeat refine sw_seq ?_); refine sw_region ?_
            repeat (first | refine sR (h := ?_) | refine sK (h := ?_) | refine sT (h := aM (h := ?_)) | refine sT (h := aB (h := ?_)) | refine sT (h := aA (h := ?_)) | refine sT (h := aS (h := ?_)) | refine sT (h := aL (h := ?_)))
            refine swt_nil ?_
            (repeat refine sw_seq ?_); refine sw_cond rfl (fun h5 => ?_) (fun h5 => ?_)
            · cases h5
            · (repeat refine sw_seq ?_); refine sw_region ?_
              repeat (first | refine sR (h := ?_) | refine sK (h := ?_) | refine sT (h := aM (h := ?_)) | refine sT (h := aB (h := ?_)) | refine sT (h := aA (h := ?_)) | refine sT (h := aS (h := ?_)) | refine sT (h := aL (h := ?_)))
              refine swt_nil ?_
              (repeat refine sw_seq ?_); refine sw_cond rfl (fun h6 => ?_) (fun h6 => ?_)
              · cases h6
              · (repeat refine sw_seq ?_); refine sw_region ?_
                repeat (first | refine sR (h := ?_) | refine sK (h := ?_) | refine sT (h := aM (h := ?_)) | refine sT (h := aB (h := ?_)) | refine sT (h := aA (h := ?_)) | refine sT (h := aS (h := ?_)) | refine sT (h := aL (h := ?_)))
                refine swt_nil ?_
                (repeat refine sw_seq ?_); refine sw_cond rfl (fun h7 => ?_) (fun h7 => ?_)
                · cases h7
                · refine sw_skip ?_
                  have e2 : lastS 12 (S.drop lo) = ⟨[], (callS 12 ((S.drop lo).map Itm.v)).1, (callS 12 ((S.drop lo).map Itm.v)).2⟩ := rfl
                  rw [e2]
                  (repeat refine sw_seq ?_); refine sw_region ?_
                  repeat (first | refine sR (h := ?_) | refine sK (h := ?_) | refine sT (h := aM (h := ?_)) | refine sT (h := aB (h := ?_)) | refine sT (h := aA (h := ?_)) | refine sT (h := aS (h := ?_)) | refine sT (h := aL (h := ?_)))
                  refine swt_act rfl (act_call_flat rfl rfl rfl rfl (call_h 12 ((S.drop lo).map Itm.v) (fun v hv => by obtain ⟨x, hx, rfl⟩ := List.mem_map.1 hv; exact (hS x (List.mem_of_mem_drop hx)).v)) rfl rfl ?_)
                  repeat (first | refine sR (h := ?_) | refine sK (h := ?_) | refine sT (h := aM (h := ?_)) | refine sT (h := aB (h := ?_)) | refine sT (h := aA (h := ?_)) | refine sT (h := aS (h := ?_)) | refine sT (h := aL (h := ?_)))
                  refine swt_nil ?_
                  generalize callS 12 ((S.drop lo).map Itm.v) = r
                  (repeat refine sw_seq ?_); refine sw_region ?_
                  repeat (first | refine sR (h := ?_) | refine sK (h := ?_) | refine sT (h := aM (h := ?_)) | refine sT (h := aB (h := ?_)) | refine sT (h := aA (h := ?_)) | refine sT (h := aS (h := ?_)) | refine sT (h := aL (h := ?_)))
                  refine swt_nil ?_
                  (repeat refine sw_seq ?_); refine sw_ret ?_
                  exact ⟨Or.inr rfl, _, _, [(1000000, 1000000)], _, Wk.refl _, rfl, rfl, .p (CvL.agg (.cons (.nil 3) (.refl _))), rfl, rfl⟩
theorem node_13_h (val : Val) (attr : Atr) (S : List Itm) (lo : Nat) (g : List Giv) (hl : S.length ≤ 1000000) (hlo : lo + 2 = S.length) (hS : ∀ x ∈ S, x.Fit) : HoldsW Try.prog 46 [.p (.agg (Nod.mk 13 val attr).pv), .view 1000000 5 lo S.length, .p (givsP g)] (itmRow S) (.p (.agg (nodeS (Nod.mk 13 val attr) (S.drop lo) g).pv)) (itmRow S) := by
  obtain ⟨x, y, hx⟩ := drop_two hlo
  have h0 : (S.drop lo)[0]? = some x := by rw [hx]; rfl
  have h1' : (S.drop lo)[1]? = some y := by rw [hx]; rfl
  have hd0 : decS 13 (S.drop lo) = (x.is 1 || y.is 1) := by rw [hx]; rfl
  cases hdec : (x.is 1 || y.is 1) with
  | true =>
    have e : nodeS (Nod.mk 13 val attr) (S.drop lo) g = itmT true := by
      unfold nodeS
      simp only
      rw [if_neg (by omega), if_neg (by omega), hd0, hdec, if_pos rfl]; rfl
    rw [e]
    refine holdsC_of (T := TTab) ttab_ok Try.func46 (by kernel_rfl) rfl rfl rfl ?_
    (repeat refine sw_seq ?_); refine sw_region ?_
    repeat (first | refine sR (h := ?_) | refine sK (h := ?_) | refine sT (h := aM (h := ?_)) | refine sT (h := aB (h := ?_)) | refine sT (h := aA (h := ?_)) | refine sT (h := aS (h := ?_)) | refine sT (h := aL (h := ?_)))
    refine swt_nil ?_
    (repeat refine sw_seq ?_); refine sw_region ?_
    repeat (first | refine sR (h := ?_) | refine sK (h := ?_) | refine sT (h := aM (h := ?_)) | refine sT (h := aB (h := ?_)) | refine sT (h := aA (h := ?_)) | refine sT (h := aS (h := ?_)) | refine sT (h := aL (h := ?_)))
    refine swt_nil ?_
    (repeat refine sw_seq ?_); refine sw_block ?_
    (repeat refine sw_seq ?_); refine sw_region ?_
    repeat (first | refine sR (h := ?_) | refine sK (h := ?_) | refine sT (h := aM (h := ?_)) | refine sT (h := aB (h := ?_)) | refine sT (h := aA (h := ?_)) | refine sT (h := aS (h := ?_)) | refine sT (h := aL (h := ?_)))
    refine swt_nil ?_
    (repeat refine sw_seq ?_); refine sw_cond rfl (fun h1 => ?_) (fun h1 => ?_)
    · cases h1
    · (repeat refine sw_seq ?_); refine sw_region ?_
      repeat (first | refine sR (h := ?_) | refine sK (h := ?_) | refine sT (h := aM (h := ?_)) | refine sT (h := aB (h := ?_)) | refine sT (h := aA (h := ?_)) | refine sT (h := aS (h := ?_)) | refine sT (h := aL (h := ?_)))
      refine swt_nil ?_
      (repeat refine sw_seq ?_); refine sw_cond rfl (fun h2 => ?_) (fun h2 => ?_)
      · cases h2
      · (repeat refine sw_seq ?_); refine sw_region ?_
        repeat (first | refine sR (h := ?_) | refine sK (h := ?_) | refine sT (h := aM (h := ?_)) | refine sT (h := aB (h := ?_)) | refine sT (h := aA (h := ?_)) | refine sT (h := aS (h := ?_)) | refine sT (h := aL (h := ?_)))
        refine swt_nil ?_
        (repeat refine sw_seq ?_); refine sw_cond rfl (fun h3 => ?_) (fun h3 => ?_)
        · cases h3
        (repeat refine sw_seq ?_); refine sw_region ?_
        repeat (first | refine sR (h := ?_) | refine sK (h := ?_) | refine sT (h := aM (h := ?_)) | refine sT (h := aB (h := ?_)) | refine sT (h := aA (h := ?_)) | refine sT (h := aS (h := ?_)) | refine sT (h := aL (h := ?_)))
        refine swt_nil ?_
        (repeat refine sw_seq ?_); refine sw_cond rfl (fun h4 => ?_) (fun h4 => ?_)
        rotate_left
        · cases h4
        (repeat refine sw_seq ?_); refine sw_region ?_
        repeat (first | refine sR (h := ?_) | refine sK (h := ?_) | refine sT (h := aM (h := ?_)) | refine sT (h := aB (h := ?_)) | refine sT (h := aA (h := ?_)) | refine sT (h := aS (h := ?_)) | refine sT (h := aL (h := ?_)))
        refine swt_nil ?_
        (repeat refine sw_seq ?_); refine sw_region_spec (by kernel_rfl) ?_
        repeat (refine sws_read ttab_ok rfl (by exact True.intro) rfl ?_)
        refine sws_read ttab_ok rfl (by omega) rfl ?_
        refine sws_read ttab_ok (opR_elem rfl rfl rfl rfl rfl (show (S.map Itm.pv).getD (lo + Int.toNat 0) [] = x.pv from drop_get h0) rfl) (by rw [List.length_map]; omega) rfl ?_
        repeat (refine sws_read ttab_ok rfl (by exact True.intro) rfl ?_)
        refine sws_call rfl rfl rfl rfl (is_h x _) rfl rfl ?_
        repeat (refine sws_read ttab_ok rfl (by exact True.intro) rfl ?_)
        refine sws_read ttab_ok rfl (by omega) rfl ?_
        refine sws_read ttab_ok (opR_elem rfl rfl rfl rfl rfl (show (S.map Itm.pv).getD (lo + Int.toNat 1) [] = y.pv from drop_get h1') rfl) (by rw [List.length_map]; show lo + 1 < _; omega) rfl ?_
        repeat (refine sws_read ttab_ok rfl (by exact True.intro) rfl ?_)
        refine sws_call rfl rfl rfl rfl (is_h y _) rfl rfl ?_
        repeat (refine sws_read ttab_ok rfl (by exact True.intro) rfl ?_)
        refine sws_nil ?_
        (repeat refine sw_seq ?_); refine sw_cond rfl (fun h9 => ?_) (fun h9 => ?_)
        · (repeat refine sw_seq ?_); refine sw_region ?_
          repeat (first | refine sR (h := ?_) | refine sK (h := ?_) | refine sT (h := aM (h := ?_)) | refine sT (h := aB (h := ?_)) | refine sT (h := aA (h := ?_)) | refine sT (h := aS (h := ?_)) | refine sT (h := aL (h := ?_)))
          refine swt_act rfl (act_call rfl rfl rfl rfl (truth_h true) rfl rfl rfl ?_)
          repeat (first | refine sR (h := ?_) | refine sK (h := ?_) | refine sT (h := aM (h := ?_)) | refine sT (h := aB (h := ?_)) | refine sT (h := aA (h := ?_)) | refine sT (h := aS (h := ?_)) | refine sT (h := aL (h := ?_)))
          refine swt_nil ?_
          (repeat refine sw_seq ?_); refine sw_ret ?_
          exact ⟨Or.inr rfl, _, _, [(1000000, 1000000)], _, Wk.refl _, rfl, rfl, .refl _, rfl, rfl⟩
        · have h9' : (x.is 1 || y.is 1) = false := by
            rw [← h9]
            show _ = (bif x.is 1 then true else y.is 1)
            cases x.is 1 <;> rfl
          rw [hdec] at h9'
          cases h9'
  | false =>
    have hN := nodeS_last (val := val) (attr := attr) (g := g) (op := 13) (l := S.drop lo) (by omega) (by omega) (hd0.trans hdec)
    refine holdsC_of (T := TTab) ttab_ok Try.func46 (by kernel_rfl) rfl rfl rfl ?_
    (repeat refine sw_seq ?_); refine sw_region ?_
    repeat (first | refine sR (h := ?_) | refine sK (h := ?_) | refine sT (h := aM (h := ?_)) | refine sT (h := aB (h := ?_)) | refine sT (h := aA (h := ?_)) | refine sT (h := aS (h := ?_)) | refine sT (h := aL (h := ?_)))
    refine swt_nil ?_
    (repeat refine sw_seq ?_); refine sw_region ?_
    repeat (first | refine sR (h := ?_) | refine sK (h := ?_) | refine sT (h := aM (h := ?_)) | refine sT (h := aB (h := ?_)) | refine sT (h := aA (h := ?_)) | refine sT (h := aS (h := ?_)) | refine sT (h := aL (h := ?_)))
    refine swt_nil ?_
    (repeat refine sw_seq ?_); refine sw_block ?_
    (repeat refine sw_seq ?_); refine sw_region ?_
    repeat (first | refine sR (h := ?_) | refine sK (h := ?_) | refine sT (h := aM (h := ?_)) | refine sT (h := aB (h := ?_)) | refine sT (h := aA (h := ?_)) | refine sT (h := aS (h := ?_)) | refine sT (h := aL (h := ?_)))
    refine swt_nil ?_
    (repeat refine sw_seq ?_); refine sw_cond rfl (fun h1 => ?_) (fun h1 => ?_)
    · cases h1
    · (repeat refine sw_seq ?_); refine sw_region ?_
      repeat (first | refine sR (h := ?_) | refine sK (h := ?_) | refine sT (h := aM (h := ?_)) | refine sT (h := aB (h := ?_)) | refine sT (h := aA (h := ?_)) | refine sT (h := aS (h := ?_)) | refine sT (h := aL (h := ?_)))
      refine swt_nil ?_
      (repeat refine sw_seq ?_); refine sw_cond rfl (fun h2 => ?_) (fun h2 => ?_)
      · cases h2
      · (repeat refine sw_seq ?_); refine sw_region ?_
        repeat (first | refine sR (h := ?_) | refine sK (h := ?_) | refine sT (h := aM (h := ?_)) | refine sT (h := aB (h := ?_)) | refine sT (h := aA (h := ?_)) | refine sT (h := aS (h := ?_)) | refine sT (h := aL (h := ?_)))
        refine swt_nil ?_
        (repeat refine sw_seq ?_); refine sw_cond rfl (fun h3 => ?_) (fun h3 => ?_)
        · cases h3
        (repeat refine sw_seq ?_); refine sw_region ?_
        repeat (first | refine sR (h := ?_) | refine sK (h := ?_) | refine sT (h := aM (h := ?_)) | refine sT (h := aB (h := ?_)) | refine sT (h := aA (h := ?_)) | refine sT (h := aS (h := ?_)) | refine sT (h := aL (h := ?_)))
        refine swt_nil ?_
        (repeat refine sw_seq ?_); refine sw_cond rfl (fun h4 => ?_) (fun h4 => ?_)
        rotate_left
        · cases h4
        (repeat refine sw_seq ?_); refine sw_region ?_
        repeat (first | refine sR (h := ?_) | refine sK (h := ?_) | refine sT (h := aM (h := ?_)) | refine sT (h := aB (h := ?_)) | refine sT (h := aA (h := ?_)) | refine sT (h := aS (h := ?_)) | refine sT (h := aL (h := ?_)))
        refine swt_nil ?_
        (repeat refine sw_seq ?_); refine sw_region_spec (by kernel_rfl) ?_
        repeat (refine sws_read ttab_ok rfl (by exact True.intro) rfl ?_)
        refine sws_read ttab_ok rfl (by omega) rfl ?_
        refine sws_read ttab_ok (opR_elem rfl rfl rfl rfl rfl (show (S.map Itm.pv).getD (lo + Int.toNat 0) [] = x.pv from drop_get h0) rfl) (by rw [List.length_map]; omega) rfl ?_
        repeat (refine sws_read ttab_ok rfl (by exact True.intro) rfl ?_)
        refine sws_call rfl rfl rfl rfl (is_h x _) rfl rfl ?_
        repeat (refine sws_read ttab_ok rfl (by exact True.intro) rfl ?_)
        refine sws_read ttab_ok rfl (by omega) rfl ?_
        refine sws_read ttab_ok (opR_elem rfl rfl rfl rfl rfl (show (S.map Itm.pv).getD (lo + Int.toNat 1) [] = y.pv from drop_get h1') rfl) (by rw [List.length_map]; show lo + 1 < _; omega) rfl ?_
        repeat (refine sws_read ttab_ok rfl (by exact True.intro) rfl ?_)
        refine sws_call rfl rfl rfl rfl (is_h y _) rfl rfl ?_
        repeat (refine sws_read ttab_ok rfl (by exact True.intro) rfl ?_)
        refine sws_nil ?_
        (repeat refine sw_seq ?_); refine sw_cond rfl (fun h9 => ?_) (fun h9 => ?_)
        · have h9' : (x.is 1 || y.is 1) = true := by
            rw [← h9]
            show _ = (bif x.is 1 then true else y.is 1)
            cases x.is 1 <;> rfl
          rw [hdec] at h9'
          cases h9'
        · refine sw_skip ?_
          clear h0 h1' hx
          refine SW.wk (wk_only [1, 3, 6] [(1000000, 1000000), (3, 3), (6, 6)] rfl rfl) ?_
          (repeat refine sw_seq ?_); refine sw_region ?_
          repeat (first | refine sR (h := ?_) | refine sK (h := ?_) | refine sT (h := aM (h := ?_)) | refine sT (h := aB (h := ?_)) | refine sT (h := aA (h := ?_)) | refine sT (h := aS (h := ?_)) | refine sT (h := aL (h := ?_)))
          refine swt_nil ?_
          (repeat refine sw_seq ?_); refine sw_region ?_
          repeat (first | refine sR (h := ?_) | refine sK (h := ?_) | refine sT (h := aM (h := ?_)) | refine sT (h := aB (h := ?_)) | refine sT (h := aA (h := ?_)) | refine sT (h := aS (h := ?_)) | refine sT (h := aL (h := ?_)))
          refine swt_nil ?_
          (repeat refine sw_seq ?_); refine sw_block ?_
          refine SW.wk (wk_nil 10 900 24 3 rfl rfl) ?_
          refine SW.wk (wk_only [1, 3, 6, 10, 55, 56, 57] [(1000000, 1000000), (3, 3), (6, 6), (900, 0)] rfl rfl) ?_
          refine sw_loop (fun m s => ∃ (k : Nat) (kk : Int), k ≤ (S.drop lo).length ∧ m = (S.drop lo).length - k ∧ kk = k ∧ errS ((S.drop lo).take k) = 0 ∧ s = ⟨122, [(1, .view 1000000 5 lo S.length), (3, .ptr 3 0), (6, .ptr 6 0), (10, .row 0), (55, .view 1000000 5 lo S.length), (56, .p (pI ((S.length - lo : Nat) : Int))), (57, .p (pI kk))], [(1000000, .row 87 5 (S.map Itm.pv)), (3, .cells ((Nod.mk 13 val attr).pv.map .p)), (6, .cells (([.v (.slice none 0 0), pI 0, pI 0, pS ⟨#[]⟩, pI 0] : List PV).map .p)), (0, .row 24 3 ((((S.drop lo).take k).map Itm.v).map Val.pv))]⟩) (S.drop lo).length ⟨0, 0, Nat.zero_le _, rfl, rfl, rfl, rfl⟩ ?_
          rintro m s ⟨k, _, hk, rfl, rfl, he0, rfl⟩
          (repeat refine sw_seq ?_); refine sw_region ?_
          repeat (first | refine sR (h := ?_) | refine sK (h := ?_) | refine sT (h := aM (h := ?_)) | refine sT (h := aB (h := ?_)) | refine sT (h := aA (h := ?_)) | refine sT (h := aS (h := ?_)) | refine sT (h := aL (h := ?_)))
          refine swt_nil ?_
          (repeat refine sw_seq ?_); refine sw_cond rfl (fun hlt => ?_) (fun hlt => ?_)
          · refine sw_skip ?_
            have hlt' : k < (S.drop lo).length := by rw [List.length_drop]; simpa using hlt
            have hk2 : k < S.length - lo := by rwa [List.length_drop] at hlt'
            have hget : (S.drop lo)[k]? = some (S.drop lo)[k] := List.getElem?_eq_getElem hlt'
            (repeat refine sw_seq ?_); refine sw_block ?_
            (repeat refine sw_seq ?_); refine sw_region ?_
            repeat (first | refine sR (h := ?_) | refine sK (h := ?_) | refine sT (h := aM (h := ?_)) | refine sT (h := aB (h := ?_)) | refine sT (h := aA (h := ?_)) | refine sT (h := aS (h := ?_)) | refine sT (h := aL (h := ?_)))
            refine swt_read ttab_ok rfl rfl (by omega) rfl ?_
            repeat (first | refine sR (h := ?_) | refine sK (h := ?_) | refine sT (h := aM (h := ?_)) | refine sT (h := aB (h := ?_)) | refine sT (h := aA (h := ?_)) | refine sT (h := aS (h := ?_)) | refine sT (h := aL (h := ?_)))
            refine swt_read ttab_ok rfl (opR_elem rfl rfl rfl rfl rfl (show (S.map Itm.pv).getD (lo + Int.toNat (k : Int)) [] = (S.drop lo)[k].pv from drop_get hget) rfl) (by rw [List.length_map, Int.toNat_natCast]; omega) rfl ?_
            repeat (first | refine sR (h := ?_) | refine sK (h := ?_) | refine sT (h := aM (h := ?_)) | refine sT (h := aB (h := ?_)) | refine sT (h := aA (h := ?_)) | refine sT (h := aS (h := ?_)) | refine sT (h := aL (h := ?_)))
            refine swt_nil ?_
            (repeat refine sw_seq ?_); refine sw_region ?_
            repeat (first | refine sR (h := ?_) | refine sK (h := ?_) | refine sT (h := aM (h := ?_)) | refine sT (h := aB (h := ?_)) | refine sT (h := aA (h := ?_)) | refine sT (h := aS (h := ?_)) | refine sT (h := aL (h := ?_)))
            refine swt_nil ?_
            (repeat refine sw_seq ?_); refine sw_cond rfl (fun hne => ?_) (fun hne => ?_)
            · have hne' : (S.drop lo)[k].e ≠ 0 := by simpa using hne
              have e1 := errS_at hlt' he0 hne'
              rw [hN, e1, if_pos hne']
              (repeat refine sw_seq ?_); refine sw_region ?_
              repeat (first | refine sR (h := ?_) | refine sK (h := ?_) | refine sT (h := aM (h := ?_)) | refine sT (h := aB (h := ?_)) | refine sT (h := aA (h := ?_)) | refine sT (h := aS (h := ?_)) | refine sT (h := aL (h := ?_)))
              refine swt_nil ?_
              (repeat refine sw_seq ?_); refine sw_ret ?_
              exact ⟨Or.inr rfl, _, _, [(1000000, 1000000)], _, Wk.refl _, rfl, rfl, .p (CvL.agg (.cons (.nil 3) (.refl _))), rfl, rfl⟩
            · have hne' : (S.drop lo)[k].e = 0 := by simpa using hne
              refine sw_skip ?_
              (repeat refine sw_seq ?_); refine sw_region ?_
              repeat (first | refine sR (h := ?_) | refine sK (h := ?_) | refine sT (h := aM (h := ?_)) | refine sT (h := aB (h := ?_)) | refine sT (h := aA (h := ?_)) | refine sT (h := aS (h := ?_)) | refine sT (h := aL (h := ?_)))
              refine swt_act rfl (act_append_row ttab_ok rfl rfl rfl rfl rfl rfl rfl rfl rfl rfl rfl rfl rfl rfl rfl rfl (by simp only [List.length_append, List.length_map, List.length_take, List.length_drop]; unfold reachBytes; simp; omega) (by simp only [List.length_append, List.length_map, List.length_take, List.length_drop]; simp; omega) ?_)
              repeat (first | refine sR (h := ?_) | refine sK (h := ?_) | refine sT (h := aM (h := ?_)) | refine sT (h := aB (h := ?_)) | refine sT (h := aA (h := ?_)) | refine sT (h := aS (h := ?_)) | refine sT (h := aL (h := ?_)))
              refine swt_nil ?_
              (repeat refine sw_seq ?_); refine sw_region ?_
              repeat (first | refine sR (h := ?_) | refine sK (h := ?_) | refine sT (h := aM (h := ?_)) | refine sT (h := aB (h := ?_)) | refine sT (h := aA (h := ?_)) | refine sT (h := aS (h := ?_)) | refine sT (h := aL (h := ?_)))
              refine swt_nil ?_
              refine ⟨_, _, ?_, wk_only [1, 3, 6, 10, 55, 56, 57] [(1000000, 1000000), (3, 3), (6, 6), (71, 0)] rfl rfl, k + 1, _, hlt', rfl, wrap_succ hlt' (by rw [List.length_drop]; omega), errS_step hlt' he0 hne', ?_⟩
              · omega
              · rw [List.take_succ_eq_append_getElem hlt', List.map_append, List.map_append]; rfl
          · refine sw_exit ?_
            have hkk : k = (S.drop lo).length := by
              have : ¬ (k : Int) < ((S.length - lo : Nat) : Int) := by simpa using hlt
              rw [List.length_drop] at hk ⊢
              omega
            subst hkk
            rw [List.take_length] at he0 ⊢
            rw [hN, if_neg (by simp [he0])]
            clear hN
            (repeat refine sw_seq ?_); refine sw_region ?_
            repeat (first | refine sR (h := ?_) | refine sK (h := ?_) | refine sT (h := aM (h := ?_)) | refine sT (h := aB (h := ?_)) | refine sT (h := aA (h := ?_)) | refine sT (h := aS (h := ?_)) | refine sT (h := aL (h := ?_)))
            refine swt_nil ?_
            (repeat refine sw_seq ?_); refine sw_block ?_
            (repeat refine sw_seq ?_); refine sw_region ?_
            repeat (first | refine sR (h := ?_) | refine sK (h := ?_) | refine sT (h := aM (h := ?_)) | refine sT (h := aB (h := ?_)) | refine sT (h := aA (h := ?_)) | refine sT (h := aS (h := ?_)) | refine sT (h := aL (h := ?_)))
            refine swt_nil ?_
            (repeat refine sw_seq ?_); refine sw_cond rfl (fun h5 => ?_) (fun h5 => ?_)
            · cases h5
            · (repeat refine sw_seq ?_); refine sw_region ?_
              repeat (first | refine sR (h := ?_) | refine sK (h := ?_) | refine sT (h := aM (h := ?_)) | refine sT (h := aB (h := ?_)) | refine sT (h := aA (h := ?_)) | refine sT (h := aS (h := ?_)) | refine sT (h := aL (h := ?_)))
              refine swt_nil ?_
              (repeat refine sw_seq ?_); refine sw_cond rfl (fun h6 => ?_) (fun h6 => ?_)
              · cases h6
              · (repeat refine sw_seq ?_); refine sw_region ?_
                repeat (first | refine sR (h := ?_) | refine sK (h := ?_) | refine sT (h := aM (h := ?_)) | refine sT (h := aB (h := ?_)) | refine sT (h := aA (h := ?_)) | refine sT (h := aS (h := ?_)) | refine sT (h := aL (h := ?_)))
                refine swt_nil ?_
                (repeat refine sw_seq ?_); refine sw_cond rfl (fun h7 => ?_) (fun h7 => ?_)
                · cases h7
                · refine sw_skip ?_
                  have e2 : lastS 13 (S.drop lo) = ⟨[], (callS 13 ((S.drop lo).map Itm.v)).1, (callS 13 ((S.drop lo).map Itm.v)).2⟩ := rfl
                  rw [e2]
                  (repeat refine sw_seq ?_); refine sw_region ?_
                  repeat (first | refine sR (h := ?_) | refine sK (h := ?_) | refine sT (h := aM (h := ?_)) | refine sT (h := aB (h := ?_)) | refine sT (h := aA (h := ?_)) | refine sT (h := aS (h := ?_)) | refine sT (h := aL (h := ?_)))
                  refine swt_act rfl (act_call_flat rfl rfl rfl rfl (call_h 13 ((S.drop lo).map Itm.v) (fun v hv => by obtain ⟨x, hx, rfl⟩ := List.mem_map.1 hv; exact (hS x (List.mem_of_mem_drop hx)).v)) rfl rfl ?_)
                  repeat (first | refine sR (h := ?_) | refine sK (h := ?_) | refine sT (h := aM (h := ?_)) | refine sT (h := aB (h := ?_)) | refine sT (h := aA (h := ?_)) | refine sT (h := aS (h := ?_)) | refine sT (h := aL (h := ?_)))
                  refine swt_nil ?_
                  generalize callS 13 ((S.drop lo).map Itm.v) = r
                  (repeat refine sw_seq ?_); refine sw_region ?_
                  repeat (first | refine sR (h := ?_) | refine sK (h := ?_) | refine sT (h := aM (h := ?_)) | refine sT (h := aB (h := ?_)) | refine sT (h := aA (h := ?_)) | refine sT (h := aS (h := ?_)) | refine sT (h := aL (h := ?_)))
                  refine swt_nil ?_
                  (repeat refine sw_seq ?_); refine sw_ret ?_
                  exact ⟨Or.inr rfl, _, _, [(1000000, 1000000)], _, Wk.refl _, rfl, rfl, .p (CvL.agg (.cons (.nil 3) (.refl _))), rfl, rfl⟩
end Go.Proofs.Ytjpcchipejmocaa
