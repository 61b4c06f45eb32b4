/-
  Shades: ask.With and what it calls.
-/
import Derived.Test.YtjpcchipejmocaaSh
import Derived.Test.YtjpcchipejmocaaPolH
import Derived.Test.YtjpcchipejmocaaAskS
namespace Go.Proofs.Ytjpcchipejmocaa
open Go.RowKit
set_option maxHeartbeats 1000000

theorem beq_bytes (a b : ByteArray) : (a.toList == b.toList) = decide (a = b) := by
  rw [Bool.eq_iff_iff]
  simp only [beq_iff_eq, decide_eq_true_eq]
  exact ⟨toList_inj, fun h => by rw [h]⟩
theorem cloneV_h (l : List Val) (hn : l.length ≤ 1000000) : Holds Try.prog 56 [valsP l] (.row 0) [(0, .row 24 3 (l.map Val.pv))] := by
  refine holds_of (ts := [2]) Try.func56 (by kernel_rfl) rfl rfl rfl ?_
  (repeat refine sw_seq ?_); refine sw_region ?_
  repeat (first | refine sR (h := ?_) | refine sK (h := ?_) | refine sT (h := aM (h := ?_)) | refine sT (h := aB (h := ?_)) | refine sT (h := aA (h := ?_)) | refine sT (h := aS (h := ?_)) | refine sT (h := aL (h := ?_)))
  refine swt_nil ?_
  (repeat refine sw_seq ?_); refine sw_region ?_
  repeat (first | refine sR (h := ?_) | refine sK (h := ?_) | refine sT (h := aM (h := ?_)) | refine sT (h := aB (h := ?_)) | refine sT (h := aA (h := ?_)) | refine sT (h := aS (h := ?_)) | refine sT (h := aL (h := ?_)))
  refine swt_act rfl (act_nilcmp ttab_ok rfl rfl rfl rfl rfl rfl (fun b hb => ?_))
  refine swt_nil ?_
  (repeat refine sw_seq ?_); refine sw_cond rfl (fun hc => ?_) (fun hc => ?_)
  · have hl := hb hc
    have hl' : l = [] := by simpa using hl
    subst hl'
    (repeat refine sw_seq ?_); refine sw_region ?_
    repeat (first | refine sR (h := ?_) | refine sK (h := ?_) | refine sT (h := aM (h := ?_)) | refine sT (h := aB (h := ?_)) | refine sT (h := aA (h := ?_)) | refine sT (h := aS (h := ?_)) | refine sT (h := aL (h := ?_)))
    refine swt_nil ?_
    (repeat refine sw_seq ?_); refine sw_ret ?_
    exact ⟨Or.inr rfl, _, _, [(0, 0)], wk_nil 2 0 24 3 rfl rfl, rfl, rfl, rfl, rfl⟩
  · refine sw_skip ?_
    (repeat refine sw_seq ?_); refine sw_region ?_
    repeat (first | refine sR (h := ?_) | refine sK (h := ?_) | refine sT (h := aM (h := ?_)) | refine sT (h := aB (h := ?_)) | refine sT (h := aA (h := ?_)) | refine sT (h := aS (h := ?_)) | refine sT (h := aL (h := ?_)))
    refine swt_act rfl (act_append_row ttab_ok rfl rfl rfl rfl rfl rfl rfl rfl rfl rfl rfl rfl rfl rfl rfl rfl (by simp [reachBytes]; omega) (by simp; omega) ?_)
    repeat (first | refine sR (h := ?_) | refine sK (h := ?_) | refine sT (h := aM (h := ?_)) | refine sT (h := aB (h := ?_)) | refine sT (h := aA (h := ?_)) | refine sT (h := aS (h := ?_)) | refine sT (h := aL (h := ?_)))
    refine swt_nil ?_
    (repeat refine sw_seq ?_); refine sw_ret ?_
    exact ⟨Or.inr rfl, _, _, [(7, 0)], Wk.refl _, rfl, rfl, rfl, rfl⟩
theorem cloneG_h (l : List Giv) (hn : l.length ≤ 1000000) : Holds Try.prog 75 [givsP l] (.row 0) [(0, .row 49 3 (l.map Giv.pv))] := by
  refine holds_of (ts := [2]) Try.func75 (by kernel_rfl) rfl rfl rfl ?_
  (repeat refine sw_seq ?_); refine sw_region ?_
  repeat (first | refine sR (h := ?_) | refine sK (h := ?_) | refine sT (h := aM (h := ?_)) | refine sT (h := aB (h := ?_)) | refine sT (h := aA (h := ?_)) | refine sT (h := aS (h := ?_)) | refine sT (h := aL (h := ?_)))
  refine swt_nil ?_
  (repeat refine sw_seq ?_); refine sw_region ?_
  repeat (first | refine sR (h := ?_) | refine sK (h := ?_) | refine sT (h := aM (h := ?_)) | refine sT (h := aB (h := ?_)) | refine sT (h := aA (h := ?_)) | refine sT (h := aS (h := ?_)) | refine sT (h := aL (h := ?_)))
  refine swt_act rfl (act_nilcmp ttab_ok rfl rfl rfl rfl rfl rfl (fun b hb => ?_))
  refine swt_nil ?_
  (repeat refine sw_seq ?_); refine sw_cond rfl (fun hc => ?_) (fun hc => ?_)
  · have hl := hb hc
    have hl' : l = [] := by simpa using hl
    subst hl'
    (repeat refine sw_seq ?_); refine sw_region ?_
    repeat (first | refine sR (h := ?_) | refine sK (h := ?_) | refine sT (h := aM (h := ?_)) | refine sT (h := aB (h := ?_)) | refine sT (h := aA (h := ?_)) | refine sT (h := aS (h := ?_)) | refine sT (h := aL (h := ?_)))
    refine swt_nil ?_
    (repeat refine sw_seq ?_); refine sw_ret ?_
    exact ⟨Or.inr rfl, _, _, [(0, 0)], wk_nil 2 0 49 3 rfl rfl, rfl, rfl, rfl, rfl⟩
  · refine sw_skip ?_
    (repeat refine sw_seq ?_); refine sw_region ?_
    repeat (first | refine sR (h := ?_) | refine sK (h := ?_) | refine sT (h := aM (h := ?_)) | refine sT (h := aB (h := ?_)) | refine sT (h := aA (h := ?_)) | refine sT (h := aS (h := ?_)) | refine sT (h := aL (h := ?_)))
    refine swt_act rfl (act_append_row ttab_ok rfl rfl rfl rfl rfl rfl rfl rfl rfl rfl rfl rfl rfl rfl rfl rfl (by simp [reachBytes]; omega) (by simp; omega) ?_)
    repeat (first | refine sR (h := ?_) | refine sK (h := ?_) | refine sT (h := aM (h := ?_)) | refine sT (h := aB (h := ?_)) | refine sT (h := aA (h := ?_)) | refine sT (h := aS (h := ?_)) | refine sT (h := aL (h := ?_)))
    refine swt_nil ?_
    (repeat refine sw_seq ?_); refine sw_ret ?_
    exact ⟨Or.inr rfl, _, _, [(7, 0)], Wk.refl _, rfl, rfl, rfl, rfl⟩
theorem place1_h (cat : Int) (name : ByteArray) (g : Giv) : Holds Try.prog 74 [.agg g.pv, .rp [pI cat], .rp [pS name]] (.p (pB (isG cat name g))) [] := by
  refine holds_of (ts := [4]) Try.func74 (by kernel_rfl) rfl rfl rfl ?_
  (repeat refine sw_seq ?_); refine sw_region ?_
  repeat (first | refine sR (h := ?_) | refine sK (h := ?_) | refine sT (h := aM (h := ?_)) | refine sT (h := aB (h := ?_)) | refine sT (h := aA (h := ?_)) | refine sT (h := aS (h := ?_)) | refine sT (h := aL (h := ?_)))
  refine swt_nil ?_
  (repeat refine sw_seq ?_); refine sw_region_spec (by kernel_rfl) ?_
  repeat (refine sws_read ttab_ok rfl (by exact True.intro) rfl ?_)
  refine sws_nil ?_
  (repeat refine sw_seq ?_); refine sw_ret ?_
  refine fin_b rfl ?_
  unfold isG
  rw [beq_bytes]
  cases h : decide (g.cat = cat) <;> simp_all
theorem index_h (l : List Giv) (hn : l.length ≤ 1000000) (f : FuncId) (caps : List PV) (p : Giv → Bool) (hF : ∀ g, Holds Try.prog f ([.agg g.pv] ++ caps) (.p (pB (p g))) []) :
    Holds Try.prog 73 [givsP l, .fn f caps] (.p (pI (if l.findIdx p < l.length then (l.findIdx p : Int) else -1))) [] := by
  refine holds_of (ts := [4]) Try.func73 (by kernel_rfl) rfl rfl rfl ?_
  (repeat refine sw_seq ?_); refine sw_region ?_
  repeat (first | refine sR (h := ?_) | refine sK (h := ?_) | refine sT (h := aM (h := ?_)) | refine sT (h := aB (h := ?_)) | refine sT (h := aA (h := ?_)) | refine sT (h := aS (h := ?_)) | refine sT (h := aL (h := ?_)))
  refine swt_nil ?_
  (repeat refine sw_seq ?_); refine sw_region ?_
  repeat (first | refine sR (h := ?_) | refine sK (h := ?_) | refine sT (h := aM (h := ?_)) | refine sT (h := aB (h := ?_)) | refine sT (h := aA (h := ?_)) | refine sT (h := aS (h := ?_)) | refine sT (h := aL (h := ?_)))
  refine swt_nil ?_
  (repeat refine sw_seq ?_); refine sw_block ?_
  refine SW.wk (wk_only [0, 1, 7, 8] [] rfl rfl) ?_
  refine sw_loop (fun n s => ∃ (k : Nat) (kk : Int), k ≤ l.length ∧ n = l.length - k ∧ kk = k ∧ (∀ g ∈ l.take k, p g = false) ∧ s = ⟨19, [(0, .p (givsP l)), (1, .p (.fn f caps)), (7, .p (pI (l.map Giv.pv).length)), (8, .p (pI kk))], []⟩) l.length ⟨0, 0, Nat.zero_le _, rfl, rfl, by simp, rfl⟩ ?_
  rintro n s ⟨k, _, hk, rfl, rfl, ha, rfl⟩
  (repeat refine sw_seq ?_); refine sw_region ?_
  repeat (first | refine sR (h := ?_) | refine sK (h := ?_) | refine sT (h := aM (h := ?_)) | refine sT (h := aB (h := ?_)) | refine sT (h := aA (h := ?_)) | refine sT (h := aS (h := ?_)) | refine sT (h := aL (h := ?_)))
  refine swt_nil ?_
  (repeat refine sw_seq ?_); refine sw_cond rfl (fun hlt => ?_) (fun hlt => ?_)
  · refine sw_skip ?_
    simp only [List.length_map, decide_eq_true_eq] at hlt
    have hlt' : k < l.length := by omega
    (repeat refine sw_seq ?_); refine sw_block ?_
    (repeat refine sw_seq ?_); refine sw_region ?_
    repeat (first | refine sR (h := ?_) | refine sK (h := ?_) | refine sT (h := aM (h := ?_)) | refine sT (h := aB (h := ?_)) | refine sT (h := aA (h := ?_)) | refine sT (h := aS (h := ?_)) | refine sT (h := aL (h := ?_)))
    refine swt_nil ?_
    (repeat refine sw_seq ?_); refine sw_region ?_
    repeat (first | refine sR (h := ?_) | refine sK (h := ?_) | refine sT (h := aM (h := ?_)) | refine sT (h := aB (h := ?_)) | refine sT (h := aA (h := ?_)) | refine sT (h := aS (h := ?_)) | refine sT (h := aL (h := ?_)))
    refine swt_read ttab_ok rfl rfl (by simp only [List.length_map]; omega) rfl ?_
    rw [getD_map hlt']
    repeat (first | refine sR (h := ?_) | refine sK (h := ?_) | refine sT (h := aM (h := ?_)) | refine sT (h := aB (h := ?_)) | refine sT (h := aA (h := ?_)) | refine sT (h := aS (h := ?_)) | refine sT (h := aL (h := ?_)))
    refine swt_act rfl (act_call_flat rfl rfl rfl rfl (hF l[k]) rfl rfl ?_)
    repeat (first | refine sR (h := ?_) | refine sK (h := ?_) | refine sT (h := aM (h := ?_)) | refine sT (h := aB (h := ?_)) | refine sT (h := aA (h := ?_)) | refine sT (h := aS (h := ?_)) | refine sT (h := aL (h := ?_)))
    refine swt_nil ?_
    (repeat refine sw_seq ?_); refine sw_cond rfl (fun hp => ?_) (fun hp => ?_)
    · (repeat refine sw_seq ?_); refine sw_region ?_
      repeat (first | refine sR (h := ?_) | refine sK (h := ?_) | refine sT (h := aM (h := ?_)) | refine sT (h := aB (h := ?_)) | refine sT (h := aA (h := ?_)) | refine sT (h := aS (h := ?_)) | refine sT (h := aL (h := ?_)))
      refine swt_nil ?_
      (repeat refine sw_seq ?_); refine sw_ret ?_
      refine fin_i rfl ?_
      have e : l.findIdx p = k := (List.findIdx_eq hlt').2 ⟨hp, fun j hj => ha _ (List.mem_take_iff_getElem.2 ⟨j, by omega, rfl⟩)⟩
      rw [e, if_pos hlt']
    · refine sw_skip ?_
      (repeat refine sw_seq ?_); refine sw_region ?_
      repeat (first | refine sR (h := ?_) | refine sK (h := ?_) | refine sT (h := aM (h := ?_)) | refine sT (h := aB (h := ?_)) | refine sT (h := aA (h := ?_)) | refine sT (h := aS (h := ?_)) | refine sT (h := aL (h := ?_)))
      refine swt_nil ?_
      refine ⟨_, _, ?_, wk_only [0, 1, 7, 8] [] rfl rfl, k + 1, _, hlt', rfl, wrap_succ hlt' (by omega), ?_, rfl⟩
      · omega
      · intro g hg
        rw [List.take_succ_eq_append_getElem hlt', List.mem_append, List.mem_singleton] at hg
        rcases hg with hg | rfl
        · exact ha g hg
        · exact hp
  · refine sw_exit ?_
    simp only [List.length_map, decide_eq_false_iff_not] at hlt
    have hkk : k = l.length := by omega
    subst hkk
    (repeat refine sw_seq ?_); refine sw_region ?_
    repeat (first | refine sR (h := ?_) | refine sK (h := ?_) | refine sT (h := aM (h := ?_)) | refine sT (h := aB (h := ?_)) | refine sT (h := aA (h := ?_)) | refine sT (h := aS (h := ?_)) | refine sT (h := aL (h := ?_)))
    refine swt_nil ?_
    (repeat refine sw_seq ?_); refine sw_ret ?_
    refine fin_i rfl ?_
    rw [List.take_length] at ha
    rw [if_neg]
    have := List.findIdx_eq_length_of_false ha
    omega
theorem place_h (cat : Int) (name : ByteArray) (l : List Giv) (hn : l.length ≤ 1000000) : Holds Try.prog 54 [givsP l, pI cat, pS name] (.p (pI (placeS cat name l))) [] := by
  refine holds_of (ts := [6]) Try.func54 (by kernel_rfl) rfl rfl rfl ?_
  (repeat refine sw_seq ?_); refine sw_region ?_
  repeat (first | refine sR (h := ?_) | refine sK (h := ?_) | refine sT (h := aM (h := ?_)) | refine sT (h := aB (h := ?_)) | refine sT (h := aA (h := ?_)) | refine sT (h := aS (h := ?_)) | refine sT (h := aL (h := ?_)))
  refine swt_nil ?_
  (repeat refine sw_seq ?_); refine sw_region ?_
  repeat (first | refine sR (h := ?_) | refine sK (h := ?_) | refine sT (h := aM (h := ?_)) | refine sT (h := aB (h := ?_)) | refine sT (h := aA (h := ?_)) | refine sT (h := aS (h := ?_)) | refine sT (h := aL (h := ?_)))
  refine swt_act rfl (act_call_flat rfl rfl rfl rfl (index_h l hn _ _ (isG cat name) (fun g => place1_h cat name g)) rfl rfl ?_)
  repeat (first | refine sR (h := ?_) | refine sK (h := ?_) | refine sT (h := aM (h := ?_)) | refine sT (h := aB (h := ?_)) | refine sT (h := aA (h := ?_)) | refine sT (h := aS (h := ?_)) | refine sT (h := aL (h := ?_)))
  refine swt_nil ?_
  (repeat refine sw_seq ?_); refine sw_ret ?_
  exact fin_i rfl rfl
theorem giv_set (l : List Giv) (k : Nat) (hk : k < l.length) (xs : List PV) (hx : xs = [valsP l[k].bag]) : (l.map Giv.pv).set (Int.toNat (k : Int)) (((l.map Giv.pv).getD (Int.toNat (k : Int)) []).take 2 ++ xs ++ ((l.map Giv.pv).getD (Int.toNat (k : Int)) []).drop (2 + xs.length)) = l.map Giv.pv := by
  subst hx
  rw [getD_map hk]
  have : (l[k].pv.take 2 ++ [valsP l[k].bag] ++ l[k].pv.drop (2 + [valsP l[k].bag].length)) = l[k].pv := rfl
  rw [this, Int.toNat_natCast]
  refine List.ext_getElem? fun i => ?_
  by_cases e : i = k
  · subst e; rw [List.getElem?_set_self (by simpa using hk)]; simp [hk]
  · rw [List.getElem?_set_ne (Ne.symm e)]
theorem copied_h (l : List Giv) (hn : l.length ≤ 1000000) (hb : ∀ g ∈ l, g.bag.length ≤ 1000000) : Holds Try.prog 55 [givsP l] (.row 0) [(0, .row 49 3 (l.map Giv.pv))] := by
  refine holds_of (ts := [2]) Try.func55 (by kernel_rfl) rfl rfl rfl ?_
  (repeat refine sw_seq ?_); refine sw_region ?_
  repeat (first | refine sR (h := ?_) | refine sK (h := ?_) | refine sT (h := aM (h := ?_)) | refine sT (h := aB (h := ?_)) | refine sT (h := aA (h := ?_)) | refine sT (h := aS (h := ?_)) | refine sT (h := aL (h := ?_)))
  refine swt_nil ?_
  (repeat refine sw_seq ?_); refine sw_region ?_
  repeat (first | refine sR (h := ?_) | refine sK (h := ?_) | refine sT (h := aM (h := ?_)) | refine sT (h := aB (h := ?_)) | refine sT (h := aA (h := ?_)) | refine sT (h := aS (h := ?_)) | refine sT (h := aL (h := ?_)))
  refine swt_act rfl (act_call rfl rfl rfl rfl (cloneG_h l hn) rfl rfl rfl ?_)
  repeat (first | refine sR (h := ?_) | refine sK (h := ?_) | refine sT (h := aM (h := ?_)) | refine sT (h := aB (h := ?_)) | refine sT (h := aA (h := ?_)) | refine sT (h := aS (h := ?_)) | refine sT (h := aL (h := ?_)))
  refine swt_nil ?_
  (repeat refine sw_seq ?_); refine sw_region ?_
  repeat (first | refine sR (h := ?_) | refine sK (h := ?_) | refine sT (h := aM (h := ?_)) | refine sT (h := aB (h := ?_)) | refine sT (h := aA (h := ?_)) | refine sT (h := aS (h := ?_)) | refine sT (h := aL (h := ?_)))
  refine swt_nil ?_
  (repeat refine sw_seq ?_); refine sw_block ?_
  refine SW.wk (wk_only [3, 8, 9] [(7000, 0)] rfl rfl) ?_
  refine sw_loop (fun n s => ∃ (k : Nat) (kk : Int) (L : List (List PV)), k ≤ l.length ∧ n = l.length - k ∧ kk = k ∧ L = l.map Giv.pv ∧ s = ⟨24, [(3, .row 0), (8, .p (pI (l.map Giv.pv).length)), (9, .p (pI kk))], [(0, .row 49 3 L)]⟩) l.length ⟨0, 0, _, Nat.zero_le _, rfl, rfl, rfl, rfl⟩ ?_
  rintro n s ⟨k, _, _, hk, rfl, rfl, rfl, rfl⟩
  (repeat refine sw_seq ?_); refine sw_region ?_
  repeat (first | refine sR (h := ?_) | refine sK (h := ?_) | refine sT (h := aM (h := ?_)) | refine sT (h := aB (h := ?_)) | refine sT (h := aA (h := ?_)) | refine sT (h := aS (h := ?_)) | refine sT (h := aL (h := ?_)))
  refine swt_nil ?_
  (repeat refine sw_seq ?_); refine sw_cond rfl (fun hlt => ?_) (fun hlt => ?_)
  · refine sw_skip ?_
    simp only [List.length_map, decide_eq_true_eq] at hlt
    have hlt' : k < l.length := by omega
    (repeat refine sw_seq ?_); refine sw_block ?_
    (repeat refine sw_seq ?_); refine sw_region ?_
    repeat (first | refine sR (h := ?_) | refine sK (h := ?_) | refine sT (h := aM (h := ?_)) | refine sT (h := aB (h := ?_)) | refine sT (h := aA (h := ?_)) | refine sT (h := aS (h := ?_)) | refine sT (h := aL (h := ?_)))
    refine swt_nil ?_
    (repeat refine sw_seq ?_); refine sw_region ?_
    repeat (first | refine sR (h := ?_) | refine sK (h := ?_) | refine sT (h := aM (h := ?_)) | refine sT (h := aB (h := ?_)) | refine sT (h := aA (h := ?_)) | refine sT (h := aS (h := ?_)) | refine sT (h := aL (h := ?_)))
    refine swt_read ttab_ok rfl rfl (by simp only [List.length_map]; omega) rfl ?_
    repeat (first | refine sR (h := ?_) | refine sK (h := ?_) | refine sT (h := aM (h := ?_)) | refine sT (h := aB (h := ?_)) | refine sT (h := aA (h := ?_)) | refine sT (h := aS (h := ?_)) | refine sT (h := aL (h := ?_)))
    refine swt_read ttab_ok rfl (opR_elem rfl rfl rfl rfl rfl (getD_map hlt') rfl) (by simp only [List.length_map, Int.toNat_natCast]; omega) rfl ?_
    refine swt_act rfl (act_call rfl rfl rfl rfl ((cloneV_h l[k].bag (hb _ (List.getElem_mem hlt'))).row_sl) rfl rfl rfl ?_)
    repeat (first | refine sR (h := ?_) | refine sK (h := ?_) | refine sT (h := aM (h := ?_)) | refine sT (h := aB (h := ?_)) | refine sT (h := aA (h := ?_)) | refine sT (h := aS (h := ?_)) | refine sT (h := aL (h := ?_)))
    refine swt_read ttab_ok rfl rfl (by simp only [List.length_map]; omega) rfl ?_
    repeat (first | refine sR (h := ?_) | refine sK (h := ?_) | refine sT (h := aM (h := ?_)) | refine sT (h := aB (h := ?_)) | refine sT (h := aA (h := ?_)) | refine sT (h := aS (h := ?_)) | refine sT (h := aL (h := ?_)))
    refine swt_act rfl (act_store_elem ttab_ok rfl rfl rfl rfl rfl (by simp only [List.length_map, Int.toNat_natCast]; omega) rfl rfl rfl rfl rfl ?_)
    refine swt_nil ?_
    (repeat refine sw_seq ?_); refine sw_region ?_
    repeat (first | refine sR (h := ?_) | refine sK (h := ?_) | refine sT (h := aM (h := ?_)) | refine sT (h := aB (h := ?_)) | refine sT (h := aA (h := ?_)) | refine sT (h := aS (h := ?_)) | refine sT (h := aL (h := ?_)))
    refine swt_nil ?_
    refine ⟨_, _, ?_, wk_only [3, 8, 9] [(0, 0)] rfl rfl, k + 1, _, _, hlt', rfl, wrap_succ hlt' (by omega), ?_, rfl⟩
    · omega
    · exact giv_set l k hlt' _ rfl
  · refine sw_exit ?_
    (repeat refine sw_seq ?_); refine sw_region ?_
    repeat (first | refine sR (h := ?_) | refine sK (h := ?_) | refine sT (h := aM (h := ?_)) | refine sT (h := aB (h := ?_)) | refine sT (h := aA (h := ?_)) | refine sT (h := aS (h := ?_)) | refine sT (h := aL (h := ?_)))
    refine swt_nil ?_
    (repeat refine sw_seq ?_); refine sw_ret ?_
    exact ⟨Or.inr rfl, _, _, [(0, 0)], Wk.refl _, rfl, rfl, rfl, rfl⟩
theorem set_all (l : List Giv) (g : Giv) (k : Nat) (hk : k < l.length) (xs : List PV) (hx : xs = g.pv) : (l.map Giv.pv).set (Int.toNat (k : Int)) (((l.map Giv.pv).getD (Int.toNat (k : Int)) []).take 0 ++ xs ++ ((l.map Giv.pv).getD (Int.toNat (k : Int)) []).drop (0 + xs.length)) = (l.set k g).map Giv.pv := by
  subst hx
  rw [getD_map hk, Int.toNat_natCast, List.map_set]
  rfl
theorem with_h (l : List Giv) (g : Giv) (hn : l.length ≤ 1000000) (hb : ∀ g ∈ l, g.bag.length ≤ 1000000) (hg : g.bag.length ≤ 1000000) : Holds Try.prog 29 [givsP l, .agg g.pv] (.row 0) [(0, .row 49 3 ((withS l g).map Giv.pv))] := by
  refine holds_of (ts := [4]) Try.func29 (by kernel_rfl) rfl rfl rfl ?_
  (repeat refine sw_seq ?_); refine sw_region ?_
  repeat (first | refine sR (h := ?_) | refine sK (h := ?_) | refine sT (h := aM (h := ?_)) | refine sT (h := aB (h := ?_)) | refine sT (h := aA (h := ?_)) | refine sT (h := aS (h := ?_)) | refine sT (h := aL (h := ?_)))
  refine swt_nil ?_
  (repeat refine sw_seq ?_); refine sw_region ?_
  repeat (first | refine sR (h := ?_) | refine sK (h := ?_) | refine sT (h := aM (h := ?_)) | refine sT (h := aB (h := ?_)) | refine sT (h := aA (h := ?_)) | refine sT (h := aS (h := ?_)) | refine sT (h := aL (h := ?_)))
  refine swt_act rfl (act_call rfl rfl rfl rfl (copied_h l hn hb) rfl rfl rfl ?_)
  repeat (first | refine sR (h := ?_) | refine sK (h := ?_) | refine sT (h := aM (h := ?_)) | refine sT (h := aB (h := ?_)) | refine sT (h := aA (h := ?_)) | refine sT (h := aS (h := ?_)) | refine sT (h := aL (h := ?_)))
  refine swt_nil ?_
  (repeat refine sw_seq ?_); refine sw_region ?_
  repeat (first | refine sR (h := ?_) | refine sK (h := ?_) | refine sT (h := aM (h := ?_)) | refine sT (h := aB (h := ?_)) | refine sT (h := aA (h := ?_)) | refine sT (h := aS (h := ?_)) | refine sT (h := aL (h := ?_)))
  refine swt_act rfl (act_call rfl rfl rfl rfl ((cloneV_h g.bag hg).row_sl) rfl rfl rfl ?_)
  repeat (first | refine sR (h := ?_) | refine sK (h := ?_) | refine sT (h := aM (h := ?_)) | refine sT (h := aB (h := ?_)) | refine sT (h := aA (h := ?_)) | refine sT (h := aS (h := ?_)) | refine sT (h := aL (h := ?_)))
  refine swt_nil ?_
  (repeat refine sw_seq ?_); refine sw_region ?_
  repeat (first | refine sR (h := ?_) | refine sK (h := ?_) | refine sT (h := aM (h := ?_)) | refine sT (h := aB (h := ?_)) | refine sT (h := aA (h := ?_)) | refine sT (h := aS (h := ?_)) | refine sT (h := aL (h := ?_)))
  refine swt_act rfl (act_call_flat rfl rfl rfl rfl (place_h g.cat g.name l hn) rfl rfl ?_)
  repeat (first | refine sR (h := ?_) | refine sK (h := ?_) | refine sT (h := aM (h := ?_)) | refine sT (h := aB (h := ?_)) | refine sT (h := aA (h := ?_)) | refine sT (h := aS (h := ?_)) | refine sT (h := aL (h := ?_)))
  refine swt_nil ?_
  (repeat refine sw_seq ?_); refine sw_region ?_
  repeat (first | refine sR (h := ?_) | refine sK (h := ?_) | refine sT (h := aM (h := ?_)) | refine sT (h := aB (h := ?_)) | refine sT (h := aA (h := ?_)) | refine sT (h := aS (h := ?_)) | refine sT (h := aL (h := ?_)))
  refine swt_nil ?_
  unfold placeS withS
  by_cases hf : l.findIdx (isG g.cat g.name) < l.length
  · rw [if_pos hf, if_pos hf]
    (repeat refine sw_seq ?_); refine sw_cond rfl (fun hc => ?_) (fun hc => ?_)
    · (repeat refine sw_seq ?_); refine sw_region ?_
      repeat (first | refine sR (h := ?_) | refine sK (h := ?_) | refine sT (h := aM (h := ?_)) | refine sT (h := aB (h := ?_)) | refine sT (h := aA (h := ?_)) | refine sT (h := aS (h := ?_)) | refine sT (h := aL (h := ?_)))
      refine swt_read ttab_ok rfl rfl (by simp only [List.length_map]; omega) rfl ?_
      refine swt_act rfl (act_store_elem ttab_ok rfl rfl rfl rfl rfl (by simp only [List.length_map, Int.toNat_natCast]; omega) rfl rfl rfl rfl rfl ?_)
      refine swt_nil ?_
      (repeat refine sw_seq ?_); refine sw_region ?_
      repeat (first | refine sR (h := ?_) | refine sK (h := ?_) | refine sT (h := aM (h := ?_)) | refine sT (h := aB (h := ?_)) | refine sT (h := aA (h := ?_)) | refine sT (h := aS (h := ?_)) | refine sT (h := aL (h := ?_)))
      refine swt_nil ?_
      (repeat refine sw_seq ?_); refine sw_ret ?_
      refine ⟨Or.inr rfl, _, _, [(9000, 0)], Wk.refl _, rfl, rfl, ?_, rfl⟩
      exact congrArg (fun L => some [(0, Box.row 49 3 L)]) (set_all l g _ hf _ rfl)
    · simp at hc
  · rw [if_neg hf, if_neg hf]
    (repeat refine sw_seq ?_); refine sw_cond rfl (fun hc => ?_) (fun hc => ?_)
    · cases hc
    · refine sw_skip ?_
      (repeat refine sw_seq ?_); refine sw_region ?_
      repeat (first | refine sR (h := ?_) | refine sK (h := ?_) | refine sT (h := aM (h := ?_)) | refine sT (h := aB (h := ?_)) | refine sT (h := aA (h := ?_)) | refine sT (h := aS (h := ?_)) | refine sT (h := aL (h := ?_)))
      refine swt_act rfl (act_append_row ttab_ok rfl rfl rfl rfl rfl rfl rfl rfl rfl rfl rfl rfl rfl rfl rfl rfl (by simp [reachBytes]; omega) (by simp; omega) ?_)
      repeat (first | refine sR (h := ?_) | refine sK (h := ?_) | refine sT (h := aM (h := ?_)) | refine sT (h := aB (h := ?_)) | refine sT (h := aA (h := ?_)) | refine sT (h := aS (h := ?_)) | refine sT (h := aL (h := ?_)))
      refine swt_nil ?_
      (repeat refine sw_seq ?_); refine sw_ret ?_
      refine ⟨Or.inr rfl, _, _, [(29, 0)], Wk.refl _, rfl, rfl, ?_, rfl⟩
      exact congrArg (fun L => some [(0, Box.row 49 3 L)]) (by rw [List.map_append]; rfl)
theorem get_h (a : Atr) (l : List Giv) (hn : l.length ≤ 1000000) (hb : ∀ g ∈ l, g.bag.length ≤ 1000000) : Holds Try.prog 67 [givsP l, .agg a.pv] (.tup [.p (valsP (getS a l).1), .p (pI (getS a l).2)]) [] := by
  refine holds_of (ts := [4,5]) Try.func67 (by kernel_rfl) rfl rfl rfl ?_
  (repeat refine sw_seq ?_); refine sw_region ?_
  repeat (first | refine sR (h := ?_) | refine sK (h := ?_) | refine sT (h := aM (h := ?_)) | refine sT (h := aB (h := ?_)) | refine sT (h := aA (h := ?_)) | refine sT (h := aS (h := ?_)) | refine sT (h := aL (h := ?_)))
  refine swt_nil ?_
  (repeat refine sw_seq ?_); refine sw_region ?_
  repeat (first | refine sR (h := ?_) | refine sK (h := ?_) | refine sT (h := aM (h := ?_)) | refine sT (h := aB (h := ?_)) | refine sT (h := aA (h := ?_)) | refine sT (h := aS (h := ?_)) | refine sT (h := aL (h := ?_)))
  refine swt_nil ?_
  (repeat refine sw_seq ?_); refine sw_region ?_
  repeat (first | refine sR (h := ?_) | refine sK (h := ?_) | refine sT (h := aM (h := ?_)) | refine sT (h := aB (h := ?_)) | refine sT (h := aA (h := ?_)) | refine sT (h := aS (h := ?_)) | refine sT (h := aL (h := ?_)))
  refine swt_act rfl (act_call_flat rfl rfl rfl rfl (place_h a.cat a.name l hn) rfl rfl ?_)
  repeat (first | refine sR (h := ?_) | refine sK (h := ?_) | refine sT (h := aM (h := ?_)) | refine sT (h := aB (h := ?_)) | refine sT (h := aA (h := ?_)) | refine sT (h := aS (h := ?_)) | refine sT (h := aL (h := ?_)))
  refine swt_nil ?_
  rcases place_cases a.cat a.name l with ⟨hp, hbag, _⟩ | ⟨k, hk, hp, hbag, _, _⟩
  · rw [hp]
    (repeat refine sw_seq ?_); refine sw_region ?_
    repeat (first | refine sR (h := ?_) | refine sK (h := ?_) | refine sT (h := aM (h := ?_)) | refine sT (h := aB (h := ?_)) | refine sT (h := aA (h := ?_)) | refine sT (h := aS (h := ?_)) | refine sT (h := aL (h := ?_)))
    refine swt_nil ?_
    (repeat refine sw_seq ?_); refine sw_cond rfl (fun hc => ?_) (fun hc => ?_)
    · simp at hc
    · refine sw_skip ?_
      (repeat refine sw_seq ?_); refine sw_region ?_
      repeat (first | refine sR (h := ?_) | refine sK (h := ?_) | refine sT (h := aM (h := ?_)) | refine sT (h := aB (h := ?_)) | refine sT (h := aA (h := ?_)) | refine sT (h := aS (h := ?_)) | refine sT (h := aL (h := ?_)))
      refine swt_nil ?_
      (repeat refine sw_seq ?_); refine sw_cond rfl (fun hm => ?_) (fun hm => ?_)
      · replace hm : a.must = true := hm
        have e : getS a l = ([], 4) := by simp [getS, hbag, hm]
        rw [e]
        (repeat refine sw_seq ?_); refine sw_region ?_
        repeat (first | refine sR (h := ?_) | refine sK (h := ?_) | refine sT (h := aM (h := ?_)) | refine sT (h := aB (h := ?_)) | refine sT (h := aA (h := ?_)) | refine sT (h := aS (h := ?_)) | refine sT (h := aL (h := ?_)))
        refine swt_nil ?_
        (repeat refine sw_seq ?_); refine sw_ret ?_
        exact ⟨Or.inr rfl, _, _, [], wk_nilp 4 900 24 3 rfl rfl, rfl, rfl, rfl, rfl⟩
      · replace hm : a.must = false := hm
        have e : getS a l = ([], 0) := by simp [getS, hbag, hm]
        rw [e]
        refine sw_skip ?_
        (repeat refine sw_seq ?_); refine sw_region ?_
        repeat (first | refine sR (h := ?_) | refine sK (h := ?_) | refine sT (h := aM (h := ?_)) | refine sT (h := aB (h := ?_)) | refine sT (h := aA (h := ?_)) | refine sT (h := aS (h := ?_)) | refine sT (h := aL (h := ?_)))
        refine swt_nil ?_
        (repeat refine sw_seq ?_); refine sw_ret ?_
        exact ⟨Or.inr rfl, _, _, [], wk_nilp 4 900 24 3 rfl rfl, rfl, rfl, rfl, rfl⟩
  · rw [hp]
    (repeat refine sw_seq ?_); refine sw_region ?_
    repeat (first | refine sR (h := ?_) | refine sK (h := ?_) | refine sT (h := aM (h := ?_)) | refine sT (h := aB (h := ?_)) | refine sT (h := aA (h := ?_)) | refine sT (h := aS (h := ?_)) | refine sT (h := aL (h := ?_)))
    refine swt_nil ?_
    (repeat refine sw_seq ?_); refine sw_cond rfl (fun hc => ?_) (fun hc => ?_)
    · (repeat refine sw_seq ?_); refine sw_region ?_
      repeat (first | refine sR (h := ?_) | refine sK (h := ?_) | refine sT (h := aM (h := ?_)) | refine sT (h := aB (h := ?_)) | refine sT (h := aA (h := ?_)) | refine sT (h := aS (h := ?_)) | refine sT (h := aL (h := ?_)))
      refine swt_read ttab_ok rfl rfl (by simp only [List.length_map]; omega) rfl ?_
      rw [getD_map hk]
      repeat (first | refine sR (h := ?_) | refine sK (h := ?_) | refine sT (h := aM (h := ?_)) | refine sT (h := aB (h := ?_)) | refine sT (h := aA (h := ?_)) | refine sT (h := aS (h := ?_)) | refine sT (h := aL (h := ?_)))
      refine swt_act rfl (act_call rfl rfl rfl rfl ((cloneV_h l[k].bag (hb _ (List.getElem_mem hk))).row_sl) rfl rfl rfl ?_)
      repeat (first | refine sR (h := ?_) | refine sK (h := ?_) | refine sT (h := aM (h := ?_)) | refine sT (h := aB (h := ?_)) | refine sT (h := aA (h := ?_)) | refine sT (h := aS (h := ?_)) | refine sT (h := aL (h := ?_)))
      refine swt_nil ?_
      generalize l[k].bag = b at *
      cases b with
      | nil =>
        (repeat refine sw_seq ?_); refine sw_region ?_
        repeat (first | refine sR (h := ?_) | refine sK (h := ?_) | refine sT (h := aM (h := ?_)) | refine sT (h := aB (h := ?_)) | refine sT (h := aA (h := ?_)) | refine sT (h := aS (h := ?_)) | refine sT (h := aL (h := ?_)))
        refine swt_nil ?_
        (repeat refine sw_seq ?_); refine sw_cond rfl (fun hm => ?_) (fun hm => ?_)
        · replace hm : a.must = true := hm
          have e : getS a l = ([], 4) := by simp [getS, hbag, hm]
          rw [e]
          (repeat refine sw_seq ?_); refine sw_region ?_
          repeat (first | refine sR (h := ?_) | refine sK (h := ?_) | refine sT (h := aM (h := ?_)) | refine sT (h := aB (h := ?_)) | refine sT (h := aA (h := ?_)) | refine sT (h := aS (h := ?_)) | refine sT (h := aL (h := ?_)))
          refine swt_nil ?_
          (repeat refine sw_seq ?_); refine sw_ret ?_
          exact ⟨Or.inr rfl, _, _, [], wk_nilp 4 900 24 3 rfl rfl, rfl, rfl, rfl, rfl⟩
        · replace hm : a.must = false := hm
          have e : getS a l = ([], 0) := by simp [getS, hbag, hm]
          rw [e]
          refine sw_skip ?_
          (repeat refine sw_seq ?_); refine sw_region ?_
          repeat (first | refine sR (h := ?_) | refine sK (h := ?_) | refine sT (h := aM (h := ?_)) | refine sT (h := aB (h := ?_)) | refine sT (h := aA (h := ?_)) | refine sT (h := aS (h := ?_)) | refine sT (h := aL (h := ?_)))
          refine swt_nil ?_
          (repeat refine sw_seq ?_); refine sw_ret ?_
          exact ⟨Or.inr rfl, _, _, [], Wk.refl _, rfl, rfl, rfl, rfl⟩
      | cons v r =>
        have e : getS a l = (v :: r, 0) := by simp [getS, hbag]
        rw [e]
        (repeat refine sw_seq ?_); refine sw_region ?_
        repeat (first | refine sR (h := ?_) | refine sK (h := ?_) | refine sT (h := aM (h := ?_)) | refine sT (h := aB (h := ?_)) | refine sT (h := aA (h := ?_)) | refine sT (h := aS (h := ?_)) | refine sT (h := aL (h := ?_)))
        rw [show ((((v :: r).map Val.pv).length : Int) == 0) = false by simp; omega]
        repeat (first | refine sR (h := ?_) | refine sK (h := ?_) | refine sT (h := aM (h := ?_)) | refine sT (h := aB (h := ?_)) | refine sT (h := aA (h := ?_)) | refine sT (h := aS (h := ?_)) | refine sT (h := aL (h := ?_)))
        refine swt_nil ?_
        (repeat refine sw_seq ?_); refine sw_cond rfl (fun hm => ?_) (fun hm => ?_)
        · cases hm
        · refine sw_skip ?_
          (repeat refine sw_seq ?_); refine sw_region ?_
          repeat (first | refine sR (h := ?_) | refine sK (h := ?_) | refine sT (h := aM (h := ?_)) | refine sT (h := aB (h := ?_)) | refine sT (h := aA (h := ?_)) | refine sT (h := aS (h := ?_)) | refine sT (h := aL (h := ?_)))
          refine swt_nil ?_
          (repeat refine sw_seq ?_); refine sw_ret ?_
          exact ⟨Or.inr rfl, _, _, [], Wk.refl _, rfl, rfl, rfl, rfl⟩
    · exfalso
      simp at hc
end Go.Proofs.Ytjpcchipejmocaa
