/-
  Layer 3's law ValueNames: in plain words, and the walk, by shades.
-/
import Derived.Test.YtiiagdnmbpdlaaaDoorSh
import Derived.Test.YtiiagdnmbpdlaaaDoorValRuns
namespace Go.Proofs.YtiiagdnmbpdlaaaDoor
set_option linter.unusedVariables false
set_option linter.unusedSimpArgs false
open Go.RowKit
set_option maxHeartbeats 4000000
theorem swm_rd {P : Program} {ops : List Oper} {K : List Nat} {st : St} {Q : St → Prop} {i : Nat} {r : List (Nat × Bool)} {o : Oper} {s : SV} (hi : nthO ops i = some o) (hw : wantS ops st o = some true) (hr : RdO P K st o s) (hd : dstOk st o.dst = true) (h : SWM P ops K r Q (st.put o.dst s)) : SWM P ops K ((i, true) :: r) Q st := fun w0 Sx γ a w QQ hI hQ => by
  have hrest := fun v (hv : RelS (okO Sx γ st.own) (hp γ st.own) w s v) => h w0 Sx γ _ w QQ (hI.put (dst := o.dst) hd hv) hQ
  simp only [put_own] at hrest
  obtain ⟨v, h1, h2⟩ := hr w0 Sx γ a w hI
  exact ⟨SameOn.refl _ _, o, v, (nthO_get ops i).trans hi, Or.inl ⟨wantS_ok hI hw, h2⟩, hrest v h1⟩
theorem conv_rd {K : List Nat} {st : St} {o : Oper} {sT dT : TypeId} {x : Operand} {s : SV} (ho : o.op = .convert sT dT x) (h : eConv TTab K st sT dT (evS st x) some = some s) : RdO Tryd.prog K st o s := by
  obtain ⟨s', h1, h2⟩ := eConv_ok ttab_ok ho h
  cases h2; exact h1
theorem name_iff {s : ByteArray} : nameS s = true ↔ (∀ i (h : i < s.size), okC (i == 0) s[i].toNat = true) ∧ 0 < s.size ∧ s.size ≤ 16 := by
  unfold nameS
  simp only [Bool.and_eq_true, decide_eq_true_eq, and_assoc]
theorem ext_at {s : ByteArray} {a b i : Nat} (h : i < (s.extract a b).size) (h2 : a + i < s.size) : (s.extract a b)[i] = s[a + i] := by
  simp [ByteArray.getElem_extract]
theorem ext_size (s : ByteArray) {a b : Nat} (hb : b ≤ s.size) : (s.extract a b).size = b - a := by
  simp [ByteArray.size_extract]; omega
theorem name_pre {s : ByteArray} (h : nameS s = true) {k : Nat} (h1 : 1 ≤ k) (h2 : k ≤ s.size) : nameS (s.extract 0 k) = true := by
  obtain ⟨g1, g2, g3⟩ := name_iff.1 h
  have hs := ext_size s (a := 0) h2
  refine name_iff.2 ⟨fun i hi => ?_, by omega, by omega⟩
  have hi' : i < s.size := by omega
  have e : (s.extract 0 k)[i] = s[i] := by rw [ext_at hi (by omega)]; simp
  rw [e]; exact g1 i hi'
theorem name_bad {s : ByteArray} {k : Nat} (h1 : 1 ≤ k) (h2 : k ≤ s.size) {b : UInt8} (hb : okC false b.toNat = false) : nameS (s.extract 0 (k - 1) ++ ⟨#[b]⟩ ++ s.extract k s.size) = false := by
  have hs := ext_size s (a := 0) (b := k - 1) (by omega)
  have hsz : k - 1 < (s.extract 0 (k - 1) ++ ⟨#[b]⟩ ++ s.extract k s.size).size := by
    rw [ByteArray.size_append, ByteArray.size_append, hs]; show k - 1 < k - 1 - 0 + 1 + _; omega
  refine nameS_no hsz ?_
  have hl : k - 1 < (s.extract 0 (k - 1) ++ (⟨#[b]⟩ : ByteArray)).size := by rw [ByteArray.size_append, hs]; show k - 1 < k - 1 - 0 + 1; omega
  have e : (s.extract 0 (k - 1) ++ (⟨#[b]⟩ : ByteArray) ++ s.extract k s.size)[k - 1] = b := by
    rw [ByteArray.getElem_append_left hl, ByteArray.getElem_append_right (by omega)]
    have : k - 1 - (s.extract 0 (k - 1)).size = 0 := by omega
    simp only [this]; rfl
  rw [e]
  have hf : ∀ x : Bool, okC x b.toNat = false := fun x => by
    unfold okC at hb ⊢
    cases x with
    | false => exact hb
    | true => revert hb; simp; intro h _ _; exact h
  exact hf _
theorem name_long {s : ByteArray} (h : 16 < s.size) : nameS s = false := by
  cases hn : nameS s with
  | false => rfl
  | true => have := (name_iff.1 hn).2.2; omega
/-- a name, and more of the letter x behind it -/
structure Lng (s t : ByteArray) : Prop where
  le : s.size ≤ t.size
  ok : ∀ i (h : i < t.size), okC (i == 0) t[i].toNat = true
theorem Lng.more {s t : ByteArray} (h : Lng s t) : Lng s (t ++ ⟨#[120]⟩) := by
  have hz : (t ++ (⟨#[120]⟩ : ByteArray)).size = t.size + 1 := by rw [ByteArray.size_append]; rfl
  refine ⟨by have := h.le; omega, fun i hi => ?_⟩
  by_cases hl : i < t.size
  · rw [ByteArray.getElem_append_left hl]; exact h.ok i hl
  · rw [ByteArray.getElem_append_right (by omega)]
    have : i - t.size = 0 := by omega
    simp only [this]
    show okC _ 120 = true
    simp [okC]
theorem Lng.name {s t : ByteArray} (h : Lng s t) (h2 : 16 ≤ t.size) : nameS (t.extract 0 16) = true := by
  have hs := ext_size t (a := 0) h2
  refine name_iff.2 ⟨fun i hi => ?_, by omega, by omega⟩
  have e : (t.extract 0 16)[i] = t[i] := by rw [ext_at hi (by omega)]; simp
  rw [e]; exact h.ok i _
theorem valNames_h (s : ByteArray) (n b : Int) (hs : s.size ≤ reachBytes) (hn : R64 n) (hb : 0 ≤ b ∧ b ≤ 255) : Holds Tryd.prog 7 [pS s, pI n, .v (.int .u8 b)] (.p (pB true)) [] := by
  have N1 := (name_h ⟨#[]⟩ (by decide)).res (r' := .p (pB false)) (by rw [show nameS ⟨#[]⟩ = false by kernel_rfl])
  have N2 := (name_h ⟨#[49, 97]⟩ (by decide)).res (r' := .p (pB false)) (by rw [show nameS ⟨#[49, 97]⟩ = false by kernel_rfl])
  unfold reachBytes at hs
  refine holds_of (ts := [6]) Tryd.func7 (by kernel_rfl) rfl rfl rfl ?_
  (repeat refine sw_seq ?_); refine sw_region ?_
  repeat (first | refine sR (h := ?_) | refine sK (h := ?_) | refine sT (h := aM (h := ?_)) | refine sT (h := aB (h := ?_)) | refine sT (h := aA (h := ?_)) | refine sT (h := aS (h := ?_)) | refine sT (h := aL (h := ?_)))
  refine swt_nil ?_
  (repeat refine sw_seq ?_); refine sw_region ?_
  repeat (first | refine sR (h := ?_) | refine sK (h := ?_) | refine sT (h := aM (h := ?_)) | refine sT (h := aB (h := ?_)) | refine sT (h := aA (h := ?_)) | refine sT (h := aS (h := ?_)) | refine sT (h := aL (h := ?_)))
  refine swt_read ttab_ok rfl rfl (by simp only; split <;> omega) rfl ?_
  repeat (first | refine sR (h := ?_) | refine sK (h := ?_) | refine sT (h := aM (h := ?_)) | refine sT (h := aB (h := ?_)) | refine sT (h := aA (h := ?_)) | refine sT (h := aS (h := ?_)) | refine sT (h := aL (h := ?_)))
  refine swt_nil ?_
  refine SW.wk (wk_only [0, 1, 2] [] rfl rfl) ?_
  change SW _ _ _ ⟨93, [(0, .p (pS (s.extract 0 (Int.toNat (if (30 : Int) < s.size then 30 else s.size))))), (1, .p (pI n)), (2, .p (.v (.int .u8 b)))], []⟩
  have hs2 : (s.extract 0 (Int.toNat (if (30 : Int) < s.size then 30 else s.size))).size ≤ s.size := by simp [ByteArray.size_extract]; omega
  generalize s.extract 0 (Int.toNat (if (30 : Int) < s.size then 30 else s.size)) = t at *
  (repeat refine sw_seq ?_); refine sw_region ?_
  repeat (first | refine sR (h := ?_) | refine sK (h := ?_) | refine sT (h := aM (h := ?_)) | refine sT (h := aB (h := ?_)) | refine sT (h := aA (h := ?_)) | refine sT (h := aS (h := ?_)) | refine sT (h := aL (h := ?_)))
  refine swt_act rfl (act_call_flat rfl rfl rfl rfl (name_h t (by unfold reachBytes; omega)) rfl rfl ?_)
  repeat (first | refine sR (h := ?_) | refine sK (h := ?_) | refine sT (h := aM (h := ?_)) | refine sT (h := aB (h := ?_)) | refine sT (h := aA (h := ?_)) | refine sT (h := aS (h := ?_)) | refine sT (h := aL (h := ?_)))
  cases hN : nameS t with
  | false =>
    repeat (first | refine sR (h := ?_) | refine sK (h := ?_) | refine sT (h := aM (h := ?_)) | refine sT (h := aB (h := ?_)) | refine sT (h := aA (h := ?_)) | refine sT (h := aS (h := ?_)) | refine sT (h := aL (h := ?_)))
    refine swt_nil ?_
    (repeat refine sw_seq ?_); refine sw_cond rfl (fun hc => ?_) (fun hc => ?_)
    · (repeat refine sw_seq ?_); refine sw_region ?_
      repeat (first | refine sR (h := ?_) | refine sK (h := ?_) | refine sT (h := aM (h := ?_)) | refine sT (h := aB (h := ?_)) | refine sT (h := aA (h := ?_)) | refine sT (h := aS (h := ?_)) | refine sT (h := aL (h := ?_)))
      refine swt_act rfl (act_call_flat rfl rfl rfl rfl (N1) rfl rfl ?_)
      repeat (first | refine sR (h := ?_) | refine sK (h := ?_) | refine sT (h := aM (h := ?_)) | refine sT (h := aB (h := ?_)) | refine sT (h := aA (h := ?_)) | refine sT (h := aS (h := ?_)) | refine sT (h := aL (h := ?_)))
      refine swt_act rfl (act_call_flat rfl rfl rfl rfl (N2) rfl rfl ?_)
      repeat (first | refine sR (h := ?_) | refine sK (h := ?_) | refine sT (h := aM (h := ?_)) | refine sT (h := aB (h := ?_)) | refine sT (h := aA (h := ?_)) | refine sT (h := aS (h := ?_)) | refine sT (h := aL (h := ?_)))
      refine swt_act rfl (act_call_flat rfl rfl rfl rfl (valRuns_h) rfl rfl ?_)
      repeat (first | refine sR (h := ?_) | refine sK (h := ?_) | refine sT (h := aM (h := ?_)) | refine sT (h := aB (h := ?_)) | refine sT (h := aA (h := ?_)) | refine sT (h := aS (h := ?_)) | refine sT (h := aL (h := ?_)))
      refine swt_nil ?_
      (repeat refine sw_seq ?_); refine sw_ret ?_
      exact fin_b rfl rfl
    · cases hc
  | true =>
    repeat (first | refine sR (h := ?_) | refine sK (h := ?_) | refine sT (h := aM (h := ?_)) | refine sT (h := aB (h := ?_)) | refine sT (h := aA (h := ?_)) | refine sT (h := aS (h := ?_)) | refine sT (h := aL (h := ?_)))
    refine swt_nil ?_
    (repeat refine sw_seq ?_); refine sw_cond rfl (fun hc => ?_) (fun hc => ?_)
    · cases hc
    refine sw_skip ?_
    obtain ⟨g1, g2, g3⟩ := name_iff.1 hN
    have HW := within_h n 1 (t.size : Int) hn (by omega) (by omega) (by omega)
    obtain ⟨k, hk, hk1, hk2⟩ : ∃ k : Nat, 1 + n % ((t.size : Int) - 1 + 1) = (k : Int) ∧ 1 ≤ k ∧ k ≤ t.size := by
      have h1 := Int.emod_nonneg n (show (t.size : Int) - 1 + 1 ≠ 0 by omega)
      have h2 := Int.emod_lt_of_pos n (show (0 : Int) < (t.size : Int) - 1 + 1 by omega)
      exact ⟨(1 + n % ((t.size : Int) - 1 + 1)).toNat, by omega, by omega, by omega⟩
    rw [hk] at HW
    (repeat refine sw_seq ?_); refine sw_region ?_
    repeat (first | refine sR (h := ?_) | refine sK (h := ?_) | refine sT (h := aM (h := ?_)) | refine sT (h := aB (h := ?_)) | refine sT (h := aA (h := ?_)) | refine sT (h := aS (h := ?_)) | refine sT (h := aL (h := ?_)))
    refine swt_act rfl (act_call_flat rfl rfl rfl rfl (HW) rfl rfl ?_)
    repeat (first | refine sR (h := ?_) | refine sK (h := ?_) | refine sT (h := aM (h := ?_)) | refine sT (h := aB (h := ?_)) | refine sT (h := aA (h := ?_)) | refine sT (h := aS (h := ?_)) | refine sT (h := aL (h := ?_)))
    refine swt_nil ?_
    refine SW.wk (wk_only [0, 2, 7] [] rfl rfl) ?_
    (repeat refine sw_seq ?_); refine sw_region_spec (by kernel_rfl) ?_
    repeat (refine sws_read ttab_ok rfl (by exact True.intro) rfl ?_)
    refine sws_nil ?_
    refine SW.wk (wk_only [0, 2, 7, 8] [] rfl rfl) ?_
    change SW _ _ _ ⟨93, [(0, .p (pS t)), (2, .p (.v (.int .u8 b))), (7, .p (pI k)), (8, .p (pB (!(bif (bif (bif decide (b ≥ 97) then decide (b ≤ 122) else false) then true else (bif decide (b ≥ 48) then decide (b ≤ 57) else false)) then true else (b == 95)))))], []⟩
    have hbad : (!(bif (bif (bif decide (b ≥ 97) then decide (b ≤ 122) else false) then true else (bif decide (b ≥ 48) then decide (b ≤ 57) else false)) then true else (b == 95))) = !okC false (UInt8.ofNat b.toNat).toNat := by
      have e : (UInt8.ofNat b.toNat).toNat = b.toNat := by rw [UInt8.toNat_ofNat']; omega
      rw [e, Bool.eq_iff_iff]
      unfold okC
      cases h1 : decide (b ≥ 97) <;> cases h2 : decide (b ≤ 122) <;> cases h3 : decide (b ≥ 48) <;> cases h4 : decide (b ≤ 57) <;> simp at h1 h2 h3 h4 ⊢ <;> omega
    rw [hbad]
    clear hbad
    (repeat refine sw_seq ?_); refine sw_region ?_
    repeat (first | refine sR (h := ?_) | refine sK (h := ?_) | refine sT (h := aM (h := ?_)) | refine sT (h := aB (h := ?_)) | refine sT (h := aA (h := ?_)) | refine sT (h := aS (h := ?_)) | refine sT (h := aL (h := ?_)))
    refine swt_nil ?_
    (repeat refine sw_seq ?_); refine sw_block ?_
    refine SW.wk (wk_only [0, 2, 7, 8, 9] [] rfl rfl) ?_
    refine sw_loop (fun m st => ∃ lg : ByteArray, Lng t lg ∧ lg.size ≤ 17 ∧ m = 17 - lg.size ∧ st = ⟨93, [(0, .p (pS t)), (2, .p (.v (.int .u8 b))), (7, .p (pI k)), (8, .p (pB (!okC false (UInt8.ofNat b.toNat).toNat))), (9, .p (pS lg))], []⟩) (17 - t.size) ⟨t, ⟨Nat.le_refl _, g1⟩, by omega, rfl, rfl⟩ ?_
    rintro m st ⟨lg, hL, hl17, rfl, rfl⟩
    (repeat refine sw_seq ?_); refine sw_region ?_
    repeat (first | refine sR (h := ?_) | refine sK (h := ?_) | refine sT (h := aM (h := ?_)) | refine sT (h := aB (h := ?_)) | refine sT (h := aA (h := ?_)) | refine sT (h := aS (h := ?_)) | refine sT (h := aL (h := ?_)))
    refine swt_nil ?_
    (repeat refine sw_seq ?_); refine sw_cond rfl (fun hlt => ?_) (fun hlt => ?_)
    · refine sw_skip ?_
      have hlt' : lg.size ≤ 16 := by simp at hlt; omega
      (repeat refine sw_seq ?_); refine sw_block ?_
      (repeat refine sw_seq ?_); refine sw_region ?_
      repeat (first | refine sR (h := ?_) | refine sK (h := ?_) | refine sT (h := aM (h := ?_)) | refine sT (h := aB (h := ?_)) | refine sT (h := aA (h := ?_)) | refine sT (h := aS (h := ?_)) | refine sT (h := aL (h := ?_)))
      refine swt_read ttab_ok rfl rfl (by rw [show (⟨#[120]⟩ : ByteArray).size = 1 from rfl]; unfold IntKind.max; simp [IntKind.signed, IntKind.bits]; omega) rfl ?_
      repeat (first | refine sR (h := ?_) | refine sK (h := ?_) | refine sT (h := aM (h := ?_)) | refine sT (h := aB (h := ?_)) | refine sT (h := aA (h := ?_)) | refine sT (h := aS (h := ?_)) | refine sT (h := aL (h := ?_)))
      refine swt_nil ?_
      have hz : (lg ++ (⟨#[120]⟩ : ByteArray)).size = lg.size + 1 := by rw [ByteArray.size_append]; rfl
      refine ⟨_, _, ?_, wk_only [0, 2, 7, 8, 9] [] rfl rfl, lg ++ ⟨#[120]⟩, hL.more, by omega, rfl, rfl⟩
      omega
    · refine sw_exit ?_
      have h17 : lg.size = 17 := by
        have : ¬ (lg.size : Int) ≤ 16 := by simpa using hlt
        omega
      refine SW.wk (wk_only [0, 2, 7, 8, 9] [] rfl rfl) ?_
      have T1 := name_h (t.extract 0 k) (by rw [ext_size t hk2]; unfold reachBytes; omega)
      rw [name_pre hN hk1 hk2] at T1
      have T3 := name_h lg (by unfold reachBytes; omega)
      rw [name_long (by omega)] at T3
      have T4 := name_h (lg.extract 0 16) (by rw [ext_size lg (by omega)]; unfold reachBytes; omega)
      rw [hL.name (by omega)] at T4
      generalize hokb : okC false (UInt8.ofNat b.toNat).toNat = okb at *
      cases okb with
      | true =>
        (repeat refine sw_seq ?_); refine sw_region_draw [] [(0, true), (1, true), (2, true), (3, false), (4, true), (5, true), (6, true), (7, true), (8, true), (9, true), (10, true), (11, true), (12, true), (16, true), (17, true), (18, true), (13, false), (14, true), (15, true), (19, true), (20, false), (21, true), (22, true), (23, true), (24, true), (25, true), (26, false), (27, true), (28, true), (29, true), (30, true), (31, true), (32, false), (33, true), (34, true), (35, false), (36, true), (37, true)] (by kernel_rfl) (by kernel_rfl) (by kernel_rfl) ?_
        repeat (first | refine mR (h := ?_) | refine mK (h := ?_) | refine mT (h := aM (h := ?_)) | refine mT (h := aB (h := ?_)) | refine mT (h := aA (h := ?_)) | refine mT (h := aS (h := ?_)) | refine mT (h := aL (h := ?_)))
        refine swm_read ttab_ok rfl rfl rfl (by omega) rfl ?_
        repeat (first | refine mR (h := ?_) | refine mK (h := ?_) | refine mT (h := aM (h := ?_)) | refine mT (h := aB (h := ?_)) | refine mT (h := aA (h := ?_)) | refine mT (h := aS (h := ?_)) | refine mT (h := aL (h := ?_)))
        refine swm_act rfl rfl rfl (act_call_flat rfl rfl rfl rfl (T1) rfl rfl ?_)
        repeat (first | refine mR (h := ?_) | refine mK (h := ?_) | refine mT (h := aM (h := ?_)) | refine mT (h := aB (h := ?_)) | refine mT (h := aA (h := ?_)) | refine mT (h := aS (h := ?_)) | refine mT (h := aL (h := ?_)))
        refine swm_act rfl rfl rfl (act_call_flat rfl rfl rfl rfl (T3) rfl rfl ?_)
        repeat (first | refine mR (h := ?_) | refine mK (h := ?_) | refine mT (h := aM (h := ?_)) | refine mT (h := aB (h := ?_)) | refine mT (h := aA (h := ?_)) | refine mT (h := aS (h := ?_)) | refine mT (h := aL (h := ?_)))
        refine swm_read ttab_ok rfl rfl rfl (by omega) rfl ?_
        repeat (first | refine mR (h := ?_) | refine mK (h := ?_) | refine mT (h := aM (h := ?_)) | refine mT (h := aB (h := ?_)) | refine mT (h := aA (h := ?_)) | refine mT (h := aS (h := ?_)) | refine mT (h := aL (h := ?_)))
        refine swm_act rfl rfl rfl (act_call_flat rfl rfl rfl rfl (T4) rfl rfl ?_)
        repeat (first | refine mR (h := ?_) | refine mK (h := ?_) | refine mT (h := aM (h := ?_)) | refine mT (h := aB (h := ?_)) | refine mT (h := aA (h := ?_)) | refine mT (h := aS (h := ?_)) | refine mT (h := aL (h := ?_)))
        refine swm_act rfl rfl rfl (act_call_flat rfl rfl rfl rfl (valRuns_h) rfl rfl ?_)
        repeat (first | refine mR (h := ?_) | refine mK (h := ?_) | refine mT (h := aM (h := ?_)) | refine mT (h := aB (h := ?_)) | refine mT (h := aA (h := ?_)) | refine mT (h := aS (h := ?_)) | refine mT (h := aL (h := ?_)))
        refine swm_nil ?_
        (repeat refine sw_seq ?_); refine sw_ret ?_
        exact fin_b rfl rfl
      | false =>
        have z1 : (t.extract 0 (k - 1)).size = k - 1 := by rw [ext_size t (by omega)]; omega
        have z2 : (t.extract k t.size).size = t.size - k := ext_size t (Nat.le_refl _)
        have z3 : (t.extract 0 (k - 1) ++ (⟨#[UInt8.ofNat b.toNat]⟩ : ByteArray)).size = k := by rw [ByteArray.size_append, z1]; show k - 1 + 1 = k; omega
        have z4 : (t.extract 0 (k - 1) ++ (⟨#[UInt8.ofNat b.toNat]⟩ : ByteArray) ++ t.extract k t.size).size = t.size := by rw [ByteArray.size_append, z3, z2]; omega
        have T2 := name_h (t.extract 0 (k - 1) ++ (⟨#[UInt8.ofNat b.toNat]⟩ : ByteArray) ++ t.extract k t.size) (by rw [z4]; unfold reachBytes; omega)
        rw [name_bad hk1 hk2 hokb] at T2
        have ek : IntKind.i64.wrap ((k : Int) - 1) = ((k - 1 : Nat) : Int) := by rw [IntWalk.i64_in _ (by omega)]; omega
        (repeat refine sw_seq ?_); refine sw_region_draw [] [(0, true), (1, true), (2, true), (3, false), (4, true), (5, true), (6, true), (7, true), (8, true), (9, true), (10, true), (11, true), (12, true), (16, true), (17, true), (18, true), (13, false), (14, true), (15, true), (19, true), (20, false), (21, true), (22, true), (23, true), (24, true), (25, true), (26, false), (27, true), (28, true), (29, true), (30, true), (31, true), (32, false), (33, true), (34, true), (35, false), (36, true), (37, true)] (by kernel_rfl) (by kernel_rfl) (by kernel_rfl) ?_
        repeat (first | refine mR (h := ?_) | refine mK (h := ?_) | refine mT (h := aM (h := ?_)) | refine mT (h := aB (h := ?_)) | refine mT (h := aA (h := ?_)) | refine mT (h := aS (h := ?_)) | refine mT (h := aL (h := ?_)))
        refine swm_read ttab_ok rfl rfl rfl (by omega) rfl ?_
        repeat (first | refine mR (h := ?_) | refine mK (h := ?_) | refine mT (h := aM (h := ?_)) | refine mT (h := aB (h := ?_)) | refine mT (h := aA (h := ?_)) | refine mT (h := aS (h := ?_)) | refine mT (h := aL (h := ?_)))
        refine swm_act rfl rfl rfl (act_call_flat rfl rfl rfl rfl (T1) rfl rfl ?_)
        repeat (first | refine mR (h := ?_) | refine mK (h := ?_) | refine mT (h := aM (h := ?_)) | refine mT (h := aB (h := ?_)) | refine mT (h := aA (h := ?_)) | refine mT (h := aS (h := ?_)) | refine mT (h := aL (h := ?_)))
        rw [ek]
        repeat (first | refine mR (h := ?_) | refine mK (h := ?_) | refine mT (h := aM (h := ?_)) | refine mT (h := aB (h := ?_)) | refine mT (h := aA (h := ?_)) | refine mT (h := aS (h := ?_)) | refine mT (h := aL (h := ?_)))
        refine swm_read ttab_ok rfl rfl rfl (by omega) rfl ?_
        repeat (first | refine mR (h := ?_) | refine mK (h := ?_) | refine mT (h := aM (h := ?_)) | refine mT (h := aB (h := ?_)) | refine mT (h := aA (h := ?_)) | refine mT (h := aS (h := ?_)) | refine mT (h := aL (h := ?_)))
        refine swm_read ttab_ok rfl rfl rfl (by omega) rfl ?_
        repeat (first | refine mR (h := ?_) | refine mK (h := ?_) | refine mT (h := aM (h := ?_)) | refine mT (h := aB (h := ?_)) | refine mT (h := aA (h := ?_)) | refine mT (h := aS (h := ?_)) | refine mT (h := aL (h := ?_)))
        refine swm_rd rfl rfl (conv_rd rfl rfl) rfl ?_
        repeat (first | refine mR (h := ?_) | refine mK (h := ?_) | refine mT (h := aM (h := ?_)) | refine mT (h := aB (h := ?_)) | refine mT (h := aA (h := ?_)) | refine mT (h := aS (h := ?_)) | refine mT (h := aL (h := ?_)))
        refine swm_read ttab_ok rfl rfl rfl (by show (((t.extract 0 (k - 1)).size + 1 : Nat) : Int) ≤ IntKind.i64.max; rw [z1]; unfold IntKind.max; simp [IntKind.signed, IntKind.bits]; omega) rfl ?_
        repeat (first | refine mR (h := ?_) | refine mK (h := ?_) | refine mT (h := aM (h := ?_)) | refine mT (h := aB (h := ?_)) | refine mT (h := aA (h := ?_)) | refine mT (h := aS (h := ?_)) | refine mT (h := aL (h := ?_)))
        refine swm_read ttab_ok rfl rfl rfl (by show (((t.extract 0 (k - 1) ++ (⟨#[UInt8.ofNat b.toNat]⟩ : ByteArray)).size + (t.extract k t.size).size : Nat) : Int) ≤ IntKind.i64.max; rw [z3, z2]; unfold IntKind.max; simp [IntKind.signed, IntKind.bits]; omega) rfl ?_
        repeat (first | refine mR (h := ?_) | refine mK (h := ?_) | refine mT (h := aM (h := ?_)) | refine mT (h := aB (h := ?_)) | refine mT (h := aA (h := ?_)) | refine mT (h := aS (h := ?_)) | refine mT (h := aL (h := ?_)))
        refine swm_act rfl rfl rfl (act_call_flat rfl rfl rfl rfl (T2) rfl rfl ?_)
        repeat (first | refine mR (h := ?_) | refine mK (h := ?_) | refine mT (h := aM (h := ?_)) | refine mT (h := aB (h := ?_)) | refine mT (h := aA (h := ?_)) | refine mT (h := aS (h := ?_)) | refine mT (h := aL (h := ?_)))
        refine swm_act rfl rfl rfl (act_call_flat rfl rfl rfl rfl (T3) rfl rfl ?_)
        repeat (first | refine mR (h := ?_) | refine mK (h := ?_) | refine mT (h := aM (h := ?_)) | refine mT (h := aB (h := ?_)) | refine mT (h := aA (h := ?_)) | refine mT (h := aS (h := ?_)) | refine mT (h := aL (h := ?_)))
        refine swm_read ttab_ok rfl rfl rfl (by omega) rfl ?_
        repeat (first | refine mR (h := ?_) | refine mK (h := ?_) | refine mT (h := aM (h := ?_)) | refine mT (h := aB (h := ?_)) | refine mT (h := aA (h := ?_)) | refine mT (h := aS (h := ?_)) | refine mT (h := aL (h := ?_)))
        refine swm_act rfl rfl rfl (act_call_flat rfl rfl rfl rfl (T4) rfl rfl ?_)
        repeat (first | refine mR (h := ?_) | refine mK (h := ?_) | refine mT (h := aM (h := ?_)) | refine mT (h := aB (h := ?_)) | refine mT (h := aA (h := ?_)) | refine mT (h := aS (h := ?_)) | refine mT (h := aL (h := ?_)))
        refine swm_act rfl rfl rfl (act_call_flat rfl rfl rfl rfl (valRuns_h) rfl rfl ?_)
        repeat (first | refine mR (h := ?_) | refine mK (h := ?_) | refine mT (h := aM (h := ?_)) | refine mT (h := aB (h := ?_)) | refine mT (h := aA (h := ?_)) | refine mT (h := aS (h := ?_)) | refine mT (h := aL (h := ?_)))
        refine swm_nil ?_
        (repeat refine sw_seq ?_); refine sw_ret ?_
        exact fin_b rfl rfl
end Go.Proofs.YtiiagdnmbpdlaaaDoor
