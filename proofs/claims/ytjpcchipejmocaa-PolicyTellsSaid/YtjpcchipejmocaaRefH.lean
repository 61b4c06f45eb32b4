/-
  The document's own answers to chapters 3 and 8 (bailiffref1, bailiffref7), by shades: what may be.
-/
import Derived.Test.YtjpcchipejmocaaSh
import Derived.Test.YtjpcchipejmocaaPolW
namespace Go.Proofs.Ytjpcchipejmocaa
set_option linter.unusedVariables false
set_option linter.unusedSimpArgs false
open Go.RowKit
set_option maxHeartbeats 4000000
theorem byteAt_get {s : ByteArray} {k : Nat} (hk : k < s.size) : byteAt s k = (s[k].toNat : Int) := by
  unfold byteAt
  have : s.data.getD k 0 = s[k] := by
    rw [Array.getD_eq_getD_getElem?, Array.getElem?_eq_getElem (by exact hk)]; rfl
  rw [this]
theorem refName_h (s : ByteArray) (hs : s.size ≤ reachBytes) : Holds Try.prog 61 [pS s] (.p (pB (nameS s))) [] := by
  unfold reachBytes at hs
  refine holds_of (ts := [2]) Try.func61 (by kernel_rfl) rfl rfl rfl ?_
  (repeat refine sw_seq ?_); refine sw_region ?_
  repeat (first | refine sR (h := ?_) | refine sK (h := ?_) | refine sT (h := aM (h := ?_)) | refine sT (h := aB (h := ?_)) | refine sT (h := aA (h := ?_)) | refine sT (h := aS (h := ?_)) | refine sT (h := aL (h := ?_)))
  refine swt_nil ?_
  (repeat refine sw_seq ?_); refine sw_region ?_
  repeat (first | refine sR (h := ?_) | refine sK (h := ?_) | refine sT (h := aM (h := ?_)) | refine sT (h := aB (h := ?_)) | refine sT (h := aA (h := ?_)) | refine sT (h := aS (h := ?_)) | refine sT (h := aL (h := ?_)))
  refine swt_nil ?_
  (repeat refine sw_seq ?_); refine sw_block ?_
  refine SW.wk (wk_only [0, 3] [] rfl rfl) ?_
  refine sw_loop (fun m st => ∃ (k : Nat) (kk : Int), k ≤ s.size ∧ m = s.size - k ∧ kk = k ∧ (∀ i (h : i < s.size), i < k → okC (i == 0) s[i].toNat = true) ∧ st = ⟨45, [(0, .p (pS s)), (3, .p (pI kk))], []⟩) s.size ⟨0, 0, Nat.zero_le _, rfl, rfl, fun i _ h => absurd h (Nat.not_lt_zero _), rfl⟩ ?_
  rintro m st ⟨k, _, hk, rfl, rfl, ha, rfl⟩
  (repeat refine sw_seq ?_); refine sw_region ?_
  repeat (first | refine sR (h := ?_) | refine sK (h := ?_) | refine sT (h := aM (h := ?_)) | refine sT (h := aB (h := ?_)) | refine sT (h := aA (h := ?_)) | refine sT (h := aS (h := ?_)) | refine sT (h := aL (h := ?_)))
  refine swt_nil ?_
  (repeat refine sw_seq ?_); refine sw_cond rfl (fun hlt => ?_) (fun hlt => ?_)
  · refine sw_skip ?_
    have hlt' : k < s.size := by simpa using hlt
    (repeat refine sw_seq ?_); refine sw_block ?_
    (repeat refine sw_seq ?_); refine sw_region ?_
    repeat (first | refine sR (h := ?_) | refine sK (h := ?_) | refine sT (h := aM (h := ?_)) | refine sT (h := aB (h := ?_)) | refine sT (h := aA (h := ?_)) | refine sT (h := aS (h := ?_)) | refine sT (h := aL (h := ?_)))
    refine swt_read ttab_ok rfl rfl (by omega) rfl ?_
    rw [show Int.toNat (k : Int) = k from rfl, byteAt_get hlt']
    repeat (first | refine sR (h := ?_) | refine sK (h := ?_) | refine sT (h := aM (h := ?_)) | refine sT (h := aB (h := ?_)) | refine sT (h := aA (h := ?_)) | refine sT (h := aS (h := ?_)) | refine sT (h := aL (h := ?_)))
    refine swt_nil ?_
    (repeat refine sw_seq ?_); refine sw_region_spec (by kernel_rfl) ?_
    repeat (refine sws_read ttab_ok rfl (by exact True.intro) rfl ?_)
    refine sws_nil ?_
    obtain ⟨c, hc⟩ : ∃ c : Nat, c = s[k].toNat := ⟨_, rfl⟩
    rw [← hc]
    have hok : okC (k == 0) s[k].toNat = ((97 ≤ c && c ≤ 122) || (!(k == 0) && ((48 ≤ c && c ≤ 57) || c == 95))) := by rw [← hc]; rfl
    (repeat refine sw_seq ?_); refine sw_cond rfl (fun hb => ?_) (fun hb => ?_)
    · (repeat refine sw_seq ?_); refine sw_region ?_
      repeat (first | refine sR (h := ?_) | refine sK (h := ?_) | refine sT (h := aM (h := ?_)) | refine sT (h := aB (h := ?_)) | refine sT (h := aA (h := ?_)) | refine sT (h := aS (h := ?_)) | refine sT (h := aL (h := ?_)))
      refine swt_nil ?_
      (repeat refine sw_seq ?_); refine sw_ret ?_
      refine fin_b rfl (nameS_no hlt' ?_).symm
      rw [hok]
      revert hb
      cases h1 : decide (97 ≤ c) <;> cases h2 : decide (c ≤ 122) <;> cases h3 : decide (48 ≤ c) <;> cases h4 : decide (c ≤ 57) <;> simp_all <;> omega
    · refine sw_skip ?_
      (repeat refine sw_seq ?_); refine sw_region ?_
      repeat (first | refine sR (h := ?_) | refine sK (h := ?_) | refine sT (h := aM (h := ?_)) | refine sT (h := aB (h := ?_)) | refine sT (h := aA (h := ?_)) | refine sT (h := aS (h := ?_)) | refine sT (h := aL (h := ?_)))
      refine swt_nil ?_
      refine ⟨_, _, ?_, wk_only [0, 3] [] rfl rfl, k + 1, _, hlt', rfl, wrap_succ hlt' (by omega), name_step hlt' ha ?_, rfl⟩
      · omega
      · rw [hok]
        revert hb
        cases h1 : decide (97 ≤ c) <;> cases h2 : decide (c ≤ 122) <;> cases h3 : decide (48 ≤ c) <;> cases h4 : decide (c ≤ 57) <;> simp_all <;> omega
  · refine sw_exit ?_
    have hkk : k = s.size := by
      have : ¬ (k : Int) < (s.size : Int) := by simpa using hlt
      omega
    subst hkk
    (repeat refine sw_seq ?_); refine sw_region_spec (by kernel_rfl) ?_
    repeat (refine sws_read ttab_ok rfl (by exact True.intro) rfl ?_)
    refine sws_nil ?_
    (repeat refine sw_seq ?_); refine sw_ret ?_
    refine fin_b rfl ?_
    rw [nameS_end ha, Bool.eq_iff_iff]
    simp
    omega
theorem refRight_h (v : Val) (hs : v.s.size ≤ reachBytes) : Holds Try.prog 62 [.agg v.pv] (.p (pB v.right)) [] := by
  unfold Val.right
  refine holds_of (ts := [2]) Try.func62 (by kernel_rfl) rfl rfl rfl ?_
  (repeat refine sw_seq ?_); refine sw_region ?_
  repeat (first | refine sR (h := ?_) | refine sK (h := ?_) | refine sT (h := aM (h := ?_)) | refine sT (h := aB (h := ?_)) | refine sT (h := aA (h := ?_)) | refine sT (h := aS (h := ?_)) | refine sT (h := aL (h := ?_)))
  refine swt_nil ?_
  (repeat refine sw_seq ?_); refine sw_region ?_
  repeat (first | refine sR (h := ?_) | refine sK (h := ?_) | refine sT (h := aM (h := ?_)) | refine sT (h := aB (h := ?_)) | refine sT (h := aA (h := ?_)) | refine sT (h := aS (h := ?_)) | refine sT (h := aL (h := ?_)))
  refine swt_nil ?_
  (repeat refine sw_seq ?_); refine sw_block ?_
  (repeat refine sw_seq ?_); refine sw_region ?_
  repeat (first | refine sR (h := ?_) | refine sK (h := ?_) | refine sT (h := aM (h := ?_)) | refine sT (h := aB (h := ?_)) | refine sT (h := aA (h := ?_)) | refine sT (h := aS (h := ?_)) | refine sT (h := aL (h := ?_)))
  refine swt_nil ?_
  (repeat refine sw_seq ?_); refine sw_cond rfl (fun h1 => ?_) (fun h1 => ?_)
  · have e1 : v.kind = 1 := by simpa using h1
    rw [if_pos e1]
    (repeat refine sw_seq ?_); refine sw_region_spec (by kernel_rfl) ?_
    repeat (refine sws_read ttab_ok rfl (by exact True.intro) rfl ?_)
    refine sws_nil ?_
    (repeat refine sw_seq ?_); refine sw_ret ?_
    refine fin_b rfl ?_
    rw [Bool.eq_iff_iff]
    simp [toList_size]
  · have n1 : ¬ v.kind = 1 := by simpa using h1
    rw [if_neg n1]
    (repeat refine sw_seq ?_); refine sw_region ?_
    repeat (first | refine sR (h := ?_) | refine sK (h := ?_) | refine sT (h := aM (h := ?_)) | refine sT (h := aB (h := ?_)) | refine sT (h := aA (h := ?_)) | refine sT (h := aS (h := ?_)) | refine sT (h := aL (h := ?_)))
    refine swt_nil ?_
    (repeat refine sw_seq ?_); refine sw_cond rfl (fun h2 => ?_) (fun h2 => ?_)
    · have e1 : v.kind = 2 := by simpa using h2
      rw [if_pos e1]
      (repeat refine sw_seq ?_); refine sw_region ?_
      repeat (first | refine sR (h := ?_) | refine sK (h := ?_) | refine sT (h := aM (h := ?_)) | refine sT (h := aB (h := ?_)) | refine sT (h := aA (h := ?_)) | refine sT (h := aS (h := ?_)) | refine sT (h := aL (h := ?_)))
      refine swt_nil ?_
      (repeat refine sw_seq ?_); refine sw_ret ?_
      refine fin_b rfl ?_
      rw [Bool.eq_iff_iff]
      simp [toList_size]
    · have n2 : ¬ v.kind = 2 := by simpa using h2
      rw [if_neg n2]
      (repeat refine sw_seq ?_); refine sw_region ?_
      repeat (first | refine sR (h := ?_) | refine sK (h := ?_) | refine sT (h := aM (h := ?_)) | refine sT (h := aB (h := ?_)) | refine sT (h := aA (h := ?_)) | refine sT (h := aS (h := ?_)) | refine sT (h := aL (h := ?_)))
      refine swt_nil ?_
      (repeat refine sw_seq ?_); refine sw_cond rfl (fun h3 => ?_) (fun h3 => ?_)
      · have e1 : v.kind = 3 := by simpa using h3
        rw [if_pos e1]
        (repeat refine sw_seq ?_); refine sw_region_spec (by kernel_rfl) ?_
        repeat (refine sws_read ttab_ok rfl (by exact True.intro) rfl ?_)
        refine sws_nil ?_
        (repeat refine sw_seq ?_); refine sw_ret ?_
        refine fin_b rfl ?_
        rw [Bool.eq_iff_iff]
        simp
        try omega
      · have n3 : ¬ v.kind = 3 := by simpa using h3
        rw [if_neg n3]
        (repeat refine sw_seq ?_); refine sw_region ?_
        repeat (first | refine sR (h := ?_) | refine sK (h := ?_) | refine sT (h := aM (h := ?_)) | refine sT (h := aB (h := ?_)) | refine sT (h := aA (h := ?_)) | refine sT (h := aS (h := ?_)) | refine sT (h := aL (h := ?_)))
        refine swt_nil ?_
        (repeat refine sw_seq ?_); refine sw_cond rfl (fun h4 => ?_) (fun h4 => ?_)
        · have e1 : v.kind = 4 := by simpa using h4
          rw [if_pos e1]
          (repeat refine sw_seq ?_); refine sw_region_spec (by kernel_rfl) ?_
          repeat (refine sws_read ttab_ok rfl (by exact True.intro) rfl ?_)
          refine sws_nil ?_
          (repeat refine sw_seq ?_); refine sw_ret ?_
          refine fin_b rfl ?_
          rw [Bool.eq_iff_iff]
          simp [toList_size]
          try omega
        · have n4 : ¬ v.kind = 4 := by simpa using h4
          rw [if_neg n4]
          (repeat refine sw_seq ?_); refine sw_region ?_
          repeat (first | refine sR (h := ?_) | refine sK (h := ?_) | refine sT (h := aM (h := ?_)) | refine sT (h := aB (h := ?_)) | refine sT (h := aA (h := ?_)) | refine sT (h := aS (h := ?_)) | refine sT (h := aL (h := ?_)))
          refine swt_nil ?_
          (repeat refine sw_seq ?_); refine sw_cond rfl (fun h5 => ?_) (fun h5 => ?_)
          · have e1 : v.kind = 5 := by simpa using h5
            rw [if_pos e1]
            (repeat refine sw_seq ?_); refine sw_region_spec (by kernel_rfl) ?_
            repeat (refine sws_read ttab_ok rfl (by exact True.intro) rfl ?_)
            refine sws_call rfl rfl rfl rfl (refName_h v.s hs) rfl rfl ?_
            repeat (refine sws_read ttab_ok rfl (by exact True.intro) rfl ?_)
            refine sws_nil ?_
            (repeat refine sw_seq ?_); refine sw_ret ?_
            refine fin_b rfl ?_
            rw [Bool.eq_iff_iff]
            simp
          · have n5 : ¬ v.kind = 5 := by simpa using h5
            rw [if_neg n5]
            refine sw_skip ?_
            (repeat refine sw_seq ?_); refine sw_region ?_
            repeat (first | refine sR (h := ?_) | refine sK (h := ?_) | refine sT (h := aM (h := ?_)) | refine sT (h := aB (h := ?_)) | refine sT (h := aA (h := ?_)) | refine sT (h := aS (h := ?_)) | refine sT (h := aL (h := ?_)))
            refine swt_nil ?_
            (repeat refine sw_seq ?_); refine sw_ret ?_
            exact fin_b rfl rfl
theorem refAttr_h (a : Atr) (ha : a.name.size ≤ reachBytes) : Holds Try.prog 37 [.agg a.pv] (.p (pB (attrS a))) [] := by
  refine holds_of (ts := [2]) Try.func37 (by kernel_rfl) rfl rfl rfl ?_
  (repeat refine sw_seq ?_); refine sw_region ?_
  repeat (first | refine sR (h := ?_) | refine sK (h := ?_) | refine sT (h := aM (h := ?_)) | refine sT (h := aB (h := ?_)) | refine sT (h := aA (h := ?_)) | refine sT (h := aS (h := ?_)) | refine sT (h := aL (h := ?_)))
  refine swt_nil ?_
  (repeat refine sw_seq ?_); refine sw_region_spec (by kernel_rfl) ?_
  repeat (refine sws_read ttab_ok rfl (by exact True.intro) rfl ?_)
  refine sws_call rfl rfl rfl rfl (refName_h a.name ha) rfl rfl ?_
  repeat (refine sws_read ttab_ok rfl (by exact True.intro) rfl ?_)
  refine sws_nil ?_
  (repeat refine sw_seq ?_); refine sw_ret ?_
  refine fin_b rfl ?_
  unfold attrS
  cases h1 : decide (1 ≤ a.cat) <;> cases h2 : decide (a.cat ≤ 4) <;> simp_all
theorem refObls_h (l : List Obli) (hf : ∀ x ∈ l, x.Fit) : Holds Try.prog 40 [oblsP l] (.p (pI (oblsS l))) [] := by
  refine holds_of (ts := [2]) Try.func40 (by kernel_rfl) rfl rfl rfl ?_
  refine sw_len (t := 0) (z := 3) (l := l.map Obli.pv) rfl fun hlen => ?_
  rw [List.length_map] at hlen
  unfold reachBytes at hlen
  (repeat refine sw_seq ?_); refine sw_region ?_
  repeat (first | refine sR (h := ?_) | refine sK (h := ?_) | refine sT (h := aM (h := ?_)) | refine sT (h := aB (h := ?_)) | refine sT (h := aA (h := ?_)) | refine sT (h := aS (h := ?_)) | refine sT (h := aL (h := ?_)))
  refine swt_nil ?_
  (repeat refine sw_seq ?_); refine sw_region ?_
  repeat (first | refine sR (h := ?_) | refine sK (h := ?_) | refine sT (h := aM (h := ?_)) | refine sT (h := aB (h := ?_)) | refine sT (h := aA (h := ?_)) | refine sT (h := aS (h := ?_)) | refine sT (h := aL (h := ?_)))
  refine swt_nil ?_
  rw [List.length_map]
  (repeat refine sw_seq ?_); refine sw_cond rfl (fun hm => ?_) (fun hm => ?_)
  · (repeat refine sw_seq ?_); refine sw_region ?_
    repeat (first | refine sR (h := ?_) | refine sK (h := ?_) | refine sT (h := aM (h := ?_)) | refine sT (h := aB (h := ?_)) | refine sT (h := aA (h := ?_)) | refine sT (h := aS (h := ?_)) | refine sT (h := aL (h := ?_)))
    refine swt_nil ?_
    (repeat refine sw_seq ?_); refine sw_ret ?_
    refine fin_i rfl ?_
    have h0 : 8 < l.length := by simp at hm; omega
    simp [oblsS, h0]
  · refine sw_skip ?_
    have h0 : ¬ 8 < l.length := by simp at hm; omega
    (repeat refine sw_seq ?_); refine sw_region ?_
    repeat (first | refine sR (h := ?_) | refine sK (h := ?_) | refine sT (h := aM (h := ?_)) | refine sT (h := aB (h := ?_)) | refine sT (h := aA (h := ?_)) | refine sT (h := aS (h := ?_)) | refine sT (h := aL (h := ?_)))
    refine swt_nil ?_
    (repeat refine sw_seq ?_); refine sw_block ?_
    refine SW.wk (wk_only [8, 9, 10] [] rfl rfl) ?_
    refine sw_loop (fun n s => ∃ (k : Nat) (kk : Int), k ≤ l.length ∧ n = l.length - k ∧ kk = k ∧ (∀ x ∈ l.take k, okE (oblS x) = 0) ∧ s = ⟨39, [(8, .p (oblsP l)), (9, .p (pI (l.map Obli.pv).length)), (10, .p (pI kk))], []⟩) l.length ⟨0, 0, Nat.zero_le _, rfl, rfl, by simp, rfl⟩ ?_
    rintro n s ⟨k, _, hk, rfl, rfl, ha, rfl⟩
    (repeat refine sw_seq ?_); refine sw_region ?_
    repeat (first | refine sR (h := ?_) | refine sK (h := ?_) | refine sT (h := aM (h := ?_)) | refine sT (h := aB (h := ?_)) | refine sT (h := aA (h := ?_)) | refine sT (h := aS (h := ?_)) | refine sT (h := aL (h := ?_)))
    refine swt_nil ?_
    (repeat refine sw_seq ?_); refine sw_cond rfl (fun hlt => ?_) (fun hlt => ?_)
    · refine sw_skip ?_
      simp only [List.length_map, decide_eq_true_eq] at hlt
      have hlt' : k < l.length := by omega
      (repeat refine sw_seq ?_); refine sw_block ?_
      (repeat refine sw_seq ?_); refine sw_region ?_
      repeat (first | refine sR (h := ?_) | refine sK (h := ?_) | refine sT (h := aM (h := ?_)) | refine sT (h := aB (h := ?_)) | refine sT (h := aA (h := ?_)) | refine sT (h := aS (h := ?_)) | refine sT (h := aL (h := ?_)))
      refine swt_read ttab_ok rfl rfl (by simp only [List.length_map]; omega) rfl ?_
      rw [getD_map hlt']
      repeat (first | refine sR (h := ?_) | refine sK (h := ?_) | refine sT (h := aM (h := ?_)) | refine sT (h := aB (h := ?_)) | refine sT (h := aA (h := ?_)) | refine sT (h := aS (h := ?_)) | refine sT (h := aL (h := ?_)))
      refine swt_nil ?_
      (repeat refine sw_seq ?_); refine sw_region_spec (by kernel_rfl) ?_
      repeat (refine sws_read ttab_ok rfl (by exact True.intro) rfl ?_)
      refine sws_call rfl rfl rfl rfl (refName_h l[k].arg (hf _ (List.getElem_mem hlt')).arg) rfl rfl ?_
      repeat (refine sws_read ttab_ok rfl (by exact True.intro) rfl ?_)
      refine sws_nil ?_
      (repeat refine sw_seq ?_); refine sw_cond rfl (fun hp => ?_) (fun hp => ?_)
      · (repeat refine sw_seq ?_); refine sw_region ?_
        repeat (first | refine sR (h := ?_) | refine sK (h := ?_) | refine sT (h := aM (h := ?_)) | refine sT (h := aB (h := ?_)) | refine sT (h := aA (h := ?_)) | refine sT (h := aS (h := ?_)) | refine sT (h := aL (h := ?_)))
        refine swt_nil ?_
        (repeat refine sw_seq ?_); refine sw_ret ?_
        refine fin_i rfl ?_
        have hq : okE (oblS l[k]) = 1 := by
          have := oblS_eq l[k]
          cases h1 : oblS l[k] with
          | false => rfl
          | true =>
            exfalso
            rw [h1] at this
            simp at this hp
            rcases hp with ((((h | h) | h) | h) | h) <;> first | omega | simp_all
        rw [oblsS, if_neg h0, firstE_pre (f := fun m => okE (oblS m)) hlt' ha (by rw [hq]; decide), hq]
      · refine sw_skip ?_
        (repeat refine sw_seq ?_); refine sw_region ?_
        repeat (first | refine sR (h := ?_) | refine sK (h := ?_) | refine sT (h := aM (h := ?_)) | refine sT (h := aB (h := ?_)) | refine sT (h := aA (h := ?_)) | refine sT (h := aS (h := ?_)) | refine sT (h := aL (h := ?_)))
        refine swt_nil ?_
        refine ⟨_, _, ?_, wk_only [8, 9, 10] [] rfl rfl, k + 1, _, hlt', rfl, wrap_succ hlt' (by omega), take_ok hlt' ha ?_, rfl⟩
        · omega
        · have := oblS_eq l[k]
          cases h1 : oblS l[k] with
          | true => simp [okE, h1]
          | false =>
            exfalso
            rw [h1] at this
            simp at this hp
            rcases this with ((((h | h) | h) | h) | h) <;> first | omega | simp_all
    · refine sw_exit ?_
      simp only [List.length_map, decide_eq_false_iff_not] at hlt
      have hkk : k = l.length := by omega
      subst hkk
      rw [List.take_length] at ha
      (repeat refine sw_seq ?_); refine sw_region ?_
      repeat (first | refine sR (h := ?_) | refine sK (h := ?_) | refine sT (h := aM (h := ?_)) | refine sT (h := aB (h := ?_)) | refine sT (h := aA (h := ?_)) | refine sT (h := aS (h := ?_)) | refine sT (h := aL (h := ?_)))
      refine swt_nil ?_
      (repeat refine sw_seq ?_); refine sw_ret ?_
      refine fin_i rfl ?_
      simp [oblsS, h0, firstE_all ha]
theorem match_eq (m : Mat) : (!matchS m) = (!attrS m.attr || decide (m.op < 1) || decide (3 < m.op) || !m.val.right) := by
  rw [Bool.eq_iff_iff]
  simp [matchS]
theorem many_0 {n : Nat} (h1 : ¬ n < 1) (h2 : ¬ 8 < n) : manyS n = 0 := by unfold manyS; rw [if_neg (by omega), if_neg h2]
theorem many_no {n : Nat} (h1 : n < 1) : manyS n = 1 := by unfold manyS; rw [if_pos (by omega)]
theorem many_up {n : Nat} (h2 : 8 < n) : manyS n = 6 := by unfold manyS; rw [if_neg (by omega), if_pos h2]
theorem refTarget_h (t : Tar) (hf : TarFit t) (hl : ∀ x ∈ t, x.length ≤ reachBytes ∧ ∀ y ∈ x, y.length ≤ reachBytes) : Holds Try.prog 42 [tgtP t] (.p (pI (targetS t))) [] := by
  have lt : (t.map fun x => [anyP x]).length = t.length := by simp
  unfold reachBytes at hl
  refine holds_of (ts := [2]) Try.func42 (by kernel_rfl) rfl rfl rfl ?_
  refine sw_len (t := 0) (z := 1) (l := t.map fun x => [anyP x]) rfl fun hlen => ?_
  rw [lt] at hlen
  unfold reachBytes at hlen
  (repeat refine sw_seq ?_); refine sw_region ?_
  repeat (first | refine sR (h := ?_) | refine sK (h := ?_) | refine sT (h := aM (h := ?_)) | refine sT (h := aB (h := ?_)) | refine sT (h := aA (h := ?_)) | refine sT (h := aS (h := ?_)) | refine sT (h := aL (h := ?_)))
  refine swt_nil ?_
  (repeat refine sw_seq ?_); refine sw_region ?_
  repeat (first | refine sR (h := ?_) | refine sK (h := ?_) | refine sT (h := aM (h := ?_)) | refine sT (h := aB (h := ?_)) | refine sT (h := aA (h := ?_)) | refine sT (h := aS (h := ?_)) | refine sT (h := aL (h := ?_)))
  refine swt_nil ?_
  rw [lt]
  (repeat refine sw_seq ?_); refine sw_cond rfl (fun hm => ?_) (fun hm => ?_)
  · (repeat refine sw_seq ?_); refine sw_region ?_
    repeat (first | refine sR (h := ?_) | refine sK (h := ?_) | refine sT (h := aM (h := ?_)) | refine sT (h := aB (h := ?_)) | refine sT (h := aA (h := ?_)) | refine sT (h := aS (h := ?_)) | refine sT (h := aL (h := ?_)))
    refine swt_nil ?_
    (repeat refine sw_seq ?_); refine sw_ret ?_
    have h0 : 8 < t.length := by simp at hm; omega
    exact fin_i rfl (by simp [targetS, h0])
  have h0 : ¬ 8 < t.length := by simp at hm; omega
  have hT : targetS t = firstE anyOfS t := by unfold targetS; rw [if_neg h0]
  rw [hT]
  refine sw_skip ?_
  (repeat refine sw_seq ?_); refine sw_region ?_
  repeat (first | refine sR (h := ?_) | refine sK (h := ?_) | refine sT (h := aM (h := ?_)) | refine sT (h := aB (h := ?_)) | refine sT (h := aA (h := ?_)) | refine sT (h := aS (h := ?_)) | refine sT (h := aL (h := ?_)))
  refine swt_nil ?_
  (repeat refine sw_seq ?_); refine sw_block ?_
  refine SW.wk (wk_only [12, 13, 14] [] rfl rfl) ?_
  refine sw_loop (fun n s => ∃ (k : Nat) (kk : Int), k ≤ t.length ∧ n = t.length - k ∧ kk = k ∧ (∀ x ∈ t.take k, anyOfS x = 0) ∧ s = ⟨65, [(12, .p (tgtP t)), (13, .p (pI (t.map fun x => [anyP x]).length)), (14, .p (pI kk))], []⟩) t.length ⟨0, 0, Nat.zero_le _, rfl, rfl, by simp, rfl⟩ ?_
  rintro n s ⟨k, _, hk, rfl, rfl, ha, rfl⟩
  (repeat refine sw_seq ?_); refine sw_region ?_
  repeat (first | refine sR (h := ?_) | refine sK (h := ?_) | refine sT (h := aM (h := ?_)) | refine sT (h := aB (h := ?_)) | refine sT (h := aA (h := ?_)) | refine sT (h := aS (h := ?_)) | refine sT (h := aL (h := ?_)))
  refine swt_nil ?_
  (repeat refine sw_seq ?_); refine sw_cond rfl (fun hlt => ?_) (fun hlt => ?_)
  · refine sw_skip ?_
    rw [lt] at hlt
    simp only [decide_eq_true_eq] at hlt
    have hlt' : k < t.length := by omega
    obtain ⟨x, hx⟩ : ∃ x, x = t[k] := ⟨_, rfl⟩
    have hxl := hl _ (List.getElem_mem hlt')
    have hxf := hf _ (List.getElem_mem hlt')
    have lx : (x.map fun y => [matsP y]).length = x.length := by simp
    have stop : ∀ c : Int, anyOfS x = c → c ≠ 0 → firstE anyOfS t = c := fun c h1 h2 => by
      rw [firstE_pre hlt' ha (by rw [← hx, h1]; exact h2), ← hx, h1]
    rw [← hx] at hxl hxf
    have hxl1 := hxl.1
    (repeat refine sw_seq ?_); refine sw_block ?_
    (repeat refine sw_seq ?_); refine sw_region ?_
    repeat (first | refine sR (h := ?_) | refine sK (h := ?_) | refine sT (h := aM (h := ?_)) | refine sT (h := aB (h := ?_)) | refine sT (h := aA (h := ?_)) | refine sT (h := aS (h := ?_)) | refine sT (h := aL (h := ?_)))
    refine swt_read ttab_ok rfl rfl (by rw [lt]; omega) rfl ?_
    rw [getD_map hlt', ← hx]
    repeat (first | refine sR (h := ?_) | refine sK (h := ?_) | refine sT (h := aM (h := ?_)) | refine sT (h := aB (h := ?_)) | refine sT (h := aA (h := ?_)) | refine sT (h := aS (h := ?_)) | refine sT (h := aL (h := ?_)))
    refine swt_nil ?_
    (repeat refine sw_seq ?_); refine sw_region ?_
    repeat (first | refine sR (h := ?_) | refine sK (h := ?_) | refine sT (h := aM (h := ?_)) | refine sT (h := aB (h := ?_)) | refine sT (h := aA (h := ?_)) | refine sT (h := aS (h := ?_)) | refine sT (h := aL (h := ?_)))
    refine swt_nil ?_
    rw [lx]
    (repeat refine sw_seq ?_); refine sw_cond rfl (fun h1 => ?_) (fun h1 => ?_)
    · have h1' : x.length < 1 := by simp at h1; omega
      (repeat refine sw_seq ?_); refine sw_region ?_
      repeat (first | refine sR (h := ?_) | refine sK (h := ?_) | refine sT (h := aM (h := ?_)) | refine sT (h := aB (h := ?_)) | refine sT (h := aA (h := ?_)) | refine sT (h := aS (h := ?_)) | refine sT (h := aL (h := ?_)))
      refine swt_nil ?_
      (repeat refine sw_seq ?_); refine sw_ret ?_
      exact fin_i rfl (stop 1 (by unfold anyOfS; rw [many_no h1', if_neg (by decide)]) (by decide)).symm
    have h1' : ¬ x.length < 1 := by simp at h1; omega
    refine sw_skip ?_
    (repeat refine sw_seq ?_); refine sw_region ?_
    repeat (first | refine sR (h := ?_) | refine sK (h := ?_) | refine sT (h := aM (h := ?_)) | refine sT (h := aB (h := ?_)) | refine sT (h := aA (h := ?_)) | refine sT (h := aS (h := ?_)) | refine sT (h := aL (h := ?_)))
    refine swt_nil ?_
    rw [lx]
    (repeat refine sw_seq ?_); refine sw_cond rfl (fun h2 => ?_) (fun h2 => ?_)
    · have h2' : 8 < x.length := by simp at h2; omega
      (repeat refine sw_seq ?_); refine sw_region ?_
      repeat (first | refine sR (h := ?_) | refine sK (h := ?_) | refine sT (h := aM (h := ?_)) | refine sT (h := aB (h := ?_)) | refine sT (h := aA (h := ?_)) | refine sT (h := aS (h := ?_)) | refine sT (h := aL (h := ?_)))
      refine swt_nil ?_
      (repeat refine sw_seq ?_); refine sw_ret ?_
      exact fin_i rfl (stop 6 (by unfold anyOfS; rw [many_up h2', if_neg (by decide)]) (by decide)).symm
    have h2' : ¬ 8 < x.length := by simp at h2; omega
    have hX : anyOfS x = firstE allOfS x := by unfold anyOfS; rw [many_0 h1' h2', if_pos rfl]
    rw [hX] at stop
    refine sw_skip ?_
    (repeat refine sw_seq ?_); refine sw_region ?_
    repeat (first | refine sR (h := ?_) | refine sK (h := ?_) | refine sT (h := aM (h := ?_)) | refine sT (h := aB (h := ?_)) | refine sT (h := aA (h := ?_)) | refine sT (h := aS (h := ?_)) | refine sT (h := aL (h := ?_)))
    refine swt_nil ?_
    (repeat refine sw_seq ?_); refine sw_block ?_
    refine SW.wk (wk_only [12, 13, 14, 24, 25, 26] [] rfl rfl) ?_
    refine sw_loop (fun n s => ∃ (j : Nat) (jj : Int), j ≤ x.length ∧ n = x.length - j ∧ jj = j ∧ (∀ y ∈ x.take j, allOfS y = 0) ∧ s = ⟨65, [(12, .p (tgtP t)), (13, .p (pI (t.map fun x => [anyP x]).length)), (14, .p (pI k)), (24, .p (anyP x)), (25, .p (pI (x.map fun y => [matsP y]).length)), (26, .p (pI jj))], []⟩) x.length ⟨0, 0, Nat.zero_le _, rfl, rfl, by simp, rfl⟩ ?_
    rintro n s ⟨j, _, hj, rfl, rfl, hb, rfl⟩
    (repeat refine sw_seq ?_); refine sw_region ?_
    repeat (first | refine sR (h := ?_) | refine sK (h := ?_) | refine sT (h := aM (h := ?_)) | refine sT (h := aB (h := ?_)) | refine sT (h := aA (h := ?_)) | refine sT (h := aS (h := ?_)) | refine sT (h := aL (h := ?_)))
    refine swt_nil ?_
    (repeat refine sw_seq ?_); refine sw_cond rfl (fun hlj => ?_) (fun hlj => ?_)
    · refine sw_skip ?_
      rw [lx] at hlj
      simp only [decide_eq_true_eq] at hlj
      have hlj' : j < x.length := by omega
      obtain ⟨y, hy⟩ : ∃ y, y = x[j] := ⟨_, rfl⟩
      have hyl := hxl.2 _ (List.getElem_mem hlj')
      have hyf := hxf _ (List.getElem_mem hlj')
      have ly : (y.map Mat.pv).length = y.length := by simp
      have stop2 : ∀ c : Int, allOfS y = c → c ≠ 0 → firstE anyOfS t = c := fun c h1 h2 => stop c (by rw [firstE_pre hlj' hb (by rw [← hy, h1]; exact h2), ← hy, h1]) h2
      rw [← hy] at hyl hyf
      (repeat refine sw_seq ?_); refine sw_block ?_
      (repeat refine sw_seq ?_); refine sw_region ?_
      repeat (first | refine sR (h := ?_) | refine sK (h := ?_) | refine sT (h := aM (h := ?_)) | refine sT (h := aB (h := ?_)) | refine sT (h := aA (h := ?_)) | refine sT (h := aS (h := ?_)) | refine sT (h := aL (h := ?_)))
      refine swt_read ttab_ok rfl rfl (by rw [lx]; omega) rfl ?_
      rw [getD_map hlj', ← hy]
      repeat (first | refine sR (h := ?_) | refine sK (h := ?_) | refine sT (h := aM (h := ?_)) | refine sT (h := aB (h := ?_)) | refine sT (h := aA (h := ?_)) | refine sT (h := aS (h := ?_)) | refine sT (h := aL (h := ?_)))
      refine swt_nil ?_
      (repeat refine sw_seq ?_); refine sw_region ?_
      repeat (first | refine sR (h := ?_) | refine sK (h := ?_) | refine sT (h := aM (h := ?_)) | refine sT (h := aB (h := ?_)) | refine sT (h := aA (h := ?_)) | refine sT (h := aS (h := ?_)) | refine sT (h := aL (h := ?_)))
      refine swt_nil ?_
      rw [ly]
      (repeat refine sw_seq ?_); refine sw_cond rfl (fun h3 => ?_) (fun h3 => ?_)
      · have h3' : y.length < 1 := by simp at h3; omega
        (repeat refine sw_seq ?_); refine sw_region ?_
        repeat (first | refine sR (h := ?_) | refine sK (h := ?_) | refine sT (h := aM (h := ?_)) | refine sT (h := aB (h := ?_)) | refine sT (h := aA (h := ?_)) | refine sT (h := aS (h := ?_)) | refine sT (h := aL (h := ?_)))
        refine swt_nil ?_
        (repeat refine sw_seq ?_); refine sw_ret ?_
        exact fin_i rfl (stop2 1 (by unfold allOfS; rw [many_no h3', if_neg (by decide)]) (by decide)).symm
      have h3' : ¬ y.length < 1 := by simp at h3; omega
      refine sw_skip ?_
      (repeat refine sw_seq ?_); refine sw_region ?_
      repeat (first | refine sR (h := ?_) | refine sK (h := ?_) | refine sT (h := aM (h := ?_)) | refine sT (h := aB (h := ?_)) | refine sT (h := aA (h := ?_)) | refine sT (h := aS (h := ?_)) | refine sT (h := aL (h := ?_)))
      refine swt_nil ?_
      rw [ly]
      (repeat refine sw_seq ?_); refine sw_cond rfl (fun h4 => ?_) (fun h4 => ?_)
      · have h4' : 8 < y.length := by simp at h4; omega
        (repeat refine sw_seq ?_); refine sw_region ?_
        repeat (first | refine sR (h := ?_) | refine sK (h := ?_) | refine sT (h := aM (h := ?_)) | refine sT (h := aB (h := ?_)) | refine sT (h := aA (h := ?_)) | refine sT (h := aS (h := ?_)) | refine sT (h := aL (h := ?_)))
        refine swt_nil ?_
        (repeat refine sw_seq ?_); refine sw_ret ?_
        exact fin_i rfl (stop2 6 (by unfold allOfS; rw [many_up h4', if_neg (by decide)]) (by decide)).symm
      have h4' : ¬ 8 < y.length := by simp at h4; omega
      have hY : allOfS y = firstE (fun m => okE (matchS m)) y := by unfold allOfS; rw [many_0 h3' h4', if_pos rfl]
      rw [hY] at stop2
      refine sw_skip ?_
      (repeat refine sw_seq ?_); refine sw_region ?_
      repeat (first | refine sR (h := ?_) | refine sK (h := ?_) | refine sT (h := aM (h := ?_)) | refine sT (h := aB (h := ?_)) | refine sT (h := aA (h := ?_)) | refine sT (h := aS (h := ?_)) | refine sT (h := aL (h := ?_)))
      refine swt_nil ?_
      (repeat refine sw_seq ?_); refine sw_block ?_
      refine SW.wk (wk_only [12, 13, 14, 24, 25, 26, 36, 37, 38] [] rfl rfl) ?_
      refine sw_loop (fun n s => ∃ (i : Nat) (ii : Int), i ≤ y.length ∧ n = y.length - i ∧ ii = i ∧ (∀ m ∈ y.take i, okE (matchS m) = 0) ∧ s = ⟨65, [(12, .p (tgtP t)), (13, .p (pI (t.map fun x => [anyP x]).length)), (14, .p (pI k)), (24, .p (anyP x)), (25, .p (pI (x.map fun y => [matsP y]).length)), (26, .p (pI j)), (36, .p (matsP y)), (37, .p (pI (y.map Mat.pv).length)), (38, .p (pI ii))], []⟩) y.length ⟨0, 0, Nat.zero_le _, rfl, rfl, by simp, rfl⟩ ?_
      rintro n s ⟨i, _, hi, rfl, rfl, hc, rfl⟩
      (repeat refine sw_seq ?_); refine sw_region ?_
      repeat (first | refine sR (h := ?_) | refine sK (h := ?_) | refine sT (h := aM (h := ?_)) | refine sT (h := aB (h := ?_)) | refine sT (h := aA (h := ?_)) | refine sT (h := aS (h := ?_)) | refine sT (h := aL (h := ?_)))
      refine swt_nil ?_
      (repeat refine sw_seq ?_); refine sw_cond rfl (fun hli => ?_) (fun hli => ?_)
      · refine sw_skip ?_
        rw [ly] at hli
        simp only [decide_eq_true_eq] at hli
        have hli' : i < y.length := by omega
        have hmf := hyf _ (List.getElem_mem hli')
        have hme := match_eq y[i]
        (repeat refine sw_seq ?_); refine sw_block ?_
        (repeat refine sw_seq ?_); refine sw_region ?_
        repeat (first | refine sR (h := ?_) | refine sK (h := ?_) | refine sT (h := aM (h := ?_)) | refine sT (h := aB (h := ?_)) | refine sT (h := aA (h := ?_)) | refine sT (h := aS (h := ?_)) | refine sT (h := aL (h := ?_)))
        refine swt_read ttab_ok rfl rfl (by rw [ly]; omega) rfl ?_
        rw [getD_map hli']
        repeat (first | refine sR (h := ?_) | refine sK (h := ?_) | refine sT (h := aM (h := ?_)) | refine sT (h := aB (h := ?_)) | refine sT (h := aA (h := ?_)) | refine sT (h := aS (h := ?_)) | refine sT (h := aL (h := ?_)))
        refine swt_nil ?_
        (repeat refine sw_seq ?_); refine sw_region_spec (by kernel_rfl) ?_
        repeat (refine sws_read ttab_ok rfl (by exact True.intro) rfl ?_)
        refine sws_call rfl rfl rfl rfl (refAttr_h y[i].attr hmf.attr.name) rfl rfl ?_
        repeat (refine sws_read ttab_ok rfl (by exact True.intro) rfl ?_)
        refine sws_call rfl rfl rfl rfl (refRight_h y[i].val hmf.val.s) rfl rfl ?_
        repeat (refine sws_read ttab_ok rfl (by exact True.intro) rfl ?_)
        refine sws_nil ?_
        (repeat refine sw_seq ?_); refine sw_cond rfl (fun hp => ?_) (fun hp => ?_)
        · (repeat refine sw_seq ?_); refine sw_region ?_
          repeat (first | refine sR (h := ?_) | refine sK (h := ?_) | refine sT (h := aM (h := ?_)) | refine sT (h := aB (h := ?_)) | refine sT (h := aA (h := ?_)) | refine sT (h := aS (h := ?_)) | refine sT (h := aL (h := ?_)))
          refine swt_nil ?_
          (repeat refine sw_seq ?_); refine sw_ret ?_
          refine fin_i rfl (stop2 1 ?_ (by decide)).symm
          have hq : okE (matchS y[i]) = 1 := by
            cases h1 : matchS y[i] with
            | false => rfl
            | true =>
              exfalso
              rw [h1] at hme
              revert hp hme
              cases attrS y[i].attr <;> cases h5 : decide (y[i].op < 1) <;> cases h6 : decide (3 < y[i].op) <;> cases y[i].val.right <;> simp_all
          rw [firstE_pre (f := fun m => okE (matchS m)) hli' hc (by rw [hq]; decide), hq]
        · refine sw_skip ?_
          (repeat refine sw_seq ?_); refine sw_region ?_
          repeat (first | refine sR (h := ?_) | refine sK (h := ?_) | refine sT (h := aM (h := ?_)) | refine sT (h := aB (h := ?_)) | refine sT (h := aA (h := ?_)) | refine sT (h := aS (h := ?_)) | refine sT (h := aL (h := ?_)))
          refine swt_nil ?_
          refine ⟨_, _, ?_, wk_only [12, 13, 14, 24, 25, 26, 36, 37, 38] [] rfl rfl, i + 1, _, hli', rfl, wrap_succ hli' (by omega), take_ok hli' hc ?_, rfl⟩
          · omega
          · cases h1 : matchS y[i] with
            | true => rfl
            | false =>
              exfalso
              rw [h1] at hme
              revert hp hme
              cases attrS y[i].attr <;> cases h5 : decide (y[i].op < 1) <;> cases h6 : decide (3 < y[i].op) <;> cases y[i].val.right <;> simp_all
      · refine sw_exit ?_
        rw [ly] at hli
        simp only [decide_eq_false_iff_not] at hli
        have hii : i = y.length := by omega
        subst hii
        rw [List.take_length] at hc
        (repeat refine sw_seq ?_); refine sw_region ?_
        repeat (first | refine sR (h := ?_) | refine sK (h := ?_) | refine sT (h := aM (h := ?_)) | refine sT (h := aB (h := ?_)) | refine sT (h := aA (h := ?_)) | refine sT (h := aS (h := ?_)) | refine sT (h := aL (h := ?_)))
        refine swt_nil ?_
        refine ⟨_, _, ?_, wk_only [12, 13, 14, 24, 25, 26] [] rfl rfl, j + 1, _, hlj', rfl, wrap_succ hlj' (by omega), take_ok hlj' hb ?_, rfl⟩
        · omega
        · rw [← hy, hY, firstE_all hc]
    · refine sw_exit ?_
      rw [lx] at hlj
      simp only [decide_eq_false_iff_not] at hlj
      have hjj : j = x.length := by omega
      subst hjj
      rw [List.take_length] at hb
      (repeat refine sw_seq ?_); refine sw_region ?_
      repeat (first | refine sR (h := ?_) | refine sK (h := ?_) | refine sT (h := aM (h := ?_)) | refine sT (h := aB (h := ?_)) | refine sT (h := aA (h := ?_)) | refine sT (h := aS (h := ?_)) | refine sT (h := aL (h := ?_)))
      refine swt_nil ?_
      refine ⟨_, _, ?_, wk_only [12, 13, 14] [] rfl rfl, k + 1, _, hlt', rfl, wrap_succ hlt' (by omega), take_ok hlt' ha ?_, rfl⟩
      · omega
      · rw [← hx, hX, firstE_all hb]
  · refine sw_exit ?_
    rw [lt] at hlt
    simp only [decide_eq_false_iff_not] at hlt
    have hkk : k = t.length := by omega
    subst hkk
    rw [List.take_length] at ha
    (repeat refine sw_seq ?_); refine sw_region ?_
    repeat (first | refine sR (h := ?_) | refine sK (h := ?_) | refine sT (h := aM (h := ?_)) | refine sT (h := aB (h := ?_)) | refine sT (h := aA (h := ?_)) | refine sT (h := aS (h := ?_)) | refine sT (h := aL (h := ?_)))
    refine swt_nil ?_
    (repeat refine sw_seq ?_); refine sw_ret ?_
    exact fin_i rfl (firstE_all ha).symm
end Go.Proofs.Ytjpcchipejmocaa
