/-
  The document's own answer to chapter 8: an expression (bailiffref7.RightExpr), by shades.
-/
import Derived.Test.YtjpcchipejmocaaSh
import Derived.Test.YtjpcchipejmocaaRefH
namespace Go.Proofs.Ytjpcchipejmocaa
set_option linter.unusedVariables false
set_option linter.unusedSimpArgs false
open Go.RowKit
set_option maxHeartbeats 4000000
/-- a view from the first on: the row is no longer than the view from here on -/
theorem wk_shrink {st : St} (t : Tmp) {j z k : Nat} {e : TypeId} {l : List (List PV)} (d : Nat) (ht : lk t st.fr = some (.view j z 0 k)) (hj : lk j st.own = some (.row e z l)) (hd : lk d st.own = none) (hn : Nat.blt d 1000000 = true) :
    Wk st ⟨st.n, (t, .row d) :: killF j st.fr, (d, .row e z (l.take k)) :: killO j st.own⟩ := by
  intro w0 Sx γ a w hI
  have hdj : d ≠ j := fun e => by subst e; rw [hj] at hd; cases hd
  have hlt : d < 1000000 := by simpa [Nat.blt, Nat.lt_iff_add_one_le] using hn
  have hv := hI.fr t _ ht
  generalize hu : a.tmps.getD t undef = u at hv
  cases hI.heap.box j _ hj with
  | row hrow hel hml hkj =>
  obtain ⟨A0, c0, hsh, hlc, _⟩ := hrow.shape
  have hub : ∃ c, u = .slice A0 k c ∧ k ≤ l.length ∧ c = c0 := by
    cases hv with
    | @view _ _ _ _ n c A A' hg h1 h2 h3 h4 =>
      rw [hp_some hj, hsh] at hg
      cases hg
      refine ⟨c0, ?_, h2, rfl⟩
      rw [h4 (Or.inr rfl), Nat.zero_mul]
      cases A0 with
      | none => rfl
      | some ad => simp [Addr.add]
  obtain ⟨c, rfl, hkl, rfl⟩ := hub
  have hublk : ∀ b, blkOf (.slice A0 k c) = some b → blkOf (γ j) = some b := fun b hb => by rw [hsh]; cases A0 <;> first | exact hb | cases hb
  generalize hown' : ((d, Box.row e z (l.take k)) :: killO j st.own) = own' at *
  have lk' : ∀ i, lk i own' = if i = d then some (.row e z (l.take k)) else if i = j then none else (lk i st.own).map (klB j) := fun i => by
    rw [← hown', lk_cons, lk_killO]
  have hud : upd γ d (.slice A0 k c) d = .slice A0 k c := if_pos rfl
  have huo : ∀ i, i ≠ d → upd γ d (.slice A0 k c) i = γ i := fun i hi => if_neg hi
  have old : ∀ {i bx}, lk i own' = some bx → i ≠ d → i ≠ j ∧ ∃ by_, lk i st.own = some by_ ∧ bx = klB j by_ := fun {i bx} hi hid => by
    rw [lk', if_neg hid] at hi
    by_cases e : i = j
    · rw [if_pos e] at hi; cases hi
    · rw [if_neg e] at hi
      cases h2 : lk i st.own with
      | none => rw [h2] at hi; cases hi
      | some by_ => rw [h2] at hi; cases hi; exact ⟨e, by_, rfl, rfl⟩
  have okn : ∀ b, okO Sx γ st.own b → okO Sx (upd γ d (.slice A0 k c)) own' b := fun b hok => ⟨hok.1, fun i bx hi hib => by
    by_cases e : i = d
    · subst e; rw [hud] at hib; exact hok.2 j _ hj (hublk b hib)
    · obtain ⟨_, by_, h2, _⟩ := old hi e
      rw [huo i e] at hib; exact hok.2 i by_ h2 hib⟩
  have keepS : ∀ {s : SV} {u : Value}, RelS (okO Sx γ st.own) (hp γ st.own) w s u → RelS (okO Sx (upd γ d (.slice A0 k c)) own') (hp (upd γ d (.slice A0 k c)) own') w (kl j s) u := fun {s u} h => by
    have h1 := h.kl j
    refine h1.keep2 (Nat.le_refl _) (fun b _ hok => ⟨rfl, okn b hok⟩) fun i hi => ?_
    have hij : i ≠ j := fun e => by subst e; rw [noRef_kl] at hi; cases hi
    have hs := noRef_kl_other hi
    cases h2 : lk i st.own with
    | none => rw [h.live (hp_none h2)] at hs; cases hs.1
    | some by_ =>
      have hid : i ≠ d := fun e => by subst e; rw [hd] at h2; cases h2
      rw [hp_some h2, hp_some (bx := klB j by_) (by rw [lk', if_neg hid, if_neg hij, h2]; rfl), huo i hid]
  have hS : Sim w0 Sx (upd γ d (.slice A0 k c)) ⟨st.n, (t, .row d) :: killF j st.fr, own'⟩ a w := by
    refine ⟨hI.below, hI.size, hI.defers, fun t' s ht' => ?_, fun i bx hi => ?_, fun i m bi bm b hi hm hbi hbm => ?_, hI.heap.sx.keep (Nat.le_refl _) fun i bx hi => ?_⟩
    · have ht2 : (if t' = t then some (SV.row d) else lk t' (killF j st.fr)) = some s := by rw [← lk_cons]; exact ht'
      by_cases e1 : t' = t
      · rw [if_pos e1] at ht2
        cases ht2
        subst e1
        rw [hu]
        exact .row (by rw [hp_some (bx := .row e z (l.take k)) (by rw [lk', if_pos rfl]), hud])
      · rw [if_neg e1] at ht2
        have ht3 : (lk t' st.fr).map (kl j) = some s := by rw [← lk_killF]; exact ht2
        obtain ⟨s0, p1, rfl⟩ := Option.map_eq_some_iff.1 ht3
        exact keepS (hI.fr t' s0 p1)
    · by_cases e1 : i = d
      · subst e1
        rw [lk', if_pos rfl] at hi
        cases hi
        refine .row ?_ (fun x hx => hel x (List.mem_of_mem_take hx)) (by simp; omega) (fun b hb => by rw [hud] at hb; exact hkj b (hublk b hb))
        rw [hud]
        rw [hsh] at hrow
        refine (hrow.take hkl).keep2 good_PV (Nat.le_refl _) (fun _ _ => rfl) fun b _ hok _ => ⟨rfl, hok.1, fun m bm hm hmd hmb => ?_⟩
        obtain ⟨h1, by_, h2, _⟩ := old hm hmd
        rw [huo m hmd] at hmb
        exact hok.2 m by_ h2 h1 hmb
      · obtain ⟨hij, by_, h2, rfl⟩ := old hi e1
        cases hI.heap.box i by_ h2 with
        | @row e' esz' l' hr' he' hm' hk' =>
          show BoxOk _ _ _ _ _ _ (.row e' esz' l')
          refine .row ?_ he' hm' (by rw [huo i e1]; exact hk')
          rw [huo i e1]
          refine hr'.keep2 good_PV (Nat.le_refl _) (fun _ _ => rfl) fun b _ hok _ => ⟨rfl, hok.1, fun m bm hm hmi hmb => ?_⟩
          by_cases e2 : m = d
          · subst e2
            rw [hud] at hmb
            exact hok.2 j _ hj (Ne.symm hij) (hublk b hmb)
          · obtain ⟨_, b2, h3, _⟩ := old hm e2
            rw [huo m e2] at hmb
            exact hok.2 m b2 h3 hmi hmb
        | @cells cs2 us2 ty2 b2 hg2 hB2 hh2 hl2 hr2 hone2 =>
          show BoxOk _ _ _ _ _ _ (.cells (cs2.map (kl j)))
          refine .cells (by rw [huo i e1]; exact hg2) hB2 hh2 (by rw [List.length_map]; exact hl2) (fun m s u hs hu => ?_) hone2
          rw [List.getElem?_map] at hs
          obtain ⟨s0, p1, rfl⟩ := Option.map_eq_some_iff.1 hs
          exact keepS (hr2 m s0 u p1 hu)
        | @mp es ens clock b2 hg2 hB2 hh2 hl2 hr2 =>
          show BoxOk _ _ _ _ _ _ (.mp es)
          exact .mp (by rw [huo i e1]; exact hg2) hB2 hh2 hl2 fun m x en hs hu => ⟨(hr2 m x en hs hu).1, (hr2 m x en hs hu).2.weak fun b _ h => okn b h⟩
    · by_cases e1 : i = d
      · by_cases e2 : m = d
        · rw [e1, e2]
        · obtain ⟨q1, b0, q2, _⟩ := old hm e2
          subst e1
          rw [hud] at hbi
          rw [huo m e2] at hbm
          exact absurd (hI.heap.inj m j _ _ b q2 hj hbm (hublk b hbi)) q1
      · obtain ⟨p1, c1, p2, _⟩ := old hi e1
        rw [huo i e1] at hbi
        by_cases e2 : m = d
        · subst e2
          rw [hud] at hbm
          exact absurd (hI.heap.inj i j _ _ b p2 hj hbi (hublk b hbm)) p1
        · obtain ⟨q1, b0, q2, _⟩ := old hm e2
          rw [huo m e2] at hbm
          exact hI.heap.inj i m _ _ b p2 q2 hbi hbm
    · by_cases e1 : i = d
      · exact Or.inl (by omega)
      · obtain ⟨_, by_, h2, _⟩ := old hi e1
        exact Or.inr ⟨huo i e1, by rw [h2]; rfl⟩
  exact ⟨_, hS⟩
theorem fields_eq (n : Nod) (made : List Bool) : stepS made n = none ∨ fieldsS n = true := by
  by_cases h : fieldsS n = true
  · exact .inr h
  · left
    unfold stepS
    split
    · rfl
    · rw [if_neg (fun hc => h hc.1)]
def litB (n : Nod) : Bool := !isNoVal n.val
def atrB (n : Nod) : Bool := !isNoAtr n.attr
def badB (n : Nod) : Bool := (litB n && !decide (n.op = 1)) || (atrB n && !decide (n.op = 2))
theorem ref_bad {n : Nod} (h : badB n = true) (made : List Bool) : stepS made n = none := by
  have hf : fieldsS n = false := by
    unfold badB litB atrB at h
    unfold fieldsS
    by_cases h1 : n.op = 1
    · rw [if_pos h1]
      have : ¬ n.op = 2 := by omega
      simp only [h1, decide_true, Bool.not_true, Bool.and_false, Bool.false_or] at h
      simp at h
      rw [h, Bool.and_false]
    · rw [if_neg h1]
      by_cases h2 : n.op = 2
      · rw [if_pos h2]
        simp [h2] at h
        rw [h, Bool.and_false]
      · rw [if_neg h2]
        simp [h1, h2] at h
        rcases h with h | h
        · rw [h, Bool.false_and]
        · rw [h, Bool.and_false]
  rcases fields_eq n made with h | h
  · exact h
  · rw [hf] at h; cases h
theorem ref_good {n : Nod} (h : badB n = false) : fieldsS n = if n.op = 1 then n.val.right else if n.op = 2 then attrS n.attr else true := by
  unfold badB litB atrB at h
  unfold fieldsS
  by_cases h1 : n.op = 1
  · rw [if_pos h1, if_pos h1]
    simp [h1] at h
    rw [h, Bool.and_true]
  · rw [if_neg h1, if_neg h1]
    by_cases h2 : n.op = 2
    · rw [if_pos h2, if_pos h2]
      simp [h2] at h
      rw [h, Bool.and_true]
    · rw [if_neg h2, if_neg h2]
      simp [h1, h2] at h
      rw [h.1, h.2]; rfl
theorem step_lit {n : Nod} {made : List Bool} (h : n.op = 1 ∨ n.op = 2) (hf : fieldsS n = true) : stepS made n = some (made ++ [decide (n.op = 2)]) := by
  unfold stepS
  have hw : wantsS n.op = some [] := by unfold wantsS; rw [if_pos h]
  rw [hw]
  simp only
  rw [if_pos ⟨hf, Nat.zero_le _, by simp⟩]
  simp
theorem step_no {n : Nod} {made : List Bool} (hf : fieldsS n = false) : stepS made n = none := by
  rcases fields_eq n made with h | h
  · exact h
  · rw [hf] at h; cases h
theorem step_w {n : Nod} {made w : List Bool} (hw : wantsS n.op = some w) (h2 : ¬ n.op = 2) (hf : fieldsS n = true) : stepS made n = if w.length ≤ made.length ∧ made.drop (made.length - w.length) = w then some (made.take (made.length - w.length) ++ [false]) else none := by
  unfold stepS
  rw [hw]
  simp only [hf, true_and, h2, decide_false]
theorem drop_1 {made : List Bool} (h : 1 ≤ made.length) : made.drop (made.length - 1) = [made[made.length - 1]] := by
  rw [List.drop_eq_getElem_cons (by omega)]
  have : made.length - 1 + 1 = made.length := by omega
  rw [this, List.drop_length]
theorem drop_2 {made : List Bool} (h : 2 ≤ made.length) : made.drop (made.length - 2) = [made[made.length - 2], made[made.length - 1]] := by
  rw [List.drop_eq_getElem_cons (by omega)]
  have : made.length - 2 + 1 = made.length - 1 := by omega
  rw [this, drop_1 (by omega)]
theorem lit_eq (n : Nod) : (!sameV n.val noVal) = litB n := by
  unfold litB isNoVal sameV noVal
  rw [Bool.eq_iff_iff]
  simp [← empty_size, and_assoc]
  rfl
theorem atr_eq (n : Nod) : (!(n.attr.cat == 0 && (n.attr.name.toList == (⟨#[]⟩ : ByteArray).toList && (n.attr.must == false && true)))) = atrB n := by
  unfold atrB
  rw [← noAtr_eq, beq_bytes2, Bool.eq_iff_iff]
  simp [toList_size]
  rfl
theorem bools_get {made : List Bool} {i : Nat} (h : i < made.length) : (bools made).getD (Int.toNat (i : Int)) [] = [pB made[i]] := getD_map h
theorem bools_set {made : List Bool} {i : Nat} (h : i + 1 = made.length) : (bools made).set i (((bools made).getD i []).take 0 ++ [pB false] ++ ((bools made).getD i []).drop 1) = bools (made.take i ++ [false]) := by
  have h0 : (bools made).getD i [] = [pB made[i]] := by simp [bools, show i < made.length by omega]
  have hl : (bools made).length = i + 1 := by simp [bools, h]
  rw [h0, List.set_eq_take_append_cons_drop, if_pos (by omega)]
  simp [bools, List.map_take]
  omega
theorem bools_app (made : List Bool) (b : Bool) : bools made ++ [[pB b]] = bools (made ++ [b]) := by simp [bools]
theorem refExpr_h (l : List Nod) (hf : ∀ x ∈ l, x.Fit) (hl : l.length ≤ 3000) : Holds Try.prog 38 [nodsP l] (.p (pI (exprS l))) [] := by
  have lm : (l.map Nod.pv).length = l.length := by simp
  refine holds_of (ts := [2]) Try.func38 (by kernel_rfl) rfl rfl rfl ?_
  (repeat refine sw_seq ?_); refine sw_region ?_
  repeat (first | refine sR (h := ?_) | refine sK (h := ?_) | refine sT (h := aM (h := ?_)) | refine sT (h := aB (h := ?_)) | refine sT (h := aA (h := ?_)) | refine sT (h := aS (h := ?_)) | refine sT (h := aL (h := ?_)))
  refine swt_nil ?_
  (repeat refine sw_seq ?_); refine sw_region ?_
  repeat (first | refine sR (h := ?_) | refine sK (h := ?_) | refine sT (h := aM (h := ?_)) | refine sT (h := aB (h := ?_)) | refine sT (h := aA (h := ?_)) | refine sT (h := aS (h := ?_)) | refine sT (h := aL (h := ?_)))
  refine swt_nil ?_
  rw [lm]
  (repeat refine sw_seq ?_); refine sw_cond rfl (fun h => ?_) (fun h => ?_)
  · (repeat refine sw_seq ?_); refine sw_region ?_
    repeat (first | refine sR (h := ?_) | refine sK (h := ?_) | refine sT (h := aM (h := ?_)) | refine sT (h := aB (h := ?_)) | refine sT (h := aA (h := ?_)) | refine sT (h := aS (h := ?_)) | refine sT (h := aL (h := ?_)))
    refine swt_nil ?_
    (repeat refine sw_seq ?_); refine sw_ret ?_
    have h0 : 32 < l.length := by simp at h; omega
    exact fin_i rfl (by simp [exprS, h0])
  have h0 : ¬ 32 < l.length := by simp at h; omega
  refine sw_skip ?_
  (repeat refine sw_seq ?_); refine sw_region ?_
  repeat (first | refine sR (h := ?_) | refine sK (h := ?_) | refine sT (h := aM (h := ?_)) | refine sT (h := aB (h := ?_)) | refine sT (h := aA (h := ?_)) | refine sT (h := aS (h := ?_)) | refine sT (h := aL (h := ?_)))
  refine swt_nil ?_
  (repeat refine sw_seq ?_); refine sw_region ?_
  repeat (first | refine sR (h := ?_) | refine sK (h := ?_) | refine sT (h := aM (h := ?_)) | refine sT (h := aB (h := ?_)) | refine sT (h := aA (h := ?_)) | refine sT (h := aS (h := ?_)) | refine sT (h := aL (h := ?_)))
  refine swt_nil ?_
  (repeat refine sw_seq ?_); refine sw_block ?_
  refine SW.wk (wk_nil 3 900 4 1 rfl rfl) ?_
  refine SW.wk (wk_only [0, 3, 12, 13, 14] [(900, 0)] rfl rfl) ?_
  refine sw_loop (fun m s => ∃ (k : Nat) (kk : Int) (made : List Bool), k ≤ l.length ∧ m = l.length - k ∧ kk = k ∧ stepsS [] (l.take k) = some made ∧ made.length ≤ k ∧ s = ⟨170, [(0, .p (nodsP l)), (3, .row 0), (12, .p (nodsP l)), (13, .p (pI (l.map Nod.pv).length)), (14, .p (pI kk))], [(0, .row 4 1 (bools made))]⟩) l.length ⟨0, 0, [], Nat.zero_le _, rfl, rfl, by simp [stepsS], Nat.le_refl _, rfl⟩ ?_
  rintro m s ⟨k, _, made, hk, rfl, rfl, ha, hml, rfl⟩
  (repeat refine sw_seq ?_); refine sw_region ?_
  repeat (first | refine sR (h := ?_) | refine sK (h := ?_) | refine sT (h := aM (h := ?_)) | refine sT (h := aB (h := ?_)) | refine sT (h := aA (h := ?_)) | refine sT (h := aS (h := ?_)) | refine sT (h := aL (h := ?_)))
  refine swt_nil ?_
  (repeat refine sw_seq ?_); refine sw_cond rfl (fun hlt => ?_) (fun hlt => ?_)
  · refine sw_skip ?_
    rw [lm] at hlt
    simp only [decide_eq_true_eq] at hlt
    have hlt' : k < l.length := by omega
    have hst := stepsS_some hlt' ha
    obtain ⟨x, hx⟩ : ∃ x, x = l[k] := ⟨_, rfl⟩
    have hxf := hf _ (List.getElem_mem hlt')
    rw [← hx] at hst hxf
    have lb : (bools made).length = made.length := by simp [bools]
    have none1 : stepS made x = none → exprS l = 1 := fun h => by rw [exprS, if_neg h0, stepsS_none (k + 1) (by rw [hst, h])]
    (repeat refine sw_seq ?_); refine sw_block ?_
    (repeat refine sw_seq ?_); refine sw_region ?_
    repeat (first | refine sR (h := ?_) | refine sK (h := ?_) | refine sT (h := aM (h := ?_)) | refine sT (h := aB (h := ?_)) | refine sT (h := aA (h := ?_)) | refine sT (h := aS (h := ?_)) | refine sT (h := aL (h := ?_)))
    refine swt_read ttab_ok rfl rfl (by rw [lm]; omega) rfl ?_
    rw [getD_map hlt', ← hx]
    repeat (first | refine sR (h := ?_) | refine sK (h := ?_) | refine sT (h := aM (h := ?_)) | refine sT (h := aB (h := ?_)) | refine sT (h := aA (h := ?_)) | refine sT (h := aS (h := ?_)) | refine sT (h := aL (h := ?_)))
    refine swt_nil ?_
    (repeat refine sw_seq ?_); refine sw_region ?_
    repeat (first | refine sR (h := ?_) | refine sK (h := ?_) | refine sT (h := aM (h := ?_)) | refine sT (h := aB (h := ?_)) | refine sT (h := aA (h := ?_)) | refine sT (h := aS (h := ?_)) | refine sT (h := aL (h := ?_)))
    refine swt_nil ?_
    (repeat refine sw_seq ?_); refine sw_region ?_
    repeat (first | refine sR (h := ?_) | refine sK (h := ?_) | refine sT (h := aM (h := ?_)) | refine sT (h := aB (h := ?_)) | refine sT (h := aA (h := ?_)) | refine sT (h := aS (h := ?_)) | refine sT (h := aL (h := ?_)))
    refine swt_read ttab_ok rfl (opR_neV x.val noVal rfl rfl rfl rfl) rfl rfl ?_
    repeat (first | refine sR (h := ?_) | refine sK (h := ?_) | refine sT (h := aM (h := ?_)) | refine sT (h := aB (h := ?_)) | refine sT (h := aA (h := ?_)) | refine sT (h := aS (h := ?_)) | refine sT (h := aL (h := ?_)))
    refine swt_nil ?_
    (repeat refine sw_seq ?_); refine sw_region ?_
    repeat (first | refine sR (h := ?_) | refine sK (h := ?_) | refine sT (h := aM (h := ?_)) | refine sT (h := aB (h := ?_)) | refine sT (h := aA (h := ?_)) | refine sT (h := aS (h := ?_)) | refine sT (h := aL (h := ?_)))
    refine swt_read ttab_ok rfl rfl rfl rfl ?_
    repeat (first | refine sR (h := ?_) | refine sK (h := ?_) | refine sT (h := aM (h := ?_)) | refine sT (h := aB (h := ?_)) | refine sT (h := aA (h := ?_)) | refine sT (h := aS (h := ?_)) | refine sT (h := aL (h := ?_)))
    refine swt_nil ?_
    refine SW.wk (wk_only [0, 3, 5, 6, 7, 8, 12, 13, 14] [(0, 0), (5, 5)] rfl rfl) ?_
    change SW _ _ _ ⟨170, [(0, .p (nodsP l)), (3, .row 0), (5, .ptr 5 0), (6, .p (pI (bools made).length)), (7, .p (pB (!sameV x.val noVal))), (8, .p (pB (!(x.attr.cat == 0 && (x.attr.name.toList == (⟨#[]⟩ : ByteArray).toList && (x.attr.must == false && true)))))), (12, .p (nodsP l)), (13, .p (pI (l.map Nod.pv).length)), (14, .p (pI k))], [(0, .row 4 1 (bools made)), (5, .cells (x.pv.map .p))]⟩
    rw [lb, lit_eq, atr_eq]
    (repeat refine sw_seq ?_); refine sw_region_spec (by kernel_rfl) ?_
    repeat (refine sws_read ttab_ok rfl (by exact True.intro) rfl ?_)
    refine sws_nil ?_
    (repeat refine sw_seq ?_); refine sw_cond rfl (fun hb => ?_) (fun hb => ?_)
    · have hb' : badB x = true := by
        revert hb
        unfold badB
        cases litB x <;> cases atrB x <;> simp
      (repeat refine sw_seq ?_); refine sw_region ?_
      repeat (first | refine sR (h := ?_) | refine sK (h := ?_) | refine sT (h := aM (h := ?_)) | refine sT (h := aB (h := ?_)) | refine sT (h := aA (h := ?_)) | refine sT (h := aS (h := ?_)) | refine sT (h := aL (h := ?_)))
      refine swt_nil ?_
      (repeat refine sw_seq ?_); refine sw_ret ?_
      exact fin_i rfl (none1 (ref_bad hb' made)).symm
    have hg : badB x = false := by
      revert hb
      unfold badB
      cases litB x <;> cases atrB x <;> simp
    have hF := ref_good hg
    refine sw_skip ?_
    (repeat refine sw_seq ?_); refine sw_block ?_
    (repeat refine sw_seq ?_); refine sw_region ?_
    repeat (first | refine sR (h := ?_) | refine sK (h := ?_) | refine sT (h := aM (h := ?_)) | refine sT (h := aB (h := ?_)) | refine sT (h := aA (h := ?_)) | refine sT (h := aS (h := ?_)) | refine sT (h := aL (h := ?_)))
    refine swt_nil ?_
    (repeat refine sw_seq ?_); refine sw_cond rfl (fun c1 => ?_) (fun c1 => ?_)
    · have o1 : x.op = 1 := by simpa using c1
      rw [if_pos o1] at hF
      (repeat refine sw_seq ?_); refine sw_region ?_
      repeat (first | refine sR (h := ?_) | refine sK (h := ?_) | refine sT (h := aM (h := ?_)) | refine sT (h := aB (h := ?_)) | refine sT (h := aA (h := ?_)) | refine sT (h := aS (h := ?_)) | refine sT (h := aL (h := ?_)))
      refine swt_act rfl (act_call_flat rfl rfl rfl rfl (refRight_h x.val hxf.val.s) rfl rfl ?_)
      repeat (first | refine sR (h := ?_) | refine sK (h := ?_) | refine sT (h := aM (h := ?_)) | refine sT (h := aB (h := ?_)) | refine sT (h := aA (h := ?_)) | refine sT (h := aS (h := ?_)) | refine sT (h := aL (h := ?_)))
      refine swt_nil ?_
      (repeat refine sw_seq ?_); refine sw_cond rfl (fun c2 => ?_) (fun c2 => ?_)
      · (repeat refine sw_seq ?_); refine sw_region ?_
        repeat (first | refine sR (h := ?_) | refine sK (h := ?_) | refine sT (h := aM (h := ?_)) | refine sT (h := aB (h := ?_)) | refine sT (h := aA (h := ?_)) | refine sT (h := aS (h := ?_)) | refine sT (h := aL (h := ?_)))
        refine swt_nil ?_
        (repeat refine sw_seq ?_); refine sw_ret ?_
        exact fin_i rfl (none1 (step_no (by rw [hF]; simpa using c2))).symm
      · refine sw_skip ?_
        (repeat refine sw_seq ?_); refine sw_region ?_
        repeat (first | refine sR (h := ?_) | refine sK (h := ?_) | refine sT (h := aM (h := ?_)) | refine sT (h := aB (h := ?_)) | refine sT (h := aA (h := ?_)) | refine sT (h := aS (h := ?_)) | refine sT (h := aL (h := ?_)))
        refine swt_act rfl (act_append_row ttab_ok rfl rfl rfl rfl rfl rfl rfl rfl rfl rfl rfl rfl rfl rfl rfl rfl (by simp [reachBytes, bools]; omega) (by simp [bools]; omega) ?_)
        repeat (first | refine sR (h := ?_) | refine sK (h := ?_) | refine sT (h := aM (h := ?_)) | refine sT (h := aB (h := ?_)) | refine sT (h := aA (h := ?_)) | refine sT (h := aS (h := ?_)) | refine sT (h := aL (h := ?_)))
        refine swt_nil ?_
        (repeat refine sw_seq ?_); refine sw_region ?_
        repeat (first | refine sR (h := ?_) | refine sK (h := ?_) | refine sT (h := aM (h := ?_)) | refine sT (h := aB (h := ?_)) | refine sT (h := aA (h := ?_)) | refine sT (h := aS (h := ?_)) | refine sT (h := aL (h := ?_)))
        refine swt_nil ?_
        refine ⟨_, _, ?_, wk_only [0, 3, 12, 13, 14] [(52, 0)] rfl rfl, k + 1, _, made ++ [false], hlt', rfl, wrap_succ hlt' (by omega), by rw [hst]; exact (by rw [step_lit (.inl o1) (by rw [hF]; simpa using c2), decide_eq_false (by omega)]), by simp; omega, ?_⟩
        · omega
        · rw [← bools_app made false]; rfl
    · have n1 : ¬ x.op = 1 := by simpa using c1
      rw [if_neg n1] at hF
      (repeat refine sw_seq ?_); refine sw_region ?_
      repeat (first | refine sR (h := ?_) | refine sK (h := ?_) | refine sT (h := aM (h := ?_)) | refine sT (h := aB (h := ?_)) | refine sT (h := aA (h := ?_)) | refine sT (h := aS (h := ?_)) | refine sT (h := aL (h := ?_)))
      refine swt_nil ?_
      (repeat refine sw_seq ?_); refine sw_cond rfl (fun c2 => ?_) (fun c2 => ?_)
      · have o2 : x.op = 2 := by simpa using c2
        rw [if_pos o2] at hF
        (repeat refine sw_seq ?_); refine sw_region ?_
        repeat (first | refine sR (h := ?_) | refine sK (h := ?_) | refine sT (h := aM (h := ?_)) | refine sT (h := aB (h := ?_)) | refine sT (h := aA (h := ?_)) | refine sT (h := aS (h := ?_)) | refine sT (h := aL (h := ?_)))
        refine swt_act rfl (act_call_flat rfl rfl rfl rfl (refAttr_h x.attr hxf.attr.name) rfl rfl ?_)
        repeat (first | refine sR (h := ?_) | refine sK (h := ?_) | refine sT (h := aM (h := ?_)) | refine sT (h := aB (h := ?_)) | refine sT (h := aA (h := ?_)) | refine sT (h := aS (h := ?_)) | refine sT (h := aL (h := ?_)))
        refine swt_nil ?_
        (repeat refine sw_seq ?_); refine sw_cond rfl (fun c3 => ?_) (fun c3 => ?_)
        · (repeat refine sw_seq ?_); refine sw_region ?_
          repeat (first | refine sR (h := ?_) | refine sK (h := ?_) | refine sT (h := aM (h := ?_)) | refine sT (h := aB (h := ?_)) | refine sT (h := aA (h := ?_)) | refine sT (h := aS (h := ?_)) | refine sT (h := aL (h := ?_)))
          refine swt_nil ?_
          (repeat refine sw_seq ?_); refine sw_ret ?_
          exact fin_i rfl (none1 (step_no (by rw [hF]; simpa using c3))).symm
        · refine sw_skip ?_
          (repeat refine sw_seq ?_); refine sw_region ?_
          repeat (first | refine sR (h := ?_) | refine sK (h := ?_) | refine sT (h := aM (h := ?_)) | refine sT (h := aB (h := ?_)) | refine sT (h := aA (h := ?_)) | refine sT (h := aS (h := ?_)) | refine sT (h := aL (h := ?_)))
          refine swt_act rfl (act_append_row ttab_ok rfl rfl rfl rfl rfl rfl rfl rfl rfl rfl rfl rfl rfl rfl rfl rfl (by simp [reachBytes, bools]; omega) (by simp [bools]; omega) ?_)
          repeat (first | refine sR (h := ?_) | refine sK (h := ?_) | refine sT (h := aM (h := ?_)) | refine sT (h := aB (h := ?_)) | refine sT (h := aA (h := ?_)) | refine sT (h := aS (h := ?_)) | refine sT (h := aL (h := ?_)))
          refine swt_nil ?_
          (repeat refine sw_seq ?_); refine sw_region ?_
          repeat (first | refine sR (h := ?_) | refine sK (h := ?_) | refine sT (h := aM (h := ?_)) | refine sT (h := aB (h := ?_)) | refine sT (h := aA (h := ?_)) | refine sT (h := aS (h := ?_)) | refine sT (h := aL (h := ?_)))
          refine swt_nil ?_
          refine ⟨_, _, ?_, wk_only [0, 3, 12, 13, 14] [(63, 0)] rfl rfl, k + 1, _, made ++ [true], hlt', rfl, wrap_succ hlt' (by omega), by rw [hst]; exact (by rw [step_lit (.inr o2) (by rw [hF]; simpa using c3), decide_eq_true o2]), by simp; omega, ?_⟩
          · omega
          · rw [← bools_app made true]; rfl
      · have n2 : ¬ x.op = 2 := by simpa using c2
        rw [if_neg n2] at hF
        (repeat refine sw_seq ?_); refine sw_region_spec (by kernel_rfl) ?_
        repeat (refine sws_read ttab_ok rfl (by exact True.intro) rfl ?_)
        refine sws_nil ?_
        (repeat refine sw_seq ?_); refine sw_cond rfl (fun c3 => ?_) (fun c3 => ?_)
        · have o3 : x.op = 3 ∨ x.op = 4 := by simpa using c3
          have hw : wantsS x.op = some [true] := by unfold wantsS; rw [if_neg (by omega), if_pos o3]
          have hS := step_w (made := made) hw n2 hF
          simp only [List.length_cons, List.length_nil, Nat.zero_add] at hS
          (repeat refine sw_seq ?_); refine sw_region ?_
          repeat (first | refine sR (h := ?_) | refine sK (h := ?_) | refine sT (h := aM (h := ?_)) | refine sT (h := aB (h := ?_)) | refine sT (h := aA (h := ?_)) | refine sT (h := aS (h := ?_)) | refine sT (h := aL (h := ?_)))
          by_cases hk1 : made.length < 1
          · rw [show decide ((made.length : Int) < 1) = true by simp; omega]
            repeat (first | refine sR (h := ?_) | refine sK (h := ?_) | refine sT (h := aM (h := ?_)) | refine sT (h := aB (h := ?_)) | refine sT (h := aA (h := ?_)) | refine sT (h := aS (h := ?_)) | refine sT (h := aL (h := ?_)))
            refine swt_nil ?_
            (repeat refine sw_seq ?_); refine sw_cond rfl (fun c4 => ?_) (fun c4 => ?_)
            rotate_left
            · cases c4
            (repeat refine sw_seq ?_); refine sw_region ?_
            repeat (first | refine sR (h := ?_) | refine sK (h := ?_) | refine sT (h := aM (h := ?_)) | refine sT (h := aB (h := ?_)) | refine sT (h := aA (h := ?_)) | refine sT (h := aS (h := ?_)) | refine sT (h := aL (h := ?_)))
            refine swt_nil ?_
            (repeat refine sw_seq ?_); refine sw_ret ?_
            exact fin_i rfl (none1 (by rw [hS, if_neg (by omega)])).symm
          · rw [show decide ((made.length : Int) < 1) = false by simp; omega]
            repeat (first | refine sR (h := ?_) | refine sK (h := ?_) | refine sT (h := aM (h := ?_)) | refine sT (h := aB (h := ?_)) | refine sT (h := aA (h := ?_)) | refine sT (h := aS (h := ?_)) | refine sT (h := aL (h := ?_)))
            rw [show IntKind.i64.wrap ((made.length : Int) - 1) = ((made.length - 1 : Nat) : Int) by rw [IntWalk.i64_in _ (by omega)]; omega]
            repeat (first | refine sR (h := ?_) | refine sK (h := ?_) | refine sT (h := aM (h := ?_)) | refine sT (h := aB (h := ?_)) | refine sT (h := aA (h := ?_)) | refine sT (h := aS (h := ?_)) | refine sT (h := aL (h := ?_)))
            refine swt_read ttab_ok rfl rfl (by rw [lb]; omega) rfl ?_
            repeat (first | refine sR (h := ?_) | refine sK (h := ?_) | refine sT (h := aM (h := ?_)) | refine sT (h := aB (h := ?_)) | refine sT (h := aA (h := ?_)) | refine sT (h := aS (h := ?_)) | refine sT (h := aL (h := ?_)))
            refine swt_read ttab_ok rfl (opR_elem rfl rfl rfl rfl rfl (bools_get (show made.length - 1 < made.length by omega)) rfl) (by rw [lb, Int.toNat_natCast]; omega) rfl ?_
            repeat (first | refine sR (h := ?_) | refine sK (h := ?_) | refine sT (h := aM (h := ?_)) | refine sT (h := aB (h := ?_)) | refine sT (h := aA (h := ?_)) | refine sT (h := aS (h := ?_)) | refine sT (h := aL (h := ?_)))
            refine swt_nil ?_
            rw [drop_1 (by omega)] at hS
            (repeat refine sw_seq ?_); refine sw_cond rfl (fun c4 => ?_) (fun c4 => ?_)
            · have hv : made[made.length - 1] = false := by simpa using c4
              (repeat refine sw_seq ?_); refine sw_region ?_
              repeat (first | refine sR (h := ?_) | refine sK (h := ?_) | refine sT (h := aM (h := ?_)) | refine sT (h := aB (h := ?_)) | refine sT (h := aA (h := ?_)) | refine sT (h := aS (h := ?_)) | refine sT (h := aL (h := ?_)))
              refine swt_nil ?_
              (repeat refine sw_seq ?_); refine sw_ret ?_
              exact fin_i rfl (none1 (by rw [hS, if_neg (by rw [hv]; simp)])).symm
            · have hv : made[made.length - 1] = true := by simpa using c4
              refine sw_skip ?_
              (repeat refine sw_seq ?_); refine sw_region ?_
              repeat (first | refine sR (h := ?_) | refine sK (h := ?_) | refine sT (h := aM (h := ?_)) | refine sT (h := aB (h := ?_)) | refine sT (h := aA (h := ?_)) | refine sT (h := aS (h := ?_)) | refine sT (h := aL (h := ?_)))
              rw [show IntKind.i64.wrap ((made.length : Int) - 1) = ((made.length - 1 : Nat) : Int) by rw [IntWalk.i64_in _ (by omega)]; omega]
              repeat (first | refine sR (h := ?_) | refine sK (h := ?_) | refine sT (h := aM (h := ?_)) | refine sT (h := aB (h := ?_)) | refine sT (h := aA (h := ?_)) | refine sT (h := aS (h := ?_)) | refine sT (h := aL (h := ?_)))
              refine swt_read ttab_ok rfl rfl (by rw [lb]; omega) rfl ?_
              repeat (first | refine sR (h := ?_) | refine sK (h := ?_) | refine sT (h := aM (h := ?_)) | refine sT (h := aB (h := ?_)) | refine sT (h := aA (h := ?_)) | refine sT (h := aS (h := ?_)) | refine sT (h := aL (h := ?_)))
              refine swt_act rfl (act_store_elem ttab_ok rfl rfl rfl rfl rfl (by rw [lb, Int.toNat_natCast]; omega) rfl rfl rfl rfl rfl ?_)
              repeat (first | refine sR (h := ?_) | refine sK (h := ?_) | refine sT (h := aM (h := ?_)) | refine sT (h := aB (h := ?_)) | refine sT (h := aA (h := ?_)) | refine sT (h := aS (h := ?_)) | refine sT (h := aL (h := ?_)))
              refine swt_nil ?_
              (repeat refine sw_seq ?_); refine sw_region ?_
              repeat (first | refine sR (h := ?_) | refine sK (h := ?_) | refine sT (h := aM (h := ?_)) | refine sT (h := aB (h := ?_)) | refine sT (h := aA (h := ?_)) | refine sT (h := aS (h := ?_)) | refine sT (h := aL (h := ?_)))
              refine swt_nil ?_
              refine ⟨_, _, ?_, wk_only [0, 3, 12, 13, 14] [(0, 0)] rfl rfl, k + 1, _, made.take (made.length - 1) ++ [false], hlt', rfl, wrap_succ hlt' (by omega), by rw [hst]; exact (by rw [hS, if_pos ⟨by omega, by rw [hv]⟩]), by simp; omega, ?_⟩
              · omega
              · rw [← bools_set (i := made.length - 1) (by omega)]; rfl
        · have n34 : ¬ (x.op = 3 ∨ x.op = 4) := by simpa using c3
          (repeat refine sw_seq ?_); refine sw_region ?_
          repeat (first | refine sR (h := ?_) | refine sK (h := ?_) | refine sT (h := aM (h := ?_)) | refine sT (h := aB (h := ?_)) | refine sT (h := aA (h := ?_)) | refine sT (h := aS (h := ?_)) | refine sT (h := aL (h := ?_)))
          refine swt_nil ?_
          (repeat refine sw_seq ?_); refine sw_cond rfl (fun c4 => ?_) (fun c4 => ?_)
          · have o5 : x.op = 5 := by simpa using c4
            have hw : wantsS x.op = some [true, false] := by unfold wantsS; rw [if_neg (by omega), if_neg n34, if_pos o5]
            have hS := step_w (made := made) hw n2 hF
            simp only [List.length_cons, List.length_nil, Nat.zero_add, Nat.reduceAdd] at hS
            (repeat refine sw_seq ?_); refine sw_region ?_
            repeat (first | refine sR (h := ?_) | refine sK (h := ?_) | refine sT (h := aM (h := ?_)) | refine sT (h := aB (h := ?_)) | refine sT (h := aA (h := ?_)) | refine sT (h := aS (h := ?_)) | refine sT (h := aL (h := ?_)))
            by_cases hk1 : made.length < 2
            · rw [show decide ((made.length : Int) < 2) = true by simp; omega]
              repeat (first | refine sR (h := ?_) | refine sK (h := ?_) | refine sT (h := aM (h := ?_)) | refine sT (h := aB (h := ?_)) | refine sT (h := aA (h := ?_)) | refine sT (h := aS (h := ?_)) | refine sT (h := aL (h := ?_)))
              refine swt_nil ?_
              (repeat refine sw_seq ?_); refine sw_cond rfl (fun c5 => ?_) (fun c5 => ?_)
              rotate_left
              · cases c5
              (repeat refine sw_seq ?_); refine sw_region ?_
              repeat (first | refine sR (h := ?_) | refine sK (h := ?_) | refine sT (h := aM (h := ?_)) | refine sT (h := aB (h := ?_)) | refine sT (h := aA (h := ?_)) | refine sT (h := aS (h := ?_)) | refine sT (h := aL (h := ?_)))
              refine swt_nil ?_
              (repeat refine sw_seq ?_); refine sw_ret ?_
              exact fin_i rfl (none1 (by rw [hS, if_neg (by omega)])).symm
            · rw [show decide ((made.length : Int) < 2) = false by simp; omega]
              repeat (first | refine sR (h := ?_) | refine sK (h := ?_) | refine sT (h := aM (h := ?_)) | refine sT (h := aB (h := ?_)) | refine sT (h := aA (h := ?_)) | refine sT (h := aS (h := ?_)) | refine sT (h := aL (h := ?_)))
              rw [drop_2 (by omega)] at hS
              rw [show IntKind.i64.wrap ((made.length : Int) - 2) = ((made.length - 2 : Nat) : Int) by rw [IntWalk.i64_in _ (by omega)]; omega]
              repeat (first | refine sR (h := ?_) | refine sK (h := ?_) | refine sT (h := aM (h := ?_)) | refine sT (h := aB (h := ?_)) | refine sT (h := aA (h := ?_)) | refine sT (h := aS (h := ?_)) | refine sT (h := aL (h := ?_)))
              refine swt_read ttab_ok rfl rfl (by rw [lb]; omega) rfl ?_
              repeat (first | refine sR (h := ?_) | refine sK (h := ?_) | refine sT (h := aM (h := ?_)) | refine sT (h := aB (h := ?_)) | refine sT (h := aA (h := ?_)) | refine sT (h := aS (h := ?_)) | refine sT (h := aL (h := ?_)))
              refine swt_read ttab_ok rfl (opR_elem rfl rfl rfl rfl rfl (bools_get (show made.length - 2 < made.length by omega)) rfl) (by rw [lb, Int.toNat_natCast]; omega) rfl ?_
              repeat (first | refine sR (h := ?_) | refine sK (h := ?_) | refine sT (h := aM (h := ?_)) | refine sT (h := aB (h := ?_)) | refine sT (h := aA (h := ?_)) | refine sT (h := aS (h := ?_)) | refine sT (h := aL (h := ?_)))
              cases hv2 : made[made.length - 2] with
              | false =>
                repeat (first | refine sR (h := ?_) | refine sK (h := ?_) | refine sT (h := aM (h := ?_)) | refine sT (h := aB (h := ?_)) | refine sT (h := aA (h := ?_)) | refine sT (h := aS (h := ?_)) | refine sT (h := aL (h := ?_)))
                refine swt_nil ?_
                (repeat refine sw_seq ?_); refine sw_cond rfl (fun c5 => ?_) (fun c5 => ?_)
                rotate_left
                · cases c5
                (repeat refine sw_seq ?_); refine sw_region ?_
                repeat (first | refine sR (h := ?_) | refine sK (h := ?_) | refine sT (h := aM (h := ?_)) | refine sT (h := aB (h := ?_)) | refine sT (h := aA (h := ?_)) | refine sT (h := aS (h := ?_)) | refine sT (h := aL (h := ?_)))
                refine swt_nil ?_
                (repeat refine sw_seq ?_); refine sw_ret ?_
                exact fin_i rfl (none1 (by rw [hS, if_neg (by rw [hv2]; simp)])).symm
              | true =>
                repeat (first | refine sR (h := ?_) | refine sK (h := ?_) | refine sT (h := aM (h := ?_)) | refine sT (h := aB (h := ?_)) | refine sT (h := aA (h := ?_)) | refine sT (h := aS (h := ?_)) | refine sT (h := aL (h := ?_)))
                rw [show IntKind.i64.wrap ((made.length : Int) - 1) = ((made.length - 1 : Nat) : Int) by rw [IntWalk.i64_in _ (by omega)]; omega]
                repeat (first | refine sR (h := ?_) | refine sK (h := ?_) | refine sT (h := aM (h := ?_)) | refine sT (h := aB (h := ?_)) | refine sT (h := aA (h := ?_)) | refine sT (h := aS (h := ?_)) | refine sT (h := aL (h := ?_)))
                refine swt_read ttab_ok rfl rfl (by rw [lb]; omega) rfl ?_
                repeat (first | refine sR (h := ?_) | refine sK (h := ?_) | refine sT (h := aM (h := ?_)) | refine sT (h := aB (h := ?_)) | refine sT (h := aA (h := ?_)) | refine sT (h := aS (h := ?_)) | refine sT (h := aL (h := ?_)))
                refine swt_read ttab_ok rfl (opR_elem rfl rfl rfl rfl rfl (bools_get (show made.length - 1 < made.length by omega)) rfl) (by rw [lb, Int.toNat_natCast]; omega) rfl ?_
                repeat (first | refine sR (h := ?_) | refine sK (h := ?_) | refine sT (h := aM (h := ?_)) | refine sT (h := aB (h := ?_)) | refine sT (h := aA (h := ?_)) | refine sT (h := aS (h := ?_)) | refine sT (h := aL (h := ?_)))
                refine swt_nil ?_
                (repeat refine sw_seq ?_); refine sw_cond rfl (fun c5 => ?_) (fun c5 => ?_)
                · have hv : made[made.length - 1] = true := by simpa using c5
                  (repeat refine sw_seq ?_); refine sw_region ?_
                  repeat (first | refine sR (h := ?_) | refine sK (h := ?_) | refine sT (h := aM (h := ?_)) | refine sT (h := aB (h := ?_)) | refine sT (h := aA (h := ?_)) | refine sT (h := aS (h := ?_)) | refine sT (h := aL (h := ?_)))
                  refine swt_nil ?_
                  (repeat refine sw_seq ?_); refine sw_ret ?_
                  exact fin_i rfl (none1 (by rw [hS, if_neg (by rw [hv]; simp)])).symm
                · have hv : made[made.length - 1] = false := by simpa using c5
                  refine sw_skip ?_
                  (repeat refine sw_seq ?_); refine sw_region ?_
                  repeat (first | refine sR (h := ?_) | refine sK (h := ?_) | refine sT (h := aM (h := ?_)) | refine sT (h := aB (h := ?_)) | refine sT (h := aA (h := ?_)) | refine sT (h := aS (h := ?_)) | refine sT (h := aL (h := ?_)))
                  rw [show IntKind.i64.wrap ((made.length : Int) - 2) = ((made.length - 2 : Nat) : Int) by rw [IntWalk.i64_in _ (by omega)]; omega]
                  repeat (first | refine sR (h := ?_) | refine sK (h := ?_) | refine sT (h := aM (h := ?_)) | refine sT (h := aB (h := ?_)) | refine sT (h := aA (h := ?_)) | refine sT (h := aS (h := ?_)) | refine sT (h := aL (h := ?_)))
                  refine swt_read ttab_ok rfl rfl (by rw [lb]; omega) rfl ?_
                  repeat (first | refine sR (h := ?_) | refine sK (h := ?_) | refine sT (h := aM (h := ?_)) | refine sT (h := aB (h := ?_)) | refine sT (h := aA (h := ?_)) | refine sT (h := aS (h := ?_)) | refine sT (h := aL (h := ?_)))
                  refine swt_act rfl (ActOk.shrink 111 999 rfl rfl rfl rfl (act_append_row ttab_ok rfl rfl rfl rfl rfl rfl rfl rfl rfl rfl rfl rfl rfl rfl rfl rfl (by simp [reachBytes, bools]; omega) (by simp [bools]; omega) ?_))
                  repeat (first | refine sR (h := ?_) | refine sK (h := ?_) | refine sT (h := aM (h := ?_)) | refine sT (h := aB (h := ?_)) | refine sT (h := aA (h := ?_)) | refine sT (h := aS (h := ?_)) | refine sT (h := aL (h := ?_)))
                  refine swt_nil ?_
                  (repeat refine sw_seq ?_); refine sw_region ?_
                  repeat (first | refine sR (h := ?_) | refine sK (h := ?_) | refine sT (h := aM (h := ?_)) | refine sT (h := aB (h := ?_)) | refine sT (h := aA (h := ?_)) | refine sT (h := aS (h := ?_)) | refine sT (h := aL (h := ?_)))
                  refine swt_nil ?_
                  refine ⟨_, _, ?_, wk_only [0, 3, 12, 13, 14] [(113, 0)] rfl rfl, k + 1, _, made.take (made.length - 2) ++ [false], hlt', rfl, wrap_succ hlt' (by omega), by rw [hst]; exact (by rw [hS, if_pos ⟨by omega, by rw [hv2, hv]⟩]), by simp; omega, ?_⟩
                  · omega
                  · rw [← (show (bools made).take (made.length - 2) ++ [[pB false]] = bools (made.take (made.length - 2) ++ [false]) by simp [bools, List.map_take])]; rfl
          · have n5 : ¬ x.op = 5 := by simpa using c4
            (repeat refine sw_seq ?_); refine sw_region ?_
            repeat (first | refine sR (h := ?_) | refine sK (h := ?_) | refine sT (h := aM (h := ?_)) | refine sT (h := aB (h := ?_)) | refine sT (h := aA (h := ?_)) | refine sT (h := aS (h := ?_)) | refine sT (h := aL (h := ?_)))
            refine swt_nil ?_
            (repeat refine sw_seq ?_); refine sw_cond rfl (fun c5 => ?_) (fun c5 => ?_)
            · have o11 : x.op = 11 := by simpa using c5
              have hw : wantsS x.op = some [false] := by unfold wantsS; rw [if_neg (by omega), if_neg n34, if_neg n5, if_pos o11]
              have hS := step_w (made := made) hw n2 hF
              simp only [List.length_cons, List.length_nil, Nat.zero_add] at hS
              (repeat refine sw_seq ?_); refine sw_region ?_
              repeat (first | refine sR (h := ?_) | refine sK (h := ?_) | refine sT (h := aM (h := ?_)) | refine sT (h := aB (h := ?_)) | refine sT (h := aA (h := ?_)) | refine sT (h := aS (h := ?_)) | refine sT (h := aL (h := ?_)))
              by_cases hk1 : made.length < 1
              · rw [show decide ((made.length : Int) < 1) = true by simp; omega]
                repeat (first | refine sR (h := ?_) | refine sK (h := ?_) | refine sT (h := aM (h := ?_)) | refine sT (h := aB (h := ?_)) | refine sT (h := aA (h := ?_)) | refine sT (h := aS (h := ?_)) | refine sT (h := aL (h := ?_)))
                refine swt_nil ?_
                (repeat refine sw_seq ?_); refine sw_cond rfl (fun c6 => ?_) (fun c6 => ?_)
                rotate_left
                · cases c6
                (repeat refine sw_seq ?_); refine sw_region ?_
                repeat (first | refine sR (h := ?_) | refine sK (h := ?_) | refine sT (h := aM (h := ?_)) | refine sT (h := aB (h := ?_)) | refine sT (h := aA (h := ?_)) | refine sT (h := aS (h := ?_)) | refine sT (h := aL (h := ?_)))
                refine swt_nil ?_
                (repeat refine sw_seq ?_); refine sw_ret ?_
                exact fin_i rfl (none1 (by rw [hS, if_neg (by omega)])).symm
              · rw [show decide ((made.length : Int) < 1) = false by simp; omega]
                repeat (first | refine sR (h := ?_) | refine sK (h := ?_) | refine sT (h := aM (h := ?_)) | refine sT (h := aB (h := ?_)) | refine sT (h := aA (h := ?_)) | refine sT (h := aS (h := ?_)) | refine sT (h := aL (h := ?_)))
                rw [show IntKind.i64.wrap ((made.length : Int) - 1) = ((made.length - 1 : Nat) : Int) by rw [IntWalk.i64_in _ (by omega)]; omega]
                repeat (first | refine sR (h := ?_) | refine sK (h := ?_) | refine sT (h := aM (h := ?_)) | refine sT (h := aB (h := ?_)) | refine sT (h := aA (h := ?_)) | refine sT (h := aS (h := ?_)) | refine sT (h := aL (h := ?_)))
                refine swt_read ttab_ok rfl rfl (by rw [lb]; omega) rfl ?_
                repeat (first | refine sR (h := ?_) | refine sK (h := ?_) | refine sT (h := aM (h := ?_)) | refine sT (h := aB (h := ?_)) | refine sT (h := aA (h := ?_)) | refine sT (h := aS (h := ?_)) | refine sT (h := aL (h := ?_)))
                refine swt_read ttab_ok rfl (opR_elem rfl rfl rfl rfl rfl (bools_get (show made.length - 1 < made.length by omega)) rfl) (by rw [lb, Int.toNat_natCast]; omega) rfl ?_
                repeat (first | refine sR (h := ?_) | refine sK (h := ?_) | refine sT (h := aM (h := ?_)) | refine sT (h := aB (h := ?_)) | refine sT (h := aA (h := ?_)) | refine sT (h := aS (h := ?_)) | refine sT (h := aL (h := ?_)))
                refine swt_nil ?_
                rw [drop_1 (by omega)] at hS
                (repeat refine sw_seq ?_); refine sw_cond rfl (fun c6 => ?_) (fun c6 => ?_)
                · have hv : made[made.length - 1] = true := by simpa using c6
                  (repeat refine sw_seq ?_); refine sw_region ?_
                  repeat (first | refine sR (h := ?_) | refine sK (h := ?_) | refine sT (h := aM (h := ?_)) | refine sT (h := aB (h := ?_)) | refine sT (h := aA (h := ?_)) | refine sT (h := aS (h := ?_)) | refine sT (h := aL (h := ?_)))
                  refine swt_nil ?_
                  (repeat refine sw_seq ?_); refine sw_ret ?_
                  exact fin_i rfl (none1 (by rw [hS, if_neg (by rw [hv]; simp)])).symm
                · have hv : made[made.length - 1] = false := by simpa using c6
                  refine sw_skip ?_
                  have e9 : made.take (made.length - 1) ++ [false] = made := by
                    rw [← hv, ← drop_1 (by omega), List.take_append_drop]
                  (repeat refine sw_seq ?_); refine sw_region ?_
                  repeat (first | refine sR (h := ?_) | refine sK (h := ?_) | refine sT (h := aM (h := ?_)) | refine sT (h := aB (h := ?_)) | refine sT (h := aA (h := ?_)) | refine sT (h := aS (h := ?_)) | refine sT (h := aL (h := ?_)))
                  refine swt_nil ?_
                  refine ⟨_, _, ?_, wk_only [0, 3, 12, 13, 14] [(0, 0)] rfl rfl, k + 1, _, made, hlt', rfl, wrap_succ hlt' (by omega), by rw [hst, hS, if_pos ⟨by omega, by rw [hv]⟩, e9], by omega, rfl⟩
                  omega
            · have n11 : ¬ x.op = 11 := by simpa using c5
              (repeat refine sw_seq ?_); refine sw_region_spec (by kernel_rfl) ?_
              repeat (refine sws_read ttab_ok rfl (by exact True.intro) rfl ?_)
              refine sws_nil ?_
              (repeat refine sw_seq ?_); refine sw_cond rfl (fun c6 => ?_) (fun c6 => ?_)
              · have o6 : 6 ≤ x.op ∧ x.op ≤ 13 := by simp at c6; omega
                have hw : wantsS x.op = some [false, false] := by unfold wantsS; rw [if_neg (by omega), if_neg n34, if_neg n5, if_neg n11, if_pos o6]
                have hS := step_w (made := made) hw n2 hF
                simp only [List.length_cons, List.length_nil, Nat.zero_add, Nat.reduceAdd] at hS
                (repeat refine sw_seq ?_); refine sw_region ?_
                repeat (first | refine sR (h := ?_) | refine sK (h := ?_) | refine sT (h := aM (h := ?_)) | refine sT (h := aB (h := ?_)) | refine sT (h := aA (h := ?_)) | refine sT (h := aS (h := ?_)) | refine sT (h := aL (h := ?_)))
                by_cases hk1 : made.length < 2
                · rw [show decide ((made.length : Int) < 2) = true by simp; omega]
                  repeat (first | refine sR (h := ?_) | refine sK (h := ?_) | refine sT (h := aM (h := ?_)) | refine sT (h := aB (h := ?_)) | refine sT (h := aA (h := ?_)) | refine sT (h := aS (h := ?_)) | refine sT (h := aL (h := ?_)))
                  refine swt_nil ?_
                  (repeat refine sw_seq ?_); refine sw_cond rfl (fun c7 => ?_) (fun c7 => ?_)
                  rotate_left
                  · cases c7
                  (repeat refine sw_seq ?_); refine sw_region ?_
                  repeat (first | refine sR (h := ?_) | refine sK (h := ?_) | refine sT (h := aM (h := ?_)) | refine sT (h := aB (h := ?_)) | refine sT (h := aA (h := ?_)) | refine sT (h := aS (h := ?_)) | refine sT (h := aL (h := ?_)))
                  refine swt_nil ?_
                  (repeat refine sw_seq ?_); refine sw_ret ?_
                  exact fin_i rfl (none1 (by rw [hS, if_neg (by omega)])).symm
                · rw [show decide ((made.length : Int) < 2) = false by simp; omega]
                  repeat (first | refine sR (h := ?_) | refine sK (h := ?_) | refine sT (h := aM (h := ?_)) | refine sT (h := aB (h := ?_)) | refine sT (h := aA (h := ?_)) | refine sT (h := aS (h := ?_)) | refine sT (h := aL (h := ?_)))
                  rw [drop_2 (by omega)] at hS
                  rw [show IntKind.i64.wrap ((made.length : Int) - 2) = ((made.length - 2 : Nat) : Int) by rw [IntWalk.i64_in _ (by omega)]; omega]
                  repeat (first | refine sR (h := ?_) | refine sK (h := ?_) | refine sT (h := aM (h := ?_)) | refine sT (h := aB (h := ?_)) | refine sT (h := aA (h := ?_)) | refine sT (h := aS (h := ?_)) | refine sT (h := aL (h := ?_)))
                  refine swt_read ttab_ok rfl rfl (by rw [lb]; omega) rfl ?_
                  repeat (first | refine sR (h := ?_) | refine sK (h := ?_) | refine sT (h := aM (h := ?_)) | refine sT (h := aB (h := ?_)) | refine sT (h := aA (h := ?_)) | refine sT (h := aS (h := ?_)) | refine sT (h := aL (h := ?_)))
                  refine swt_read ttab_ok rfl (opR_elem rfl rfl rfl rfl rfl (bools_get (show made.length - 2 < made.length by omega)) rfl) (by rw [lb, Int.toNat_natCast]; omega) rfl ?_
                  repeat (first | refine sR (h := ?_) | refine sK (h := ?_) | refine sT (h := aM (h := ?_)) | refine sT (h := aB (h := ?_)) | refine sT (h := aA (h := ?_)) | refine sT (h := aS (h := ?_)) | refine sT (h := aL (h := ?_)))
                  cases hv2 : made[made.length - 2] with
                  | true =>
                    repeat (first | refine sR (h := ?_) | refine sK (h := ?_) | refine sT (h := aM (h := ?_)) | refine sT (h := aB (h := ?_)) | refine sT (h := aA (h := ?_)) | refine sT (h := aS (h := ?_)) | refine sT (h := aL (h := ?_)))
                    refine swt_nil ?_
                    (repeat refine sw_seq ?_); refine sw_cond rfl (fun c7 => ?_) (fun c7 => ?_)
                    rotate_left
                    · cases c7
                    (repeat refine sw_seq ?_); refine sw_region ?_
                    repeat (first | refine sR (h := ?_) | refine sK (h := ?_) | refine sT (h := aM (h := ?_)) | refine sT (h := aB (h := ?_)) | refine sT (h := aA (h := ?_)) | refine sT (h := aS (h := ?_)) | refine sT (h := aL (h := ?_)))
                    refine swt_nil ?_
                    (repeat refine sw_seq ?_); refine sw_ret ?_
                    exact fin_i rfl (none1 (by rw [hS, if_neg (by rw [hv2]; simp)])).symm
                  | false =>
                    repeat (first | refine sR (h := ?_) | refine sK (h := ?_) | refine sT (h := aM (h := ?_)) | refine sT (h := aB (h := ?_)) | refine sT (h := aA (h := ?_)) | refine sT (h := aS (h := ?_)) | refine sT (h := aL (h := ?_)))
                    rw [show IntKind.i64.wrap ((made.length : Int) - 1) = ((made.length - 1 : Nat) : Int) by rw [IntWalk.i64_in _ (by omega)]; omega]
                    repeat (first | refine sR (h := ?_) | refine sK (h := ?_) | refine sT (h := aM (h := ?_)) | refine sT (h := aB (h := ?_)) | refine sT (h := aA (h := ?_)) | refine sT (h := aS (h := ?_)) | refine sT (h := aL (h := ?_)))
                    refine swt_read ttab_ok rfl rfl (by rw [lb]; omega) rfl ?_
                    repeat (first | refine sR (h := ?_) | refine sK (h := ?_) | refine sT (h := aM (h := ?_)) | refine sT (h := aB (h := ?_)) | refine sT (h := aA (h := ?_)) | refine sT (h := aS (h := ?_)) | refine sT (h := aL (h := ?_)))
                    refine swt_read ttab_ok rfl (opR_elem rfl rfl rfl rfl rfl (bools_get (show made.length - 1 < made.length by omega)) rfl) (by rw [lb, Int.toNat_natCast]; omega) rfl ?_
                    repeat (first | refine sR (h := ?_) | refine sK (h := ?_) | refine sT (h := aM (h := ?_)) | refine sT (h := aB (h := ?_)) | refine sT (h := aA (h := ?_)) | refine sT (h := aS (h := ?_)) | refine sT (h := aL (h := ?_)))
                    refine swt_nil ?_
                    (repeat refine sw_seq ?_); refine sw_cond rfl (fun c7 => ?_) (fun c7 => ?_)
                    · have hv : made[made.length - 1] = true := by simpa using c7
                      (repeat refine sw_seq ?_); refine sw_region ?_
                      repeat (first | refine sR (h := ?_) | refine sK (h := ?_) | refine sT (h := aM (h := ?_)) | refine sT (h := aB (h := ?_)) | refine sT (h := aA (h := ?_)) | refine sT (h := aS (h := ?_)) | refine sT (h := aL (h := ?_)))
                      refine swt_nil ?_
                      (repeat refine sw_seq ?_); refine sw_ret ?_
                      exact fin_i rfl (none1 (by rw [hS, if_neg (by rw [hv]; simp)])).symm
                    · have hv : made[made.length - 1] = false := by simpa using c7
                      refine sw_skip ?_
                      (repeat refine sw_seq ?_); refine sw_region ?_
                      repeat (first | refine sR (h := ?_) | refine sK (h := ?_) | refine sT (h := aM (h := ?_)) | refine sT (h := aB (h := ?_)) | refine sT (h := aA (h := ?_)) | refine sT (h := aS (h := ?_)) | refine sT (h := aL (h := ?_)))
                      rw [show IntKind.i64.wrap ((made.length : Int) - 1) = ((made.length - 1 : Nat) : Int) by rw [IntWalk.i64_in _ (by omega)]; omega]
                      repeat (first | refine sR (h := ?_) | refine sK (h := ?_) | refine sT (h := aM (h := ?_)) | refine sT (h := aB (h := ?_)) | refine sT (h := aA (h := ?_)) | refine sT (h := aS (h := ?_)) | refine sT (h := aL (h := ?_)))
                      refine swt_read ttab_ok rfl rfl (by rw [lb]; omega) rfl ?_
                      repeat (first | refine sR (h := ?_) | refine sK (h := ?_) | refine sT (h := aM (h := ?_)) | refine sT (h := aB (h := ?_)) | refine sT (h := aA (h := ?_)) | refine sT (h := aS (h := ?_)) | refine sT (h := aL (h := ?_)))
                      refine swt_nil ?_
                      have e9 : made.take (made.length - 2) ++ [false] = made.take (made.length - 1) := by
                        rw [← hv2, show made.length - 1 = made.length - 2 + 1 by omega, List.take_succ_eq_append_getElem (by omega)]
                      refine SW.wk (wk_shrink 3 999 rfl rfl rfl rfl) ?_
                      (repeat refine sw_seq ?_); refine sw_region ?_
                      repeat (first | refine sR (h := ?_) | refine sK (h := ?_) | refine sT (h := aM (h := ?_)) | refine sT (h := aB (h := ?_)) | refine sT (h := aA (h := ?_)) | refine sT (h := aS (h := ?_)) | refine sT (h := aL (h := ?_)))
                      refine swt_nil ?_
                      refine ⟨_, _, ?_, wk_only [0, 3, 12, 13, 14] [(999, 0)] rfl rfl, k + 1, _, made.take (made.length - 1), hlt', rfl, wrap_succ hlt' (by omega), by rw [hst, hS, if_pos ⟨by omega, by rw [hv2, hv]⟩, e9], by simp; omega, ?_⟩
                      · omega
                      · rw [show bools (made.take (made.length - 1)) = (bools made).take (made.length - 1) by simp [bools, List.map_take]]; rfl
              · have n6 : ¬ (6 ≤ x.op ∧ x.op ≤ 13) := by simp at c6; omega
                have hw : wantsS x.op = none := by unfold wantsS; rw [if_neg (by omega), if_neg n34, if_neg n5, if_neg n11, if_neg n6]
                (repeat refine sw_seq ?_); refine sw_region ?_
                repeat (first | refine sR (h := ?_) | refine sK (h := ?_) | refine sT (h := aM (h := ?_)) | refine sT (h := aB (h := ?_)) | refine sT (h := aA (h := ?_)) | refine sT (h := aS (h := ?_)) | refine sT (h := aL (h := ?_)))
                refine swt_nil ?_
                (repeat refine sw_seq ?_); refine sw_ret ?_
                exact fin_i rfl (none1 (by unfold stepS; rw [hw])).symm
  · refine sw_exit ?_
    rw [lm] at hlt
    simp only [decide_eq_false_iff_not] at hlt
    have hkk : k = l.length := by omega
    subst hkk
    rw [List.take_length] at ha
    have ex : exprS l = if l = [] ∨ made = [false] then 0 else 1 := by rw [exprS, if_neg h0, ha]
    have lb : (bools made).length = made.length := by simp [bools]
    (repeat refine sw_seq ?_); refine sw_region ?_
    repeat (first | refine sR (h := ?_) | refine sK (h := ?_) | refine sT (h := aM (h := ?_)) | refine sT (h := aB (h := ?_)) | refine sT (h := aA (h := ?_)) | refine sT (h := aS (h := ?_)) | refine sT (h := aL (h := ?_)))
    by_cases hl0 : l = []
    · rw [lm, show decide ((l.length : Int) > 0) = false by rw [hl0]; rfl]
      repeat (first | refine sR (h := ?_) | refine sK (h := ?_) | refine sT (h := aM (h := ?_)) | refine sT (h := aB (h := ?_)) | refine sT (h := aA (h := ?_)) | refine sT (h := aS (h := ?_)) | refine sT (h := aL (h := ?_)))
      refine swt_nil ?_
      (repeat refine sw_seq ?_); refine sw_cond rfl (fun c => ?_) (fun c => ?_)
      · cases c
      refine sw_skip ?_
      (repeat refine sw_seq ?_); refine sw_region ?_
      repeat (first | refine sR (h := ?_) | refine sK (h := ?_) | refine sT (h := aM (h := ?_)) | refine sT (h := aB (h := ?_)) | refine sT (h := aA (h := ?_)) | refine sT (h := aS (h := ?_)) | refine sT (h := aL (h := ?_)))
      refine swt_nil ?_
      (repeat refine sw_seq ?_); refine sw_ret ?_
      exact fin_i rfl (by rw [ex, if_pos (.inl hl0)])
    · have hpos : 0 < l.length := List.length_pos_iff.2 hl0
      rw [lm, show decide ((l.length : Int) > 0) = true by simp; omega]
      repeat (first | refine sR (h := ?_) | refine sK (h := ?_) | refine sT (h := aM (h := ?_)) | refine sT (h := aB (h := ?_)) | refine sT (h := aA (h := ?_)) | refine sT (h := aS (h := ?_)) | refine sT (h := aL (h := ?_)))
      by_cases h1 : made.length = 1
      · obtain ⟨b, rfl⟩ : ∃ b, made = [b] := List.length_eq_one_iff.1 h1
        repeat (first | refine sR (h := ?_) | refine sK (h := ?_) | refine sT (h := aM (h := ?_)) | refine sT (h := aB (h := ?_)) | refine sT (h := aA (h := ?_)) | refine sT (h := aS (h := ?_)) | refine sT (h := aL (h := ?_)))
        refine swt_read ttab_ok rfl rfl (by simp [bools]) rfl ?_
        repeat (first | refine sR (h := ?_) | refine sK (h := ?_) | refine sT (h := aM (h := ?_)) | refine sT (h := aB (h := ?_)) | refine sT (h := aA (h := ?_)) | refine sT (h := aS (h := ?_)) | refine sT (h := aL (h := ?_)))
        refine swt_read ttab_ok rfl rfl (by simp [bools]) rfl ?_
        repeat (first | refine sR (h := ?_) | refine sK (h := ?_) | refine sT (h := aM (h := ?_)) | refine sT (h := aB (h := ?_)) | refine sT (h := aA (h := ?_)) | refine sT (h := aS (h := ?_)) | refine sT (h := aL (h := ?_)))
        refine swt_nil ?_
        cases b with
        | true =>
          (repeat refine sw_seq ?_); refine sw_cond rfl (fun c => ?_) (fun c => ?_)
          rotate_left
          · cases c
          (repeat refine sw_seq ?_); refine sw_region ?_
          repeat (first | refine sR (h := ?_) | refine sK (h := ?_) | refine sT (h := aM (h := ?_)) | refine sT (h := aB (h := ?_)) | refine sT (h := aA (h := ?_)) | refine sT (h := aS (h := ?_)) | refine sT (h := aL (h := ?_)))
          refine swt_nil ?_
          (repeat refine sw_seq ?_); refine sw_ret ?_
          exact fin_i rfl (by rw [ex, if_neg (by simp [hl0])])
        | false =>
          (repeat refine sw_seq ?_); refine sw_cond rfl (fun c => ?_) (fun c => ?_)
          · cases c
          refine sw_skip ?_
          (repeat refine sw_seq ?_); refine sw_region ?_
          repeat (first | refine sR (h := ?_) | refine sK (h := ?_) | refine sT (h := aM (h := ?_)) | refine sT (h := aB (h := ?_)) | refine sT (h := aA (h := ?_)) | refine sT (h := aS (h := ?_)) | refine sT (h := aL (h := ?_)))
          refine swt_nil ?_
          (repeat refine sw_seq ?_); refine sw_ret ?_
          exact fin_i rfl (by rw [ex, if_pos (.inr rfl)])
      · rw [lb, show ((made.length : Int) != 1) = true by simp; omega]
        repeat (first | refine sR (h := ?_) | refine sK (h := ?_) | refine sT (h := aM (h := ?_)) | refine sT (h := aB (h := ?_)) | refine sT (h := aA (h := ?_)) | refine sT (h := aS (h := ?_)) | refine sT (h := aL (h := ?_)))
        refine swt_nil ?_
        (repeat refine sw_seq ?_); refine sw_cond rfl (fun c => ?_) (fun c => ?_)
        rotate_left
        · cases c
        (repeat refine sw_seq ?_); refine sw_region ?_
        repeat (first | refine sR (h := ?_) | refine sK (h := ?_) | refine sT (h := aM (h := ?_)) | refine sT (h := aB (h := ?_)) | refine sT (h := aA (h := ?_)) | refine sT (h := aS (h := ?_)) | refine sT (h := aL (h := ?_)))
        refine swt_nil ?_
        (repeat refine sw_seq ?_); refine sw_ret ?_
        exact fin_i rfl (by rw [ex, if_neg (by rintro (h | h); exact hl0 h; rw [h] at h1; exact h1 rfl)])
end Go.Proofs.Ytjpcchipejmocaa
