/-
  What the statement leans on, part 4: LexD, LexP, FnsD, LexRuns, Within, LexLong, LexJoins, LexBlanks, LawKit0, LawL, Laid.
-/
import Derived.Test.YtnojoaneboppnaaDoorRows
import Derived.Lib.LaidTab
import Derived.Lib.LaidU8
import Derived.LaidLaws
import Derived.LaidHandle
import Derived.Stop.Joined
import Derived.ChangeSame
import Derived.ChangeVars
import Derived.JoinedOf
import Derived.RowKitTokens
import Derived.Test.YtnojoaneboppnaaDoorPk1
import Derived.Test.YtnojoaneboppnaaDoorPk2
import Derived.Test.YtnojoaneboppnaaDoorPk3
namespace Go.Proofs.YtnojoaneboppnaaDoor
set_option linter.unusedVariables false
set_option linter.unusedSimpArgs false
open Go.RowKit
set_option maxHeartbeats 4000000
set_option maxRecDepth 100000
def Tok.pv (t : Tok) : List PV := [pI t.kind, pI (t.at_ : Int), pI t.n, pL t.s]
abbrev jg (l : List Tok) : PV := .sl 4 (l.map Tok.pv)
def allR : Except Nat (List Tok) → SV
  | .ok _ => .tup [.row 0, .p (pI 0), .p (pI 0)]
  | .error e => .tup [.p nilV, .p (pI 5), .p (pI e)]
def allO : Except Nat (List Tok) → List (Nat × Box)
  | .ok a => [(0, .row 30 4 (a.map Tok.pv))]
  | .error _ => []
def joinE (o : List Tok) : Except Nat (List Tok) → Except Nat (List Tok)
  | .ok b => .ok (o ++ b)
  | .error e => .error e
def stA (l : Bs) (k : Int) (n : Int) (o : List Tok) (a b c : Int) (d : Bs) : St := ⟨52, [(0, .p (pL l)), (5, .row 0), (6, .ptr 6 0), (7, .p (pI k)), (8, .p (pI n))], [(6, .cells [.p (pI a), .p (pI b), .p (pI c), .p (pL d)]), (0, .row 30 4 (o.map Tok.pv))]⟩
def invA (l : Bs) (k : Nat) (o : List Tok) : Prop := k ≤ l.length ∧ o.length ≤ k ∧ lexL l = joinE o (lexF (l.length - k + 1) k (l.drop k))
theorem all_l (l : Bs) (hl : l.length ≤ 4096) : Holds Tryd.prog 9 [pL l] (allR (lexL l)) (allO (lexL l)) := by
  have ls : (⟨⟨l⟩⟩ : ByteArray).size = l.length := rfl
  refine qF (ts := [2,3,4]) Tryd.func9 (by kernel_rfl) rfl rfl rfl ?_
  (repeat refine qb ?_); refine qa ?_
  repeat (first | refine zR ?_ | refine zK ?_ | refine zM ?_ | refine zB ?_ | refine zA ?_ | refine zS ?_ | refine zL ?_)
  refine qc ?_
  (repeat refine qb ?_); refine sw_scope 0 (fun m s => ∃ (k : Nat) (o : List Tok) (n a b c : Int) (d : Bs), m = l.length - k ∧ invA l k o ∧ s = stA l k n o a b c d) rfl ?_ ?_
  · (repeat refine qb ?_); refine qa ?_
    repeat (first | refine zR ?_ | refine zK ?_ | refine zM ?_ | refine zB ?_ | refine zA ?_ | refine zS ?_ | refine zL ?_)
    rw [ls, show decide ((l.length : Int) > 4096) = false by simp; omega]
    refine qc ?_
    (repeat refine qb ?_); refine qe rfl (fun hc => ?_) (fun hc => ?_)
    · cases hc
    refine qq ?_
    (repeat refine qb ?_); refine qa ?_
    repeat (first | refine zR ?_ | refine zK ?_ | refine zM ?_ | refine zB ?_ | refine zA ?_ | refine zS ?_ | refine zL ?_)
    refine qc ?_
    (repeat refine qb ?_); refine qa ?_
    repeat (first | refine zR ?_ | refine zK ?_ | refine zM ?_ | refine zB ?_ | refine zA ?_ | refine zS ?_ | refine zL ?_)
    refine qc ?_
    (repeat refine qb ?_); refine qa ?_
    repeat (first | refine zR ?_ | refine zK ?_ | refine zM ?_ | refine zB ?_ | refine zA ?_ | refine zS ?_ | refine zL ?_)
    refine qc ?_
    refine SW.wk (wk_nil 5 900 30 4 rfl rfl) ?_
    refine SW.wk (qv [0, 5, 6, 7, 8] [(6, 6), (900, 0)] rfl rfl) ?_
    (repeat refine qb ?_); refine sw_label ?_
    change SW _ _ _ (stA l ((0 : Nat) : Int) 0 [] 0 0 0 [])
    obtain ⟨S, hS⟩ : ∃ S, S = stA l ((0 : Nat) : Int) 0 [] 0 0 0 [] := ⟨_, rfl⟩
    rw [← hS]
    obtain ⟨k, o, n, a, b, c, d, hi, hS2⟩ : ∃ (k : Nat) (o : List Tok) (n a b c : Int) (d : Bs), invA l k o ∧ S = stA l k n o a b c d := ⟨0, [], 0, 0, 0, 0, [], ⟨Nat.zero_le _, Nat.zero_le _, by unfold lexL; simp only [Nat.sub_zero, List.drop_zero]; cases lexF (l.length + 1) 0 l <;> rfl⟩, hS⟩
    clear hS
    subst hS2
    unfold stA
    have hE := hi.2.2
    have ho := hi.2.1
    have hk := hi.1
    (repeat refine qb ?_); refine qa ?_
    repeat (first | refine zR ?_ | refine zK ?_ | refine zM ?_ | refine zB ?_ | refine zA ?_ | refine zS ?_ | refine zL ?_)
    rw [ls]
    by_cases hend : k = l.length
    · have hfin : lexL l = .ok (o ++ [⟨7, k, 0, []⟩]) := by
        rw [hE, hend, List.drop_of_length_le (Nat.le_refl _)]; rfl
      rw [show ((k : Int) == (l.length : Int)) = true by rw [beq_iff_eq]; omega]
      refine qc ?_
      (repeat refine qb ?_); refine qe rfl (fun hc => ?_) (fun hc => ?_)
      rotate_left
      · cases hc
      (repeat refine qb ?_); refine qa ?_
      repeat (first | refine zR ?_ | refine zK ?_ | refine zM ?_ | refine zB ?_ | refine zA ?_ | refine zS ?_ | refine zL ?_)
      refine qi rfl (qy qg rfl rfl rfl rfl rfl rfl rfl rfl rfl rfl rfl rfl rfl rfl rfl rfl (by simp only [List.length_append, List.length_map, List.length_take, List.length_cons, List.length_nil]; unfold reachBytes; omega) (by simp only [List.length_append, List.length_map, List.length_take, List.length_cons, List.length_nil]; omega) ?_)
      repeat (first | refine zR ?_ | refine zK ?_ | refine zM ?_ | refine zB ?_ | refine zA ?_ | refine zS ?_ | refine zL ?_)
      refine qc ?_
      (repeat refine qb ?_); refine qj ?_
      rw [hfin, show allO (.ok (o ++ [⟨7, k, 0, []⟩])) = [(0, .row 30 4 (o.map Tok.pv ++ [[pI 7, pI (k : Int), pI 0, pL []]]))] by show [(0, Box.row 30 4 ((o ++ [_]).map Tok.pv))] = _; rw [List.map_append]; rfl]
      exact ⟨Or.inr rfl, _, _, [(20, 0)], Wk.refl _, rfl, rfl, rfl, rfl⟩
    have hlt : k < l.length := by omega
    rw [show ((k : Int) == (l.length : Int)) = false by rw [beq_eq_false_iff_ne]; omega]
    refine qc ?_
    (repeat refine qb ?_); refine qe rfl (fun hc => ?_) (fun hc => ?_)
    · cases hc
    refine qq ?_
    obtain ⟨ch, hch⟩ : ∃ ch, ch = l[k] := ⟨_, rfl⟩
    have hdr : l.drop k = ch :: l.drop (k + 1) := by rw [hch]; exact List.drop_eq_getElem_cons hlt
    have hst : lexF (l.length - k + 1) k (l.drop k) = if zu ch then lexF (l.length - k) (k + 1) (l.drop (k + 1)) else match tokL (ch :: l.drop (k + 1)) with
      | none => .error k
      | some t => match lexF (l.length - k) (k + t.len) ((ch :: l.drop (k + 1)).drop t.len) with
        | .ok b => .ok (t.at_ k :: b)
        | .error e => .error e := by rw [hdr]; rfl
    have hbl : zu ch = (decide (ch.toNat = 32) || decide (ch.toNat = 10)) := rfl
    (repeat refine qb ?_); refine qa ?_
    repeat (first | refine zR ?_ | refine zK ?_ | refine zM ?_ | refine zB ?_ | refine zA ?_ | refine zS ?_ | refine zL ?_)
    refine ql qg rfl rfl (by rw [ls]; omega) rfl ?_
    rw [qX hlt, ← hch]
    repeat (first | refine zR ?_ | refine zK ?_ | refine zM ?_ | refine zB ?_ | refine zA ?_ | refine zS ?_ | refine zL ?_)
    cases hb : zu ch with
    | true =>
      rw [hb, if_pos rfl] at hst
      have hi2 : invA l (k + 1) o := ⟨hlt, by omega, by rw [hE, hst, show l.length - k = l.length - (k + 1) + 1 by omega]⟩
      by_cases h32 : ch.toNat = 32
      · rw [show ((ch.toNat : Int) == 32) = true by rw [beq_iff_eq]; omega]
        repeat (first | refine zR ?_ | refine zK ?_ | refine zM ?_ | refine zB ?_ | refine zA ?_ | refine zS ?_ | refine zL ?_)
        refine qc ?_
        (repeat refine qb ?_); refine qe rfl (fun hq => ?_) (fun hq => ?_)
        rotate_left
        · cases hq
        (repeat refine qb ?_); refine qa ?_
        repeat (first | refine zR ?_ | refine zK ?_ | refine zM ?_ | refine zB ?_ | refine zA ?_ | refine zS ?_ | refine zL ?_)
        refine qc ?_
        rw [zk hlt (by omega)]
        (repeat refine qb ?_); refine sw_goto ?_
        first
          | exact ⟨rfl, _, _, qv [0, 5, 6, 7, 8] [(6, 6), (0, 0)] rfl rfl, k + 1, o, n, _, _, _, _, rfl, hi2, rfl⟩
          | exact ⟨rfl, _, _, (by omega), qv [0, 5, 6, 7, 8] [(6, 6), (0, 0)] rfl rfl, k + 1, o, n, _, _, _, _, rfl, hi2, rfl⟩
      · have h10 : ch.toNat = 10 := by rw [hb] at hbl; simp [h32] at hbl; exact hbl
        rw [show ((ch.toNat : Int) == 32) = false by rw [beq_eq_false_iff_ne]; omega]
        repeat (first | refine zR ?_ | refine zK ?_ | refine zM ?_ | refine zB ?_ | refine zA ?_ | refine zS ?_ | refine zL ?_)
        refine ql qg rfl rfl (by rw [ls]; omega) rfl ?_
        rw [qX hlt, ← hch]
        repeat (first | refine zR ?_ | refine zK ?_ | refine zM ?_ | refine zB ?_ | refine zA ?_ | refine zS ?_ | refine zL ?_)
        rw [show ((ch.toNat : Int) == 10) = true by rw [beq_iff_eq]; omega]
        repeat (first | refine zR ?_ | refine zK ?_ | refine zM ?_ | refine zB ?_ | refine zA ?_ | refine zS ?_ | refine zL ?_)
        refine qc ?_
        (repeat refine qb ?_); refine qe rfl (fun hq => ?_) (fun hq => ?_)
        rotate_left
        · cases hq
        (repeat refine qb ?_); refine qa ?_
        repeat (first | refine zR ?_ | refine zK ?_ | refine zM ?_ | refine zB ?_ | refine zA ?_ | refine zS ?_ | refine zL ?_)
        refine qc ?_
        rw [zk hlt (by omega)]
        (repeat refine qb ?_); refine sw_goto ?_
        first
          | exact ⟨rfl, _, _, qv [0, 5, 6, 7, 8] [(6, 6), (0, 0)] rfl rfl, k + 1, o, n, _, _, _, _, rfl, hi2, rfl⟩
          | exact ⟨rfl, _, _, (by omega), qv [0, 5, 6, 7, 8] [(6, 6), (0, 0)] rfl rfl, k + 1, o, n, _, _, _, _, rfl, hi2, rfl⟩
    | false =>
      rw [hb, if_neg (by simp)] at hst
      rw [hb] at hbl
      have hn2 : ch.toNat ≠ 32 ∧ ch.toNat ≠ 10 := by
        have := hbl.symm
        simp at this; exact this
      rw [show ((ch.toNat : Int) == 32) = false by rw [beq_eq_false_iff_ne]; omega]
      repeat (first | refine zR ?_ | refine zK ?_ | refine zM ?_ | refine zB ?_ | refine zA ?_ | refine zS ?_ | refine zL ?_)
      refine ql qg rfl rfl (by rw [ls]; omega) rfl ?_
      rw [qX hlt, ← hch]
      repeat (first | refine zR ?_ | refine zK ?_ | refine zM ?_ | refine zB ?_ | refine zA ?_ | refine zS ?_ | refine zL ?_)
      rw [show ((ch.toNat : Int) == 10) = false by rw [beq_eq_false_iff_ne]; omega]
      repeat (first | refine zR ?_ | refine zK ?_ | refine zM ?_ | refine zB ?_ | refine zA ?_ | refine zS ?_ | refine zL ?_)
      refine qc ?_
      (repeat refine qb ?_); refine qe rfl (fun hq => ?_) (fun hq => ?_)
      · cases hq
      refine qq ?_
      have HB := begins_l ch (l.drop (k + 1)) (by simp; omega)
      have hBT := beg_tok (ch :: l.drop (k + 1))
      generalize begR (ch :: l.drop (k + 1)) = B at HB hBT
      obtain ⟨bk, bv, bs, bn⟩ := B
      simp only at hBT
      (repeat refine qb ?_); refine qa ?_
      repeat (first | refine zR ?_ | refine zK ?_ | refine zM ?_ | refine zB ?_ | refine zA ?_ | refine zS ?_ | refine zL ?_)
      refine ql qg rfl rfl (by rw [ls]; omega) rfl ?_
      rw [ext_l, show (l.drop (Int.toNat (k : Int))).take (Int.toNat ((⟨⟨l⟩⟩ : ByteArray).size : Int) - Int.toNat (k : Int)) = ch :: l.drop (k + 1) from (List.take_of_length_le (by simp [ls])).trans hdr]
      repeat (first | refine zR ?_ | refine zK ?_ | refine zM ?_ | refine zB ?_ | refine zA ?_ | refine zS ?_ | refine zL ?_)
      refine qi rfl (qd rfl rfl rfl rfl (HB) rfl rfl ?_)
      repeat (first | refine zR ?_ | refine zK ?_ | refine zM ?_ | refine zB ?_ | refine zA ?_ | refine zS ?_ | refine zL ?_)
      repeat (first | refine zR ?_ | refine zK ?_ | refine zM ?_ | refine zB ?_ | refine zA ?_ | refine zS ?_ | refine zL ?_)
      refine qc ?_
      (repeat refine qb ?_); refine qa ?_
      repeat (first | refine zR ?_ | refine zK ?_ | refine zM ?_ | refine zB ?_ | refine zA ?_ | refine zS ?_ | refine zL ?_)
      by_cases h0 : bn = 0
      · rw [if_pos h0] at hBT
        rw [hBT] at hst
        have hfin : lexL l = .error k := by rw [hE, hst]; rfl
        rw [show ((bn : Int) == 0) = true by rw [beq_iff_eq]; omega]
        refine qc ?_
        (repeat refine qb ?_); refine qe rfl (fun hz => ?_) (fun hz => ?_)
        · (repeat refine qb ?_); refine qa ?_
          repeat (first | refine zR ?_ | refine zK ?_ | refine zM ?_ | refine zB ?_ | refine zA ?_ | refine zS ?_ | refine zL ?_)
          refine qc ?_
          (repeat refine qb ?_); refine qj ?_
          rw [hfin]
          exact ⟨Or.inr rfl, _, _, [], Wk.refl _, rfl, rfl, rfl, rfl⟩
        · cases hz
      rw [if_neg h0] at hBT
      have hlen := zX hBT
      simp only [List.length_cons, List.length_drop] at hlen
      rw [hBT] at hst
      simp only at hst
      have hi2 : invA l (k + bn) (o ++ [⟨bk, k, bv, bs⟩]) := by
        refine ⟨by omega, by simp; omega, ?_⟩
        rw [hE, hst, ← hdr, List.drop_drop]
        rw [lexF_fuel (f := l.length - k) (g := l.length - (k + bn) + 1) (by simp only [List.length_drop]; omega) (by simp only [List.length_drop]; omega)]
        cases lexF (l.length - (k + bn) + 1) (k + bn) (l.drop (k + bn)) with
        | ok b => show Except.ok (o ++ (_ :: b)) = Except.ok ((o ++ [_]) ++ b); rw [List.append_assoc]; rfl
        | error e => rfl
      rw [show ((bn : Int) == 0) = false by rw [beq_eq_false_iff_ne]; omega]
      refine qc ?_
      (repeat refine qb ?_); refine qe rfl (fun hz => ?_) (fun hz => ?_)
      · cases hz
      refine qq ?_
      (repeat refine qb ?_); refine qa ?_
      repeat (first | refine zR ?_ | refine zK ?_ | refine zM ?_ | refine zB ?_ | refine zA ?_ | refine zS ?_ | refine zL ?_)
      refine qc ?_
      (repeat refine qb ?_); refine qa ?_
      repeat (first | refine zR ?_ | refine zK ?_ | refine zM ?_ | refine zB ?_ | refine zA ?_ | refine zS ?_ | refine zL ?_)
      refine qi rfl (qy qg rfl rfl rfl rfl rfl rfl rfl rfl rfl rfl rfl rfl rfl rfl rfl rfl (by simp only [List.length_append, List.length_map, List.length_take, List.length_cons, List.length_nil]; unfold reachBytes; omega) (by simp only [List.length_append, List.length_map, List.length_take, List.length_cons, List.length_nil]; omega) ?_)
      repeat (first | refine zR ?_ | refine zK ?_ | refine zM ?_ | refine zB ?_ | refine zA ?_ | refine zS ?_ | refine zL ?_)
      refine qc ?_
      (repeat refine qb ?_); refine qa ?_
      repeat (first | refine zR ?_ | refine zK ?_ | refine zM ?_ | refine zB ?_ | refine zA ?_ | refine zS ?_ | refine zL ?_)
      refine qc ?_
      rw [show IntKind.i64.wrap ((k : Int) + (bn : Int)) = ((k + bn : Nat) : Int) from IntWalk.i64_in _ (by omega)]
      refine SW.wk (qv [0, 5, 6, 7, 8] [(6, 6), (48, 0)] rfl rfl) ?_
      have eO : (o ++ [(⟨bk, k, bv, bs⟩ : Tok)]).map Tok.pv = o.map Tok.pv ++ [[pI bk, pI (k : Int), pI bv, pL bs]] := by rw [List.map_append]; rfl
      change SW _ _ _ ⟨52, [(0, .p (pL l)), (5, .row 0), (6, .ptr 6 0), (7, .p (pI ((k + bn : Nat) : Int))), (8, .p (pI (bn : Int)))], [(6, .cells [.p (pI bk), .p (pI (k : Int)), .p (pI bv), .p (pL bs)]), (0, .row 30 4 (o.map Tok.pv ++ [[pI bk, pI (k : Int), pI bv, pL bs]]))]⟩
      rw [← eO]
      (repeat refine qb ?_); refine sw_goto ?_
      first
        | exact ⟨rfl, _, _, qv [0, 5, 6, 7, 8] [(6, 6), (0, 0)] rfl rfl, k + bn, o ++ [⟨bk, k, bv, bs⟩], (bn : Int), _, _, _, _, rfl, hi2, rfl⟩
        | exact ⟨rfl, _, _, (by omega), qv [0, 5, 6, 7, 8] [(6, 6), (0, 0)] rfl rfl, k + bn, o ++ [⟨bk, k, bv, bs⟩], (bn : Int), _, _, _, _, rfl, hi2, rfl⟩
  · rintro m s ⟨k, o, n, a, b, c, d, rfl, hi, rfl⟩
    unfold stA
    refine qb ?_
    refine qq ?_
    have hE := hi.2.2
    have ho := hi.2.1
    have hk := hi.1
    (repeat refine qb ?_); refine qa ?_
    repeat (first | refine zR ?_ | refine zK ?_ | refine zM ?_ | refine zB ?_ | refine zA ?_ | refine zS ?_ | refine zL ?_)
    rw [ls]
    by_cases hend : k = l.length
    · have hfin : lexL l = .ok (o ++ [⟨7, k, 0, []⟩]) := by
        rw [hE, hend, List.drop_of_length_le (Nat.le_refl _)]; rfl
      rw [show ((k : Int) == (l.length : Int)) = true by rw [beq_iff_eq]; omega]
      refine qc ?_
      (repeat refine qb ?_); refine qe rfl (fun hc => ?_) (fun hc => ?_)
      rotate_left
      · cases hc
      (repeat refine qb ?_); refine qa ?_
      repeat (first | refine zR ?_ | refine zK ?_ | refine zM ?_ | refine zB ?_ | refine zA ?_ | refine zS ?_ | refine zL ?_)
      refine qi rfl (qy qg rfl rfl rfl rfl rfl rfl rfl rfl rfl rfl rfl rfl rfl rfl rfl rfl (by simp only [List.length_append, List.length_map, List.length_take, List.length_cons, List.length_nil]; unfold reachBytes; omega) (by simp only [List.length_append, List.length_map, List.length_take, List.length_cons, List.length_nil]; omega) ?_)
      repeat (first | refine zR ?_ | refine zK ?_ | refine zM ?_ | refine zB ?_ | refine zA ?_ | refine zS ?_ | refine zL ?_)
      refine qc ?_
      (repeat refine qb ?_); refine qj ?_
      rw [hfin, show allO (.ok (o ++ [⟨7, k, 0, []⟩])) = [(0, .row 30 4 (o.map Tok.pv ++ [[pI 7, pI (k : Int), pI 0, pL []]]))] by show [(0, Box.row 30 4 ((o ++ [_]).map Tok.pv))] = _; rw [List.map_append]; rfl]
      exact ⟨Or.inr rfl, _, _, [(20, 0)], Wk.refl _, rfl, rfl, rfl, rfl⟩
    have hlt : k < l.length := by omega
    rw [show ((k : Int) == (l.length : Int)) = false by rw [beq_eq_false_iff_ne]; omega]
    refine qc ?_
    (repeat refine qb ?_); refine qe rfl (fun hc => ?_) (fun hc => ?_)
    · cases hc
    refine qq ?_
    obtain ⟨ch, hch⟩ : ∃ ch, ch = l[k] := ⟨_, rfl⟩
    have hdr : l.drop k = ch :: l.drop (k + 1) := by rw [hch]; exact List.drop_eq_getElem_cons hlt
    have hst : lexF (l.length - k + 1) k (l.drop k) = if zu ch then lexF (l.length - k) (k + 1) (l.drop (k + 1)) else match tokL (ch :: l.drop (k + 1)) with
      | none => .error k
      | some t => match lexF (l.length - k) (k + t.len) ((ch :: l.drop (k + 1)).drop t.len) with
        | .ok b => .ok (t.at_ k :: b)
        | .error e => .error e := by rw [hdr]; rfl
    have hbl : zu ch = (decide (ch.toNat = 32) || decide (ch.toNat = 10)) := rfl
    (repeat refine qb ?_); refine qa ?_
    repeat (first | refine zR ?_ | refine zK ?_ | refine zM ?_ | refine zB ?_ | refine zA ?_ | refine zS ?_ | refine zL ?_)
    refine ql qg rfl rfl (by rw [ls]; omega) rfl ?_
    rw [qX hlt, ← hch]
    repeat (first | refine zR ?_ | refine zK ?_ | refine zM ?_ | refine zB ?_ | refine zA ?_ | refine zS ?_ | refine zL ?_)
    cases hb : zu ch with
    | true =>
      rw [hb, if_pos rfl] at hst
      have hi2 : invA l (k + 1) o := ⟨hlt, by omega, by rw [hE, hst, show l.length - k = l.length - (k + 1) + 1 by omega]⟩
      by_cases h32 : ch.toNat = 32
      · rw [show ((ch.toNat : Int) == 32) = true by rw [beq_iff_eq]; omega]
        repeat (first | refine zR ?_ | refine zK ?_ | refine zM ?_ | refine zB ?_ | refine zA ?_ | refine zS ?_ | refine zL ?_)
        refine qc ?_
        (repeat refine qb ?_); refine qe rfl (fun hq => ?_) (fun hq => ?_)
        rotate_left
        · cases hq
        (repeat refine qb ?_); refine qa ?_
        repeat (first | refine zR ?_ | refine zK ?_ | refine zM ?_ | refine zB ?_ | refine zA ?_ | refine zS ?_ | refine zL ?_)
        refine qc ?_
        rw [zk hlt (by omega)]
        (repeat refine qb ?_); refine sw_goto ?_
        first
          | exact ⟨rfl, _, _, qv [0, 5, 6, 7, 8] [(6, 6), (0, 0)] rfl rfl, k + 1, o, n, _, _, _, _, rfl, hi2, rfl⟩
          | exact ⟨rfl, _, _, (by omega), qv [0, 5, 6, 7, 8] [(6, 6), (0, 0)] rfl rfl, k + 1, o, n, _, _, _, _, rfl, hi2, rfl⟩
      · have h10 : ch.toNat = 10 := by rw [hb] at hbl; simp [h32] at hbl; exact hbl
        rw [show ((ch.toNat : Int) == 32) = false by rw [beq_eq_false_iff_ne]; omega]
        repeat (first | refine zR ?_ | refine zK ?_ | refine zM ?_ | refine zB ?_ | refine zA ?_ | refine zS ?_ | refine zL ?_)
        refine ql qg rfl rfl (by rw [ls]; omega) rfl ?_
        rw [qX hlt, ← hch]
        repeat (first | refine zR ?_ | refine zK ?_ | refine zM ?_ | refine zB ?_ | refine zA ?_ | refine zS ?_ | refine zL ?_)
        rw [show ((ch.toNat : Int) == 10) = true by rw [beq_iff_eq]; omega]
        repeat (first | refine zR ?_ | refine zK ?_ | refine zM ?_ | refine zB ?_ | refine zA ?_ | refine zS ?_ | refine zL ?_)
        refine qc ?_
        (repeat refine qb ?_); refine qe rfl (fun hq => ?_) (fun hq => ?_)
        rotate_left
        · cases hq
        (repeat refine qb ?_); refine qa ?_
        repeat (first | refine zR ?_ | refine zK ?_ | refine zM ?_ | refine zB ?_ | refine zA ?_ | refine zS ?_ | refine zL ?_)
        refine qc ?_
        rw [zk hlt (by omega)]
        (repeat refine qb ?_); refine sw_goto ?_
        first
          | exact ⟨rfl, _, _, qv [0, 5, 6, 7, 8] [(6, 6), (0, 0)] rfl rfl, k + 1, o, n, _, _, _, _, rfl, hi2, rfl⟩
          | exact ⟨rfl, _, _, (by omega), qv [0, 5, 6, 7, 8] [(6, 6), (0, 0)] rfl rfl, k + 1, o, n, _, _, _, _, rfl, hi2, rfl⟩
    | false =>
      rw [hb, if_neg (by simp)] at hst
      rw [hb] at hbl
      have hn2 : ch.toNat ≠ 32 ∧ ch.toNat ≠ 10 := by
        have := hbl.symm
        simp at this; exact this
      rw [show ((ch.toNat : Int) == 32) = false by rw [beq_eq_false_iff_ne]; omega]
      repeat (first | refine zR ?_ | refine zK ?_ | refine zM ?_ | refine zB ?_ | refine zA ?_ | refine zS ?_ | refine zL ?_)
      refine ql qg rfl rfl (by rw [ls]; omega) rfl ?_
      rw [qX hlt, ← hch]
      repeat (first | refine zR ?_ | refine zK ?_ | refine zM ?_ | refine zB ?_ | refine zA ?_ | refine zS ?_ | refine zL ?_)
      rw [show ((ch.toNat : Int) == 10) = false by rw [beq_eq_false_iff_ne]; omega]
      repeat (first | refine zR ?_ | refine zK ?_ | refine zM ?_ | refine zB ?_ | refine zA ?_ | refine zS ?_ | refine zL ?_)
      refine qc ?_
      (repeat refine qb ?_); refine qe rfl (fun hq => ?_) (fun hq => ?_)
      · cases hq
      refine qq ?_
      have HB := begins_l ch (l.drop (k + 1)) (by simp; omega)
      have hBT := beg_tok (ch :: l.drop (k + 1))
      generalize begR (ch :: l.drop (k + 1)) = B at HB hBT
      obtain ⟨bk, bv, bs, bn⟩ := B
      simp only at hBT
      (repeat refine qb ?_); refine qa ?_
      repeat (first | refine zR ?_ | refine zK ?_ | refine zM ?_ | refine zB ?_ | refine zA ?_ | refine zS ?_ | refine zL ?_)
      refine ql qg rfl rfl (by rw [ls]; omega) rfl ?_
      rw [ext_l, show (l.drop (Int.toNat (k : Int))).take (Int.toNat ((⟨⟨l⟩⟩ : ByteArray).size : Int) - Int.toNat (k : Int)) = ch :: l.drop (k + 1) from (List.take_of_length_le (by simp [ls])).trans hdr]
      repeat (first | refine zR ?_ | refine zK ?_ | refine zM ?_ | refine zB ?_ | refine zA ?_ | refine zS ?_ | refine zL ?_)
      refine qi rfl (qd rfl rfl rfl rfl (HB) rfl rfl ?_)
      repeat (first | refine zR ?_ | refine zK ?_ | refine zM ?_ | refine zB ?_ | refine zA ?_ | refine zS ?_ | refine zL ?_)
      repeat (first | refine zR ?_ | refine zK ?_ | refine zM ?_ | refine zB ?_ | refine zA ?_ | refine zS ?_ | refine zL ?_)
      refine qc ?_
      (repeat refine qb ?_); refine qa ?_
      repeat (first | refine zR ?_ | refine zK ?_ | refine zM ?_ | refine zB ?_ | refine zA ?_ | refine zS ?_ | refine zL ?_)
      by_cases h0 : bn = 0
      · rw [if_pos h0] at hBT
        rw [hBT] at hst
        have hfin : lexL l = .error k := by rw [hE, hst]; rfl
        rw [show ((bn : Int) == 0) = true by rw [beq_iff_eq]; omega]
        refine qc ?_
        (repeat refine qb ?_); refine qe rfl (fun hz => ?_) (fun hz => ?_)
        · (repeat refine qb ?_); refine qa ?_
          repeat (first | refine zR ?_ | refine zK ?_ | refine zM ?_ | refine zB ?_ | refine zA ?_ | refine zS ?_ | refine zL ?_)
          refine qc ?_
          (repeat refine qb ?_); refine qj ?_
          rw [hfin]
          exact ⟨Or.inr rfl, _, _, [], Wk.refl _, rfl, rfl, rfl, rfl⟩
        · cases hz
      rw [if_neg h0] at hBT
      have hlen := zX hBT
      simp only [List.length_cons, List.length_drop] at hlen
      rw [hBT] at hst
      simp only at hst
      have hi2 : invA l (k + bn) (o ++ [⟨bk, k, bv, bs⟩]) := by
        refine ⟨by omega, by simp; omega, ?_⟩
        rw [hE, hst, ← hdr, List.drop_drop]
        rw [lexF_fuel (f := l.length - k) (g := l.length - (k + bn) + 1) (by simp only [List.length_drop]; omega) (by simp only [List.length_drop]; omega)]
        cases lexF (l.length - (k + bn) + 1) (k + bn) (l.drop (k + bn)) with
        | ok b => show Except.ok (o ++ (_ :: b)) = Except.ok ((o ++ [_]) ++ b); rw [List.append_assoc]; rfl
        | error e => rfl
      rw [show ((bn : Int) == 0) = false by rw [beq_eq_false_iff_ne]; omega]
      refine qc ?_
      (repeat refine qb ?_); refine qe rfl (fun hz => ?_) (fun hz => ?_)
      · cases hz
      refine qq ?_
      (repeat refine qb ?_); refine qa ?_
      repeat (first | refine zR ?_ | refine zK ?_ | refine zM ?_ | refine zB ?_ | refine zA ?_ | refine zS ?_ | refine zL ?_)
      refine qc ?_
      (repeat refine qb ?_); refine qa ?_
      repeat (first | refine zR ?_ | refine zK ?_ | refine zM ?_ | refine zB ?_ | refine zA ?_ | refine zS ?_ | refine zL ?_)
      refine qi rfl (qy qg rfl rfl rfl rfl rfl rfl rfl rfl rfl rfl rfl rfl rfl rfl rfl rfl (by simp only [List.length_append, List.length_map, List.length_take, List.length_cons, List.length_nil]; unfold reachBytes; omega) (by simp only [List.length_append, List.length_map, List.length_take, List.length_cons, List.length_nil]; omega) ?_)
      repeat (first | refine zR ?_ | refine zK ?_ | refine zM ?_ | refine zB ?_ | refine zA ?_ | refine zS ?_ | refine zL ?_)
      refine qc ?_
      (repeat refine qb ?_); refine qa ?_
      repeat (first | refine zR ?_ | refine zK ?_ | refine zM ?_ | refine zB ?_ | refine zA ?_ | refine zS ?_ | refine zL ?_)
      refine qc ?_
      rw [show IntKind.i64.wrap ((k : Int) + (bn : Int)) = ((k + bn : Nat) : Int) from IntWalk.i64_in _ (by omega)]
      refine SW.wk (qv [0, 5, 6, 7, 8] [(6, 6), (48, 0)] rfl rfl) ?_
      have eO : (o ++ [(⟨bk, k, bv, bs⟩ : Tok)]).map Tok.pv = o.map Tok.pv ++ [[pI bk, pI (k : Int), pI bv, pL bs]] := by rw [List.map_append]; rfl
      change SW _ _ _ ⟨52, [(0, .p (pL l)), (5, .row 0), (6, .ptr 6 0), (7, .p (pI ((k + bn : Nat) : Int))), (8, .p (pI (bn : Int)))], [(6, .cells [.p (pI bk), .p (pI (k : Int)), .p (pI bv), .p (pL bs)]), (0, .row 30 4 (o.map Tok.pv ++ [[pI bk, pI (k : Int), pI bv, pL bs]]))]⟩
      rw [← eO]
      (repeat refine qb ?_); refine sw_goto ?_
      first
        | exact ⟨rfl, _, _, qv [0, 5, 6, 7, 8] [(6, 6), (0, 0)] rfl rfl, k + bn, o ++ [⟨bk, k, bv, bs⟩], (bn : Int), _, _, _, _, rfl, hi2, rfl⟩
        | exact ⟨rfl, _, _, (by omega), qv [0, 5, 6, 7, 8] [(6, 6), (0, 0)] rfl rfl, k + bn, o ++ [⟨bk, k, bv, bs⟩], (bn : Int), _, _, _, _, rfl, hi2, rfl⟩
end Go.Proofs.YtnojoaneboppnaaDoor
namespace Go.Proofs.YtnojoaneboppnaaDoor
set_option linter.unusedVariables false
set_option linter.unusedSimpArgs false
set_option maxRecDepth 100000
theorem lex_ahead : ∀ (h : Bs), h.all zu = true → ∀ (b : Bs), lexL (h ++ b) = shiftR h.length (lexL b)
  | [], _, b => by
    show lexL b = shiftR 0 (lexL b)
    cases lexL b with
    | ok a => show Except.ok a = Except.ok (a.map (Tok.shift 0)); rw [show (Tok.shift 0 : Tok → Tok) = id from funext fun t => rfl, List.map_id]
    | error e => rfl
  | c :: h, hb, b => by
    rw [List.all_cons, Bool.and_eq_true] at hb
    have ih := lex_ahead h hb.2 b
    show lexF ((c :: h ++ b).length + 1) 0 (c :: (h ++ b)) = _
    rw [lexL_blank hb.1 (h ++ b) 0 _ (by simp), ih]
    cases lexL b with
    | ok a =>
      show Except.ok ((a.map (Tok.shift h.length)).map (Tok.shift (0 + 1))) = Except.ok (a.map (Tok.shift (h.length + 1)))
      rw [List.map_map]
      congr 2
    | error e => show Except.error (e + h.length + (0 + 1)) = Except.error (e + (h.length + 1)); congr 1
theorem lex_around (h : Bs) (hb : h.all zu = true) (l : Bs) : lexL (h ++ (l ++ [10, 32])) = match lexL l with
    | .ok a => .ok ((a.dropLast.map (Tok.shift h.length)) ++ [⟨7, h.length + l.length + 2, 0, []⟩])
    | .error e => .error (e + h.length) := by
  rw [lex_ahead h hb]
  have e := lexF_line [32] rfl (f := l.length + 1) (k := 0) (l := l) (by omega) (g := (l ++ [10, 32]).length + 1) (by simp)
  have e2 : lexL (l ++ [10, 32]) = lexF ((l ++ [10, 32]).length + 1) 0 (l ++ 10 :: [32]) := rfl
  rw [e2, e]
  show shiftR h.length (match lexL l with
    | .ok a => .ok (a.dropLast ++ [⟨7, 0 + l.length + 1 + 1, 0, []⟩])
    | .error e => .error e) = _
  cases lexL l with
  | ok a =>
    show Except.ok ((a.dropLast ++ [_]).map (Tok.shift h.length)) = _
    rw [List.map_append]
    show Except.ok (_ ++ [(⟨7, 0 + l.length + 1 + 1 + h.length, 0, []⟩ : Tok)]) = Except.ok (_ ++ [_])
    rw [show 0 + l.length + 1 + 1 + h.length = h.length + l.length + 2 by omega]
  | error e => rfl
def zY (c : UInt8) : Bool := (decide (65 ≤ c.toNat) && decide (c.toNat ≤ 90)) || decide (126 < c.toNat) || (decide (c.toNat < 32) && decide (c.toNat ≠ 10)) || decide (c.toNat = 36) || decide (c.toNat = 47) || decide (c.toNat = 95) || decide (c.toNat = 91)
theorem odd7_fin : ∀ n : _root_.Fin 256, zY (UInt8.ofFin n) = true → qB (UInt8.ofFin n) = false ∧ qp (UInt8.ofFin n) = false ∧ (UInt8.ofFin n).toNat ≠ 45 ∧ (UInt8.ofFin n).toNat ≠ 64 ∧ (UInt8.ofFin n).toNat ≠ 35 ∧ (UInt8.ofFin n).toNat ≠ 34 ∧ markB (UInt8.ofFin n) = false ∧ zu (UInt8.ofFin n) = false := by decide
theorem lex_odd {c : UInt8} (h : zY c = true) (hd : Bs) (hb : hd.all zu = true) (r : Bs) : lexL (hd ++ c :: r) = .error hd.length := by
  rw [lex_ahead hd hb]
  obtain ⟨h1, h2, h3, h4, h5, h6, h7, h8⟩ := odd7_fin c.toFin h
  have e : tokL (c :: r) = none := by
    rw [tokL]
    rw [show qB c = false from h1, show qp c = false from h2, show markB c = false from h7, if_neg (by simp), if_neg (by simp), if_neg (show ¬ c.toNat = 45 from h3), if_neg (show ¬ c.toNat = 64 from h4), if_neg (show ¬ c.toNat = 35 from h5), if_neg (show ¬ c.toNat = 34 from h6), if_neg (by simp)]
  have e2 : lexL (c :: r) = .error 0 := by
    show lexF ((c :: r).length + 1) 0 (c :: r) = _
    rw [lexF, show zu c = false from h8, if_neg (by simp), e]
  rw [e2]
  show Except.error (0 + hd.length) = _
  rw [Nat.zero_add]
end Go.Proofs.YtnojoaneboppnaaDoor
namespace Go.Proofs.YtnojoaneboppnaaDoor
open Go.RowKit
noncomputable def fnsd12 : FnI := ⟨74, Tryd.f12.body.getD .skip, [.tmp 0], []⟩
theorem fnsd12_ok : FnOk Tryd.prog 12 fnsd12 := ⟨_, Tryd.func12, by kernel_rfl, by kernel_rfl, by kernel_rfl, by kernel_rfl, by kernel_rfl, by kernel_rfl⟩
noncomputable def fnsd11 : FnI := ⟨26, Tryd.f11.body.getD .skip, [.tmp 4], [(6, [(0, true), (1, true), (2, true), (3, true), (4, true), (5, false), (6, false), (7, false), (8, false)])]⟩
theorem fnsd11_ok : FnOk Tryd.prog 11 fnsd11 := ⟨_, Tryd.func11, by kernel_rfl, by kernel_rfl, by kernel_rfl, by kernel_rfl, by kernel_rfl, by kernel_rfl⟩
noncomputable def fnsd9 : FnI := ⟨52, Tryd.f9.body.getD .skip, [.tmp 2, .tmp 3, .tmp 4], []⟩
theorem fnsd9_ok : FnOk Tryd.prog 9 fnsd9 := ⟨_, Tryd.func9, by kernel_rfl, by kernel_rfl, by kernel_rfl, by kernel_rfl, by kernel_rfl, by kernel_rfl⟩
noncomputable def fnsd17 : FnI := ⟨106, Tryd.f17.body.getD .skip, [.cell 2 30, .tmp 3], [(30, [(0, true), (1, true), (2, false), (3, false), (4, false), (5, false), (6, false)])]⟩
theorem fnsd17_ok : FnOk Tryd.prog 17 fnsd17 := ⟨_, Tryd.func17, by kernel_rfl, by kernel_rfl, by kernel_rfl, by kernel_rfl, by kernel_rfl, by kernel_rfl⟩
noncomputable def fnsd31 : FnI := ⟨50, Tryd.f31.body.getD .skip, [.tmp 2, .tmp 3], []⟩
theorem fnsd31_ok : FnOk Tryd.prog 31 fnsd31 := ⟨_, Tryd.func31, by kernel_rfl, by kernel_rfl, by kernel_rfl, by kernel_rfl, by kernel_rfl, by kernel_rfl⟩
noncomputable def fnsd43 : FnI := ⟨38, Tryd.f43.body.getD .skip, [.tmp 2, .tmp 3], [(3, [(0, true), (1, true), (4, true), (5, true), (2, false), (3, true), (6, false), (7, false), (8, false), (9, false)])]⟩
theorem fnsd43_ok : FnOk Tryd.prog 43 fnsd43 := ⟨_, Tryd.func43, by kernel_rfl, by kernel_rfl, by kernel_rfl, by kernel_rfl, by kernel_rfl, by kernel_rfl⟩
noncomputable def fnsd42 : FnI := ⟨17, Tryd.f42.body.getD .skip, [.tmp 2], []⟩
theorem fnsd42_ok : FnOk Tryd.prog 42 fnsd42 := ⟨_, Tryd.func42, by kernel_rfl, by kernel_rfl, by kernel_rfl, by kernel_rfl, by kernel_rfl, by kernel_rfl⟩
noncomputable def fnsd49 : FnI := ⟨20, Tryd.f49.body.getD .skip, [.tmp 2], []⟩
theorem fnsd49_ok : FnOk Tryd.prog 49 fnsd49 := ⟨_, Tryd.func49, by kernel_rfl, by kernel_rfl, by kernel_rfl, by kernel_rfl, by kernel_rfl, by kernel_rfl⟩
noncomputable def fnsd29 : FnI := ⟨9, Tryd.f29.body.getD .skip, [.tmp 2], []⟩
theorem fnsd29_ok : FnOk Tryd.prog 29 fnsd29 := ⟨_, Tryd.func29, by kernel_rfl, by kernel_rfl, by kernel_rfl, by kernel_rfl, by kernel_rfl, by kernel_rfl⟩
noncomputable def fnsd30 : FnI := ⟨35, Tryd.f30.body.getD .skip, [.tmp 4, .tmp 5], []⟩
theorem fnsd30_ok : FnOk Tryd.prog 30 fnsd30 := ⟨_, Tryd.func30, by kernel_rfl, by kernel_rfl, by kernel_rfl, by kernel_rfl, by kernel_rfl, by kernel_rfl⟩
noncomputable def fnsd39 : FnI := ⟨20, Tryd.f39.body.getD .skip, [.tmp 4], []⟩
theorem fnsd39_ok : FnOk Tryd.prog 39 fnsd39 := ⟨_, Tryd.func39, by kernel_rfl, by kernel_rfl, by kernel_rfl, by kernel_rfl, by kernel_rfl, by kernel_rfl⟩
noncomputable def fnsd28 : FnI := ⟨12, Tryd.f28.body.getD .skip, [.tmp 2], []⟩
theorem fnsd28_ok : FnOk Tryd.prog 28 fnsd28 := ⟨_, Tryd.func28, by kernel_rfl, by kernel_rfl, by kernel_rfl, by kernel_rfl, by kernel_rfl, by kernel_rfl⟩
noncomputable def fnsd24 : FnI := ⟨49, Tryd.f24.body.getD .skip, [.tmp 2], []⟩
theorem fnsd24_ok : FnOk Tryd.prog 24 fnsd24 := ⟨_, Tryd.func24, by kernel_rfl, by kernel_rfl, by kernel_rfl, by kernel_rfl, by kernel_rfl, by kernel_rfl⟩
noncomputable def fnsd40 : FnI := ⟨17, Tryd.f40.body.getD .skip, [.tmp 2], []⟩
theorem fnsd40_ok : FnOk Tryd.prog 40 fnsd40 := ⟨_, Tryd.func40, by kernel_rfl, by kernel_rfl, by kernel_rfl, by kernel_rfl, by kernel_rfl, by kernel_rfl⟩
noncomputable def FnsDF : List (FuncId × FnI) := [(12, fnsd12),
  (11, fnsd11),
  (9, fnsd9),
  (17, fnsd17),
  (31, fnsd31),
  (43, fnsd43),
  (42, fnsd42),
  (49, fnsd49),
  (29, fnsd29),
  (30, fnsd30),
  (39, fnsd39),
  (28, fnsd28),
  (24, fnsd24),
  (40, fnsd40)]
theorem FnsDF_ok (C : FuncId → List PV → Option SV) : FOk Tryd.prog ⟨TTab, FnsDF, C⟩ := qE fnsd12_ok <|
  qE fnsd11_ok <|
  qE fnsd9_ok <|
  qE fnsd17_ok <|
  qE fnsd31_ok <|
  qE fnsd43_ok <|
  qE fnsd42_ok <|
  qE fnsd49_ok <|
  qE fnsd29_ok <|
  qE fnsd30_ok <|
  qE fnsd39_ok <|
  qE fnsd28_ok <|
  qE fnsd24_ok <|
  qE fnsd40_ok <| fok_nil
end Go.Proofs.YtnojoaneboppnaaDoor
namespace Go.Proofs.YtnojoaneboppnaaDoor
set_option linter.unusedVariables false
set_option linter.unusedSimpArgs false
open Go.RowKit
theorem zW : Holds Tryd.prog 12 [] (.p (.v (.bool true))) [] :=
  .ofW (evF1_ok (n := 5000) qg (ctab_ok _) (FnsDF_ok ctab) (by kernel_rfl) (by kernel_rfl))
end Go.Proofs.YtnojoaneboppnaaDoor
namespace Go.Proofs.YtnojoaneboppnaaDoor
set_option linter.unusedVariables false
set_option linter.unusedSimpArgs false
open Go.RowKit
set_option maxHeartbeats 1000000
theorem within_h (n lo hi : Int) (hn : R64 n) (h1 : 0 ≤ lo) (h2 : lo ≤ hi) (h3 : hi ≤ 4611686018427387904) : Holds Tryd.prog 13 [pI n, pI lo, pI hi] (.p (pI (lo + n % (hi - lo + 1)))) [] := by
  obtain ⟨hn, hn'⟩ := hn
  have r0 := Int.emod_nonneg n (show hi - lo + 1 ≠ 0 by omega)
  have r1 := Int.emod_lt_of_pos n (show 0 < hi - lo + 1 by omega)
  have e : (n.tmod (hi - lo + 1) = n % (hi - lo + 1) ∧ 0 ≤ n % (hi - lo + 1)) ∨ (n.tmod (hi - lo + 1) = n % (hi - lo + 1) - (hi - lo + 1) ∧ n % (hi - lo + 1) - (hi - lo + 1) < 0) := by
    rw [Int.tmod_eq_emod]
    have hab : ((hi - lo + 1).natAbs : Int) = hi - lo + 1 := by omega
    split
    · left; omega
    · right; omega
  generalize hr : n % (hi - lo + 1) = r at *
  have w1 : IntKind.i64.wrap (IntKind.i64.wrap (hi - lo) + 1) = hi - lo + 1 := by
    rw [IntWalk.i64_in (hi - lo) (by omega), IntWalk.i64_in _ (by omega)]
  refine qF (ts := [6]) Tryd.func13 (by kernel_rfl) rfl rfl rfl ?_
  (repeat refine qb ?_); refine qa ?_
  repeat (first | refine zR ?_ | refine zK ?_ | refine zM ?_ | refine zB ?_ | refine zA ?_ | refine zS ?_ | refine zL ?_)
  refine qc ?_
  (repeat refine qb ?_); refine qa ?_
  repeat (first | refine zR ?_ | refine zK ?_ | refine zM ?_ | refine zB ?_ | refine zA ?_ | refine zS ?_ | refine zL ?_)
  rw [w1]
  refine ql qg rfl rfl (by omega) rfl ?_
  repeat (first | refine zR ?_ | refine zK ?_ | refine zM ?_ | refine zB ?_ | refine zA ?_ | refine zS ?_ | refine zL ?_)
  refine qc ?_
  (repeat refine qb ?_); refine qa ?_
  repeat (first | refine zR ?_ | refine zK ?_ | refine zM ?_ | refine zB ?_ | refine zA ?_ | refine zS ?_ | refine zL ?_)
  refine qc ?_
  (repeat refine qb ?_); refine qe rfl (fun h => ?_) (fun h => ?_)
  · rcases e with ⟨e, hneg⟩ | ⟨e, hneg⟩
    · rw [e] at h; simp at h; omega
    · (repeat refine qb ?_); refine qa ?_
      repeat (first | refine zR ?_ | refine zK ?_ | refine zM ?_ | refine zB ?_ | refine zA ?_ | refine zS ?_ | refine zL ?_)
      refine qc ?_
      (repeat refine qb ?_); refine qa ?_
      repeat (first | refine zR ?_ | refine zK ?_ | refine zM ?_ | refine zB ?_ | refine zA ?_ | refine zS ?_ | refine zL ?_)
      refine qc ?_
      (repeat refine qb ?_); refine qj ?_
      refine fin_i rfl ?_
      rw [e, IntWalk.i64_in (r - (hi - lo + 1) + hi) (by omega), IntWalk.i64_in (r - (hi - lo + 1) + hi - lo) (by omega), IntWalk.i64_in (r - (hi - lo + 1) + hi - lo + 1) (by omega), IntWalk.i64_in _ (by omega)]
      omega
  · rcases e with ⟨e, hneg⟩ | ⟨e, hneg⟩
    · refine qq ?_
      (repeat refine qb ?_); refine qa ?_
      repeat (first | refine zR ?_ | refine zK ?_ | refine zM ?_ | refine zB ?_ | refine zA ?_ | refine zS ?_ | refine zL ?_)
      refine qc ?_
      (repeat refine qb ?_); refine qj ?_
      refine fin_i rfl ?_
      rw [e, IntWalk.i64_in _ (by omega)]
    · rw [e] at h; simp at h; omega
end Go.Proofs.YtnojoaneboppnaaDoor
namespace Go.Proofs.YtnojoaneboppnaaDoor
set_option linter.unusedVariables false
set_option linter.unusedSimpArgs false
open Go.RowKit
set_option maxHeartbeats 4000000
set_option maxRecDepth 100000
theorem jc {a b : Bs} (ha : a.length ≤ 100000) (hb : b.length ≤ 100000) : (((⟨⟨a⟩⟩ : ByteArray).size + (⟨⟨b⟩⟩ : ByteArray).size : Nat) : Int) ≤ IntKind.i64.max := by
  have h1 : (IntKind.i64.max : Int) = 9223372036854775807 := rfl
  have h2 : (⟨⟨a⟩⟩ : ByteArray).size = a.length := rfl
  have h3 : (⟨⟨b⟩⟩ : ByteArray).size = b.length := rfl
  rw [h1, h2, h3]; omega
end Go.Proofs.YtnojoaneboppnaaDoor
namespace Go.Proofs.YtnojoaneboppnaaDoor
set_option linter.unusedVariables false
set_option linter.unusedSimpArgs false
open Go.RowKit
set_option maxHeartbeats 4000000
set_option maxRecDepth 100000
theorem all_len {l : Bs} {a : List Tok} (h : lexL l = .ok a) : 1 ≤ a.length ∧ a.length ≤ l.length + 1 := by
  have h1 := lexF_ok_ne h
  refine ⟨List.length_pos_iff.2 h1, ?_⟩
  have : ∀ {f k : Nat} {l : Bs} {a : List Tok}, lexF f k l = .ok a → a.length ≤ l.length + 1 := by
    intro f
    induction f with
    | zero => intro k l a h; cases h
    | succ f ih =>
      intro k l a h
      cases l with
      | nil => cases h; simp
      | cons c r =>
        rw [lexF] at h
        split at h
        · have := ih h; simp; omega
        · cases ht : tokL (c :: r) with
          | none => rw [ht] at h; cases h
          | some t =>
            have hl := zX ht
            rw [ht] at h
            simp only at h
            cases hr : lexF f (k + t.len) ((c :: r).drop t.len) with
            | error e => rw [hr] at h; cases h
            | ok a' =>
              rw [hr] at h
              cases h
              have := ih hr
              rw [List.length_drop] at this
              simp only [List.length_cons] at this hl ⊢
              omega
  exact this h
theorem at_le : ∀ {f k : Nat} {l : Bs} {a : List Tok}, lexF f k l = .ok a → ∀ t ∈ a, t.at_ ≤ k + l.length
  | f + 1, k, [], a, h => by cases h; intro t ht; rw [List.mem_singleton.1 ht]; exact Nat.le_refl _
  | f + 1, k, c :: r, a, h => by
    rw [lexF] at h
    split at h
    · intro t ht
      have := at_le h t ht
      rw [List.length_cons]; omega
    · cases ht : tokL (c :: r) with
      | none => rw [ht] at h; cases h
      | some t =>
        have hl := zX ht
        rw [ht] at h
        simp only at h
        cases hr : lexF f (k + t.len) ((c :: r).drop t.len) with
        | error e => rw [hr] at h; cases h
        | ok a' =>
          rw [hr] at h
          cases h
          intro x hx
          rcases List.mem_cons.1 hx with rfl | hx
          · show k ≤ _; omega
          · have := at_le hr x hx
            rw [List.length_drop] at this
            omega
theorem err_le : ∀ {f k : Nat} {l : Bs} {e : Nat}, lexF f k l = .error e → e ≤ k + l.length
  | 0, k, l, e, h => by cases h; omega
  | f + 1, k, [], e, h => by cases h
  | f + 1, k, c :: r, e, h => by
    rw [lexF] at h
    split at h
    · have := err_le h
      rw [List.length_cons]; omega
    · cases ht : tokL (c :: r) with
      | none => rw [ht] at h; cases h; omega
      | some t =>
        have hl := zX ht
        rw [ht] at h
        simp only at h
        cases hr : lexF f (k + t.len) ((c :: r).drop t.len) with
        | error e' =>
          rw [hr] at h
          cases h
          have := err_le hr
          rw [List.length_drop] at this
          omega
        | ok a' => rw [hr] at h; cases h
end Go.Proofs.YtnojoaneboppnaaDoor
namespace Go.Proofs.YtnojoaneboppnaaDoor
set_option linter.unusedVariables false
set_option linter.unusedSimpArgs false
open Go.RowKit
set_option maxHeartbeats 4000000
set_option maxRecDepth 100000
def ja (q : Nat) : Bs := ([10, 32, 10, 32, 32] : Bs).take q
theorem ahead_all : ∀ q, q ≤ 5 → (ja q).all zu = true ∧ (ja q).length = q
  | 0, _ => by decide | 1, _ => by decide | 2, _ => by decide | 3, _ => by decide | 4, _ => by decide | 5, _ => by decide
  | q + 6, h => absurd h (by omega)
theorem SWT.mono {P : Program} {ops l : List Oper} {Q Q' : St → Prop} {st : St} (h : SWT P ops l Q' st) (hm : ∀ s, Q' s → Q s) : SWT P ops l Q st := fun w0 Sx γ a w QQ hI hQ =>
  h w0 Sx γ a w QQ hI fun st' γ' a' w' hI' hq => hQ st' γ' a' w' hI' (hm st' hq)
theorem wk_nilq {st : St} (t d : Nat) (e : TypeId) (z : Nat) (ht : lk t st.fr = some (.p (.v (.slice none 0 0)))) (hd : lk d st.own = none) (hdl : Nat.blt d 1000000 = true := by rfl) : Wk st (St.frz ⟨st.n, (t, .row d) :: st.fr, (d, .row e z []) :: st.own⟩ d z []) :=
  (wk_nil t d e z ht hd hdl).trans (wk_frz (e := e) (by show lk d ((d, Box.row e z []) :: st.own) = _; rw [qk, if_pos rfl]))
theorem lexBlanks_h (s : Bs) (n : Int) (hn : R64 n) (b : Int) (hb : 0 ≤ b ∧ b ≤ 255) : Holds Tryd.prog 4 [pL s, pI n, .v (.int .u8 b)] (.p (pB true)) [] := by
  have HW := within_h n 0 5 hn (by omega) (by omega) (by omega)
  obtain ⟨q, hq⟩ : ∃ q : Nat, (q : Int) = 0 + n % (5 - 0 + 1) := ⟨(0 + n % (5 - 0 + 1)).toNat, by omega⟩
  rw [← hq] at HW
  have hq2 : q ≤ 5 := by omega
  clear hq
  have hq5 := ahead_all q hq2
  obtain ⟨c, hc⟩ : ∃ c : UInt8, (c.toNat : Int) = b := ⟨UInt8.ofNat b.toNat, by rw [UInt8.toNat_ofNat']; omega⟩
  subst hc
  clear hb
  refine qF (ts := [6]) Tryd.func4 (by kernel_rfl) rfl rfl rfl ?_
  (repeat refine qb ?_); refine qa ?_
  repeat (first | refine zR ?_ | refine zK ?_ | refine zM ?_ | refine zB ?_ | refine zA ?_ | refine zS ?_ | refine zL ?_)
  refine qc ?_
  (repeat refine qb ?_); refine qa ?_
  repeat (first | refine zR ?_ | refine zK ?_ | refine zM ?_ | refine zB ?_ | refine zA ?_ | refine zS ?_ | refine zL ?_)
  rw [show (⟨⟨s⟩⟩ : ByteArray).size = s.length from rfl]
  by_cases h2 : 200 < s.length
  · rw [show decide ((s.length : Int) > 200) = true by simp; omega]
    refine qc ?_
    (repeat refine qb ?_); refine qe rfl (fun hc => ?_) (fun hc => ?_)
    rotate_left
    · cases hc
    (repeat refine qb ?_); refine qa ?_
    repeat (first | refine zR ?_ | refine zK ?_ | refine zM ?_ | refine zB ?_ | refine zA ?_ | refine zS ?_ | refine zL ?_)
    refine ql qg rfl rfl (⟨by decide, by decide, by show (200 : Int) ≤ (s.length : Int); omega⟩) rfl ?_
    rw [show (⟨⟨s⟩⟩ : ByteArray).extract (Int.toNat 0) (Int.toNat 200) = ⟨⟨s.take 200⟩⟩ from ext_l s 0 200]
    repeat (first | refine zR ?_ | refine zK ?_ | refine zM ?_ | refine zB ?_ | refine zA ?_ | refine zS ?_ | refine zL ?_)
    refine qc ?_
    have hs : (s.take 200).length ≤ 200 := by simp; omega
    generalize s.take 200 = s at *
    clear h2
    have ls : (⟨⟨s⟩⟩ : ByteArray).size = s.length := rfl
    have HX := all_l s (by omega)
    have HM := all_l (ja q ++ (s ++ [10, 32])) (by simp only [List.length_append, hq5.2, List.length_cons, List.length_nil]; omega)
    rw [lex_around (ja q) hq5.1, hq5.2] at HM
    refine SW.wk (qv [0, 1, 2] [] rfl rfl) ?_
    (repeat refine qb ?_); refine qa ?_
    repeat (first | refine zR ?_ | refine zK ?_ | refine zM ?_ | refine zB ?_ | refine zA ?_ | refine zS ?_ | refine zL ?_)
    refine qi rfl (qd rfl rfl rfl rfl (HW) rfl rfl ?_)
    repeat (first | refine zR ?_ | refine zK ?_ | refine zM ?_ | refine zB ?_ | refine zA ?_ | refine zS ?_ | refine zL ?_)
    refine qc ?_
    (repeat refine qb ?_); refine qa ?_
    repeat (first | refine zR ?_ | refine zK ?_ | refine zM ?_ | refine zB ?_ | refine zA ?_ | refine zS ?_ | refine zL ?_)
    refine ql qg rfl rfl (⟨by decide, by omega, by show (q : Int) ≤ 5; omega⟩) rfl ?_
    rw [show (⟨#[10, 32, 10, 32, 32]⟩ : ByteArray).extract (Int.toNat 0) (Int.toNat (q : Int)) = ⟨⟨ja q⟩⟩ from ext_l _ 0 _]
    repeat (first | refine zR ?_ | refine zK ?_ | refine zM ?_ | refine zB ?_ | refine zA ?_ | refine zS ?_ | refine zL ?_)
    refine qc ?_
    cases hx : lexL s with
    | error e =>
      have he := err_le hx
      rw [hx] at HX HM
      (repeat refine qb ?_); refine qa ?_
      repeat (first | refine zR ?_ | refine zK ?_ | refine zM ?_ | refine zB ?_ | refine zA ?_ | refine zS ?_ | refine zL ?_)
      refine qi rfl (zT rfl rfl rfl rfl (HX) rfl rfl rfl ?_)
      repeat (first | refine zR ?_ | refine zK ?_ | refine zM ?_ | refine zB ?_ | refine zA ?_ | refine zS ?_ | refine zL ?_)
      repeat (first | refine zR ?_ | refine zK ?_ | refine zM ?_ | refine zB ?_ | refine zA ?_ | refine zS ?_ | refine zL ?_)
      refine qc ?_
      (repeat refine qb ?_); refine qa ?_
      repeat (first | refine zR ?_ | refine zK ?_ | refine zM ?_ | refine zB ?_ | refine zA ?_ | refine zS ?_ | refine zL ?_)
      refine ql qg rfl rfl (jc (a := ja q) (b := s) (by rw [hq5.2]; omega) (by omega)) rfl ?_
      rw [jd]
      repeat (first | refine zR ?_ | refine zK ?_ | refine zM ?_ | refine zB ?_ | refine zA ?_ | refine zS ?_ | refine zL ?_)
      refine ql qg rfl rfl (jc (a := ja q ++ s) (b := [10, 32]) (by rw [List.length_append, hq5.2]; omega) (by simp)) rfl ?_
      rw [show (⟨⟨ja q ++ s⟩⟩ : ByteArray) ++ ⟨#[10, 32]⟩ = ⟨⟨ja q ++ (s ++ [10, 32])⟩⟩ from (jd _ [10, 32]).trans (by rw [List.append_assoc])]
      repeat (first | refine zR ?_ | refine zK ?_ | refine zM ?_ | refine zB ?_ | refine zA ?_ | refine zS ?_ | refine zL ?_)
      refine qi rfl (zT rfl rfl rfl rfl (HM) rfl rfl rfl ?_)
      repeat (first | refine zR ?_ | refine zK ?_ | refine zM ?_ | refine zB ?_ | refine zA ?_ | refine zS ?_ | refine zL ?_)
      repeat (first | refine zR ?_ | refine zK ?_ | refine zM ?_ | refine zB ?_ | refine zA ?_ | refine zS ?_ | refine zL ?_)
      refine qc ?_
      (repeat refine qb ?_); refine qa ?_
      repeat (first | refine zR ?_ | refine zK ?_ | refine zM ?_ | refine zB ?_ | refine zA ?_ | refine zS ?_ | refine zL ?_)
      rw [show IntKind.i64.wrap ((e : Int) + (q : Int)) = ((e + q : Nat) : Int) by rw [IntWalk.i64_in _ (by omega)]; omega, show (((e + q : Nat) : Int) != ((e + q : Nat) : Int)) = false by simp]
      repeat (first | refine zR ?_ | refine zK ?_ | refine zM ?_ | refine zB ?_ | refine zA ?_ | refine zS ?_ | refine zL ?_)
      refine qc ?_
      (repeat refine qb ?_); refine qe rfl (fun hd => ?_) (fun hd => ?_)
      · cases hd
      refine qq ?_
      refine SW.wk ((wk_nilq 9 900 30 4 rfl rfl).trans (wk_nilq 12 901 30 4 rfl rfl)) ?_
      refine SW.wk (qv [0, 2, 7, 8, 9, 12] [] rfl rfl) ?_
      obtain ⟨S, hS⟩ : ∃ S : St, S = ⟨198, [(0, .p (pL s)), (2, .p (pU c)), (7, .p (pI (q : Int))), (8, .p (pL (ja q))), (9, .p (jg [])), (12, .p (jg []))], []⟩ := ⟨_, rfl⟩
      change SW _ _ _ ⟨198, [(0, .p (pL s)), (2, .p (pU c)), (7, .p (pI (q : Int))), (8, .p (pL (ja q))), (9, .p (jg [])), (12, .p (jg []))], []⟩
      rw [← hS]
      obtain ⟨a, z, hzl, hal, hz, hat, hS2⟩ : ∃ a z : List Tok, z.length = a.length ∧ a.length ≤ 1000 ∧ (∀ (k : Nat) (h : k < a.length) (h2 : k < z.length), z[k] = if k = a.length - 1 then ⟨a[k].kind, q + s.length + 2, a[k].n, a[k].s⟩ else ⟨a[k].kind, a[k].at_ + q, a[k].n, a[k].s⟩) ∧ (∀ t ∈ a, t.at_ ≤ 0 + s.length) ∧ S = ⟨198, [(0, .p (pL s)), (2, .p (pU c)), (7, .p (pI (q : Int))), (8, .p (pL (ja q))), (9, .p (jg a)), (12, .p (jg z))], []⟩ :=
        ⟨[], [], rfl, by simp, fun k h => (nomatch h), fun t h => (nomatch h), hS⟩
      clear hS
      subst hS2
      have la : (a.map Tok.pv).length = a.length := by simp
      have lz : (z.map Tok.pv).length = z.length := by simp
      (repeat refine qb ?_); refine qa ?_
      repeat (first | refine zR ?_ | refine zK ?_ | refine zM ?_ | refine zB ?_ | refine zA ?_ | refine zS ?_ | refine zL ?_)
      refine qc ?_
      (repeat refine qb ?_); refine zf ?_
      refine SW.wk (qv [0, 2, 7, 8, 9, 12, 71, 72] [] rfl rfl) ?_
      refine sw_loop (fun m st => ∃ (k : Nat) (kk : Int), k ≤ a.length ∧ m = a.length - k ∧ kk = k ∧ st = ⟨198, [(0, .p (pL s)), (2, .p (pU c)), (7, .p (pI (q : Int))), (8, .p (pL (ja q))), (9, .p (jg a)), (12, .p (jg z)), (71, .p (pI (a.map Tok.pv).length)), (72, .p (pI kk))], []⟩) a.length ⟨0, 0, Nat.zero_le _, rfl, rfl, rfl⟩ ?_
      rintro m st ⟨k, _, hk, rfl, rfl, rfl⟩
      (repeat refine qb ?_); refine qa ?_
      repeat (first | refine zR ?_ | refine zK ?_ | refine zM ?_ | refine zB ?_ | refine zA ?_ | refine zS ?_ | refine zL ?_)
      refine qc ?_
      (repeat refine qb ?_); refine qe rfl (fun hlt => ?_) (fun hlt => ?_)
      · refine qq ?_
        rw [la] at hlt
        simp only [decide_eq_true_eq] at hlt
        have hlt' : k < a.length := by omega
        have hkz : k < z.length := by omega
        have hzk := hz k hlt' hkz
        have hat2 := hat _ (List.getElem_mem hlt')
        obtain ⟨t, ht⟩ : ∃ t, t = a[k] := ⟨_, rfl⟩
        rw [← ht] at hzk hat2
        (repeat refine qb ?_); refine zf ?_
        (repeat refine qb ?_); refine qa ?_
        repeat (first | refine zR ?_ | refine zK ?_ | refine zM ?_ | refine zB ?_ | refine zA ?_ | refine zS ?_ | refine zL ?_)
        refine qc ?_
        (repeat refine qb ?_); refine qa ?_
        repeat (first | refine zR ?_ | refine zK ?_ | refine zM ?_ | refine zB ?_ | refine zA ?_ | refine zS ?_ | refine zL ?_)
        refine ql qg rfl rfl (by rw [la]; omega) rfl ?_
        rw [zZ hlt', ← ht]
        repeat (first | refine zR ?_ | refine zK ?_ | refine zM ?_ | refine zB ?_ | refine zA ?_ | refine zS ?_ | refine zL ?_)
        rw [show IntKind.i64.wrap ((t.at_ : Int) + (q : Int)) = ((t.at_ + q : Nat) : Int) by rw [IntWalk.i64_in _ (by omega)]; omega]
        repeat (first | refine zR ?_ | refine zK ?_ | refine zM ?_ | refine zB ?_ | refine zA ?_ | refine zS ?_ | refine zL ?_)
        refine qc ?_
        (repeat refine qb ?_); refine qa ?_
        repeat (first | refine zR ?_ | refine zK ?_ | refine zM ?_ | refine zB ?_ | refine zA ?_ | refine zS ?_ | refine zL ?_)
        rw [la]
        repeat (first | refine zR ?_ | refine zK ?_ | refine zM ?_ | refine zB ?_ | refine zA ?_ | refine zS ?_ | refine zL ?_)
        rw [show IntKind.i64.wrap ((a.length : Int) - 1) = (a.length : Int) - 1 from IntWalk.i64_in _ (by omega)]
        by_cases hlast : k = a.length - 1
        · rw [if_pos hlast] at hzk
          rw [show ((k : Int) == (a.length : Int) - 1) = true by rw [beq_iff_eq]; omega]
          refine qc ?_
          (repeat refine qb ?_); refine qe rfl (fun he => ?_) (fun he => ?_)
          rotate_left
          · cases he
          (repeat refine qb ?_); refine qa ?_
          repeat (first | refine zR ?_ | refine zK ?_ | refine zM ?_ | refine zB ?_ | refine zA ?_ | refine zS ?_ | refine zL ?_)
          rw [show (⟨⟨s⟩⟩ : ByteArray).size = s.length from rfl]
          repeat (first | refine zR ?_ | refine zK ?_ | refine zM ?_ | refine zB ?_ | refine zA ?_ | refine zS ?_ | refine zL ?_)
          rw [show IntKind.i64.wrap ((q : Int) + (s.length : Int)) = (q : Int) + (s.length : Int) from IntWalk.i64_in _ (by omega), show IntKind.i64.wrap ((q : Int) + (s.length : Int) + 2) = ((q + s.length + 2 : Nat) : Int) by rw [IntWalk.i64_in _ (by omega)]; omega]
          repeat (first | refine zR ?_ | refine zK ?_ | refine zM ?_ | refine zB ?_ | refine zA ?_ | refine zS ?_ | refine zL ?_)
          refine qc ?_
          (repeat refine qb ?_); refine zU [] [(0, true), (1, true), (2, true), (3, true), (4, true), (5, true), (6, true), (7, true), (8, true), (9, true), (10, true), (11, true), (12, true), (13, true), (14, true), (15, true), (16, true), (17, true), (18, true), (19, true), (20, true), (21, true), (22, true), (23, true), (24, true), (25, true), (26, true), (27, true), (28, true), (29, true), (30, true), (31, true), (32, true), (33, true), (34, true), (35, true), (36, true), (37, true), (38, true), (39, true), (40, true), (41, true), (42, true), (43, true), (44, true), (45, true)] (by kernel_rfl) (by kernel_rfl) (by kernel_rfl) ?_
          repeat (first | refine yR ?_ | refine yK ?_ | refine yM ?_ | refine yB ?_ | refine yA ?_ | refine yS ?_ | refine yL ?_)
          refine zV qg rfl rfl rfl (by rw [lz]; omega) rfl ?_
          rw [zZ hkz, hzk]
          repeat (first | refine yR ?_ | refine yK ?_ | refine yM ?_ | refine yB ?_ | refine yA ?_ | refine yS ?_ | refine yL ?_)
          refine zV qg rfl rfl rfl (by rw [la]; omega) rfl ?_
          rw [zZ hlt', ← ht]
          repeat (first | refine yR ?_ | refine yK ?_ | refine yM ?_ | refine yB ?_ | refine yA ?_ | refine yS ?_ | refine yL ?_)
          rw [show (t.kind != t.kind) = false by simp]
          repeat (first | refine yR ?_ | refine yK ?_ | refine yM ?_ | refine yB ?_ | refine yA ?_ | refine yS ?_ | refine yL ?_)
          refine zV qg rfl rfl rfl (by rw [lz]; omega) rfl ?_
          rw [zZ hkz, hzk]
          repeat (first | refine yR ?_ | refine yK ?_ | refine yM ?_ | refine yB ?_ | refine yA ?_ | refine yS ?_ | refine yL ?_)
          refine zV qg rfl rfl rfl (by rw [la]; omega) rfl ?_
          rw [zZ hlt', ← ht]
          repeat (first | refine yR ?_ | refine yK ?_ | refine yM ?_ | refine yB ?_ | refine yA ?_ | refine yS ?_ | refine yL ?_)
          rw [show (!((⟨⟨t.s⟩⟩ : ByteArray).toList == (⟨⟨t.s⟩⟩ : ByteArray).toList)) = false by simp]
          repeat (first | refine yR ?_ | refine yK ?_ | refine yM ?_ | refine yB ?_ | refine yA ?_ | refine yS ?_ | refine yL ?_)
          refine zV qg rfl rfl rfl (by rw [lz]; omega) rfl ?_
          rw [zZ hkz, hzk]
          repeat (first | refine yR ?_ | refine yK ?_ | refine yM ?_ | refine yB ?_ | refine yA ?_ | refine yS ?_ | refine yL ?_)
          refine zV qg rfl rfl rfl (by rw [la]; omega) rfl ?_
          rw [zZ hlt', ← ht]
          repeat (first | refine yR ?_ | refine yK ?_ | refine yM ?_ | refine yB ?_ | refine yA ?_ | refine yS ?_ | refine yL ?_)
          rw [show (t.n != t.n) = false by simp]
          repeat (first | refine yR ?_ | refine yK ?_ | refine yM ?_ | refine yB ?_ | refine yA ?_ | refine yS ?_ | refine yL ?_)
          refine zV qg rfl rfl rfl (by rw [lz]; omega) rfl ?_
          rw [zZ hkz, hzk]
          repeat (first | refine yR ?_ | refine yK ?_ | refine yM ?_ | refine yB ?_ | refine yA ?_ | refine yS ?_ | refine yL ?_)
          rw [show (((q + s.length + 2 : Nat) : Int) != ((q + s.length + 2 : Nat) : Int)) = false by simp]
          repeat (first | refine yR ?_ | refine yK ?_ | refine yM ?_ | refine yB ?_ | refine yA ?_ | refine yS ?_ | refine yL ?_)
          refine jh ?_
          (repeat refine qb ?_); refine qe rfl (fun hf => ?_) (fun hf => ?_)
          · cases hf
          refine qq ?_
          (repeat refine qb ?_); refine qa ?_
          repeat (first | refine zR ?_ | refine zK ?_ | refine zM ?_ | refine zB ?_ | refine zA ?_ | refine zS ?_ | refine zL ?_)
          refine qc ?_
          refine ⟨_, _, ?_, qv [0, 2, 7, 8, 9, 12, 71, 72] [] rfl rfl, k + 1, _, hlt', rfl, zk hlt' (by omega), rfl⟩
          omega
        · rw [if_neg hlast] at hzk
          rw [show ((k : Int) == (a.length : Int) - 1) = false by rw [beq_eq_false_iff_ne]; omega]
          refine qc ?_
          (repeat refine qb ?_); refine qe rfl (fun he => ?_) (fun he => ?_)
          · cases he
          refine qq ?_
          (repeat refine qb ?_); refine zU [] [(0, true), (1, true), (2, true), (3, true), (4, true), (5, true), (6, true), (7, true), (8, true), (9, true), (10, true), (11, true), (12, true), (13, true), (14, true), (15, true), (16, true), (17, true), (18, true), (19, true), (20, true), (21, true), (22, true), (23, true), (24, true), (25, true), (26, true), (27, true), (28, true), (29, true), (30, true), (31, true), (32, true), (33, true), (34, true), (35, true), (36, true), (37, true), (38, true), (39, true), (40, true), (41, true), (42, true), (43, true), (44, true), (45, true)] (by kernel_rfl) (by kernel_rfl) (by kernel_rfl) ?_
          repeat (first | refine yR ?_ | refine yK ?_ | refine yM ?_ | refine yB ?_ | refine yA ?_ | refine yS ?_ | refine yL ?_)
          refine zV qg rfl rfl rfl (by rw [lz]; omega) rfl ?_
          rw [zZ hkz, hzk]
          repeat (first | refine yR ?_ | refine yK ?_ | refine yM ?_ | refine yB ?_ | refine yA ?_ | refine yS ?_ | refine yL ?_)
          refine zV qg rfl rfl rfl (by rw [la]; omega) rfl ?_
          rw [zZ hlt', ← ht]
          repeat (first | refine yR ?_ | refine yK ?_ | refine yM ?_ | refine yB ?_ | refine yA ?_ | refine yS ?_ | refine yL ?_)
          rw [show (t.kind != t.kind) = false by simp]
          repeat (first | refine yR ?_ | refine yK ?_ | refine yM ?_ | refine yB ?_ | refine yA ?_ | refine yS ?_ | refine yL ?_)
          refine zV qg rfl rfl rfl (by rw [lz]; omega) rfl ?_
          rw [zZ hkz, hzk]
          repeat (first | refine yR ?_ | refine yK ?_ | refine yM ?_ | refine yB ?_ | refine yA ?_ | refine yS ?_ | refine yL ?_)
          refine zV qg rfl rfl rfl (by rw [la]; omega) rfl ?_
          rw [zZ hlt', ← ht]
          repeat (first | refine yR ?_ | refine yK ?_ | refine yM ?_ | refine yB ?_ | refine yA ?_ | refine yS ?_ | refine yL ?_)
          rw [show (!((⟨⟨t.s⟩⟩ : ByteArray).toList == (⟨⟨t.s⟩⟩ : ByteArray).toList)) = false by simp]
          repeat (first | refine yR ?_ | refine yK ?_ | refine yM ?_ | refine yB ?_ | refine yA ?_ | refine yS ?_ | refine yL ?_)
          refine zV qg rfl rfl rfl (by rw [lz]; omega) rfl ?_
          rw [zZ hkz, hzk]
          repeat (first | refine yR ?_ | refine yK ?_ | refine yM ?_ | refine yB ?_ | refine yA ?_ | refine yS ?_ | refine yL ?_)
          refine zV qg rfl rfl rfl (by rw [la]; omega) rfl ?_
          rw [zZ hlt', ← ht]
          repeat (first | refine yR ?_ | refine yK ?_ | refine yM ?_ | refine yB ?_ | refine yA ?_ | refine yS ?_ | refine yL ?_)
          rw [show (t.n != t.n) = false by simp]
          repeat (first | refine yR ?_ | refine yK ?_ | refine yM ?_ | refine yB ?_ | refine yA ?_ | refine yS ?_ | refine yL ?_)
          refine zV qg rfl rfl rfl (by rw [lz]; omega) rfl ?_
          rw [zZ hkz, hzk]
          repeat (first | refine yR ?_ | refine yK ?_ | refine yM ?_ | refine yB ?_ | refine yA ?_ | refine yS ?_ | refine yL ?_)
          rw [show (((t.at_ + q : Nat) : Int) != ((t.at_ + q : Nat) : Int)) = false by simp]
          repeat (first | refine yR ?_ | refine yK ?_ | refine yM ?_ | refine yB ?_ | refine yA ?_ | refine yS ?_ | refine yL ?_)
          refine jh ?_
          (repeat refine qb ?_); refine qe rfl (fun hf => ?_) (fun hf => ?_)
          · cases hf
          refine qq ?_
          (repeat refine qb ?_); refine qa ?_
          repeat (first | refine zR ?_ | refine zK ?_ | refine zM ?_ | refine zB ?_ | refine zA ?_ | refine zS ?_ | refine zL ?_)
          refine qc ?_
          refine ⟨_, _, ?_, qv [0, 2, 7, 8, 9, 12, 71, 72] [] rfl rfl, k + 1, _, hlt', rfl, zk hlt' (by omega), rfl⟩
          omega
      · refine ji ?_
        refine SW.wk (qv [2, 7, 8] [] rfl rfl) ?_
        (repeat refine qb ?_); refine qa ?_
        refine SWT.mono (Q' := fun st => Wk st ⟨198, [(2, .p (pU c)), (7, .p (pI (q : Int))), (8, .p (pL (ja q))), (17, .p (pB (zY c)))], []⟩) ?_ fun st hst => SW.wk hst ?_
        · repeat (first | refine zR ?_ | refine zK ?_ | refine zM ?_ | refine zB ?_ | refine zA ?_ | refine zS ?_ | refine zL ?_)
          by_cases c1 : 65 ≤ c.toNat
          · rw [show decide ((c.toNat : Int) ≥ 65) = true by simp; omega]
            repeat (first | refine zR ?_ | refine zK ?_ | refine zM ?_ | refine zB ?_ | refine zA ?_ | refine zS ?_ | refine zL ?_)
            by_cases c2 : c.toNat ≤ 90
            · rw [show decide ((c.toNat : Int) ≤ 90) = true by simp; omega]
              rw [show zY c = true by simp [zY, c1, c2]]
              repeat (first | refine zR ?_ | refine zK ?_ | refine zM ?_ | refine zB ?_ | refine zA ?_ | refine zS ?_ | refine zL ?_)
              refine qc ?_
              exact qv [2, 7, 8, 17] [] rfl rfl
            rw [show decide ((c.toNat : Int) ≤ 90) = false by simp; omega]
            repeat (first | refine zR ?_ | refine zK ?_ | refine zM ?_ | refine zB ?_ | refine zA ?_ | refine zS ?_ | refine zL ?_)
            by_cases c3 : 126 < c.toNat
            · rw [show decide ((c.toNat : Int) > 126) = true by simp; omega]
              rw [show zY c = true by simp [zY, c3]]
              repeat (first | refine zR ?_ | refine zK ?_ | refine zM ?_ | refine zB ?_ | refine zA ?_ | refine zS ?_ | refine zL ?_)
              refine qc ?_
              exact qv [2, 7, 8, 17] [] rfl rfl
            rw [show decide ((c.toNat : Int) > 126) = false by simp; omega]
            repeat (first | refine zR ?_ | refine zK ?_ | refine zM ?_ | refine zB ?_ | refine zA ?_ | refine zS ?_ | refine zL ?_)
            by_cases c4 : c.toNat < 32
            · rw [show decide ((c.toNat : Int) < 32) = true by simp; omega]
              repeat (first | refine zR ?_ | refine zK ?_ | refine zM ?_ | refine zB ?_ | refine zA ?_ | refine zS ?_ | refine zL ?_)
              by_cases c5 : c.toNat = 10
              · rw [show ((c.toNat : Int) != 10) = false by rw [c5]; rfl]
                repeat (first | refine zR ?_ | refine zK ?_ | refine zM ?_ | refine zB ?_ | refine zA ?_ | refine zS ?_ | refine zL ?_)
                by_cases c6 : c.toNat = 36
                · rw [show ((c.toNat : Int) == 36) = true by rw [beq_iff_eq]; omega]
                  rw [show zY c = true by simp [zY, c6]]
                  repeat (first | refine zR ?_ | refine zK ?_ | refine zM ?_ | refine zB ?_ | refine zA ?_ | refine zS ?_ | refine zL ?_)
                  refine qc ?_
                  exact qv [2, 7, 8, 17] [] rfl rfl
                rw [show ((c.toNat : Int) == 36) = false by rw [beq_eq_false_iff_ne]; omega]
                repeat (first | refine zR ?_ | refine zK ?_ | refine zM ?_ | refine zB ?_ | refine zA ?_ | refine zS ?_ | refine zL ?_)
                by_cases c7 : c.toNat = 47
                · rw [show ((c.toNat : Int) == 47) = true by rw [beq_iff_eq]; omega]
                  rw [show zY c = true by simp [zY, c7]]
                  repeat (first | refine zR ?_ | refine zK ?_ | refine zM ?_ | refine zB ?_ | refine zA ?_ | refine zS ?_ | refine zL ?_)
                  refine qc ?_
                  exact qv [2, 7, 8, 17] [] rfl rfl
                rw [show ((c.toNat : Int) == 47) = false by rw [beq_eq_false_iff_ne]; omega]
                repeat (first | refine zR ?_ | refine zK ?_ | refine zM ?_ | refine zB ?_ | refine zA ?_ | refine zS ?_ | refine zL ?_)
                by_cases c8 : c.toNat = 95
                · rw [show ((c.toNat : Int) == 95) = true by rw [beq_iff_eq]; omega]
                  rw [show zY c = true by simp [zY, c8]]
                  repeat (first | refine zR ?_ | refine zK ?_ | refine zM ?_ | refine zB ?_ | refine zA ?_ | refine zS ?_ | refine zL ?_)
                  refine qc ?_
                  exact qv [2, 7, 8, 17] [] rfl rfl
                rw [show ((c.toNat : Int) == 95) = false by rw [beq_eq_false_iff_ne]; omega]
                repeat (first | refine zR ?_ | refine zK ?_ | refine zM ?_ | refine zB ?_ | refine zA ?_ | refine zS ?_ | refine zL ?_)
                by_cases c9 : c.toNat = 91
                · rw [show ((c.toNat : Int) == 91) = true by rw [beq_iff_eq]; omega]
                  rw [show zY c = true by simp [zY, c9]]
                  repeat (first | refine zR ?_ | refine zK ?_ | refine zM ?_ | refine zB ?_ | refine zA ?_ | refine zS ?_ | refine zL ?_)
                  refine qc ?_
                  exact qv [2, 7, 8, 17] [] rfl rfl
                rw [show ((c.toNat : Int) == 91) = false by rw [beq_eq_false_iff_ne]; omega]
                rw [show zY c = false by simp [zY, c6, c7, c8, c9]; omega]
                repeat (first | refine zR ?_ | refine zK ?_ | refine zM ?_ | refine zB ?_ | refine zA ?_ | refine zS ?_ | refine zL ?_)
                refine qc ?_
                exact qv [2, 7, 8, 17] [] rfl rfl
              · rw [show ((c.toNat : Int) != 10) = true by rw [bne_iff_ne]; omega]
                rw [show zY c = true by simp [zY, c4, c5]]
                repeat (first | refine zR ?_ | refine zK ?_ | refine zM ?_ | refine zB ?_ | refine zA ?_ | refine zS ?_ | refine zL ?_)
                refine qc ?_
                exact qv [2, 7, 8, 17] [] rfl rfl
            · rw [show decide ((c.toNat : Int) < 32) = false by simp; omega]
              repeat (first | refine zR ?_ | refine zK ?_ | refine zM ?_ | refine zB ?_ | refine zA ?_ | refine zS ?_ | refine zL ?_)
              by_cases c6 : c.toNat = 36
              · rw [show ((c.toNat : Int) == 36) = true by rw [beq_iff_eq]; omega]
                rw [show zY c = true by simp [zY, c6]]
                repeat (first | refine zR ?_ | refine zK ?_ | refine zM ?_ | refine zB ?_ | refine zA ?_ | refine zS ?_ | refine zL ?_)
                refine qc ?_
                exact qv [2, 7, 8, 17] [] rfl rfl
              rw [show ((c.toNat : Int) == 36) = false by rw [beq_eq_false_iff_ne]; omega]
              repeat (first | refine zR ?_ | refine zK ?_ | refine zM ?_ | refine zB ?_ | refine zA ?_ | refine zS ?_ | refine zL ?_)
              by_cases c7 : c.toNat = 47
              · rw [show ((c.toNat : Int) == 47) = true by rw [beq_iff_eq]; omega]
                rw [show zY c = true by simp [zY, c7]]
                repeat (first | refine zR ?_ | refine zK ?_ | refine zM ?_ | refine zB ?_ | refine zA ?_ | refine zS ?_ | refine zL ?_)
                refine qc ?_
                exact qv [2, 7, 8, 17] [] rfl rfl
              rw [show ((c.toNat : Int) == 47) = false by rw [beq_eq_false_iff_ne]; omega]
              repeat (first | refine zR ?_ | refine zK ?_ | refine zM ?_ | refine zB ?_ | refine zA ?_ | refine zS ?_ | refine zL ?_)
              by_cases c8 : c.toNat = 95
              · rw [show ((c.toNat : Int) == 95) = true by rw [beq_iff_eq]; omega]
                rw [show zY c = true by simp [zY, c8]]
                repeat (first | refine zR ?_ | refine zK ?_ | refine zM ?_ | refine zB ?_ | refine zA ?_ | refine zS ?_ | refine zL ?_)
                refine qc ?_
                exact qv [2, 7, 8, 17] [] rfl rfl
              rw [show ((c.toNat : Int) == 95) = false by rw [beq_eq_false_iff_ne]; omega]
              repeat (first | refine zR ?_ | refine zK ?_ | refine zM ?_ | refine zB ?_ | refine zA ?_ | refine zS ?_ | refine zL ?_)
              by_cases c9 : c.toNat = 91
              · rw [show ((c.toNat : Int) == 91) = true by rw [beq_iff_eq]; omega]
                rw [show zY c = true by simp [zY, c9]]
                repeat (first | refine zR ?_ | refine zK ?_ | refine zM ?_ | refine zB ?_ | refine zA ?_ | refine zS ?_ | refine zL ?_)
                refine qc ?_
                exact qv [2, 7, 8, 17] [] rfl rfl
              rw [show ((c.toNat : Int) == 91) = false by rw [beq_eq_false_iff_ne]; omega]
              rw [show zY c = false by simp [zY, c6, c7, c8, c9]; omega]
              repeat (first | refine zR ?_ | refine zK ?_ | refine zM ?_ | refine zB ?_ | refine zA ?_ | refine zS ?_ | refine zL ?_)
              refine qc ?_
              exact qv [2, 7, 8, 17] [] rfl rfl
          · rw [show decide ((c.toNat : Int) ≥ 65) = false by simp; omega]
            repeat (first | refine zR ?_ | refine zK ?_ | refine zM ?_ | refine zB ?_ | refine zA ?_ | refine zS ?_ | refine zL ?_)
            by_cases c3 : 126 < c.toNat
            · rw [show decide ((c.toNat : Int) > 126) = true by simp; omega]
              rw [show zY c = true by simp [zY, c3]]
              repeat (first | refine zR ?_ | refine zK ?_ | refine zM ?_ | refine zB ?_ | refine zA ?_ | refine zS ?_ | refine zL ?_)
              refine qc ?_
              exact qv [2, 7, 8, 17] [] rfl rfl
            rw [show decide ((c.toNat : Int) > 126) = false by simp; omega]
            repeat (first | refine zR ?_ | refine zK ?_ | refine zM ?_ | refine zB ?_ | refine zA ?_ | refine zS ?_ | refine zL ?_)
            by_cases c4 : c.toNat < 32
            · rw [show decide ((c.toNat : Int) < 32) = true by simp; omega]
              repeat (first | refine zR ?_ | refine zK ?_ | refine zM ?_ | refine zB ?_ | refine zA ?_ | refine zS ?_ | refine zL ?_)
              by_cases c5 : c.toNat = 10
              · rw [show ((c.toNat : Int) != 10) = false by rw [c5]; rfl]
                repeat (first | refine zR ?_ | refine zK ?_ | refine zM ?_ | refine zB ?_ | refine zA ?_ | refine zS ?_ | refine zL ?_)
                by_cases c6 : c.toNat = 36
                · rw [show ((c.toNat : Int) == 36) = true by rw [beq_iff_eq]; omega]
                  rw [show zY c = true by simp [zY, c6]]
                  repeat (first | refine zR ?_ | refine zK ?_ | refine zM ?_ | refine zB ?_ | refine zA ?_ | refine zS ?_ | refine zL ?_)
                  refine qc ?_
                  exact qv [2, 7, 8, 17] [] rfl rfl
                rw [show ((c.toNat : Int) == 36) = false by rw [beq_eq_false_iff_ne]; omega]
                repeat (first | refine zR ?_ | refine zK ?_ | refine zM ?_ | refine zB ?_ | refine zA ?_ | refine zS ?_ | refine zL ?_)
                by_cases c7 : c.toNat = 47
                · rw [show ((c.toNat : Int) == 47) = true by rw [beq_iff_eq]; omega]
                  rw [show zY c = true by simp [zY, c7]]
                  repeat (first | refine zR ?_ | refine zK ?_ | refine zM ?_ | refine zB ?_ | refine zA ?_ | refine zS ?_ | refine zL ?_)
                  refine qc ?_
                  exact qv [2, 7, 8, 17] [] rfl rfl
                rw [show ((c.toNat : Int) == 47) = false by rw [beq_eq_false_iff_ne]; omega]
                repeat (first | refine zR ?_ | refine zK ?_ | refine zM ?_ | refine zB ?_ | refine zA ?_ | refine zS ?_ | refine zL ?_)
                by_cases c8 : c.toNat = 95
                · rw [show ((c.toNat : Int) == 95) = true by rw [beq_iff_eq]; omega]
                  rw [show zY c = true by simp [zY, c8]]
                  repeat (first | refine zR ?_ | refine zK ?_ | refine zM ?_ | refine zB ?_ | refine zA ?_ | refine zS ?_ | refine zL ?_)
                  refine qc ?_
                  exact qv [2, 7, 8, 17] [] rfl rfl
                rw [show ((c.toNat : Int) == 95) = false by rw [beq_eq_false_iff_ne]; omega]
                repeat (first | refine zR ?_ | refine zK ?_ | refine zM ?_ | refine zB ?_ | refine zA ?_ | refine zS ?_ | refine zL ?_)
                by_cases c9 : c.toNat = 91
                · rw [show ((c.toNat : Int) == 91) = true by rw [beq_iff_eq]; omega]
                  rw [show zY c = true by simp [zY, c9]]
                  repeat (first | refine zR ?_ | refine zK ?_ | refine zM ?_ | refine zB ?_ | refine zA ?_ | refine zS ?_ | refine zL ?_)
                  refine qc ?_
                  exact qv [2, 7, 8, 17] [] rfl rfl
                rw [show ((c.toNat : Int) == 91) = false by rw [beq_eq_false_iff_ne]; omega]
                rw [show zY c = false by simp [zY, c6, c7, c8, c9]; omega]
                repeat (first | refine zR ?_ | refine zK ?_ | refine zM ?_ | refine zB ?_ | refine zA ?_ | refine zS ?_ | refine zL ?_)
                refine qc ?_
                exact qv [2, 7, 8, 17] [] rfl rfl
              · rw [show ((c.toNat : Int) != 10) = true by rw [bne_iff_ne]; omega]
                rw [show zY c = true by simp [zY, c4, c5]]
                repeat (first | refine zR ?_ | refine zK ?_ | refine zM ?_ | refine zB ?_ | refine zA ?_ | refine zS ?_ | refine zL ?_)
                refine qc ?_
                exact qv [2, 7, 8, 17] [] rfl rfl
            · rw [show decide ((c.toNat : Int) < 32) = false by simp; omega]
              repeat (first | refine zR ?_ | refine zK ?_ | refine zM ?_ | refine zB ?_ | refine zA ?_ | refine zS ?_ | refine zL ?_)
              by_cases c6 : c.toNat = 36
              · rw [show ((c.toNat : Int) == 36) = true by rw [beq_iff_eq]; omega]
                rw [show zY c = true by simp [zY, c6]]
                repeat (first | refine zR ?_ | refine zK ?_ | refine zM ?_ | refine zB ?_ | refine zA ?_ | refine zS ?_ | refine zL ?_)
                refine qc ?_
                exact qv [2, 7, 8, 17] [] rfl rfl
              rw [show ((c.toNat : Int) == 36) = false by rw [beq_eq_false_iff_ne]; omega]
              repeat (first | refine zR ?_ | refine zK ?_ | refine zM ?_ | refine zB ?_ | refine zA ?_ | refine zS ?_ | refine zL ?_)
              by_cases c7 : c.toNat = 47
              · rw [show ((c.toNat : Int) == 47) = true by rw [beq_iff_eq]; omega]
                rw [show zY c = true by simp [zY, c7]]
                repeat (first | refine zR ?_ | refine zK ?_ | refine zM ?_ | refine zB ?_ | refine zA ?_ | refine zS ?_ | refine zL ?_)
                refine qc ?_
                exact qv [2, 7, 8, 17] [] rfl rfl
              rw [show ((c.toNat : Int) == 47) = false by rw [beq_eq_false_iff_ne]; omega]
              repeat (first | refine zR ?_ | refine zK ?_ | refine zM ?_ | refine zB ?_ | refine zA ?_ | refine zS ?_ | refine zL ?_)
              by_cases c8 : c.toNat = 95
              · rw [show ((c.toNat : Int) == 95) = true by rw [beq_iff_eq]; omega]
                rw [show zY c = true by simp [zY, c8]]
                repeat (first | refine zR ?_ | refine zK ?_ | refine zM ?_ | refine zB ?_ | refine zA ?_ | refine zS ?_ | refine zL ?_)
                refine qc ?_
                exact qv [2, 7, 8, 17] [] rfl rfl
              rw [show ((c.toNat : Int) == 95) = false by rw [beq_eq_false_iff_ne]; omega]
              repeat (first | refine zR ?_ | refine zK ?_ | refine zM ?_ | refine zB ?_ | refine zA ?_ | refine zS ?_ | refine zL ?_)
              by_cases c9 : c.toNat = 91
              · rw [show ((c.toNat : Int) == 91) = true by rw [beq_iff_eq]; omega]
                rw [show zY c = true by simp [zY, c9]]
                repeat (first | refine zR ?_ | refine zK ?_ | refine zM ?_ | refine zB ?_ | refine zA ?_ | refine zS ?_ | refine zL ?_)
                refine qc ?_
                exact qv [2, 7, 8, 17] [] rfl rfl
              rw [show ((c.toNat : Int) == 91) = false by rw [beq_eq_false_iff_ne]; omega]
              rw [show zY c = false by simp [zY, c6, c7, c8, c9]; omega]
              repeat (first | refine zR ?_ | refine zK ?_ | refine zM ?_ | refine zB ?_ | refine zA ?_ | refine zS ?_ | refine zL ?_)
              refine qc ?_
              exact qv [2, 7, 8, 17] [] rfl rfl
        · have HB := all_l (ja q ++ c :: [120]) (by rw [List.length_append, hq5.2]; simp; omega)
          cases ho : zY c with
          | true =>
            rw [lex_odd ho (ja q) hq5.1 [120], hq5.2] at HB
            (repeat refine qb ?_); refine qa ?_
            repeat (first | refine zR ?_ | refine zK ?_ | refine zM ?_ | refine zB ?_ | refine zA ?_ | refine zS ?_ | refine zL ?_)
            refine qi rfl (je qg (b := [c]) rfl rfl rfl rfl rfl rfl rfl ?_)
            repeat (first | refine zR ?_ | refine zK ?_ | refine zM ?_ | refine zB ?_ | refine zA ?_ | refine zS ?_ | refine zL ?_)
            refine ql qg rfl rfl (jc (a := ja q) (b := [c]) (by rw [hq5.2]; omega) (by simp)) rfl ?_
            rw [jd]
            repeat (first | refine zR ?_ | refine zK ?_ | refine zM ?_ | refine zB ?_ | refine zA ?_ | refine zS ?_ | refine zL ?_)
            refine ql qg rfl rfl (jc (a := ja q ++ [c]) (b := [120]) (by rw [List.length_append, hq5.2]; simp; omega) (by simp)) rfl ?_
            rw [show (⟨⟨ja q ++ [c]⟩⟩ : ByteArray) ++ ⟨#[120]⟩ = ⟨⟨ja q ++ c :: [120]⟩⟩ from (jd _ [120]).trans (by rw [List.append_assoc]; rfl)]
            repeat (first | refine zR ?_ | refine zK ?_ | refine zM ?_ | refine zB ?_ | refine zA ?_ | refine zS ?_ | refine zL ?_)
            refine qi rfl (zT rfl rfl rfl rfl (HB) rfl rfl rfl ?_)
            repeat (first | refine zR ?_ | refine zK ?_ | refine zM ?_ | refine zB ?_ | refine zA ?_ | refine zS ?_ | refine zL ?_)
            repeat (first | refine zR ?_ | refine zK ?_ | refine zM ?_ | refine zB ?_ | refine zA ?_ | refine zS ?_ | refine zL ?_)
            refine qc ?_
            (repeat refine qb ?_); refine qa ?_
            repeat (first | refine zR ?_ | refine zK ?_ | refine zM ?_ | refine zB ?_ | refine zA ?_ | refine zS ?_ | refine zL ?_)
            rw [show ((q : Int) == (q : Int)) = true by simp]
            repeat (first | refine zR ?_ | refine zK ?_ | refine zM ?_ | refine zB ?_ | refine zA ?_ | refine zS ?_ | refine zL ?_)
            refine qi rfl (qd rfl rfl rfl rfl (zW) rfl rfl ?_)
            repeat (first | refine zR ?_ | refine zK ?_ | refine zM ?_ | refine zB ?_ | refine zA ?_ | refine zS ?_ | refine zL ?_)
            repeat (first | refine zR ?_ | refine zK ?_ | refine zM ?_ | refine zB ?_ | refine zA ?_ | refine zS ?_ | refine zL ?_)
            refine qc ?_
            (repeat refine qb ?_); refine qj ?_
            exact jf rfl rfl
          | false =>
            cases hl : lexL (ja q ++ c :: [120]) with
            | error e =>
              rw [hl] at HB
              (repeat refine qb ?_); refine qa ?_
              repeat (first | refine zR ?_ | refine zK ?_ | refine zM ?_ | refine zB ?_ | refine zA ?_ | refine zS ?_ | refine zL ?_)
              refine qi rfl (je qg (b := [c]) rfl rfl rfl rfl rfl rfl rfl ?_)
              repeat (first | refine zR ?_ | refine zK ?_ | refine zM ?_ | refine zB ?_ | refine zA ?_ | refine zS ?_ | refine zL ?_)
              refine ql qg rfl rfl (jc (a := ja q) (b := [c]) (by rw [hq5.2]; omega) (by simp)) rfl ?_
              rw [jd]
              repeat (first | refine zR ?_ | refine zK ?_ | refine zM ?_ | refine zB ?_ | refine zA ?_ | refine zS ?_ | refine zL ?_)
              refine ql qg rfl rfl (jc (a := ja q ++ [c]) (b := [120]) (by rw [List.length_append, hq5.2]; simp; omega) (by simp)) rfl ?_
              rw [show (⟨⟨ja q ++ [c]⟩⟩ : ByteArray) ++ ⟨#[120]⟩ = ⟨⟨ja q ++ c :: [120]⟩⟩ from (jd _ [120]).trans (by rw [List.append_assoc]; rfl)]
              repeat (first | refine zR ?_ | refine zK ?_ | refine zM ?_ | refine zB ?_ | refine zA ?_ | refine zS ?_ | refine zL ?_)
              refine qi rfl (zT rfl rfl rfl rfl (HB) rfl rfl rfl ?_)
              repeat (first | refine zR ?_ | refine zK ?_ | refine zM ?_ | refine zB ?_ | refine zA ?_ | refine zS ?_ | refine zL ?_)
              repeat (first | refine zR ?_ | refine zK ?_ | refine zM ?_ | refine zB ?_ | refine zA ?_ | refine zS ?_ | refine zL ?_)
              refine qc ?_
              (repeat refine qb ?_); refine qa ?_
              repeat (first | refine zR ?_ | refine zK ?_ | refine zM ?_ | refine zB ?_ | refine zA ?_ | refine zS ?_ | refine zL ?_)
              repeat (first | refine zR ?_ | refine zK ?_ | refine zM ?_ | refine zB ?_ | refine zA ?_ | refine zS ?_ | refine zL ?_)
              refine qi rfl (qd rfl rfl rfl rfl (zW) rfl rfl ?_)
              repeat (first | refine zR ?_ | refine zK ?_ | refine zM ?_ | refine zB ?_ | refine zA ?_ | refine zS ?_ | refine zL ?_)
              repeat (first | refine zR ?_ | refine zK ?_ | refine zM ?_ | refine zB ?_ | refine zA ?_ | refine zS ?_ | refine zL ?_)
              refine qc ?_
              (repeat refine qb ?_); refine qj ?_
              exact jf rfl rfl
            | ok y =>
              rw [hl] at HB
              (repeat refine qb ?_); refine qa ?_
              repeat (first | refine zR ?_ | refine zK ?_ | refine zM ?_ | refine zB ?_ | refine zA ?_ | refine zS ?_ | refine zL ?_)
              refine qi rfl (je qg (b := [c]) rfl rfl rfl rfl rfl rfl rfl ?_)
              repeat (first | refine zR ?_ | refine zK ?_ | refine zM ?_ | refine zB ?_ | refine zA ?_ | refine zS ?_ | refine zL ?_)
              refine ql qg rfl rfl (jc (a := ja q) (b := [c]) (by rw [hq5.2]; omega) (by simp)) rfl ?_
              rw [jd]
              repeat (first | refine zR ?_ | refine zK ?_ | refine zM ?_ | refine zB ?_ | refine zA ?_ | refine zS ?_ | refine zL ?_)
              refine ql qg rfl rfl (jc (a := ja q ++ [c]) (b := [120]) (by rw [List.length_append, hq5.2]; simp; omega) (by simp)) rfl ?_
              rw [show (⟨⟨ja q ++ [c]⟩⟩ : ByteArray) ++ ⟨#[120]⟩ = ⟨⟨ja q ++ c :: [120]⟩⟩ from (jd _ [120]).trans (by rw [List.append_assoc]; rfl)]
              repeat (first | refine zR ?_ | refine zK ?_ | refine zM ?_ | refine zB ?_ | refine zA ?_ | refine zS ?_ | refine zL ?_)
              refine qi rfl (zT rfl rfl rfl rfl (HB) rfl rfl rfl ?_)
              repeat (first | refine zR ?_ | refine zK ?_ | refine zM ?_ | refine zB ?_ | refine zA ?_ | refine zS ?_ | refine zL ?_)
              repeat (first | refine zR ?_ | refine zK ?_ | refine zM ?_ | refine zB ?_ | refine zA ?_ | refine zS ?_ | refine zL ?_)
              refine qc ?_
              (repeat refine qb ?_); refine qa ?_
              repeat (first | refine zR ?_ | refine zK ?_ | refine zM ?_ | refine zB ?_ | refine zA ?_ | refine zS ?_ | refine zL ?_)
              repeat (first | refine zR ?_ | refine zK ?_ | refine zM ?_ | refine zB ?_ | refine zA ?_ | refine zS ?_ | refine zL ?_)
              refine qi rfl (qd rfl rfl rfl rfl (zW) rfl rfl ?_)
              repeat (first | refine zR ?_ | refine zK ?_ | refine zM ?_ | refine zB ?_ | refine zA ?_ | refine zS ?_ | refine zL ?_)
              repeat (first | refine zR ?_ | refine zK ?_ | refine zM ?_ | refine zB ?_ | refine zA ?_ | refine zS ?_ | refine zL ?_)
              refine qc ?_
              (repeat refine qb ?_); refine qj ?_
              exact jf rfl rfl
    | ok a =>
      have hxl := all_len hx
      have hat := at_le hx
      have hend := lexL_end hx
      have hdl : a.dropLast.length = a.length - 1 := List.length_dropLast
      rw [hx] at HX HM
      change Holds _ _ _ (allR (.ok (a.dropLast.map (Tok.shift q) ++ [⟨7, q + s.length + 2, 0, []⟩]))) (allO (.ok (a.dropLast.map (Tok.shift q) ++ [⟨7, q + s.length + 2, 0, []⟩]))) at HM
      obtain ⟨z, hzz⟩ : ∃ z, z = a.dropLast.map (Tok.shift q) ++ [(⟨7, q + s.length + 2, 0, []⟩ : Tok)] := ⟨_, rfl⟩
      rw [← hzz] at HM
      have hzl : z.length = a.length := by rw [hzz, List.length_append, List.length_map, hdl]; simp; omega
      have hz : ∀ (k : Nat) (h : k < a.length) (h2 : k < z.length), z[k] = if k = a.length - 1 then ⟨a[k].kind, q + s.length + 2, a[k].n, a[k].s⟩ else ⟨a[k].kind, a[k].at_ + q, a[k].n, a[k].s⟩ := fun k h h2 => by
        subst hzz
        by_cases hl : k = a.length - 1
        · rw [if_pos hl, List.getElem_append_right (by rw [List.length_map]; omega)]
          have hg : a[k] = ⟨7, 0 + s.length, 0, []⟩ := by
            rw [List.getLast?_eq_getElem?, ← hl, List.getElem?_eq_getElem h] at hend
            exact Option.some.inj hend
          rw [hg]
          simp
        · rw [if_neg hl, List.getElem_append_left (by rw [List.length_map]; omega), List.getElem_map, List.getElem_dropLast]
          rfl
      clear hzz
      (repeat refine qb ?_); refine qa ?_
      repeat (first | refine zR ?_ | refine zK ?_ | refine zM ?_ | refine zB ?_ | refine zA ?_ | refine zS ?_ | refine zL ?_)
      refine qi rfl (zT rfl rfl rfl rfl (HX) rfl rfl rfl ?_)
      repeat (first | refine zR ?_ | refine zK ?_ | refine zM ?_ | refine zB ?_ | refine zA ?_ | refine zS ?_ | refine zL ?_)
      repeat (first | refine zR ?_ | refine zK ?_ | refine zM ?_ | refine zB ?_ | refine zA ?_ | refine zS ?_ | refine zL ?_)
      refine qc ?_
      refine SW.wk (wk_frz (k := 33000) rfl) ?_
      (repeat refine qb ?_); refine qa ?_
      repeat (first | refine zR ?_ | refine zK ?_ | refine zM ?_ | refine zB ?_ | refine zA ?_ | refine zS ?_ | refine zL ?_)
      refine ql qg rfl rfl (jc (a := ja q) (b := s) (by rw [hq5.2]; omega) (by omega)) rfl ?_
      rw [jd]
      repeat (first | refine zR ?_ | refine zK ?_ | refine zM ?_ | refine zB ?_ | refine zA ?_ | refine zS ?_ | refine zL ?_)
      refine ql qg rfl rfl (jc (a := ja q ++ s) (b := [10, 32]) (by rw [List.length_append, hq5.2]; omega) (by simp)) rfl ?_
      rw [show (⟨⟨ja q ++ s⟩⟩ : ByteArray) ++ ⟨#[10, 32]⟩ = ⟨⟨ja q ++ (s ++ [10, 32])⟩⟩ from (jd _ [10, 32]).trans (by rw [List.append_assoc])]
      repeat (first | refine zR ?_ | refine zK ?_ | refine zM ?_ | refine zB ?_ | refine zA ?_ | refine zS ?_ | refine zL ?_)
      refine qi rfl (zT rfl rfl rfl rfl (HM) rfl rfl rfl ?_)
      repeat (first | refine zR ?_ | refine zK ?_ | refine zM ?_ | refine zB ?_ | refine zA ?_ | refine zS ?_ | refine zL ?_)
      repeat (first | refine zR ?_ | refine zK ?_ | refine zM ?_ | refine zB ?_ | refine zA ?_ | refine zS ?_ | refine zL ?_)
      refine qc ?_
      refine SW.wk (wk_frz (k := 42000) rfl) ?_
      (repeat refine qb ?_); refine qa ?_
      repeat (first | refine zR ?_ | refine zK ?_ | refine zM ?_ | refine zB ?_ | refine zA ?_ | refine zS ?_ | refine zL ?_)
      rw [show ((a.map Tok.pv).length : Int) = (z.length : Int) by simp; omega, show (((z.map Tok.pv).length : Nat) : Int) = (z.length : Int) by simp, show ((z.length : Int) != (z.length : Int)) = false by simp]
      repeat (first | refine zR ?_ | refine zK ?_ | refine zM ?_ | refine zB ?_ | refine zA ?_ | refine zS ?_ | refine zL ?_)
      refine qc ?_
      (repeat refine qb ?_); refine qe rfl (fun hd => ?_) (fun hd => ?_)
      · cases hd
      refine qq ?_
      have la : (a.map Tok.pv).length = a.length := by simp
      have lz : (z.map Tok.pv).length = z.length := by simp
      (repeat refine qb ?_); refine qa ?_
      repeat (first | refine zR ?_ | refine zK ?_ | refine zM ?_ | refine zB ?_ | refine zA ?_ | refine zS ?_ | refine zL ?_)
      refine qc ?_
      (repeat refine qb ?_); refine zf ?_
      refine SW.wk (qv [0, 2, 7, 8, 9, 12, 71, 72] [] rfl rfl) ?_
      refine sw_loop (fun m st => ∃ (k : Nat) (kk : Int), k ≤ a.length ∧ m = a.length - k ∧ kk = k ∧ st = ⟨198, [(0, .p (pL s)), (2, .p (pU c)), (7, .p (pI (q : Int))), (8, .p (pL (ja q))), (9, .p (jg a)), (12, .p (jg z)), (71, .p (pI (a.map Tok.pv).length)), (72, .p (pI kk))], []⟩) a.length ⟨0, 0, Nat.zero_le _, rfl, rfl, rfl⟩ ?_
      rintro m st ⟨k, _, hk, rfl, rfl, rfl⟩
      (repeat refine qb ?_); refine qa ?_
      repeat (first | refine zR ?_ | refine zK ?_ | refine zM ?_ | refine zB ?_ | refine zA ?_ | refine zS ?_ | refine zL ?_)
      refine qc ?_
      (repeat refine qb ?_); refine qe rfl (fun hlt => ?_) (fun hlt => ?_)
      · refine qq ?_
        rw [la] at hlt
        simp only [decide_eq_true_eq] at hlt
        have hlt' : k < a.length := by omega
        have hkz : k < z.length := by omega
        have hzk := hz k hlt' hkz
        have hat2 := hat _ (List.getElem_mem hlt')
        obtain ⟨t, ht⟩ : ∃ t, t = a[k] := ⟨_, rfl⟩
        rw [← ht] at hzk hat2
        (repeat refine qb ?_); refine zf ?_
        (repeat refine qb ?_); refine qa ?_
        repeat (first | refine zR ?_ | refine zK ?_ | refine zM ?_ | refine zB ?_ | refine zA ?_ | refine zS ?_ | refine zL ?_)
        refine qc ?_
        (repeat refine qb ?_); refine qa ?_
        repeat (first | refine zR ?_ | refine zK ?_ | refine zM ?_ | refine zB ?_ | refine zA ?_ | refine zS ?_ | refine zL ?_)
        refine ql qg rfl rfl (by rw [la]; omega) rfl ?_
        rw [zZ hlt', ← ht]
        repeat (first | refine zR ?_ | refine zK ?_ | refine zM ?_ | refine zB ?_ | refine zA ?_ | refine zS ?_ | refine zL ?_)
        rw [show IntKind.i64.wrap ((t.at_ : Int) + (q : Int)) = ((t.at_ + q : Nat) : Int) by rw [IntWalk.i64_in _ (by omega)]; omega]
        repeat (first | refine zR ?_ | refine zK ?_ | refine zM ?_ | refine zB ?_ | refine zA ?_ | refine zS ?_ | refine zL ?_)
        refine qc ?_
        (repeat refine qb ?_); refine qa ?_
        repeat (first | refine zR ?_ | refine zK ?_ | refine zM ?_ | refine zB ?_ | refine zA ?_ | refine zS ?_ | refine zL ?_)
        rw [la]
        repeat (first | refine zR ?_ | refine zK ?_ | refine zM ?_ | refine zB ?_ | refine zA ?_ | refine zS ?_ | refine zL ?_)
        rw [show IntKind.i64.wrap ((a.length : Int) - 1) = (a.length : Int) - 1 from IntWalk.i64_in _ (by omega)]
        by_cases hlast : k = a.length - 1
        · rw [if_pos hlast] at hzk
          rw [show ((k : Int) == (a.length : Int) - 1) = true by rw [beq_iff_eq]; omega]
          refine qc ?_
          (repeat refine qb ?_); refine qe rfl (fun he => ?_) (fun he => ?_)
          rotate_left
          · cases he
          (repeat refine qb ?_); refine qa ?_
          repeat (first | refine zR ?_ | refine zK ?_ | refine zM ?_ | refine zB ?_ | refine zA ?_ | refine zS ?_ | refine zL ?_)
          rw [show (⟨⟨s⟩⟩ : ByteArray).size = s.length from rfl]
          repeat (first | refine zR ?_ | refine zK ?_ | refine zM ?_ | refine zB ?_ | refine zA ?_ | refine zS ?_ | refine zL ?_)
          rw [show IntKind.i64.wrap ((q : Int) + (s.length : Int)) = (q : Int) + (s.length : Int) from IntWalk.i64_in _ (by omega), show IntKind.i64.wrap ((q : Int) + (s.length : Int) + 2) = ((q + s.length + 2 : Nat) : Int) by rw [IntWalk.i64_in _ (by omega)]; omega]
          repeat (first | refine zR ?_ | refine zK ?_ | refine zM ?_ | refine zB ?_ | refine zA ?_ | refine zS ?_ | refine zL ?_)
          refine qc ?_
          (repeat refine qb ?_); refine zU [] [(0, true), (1, true), (2, true), (3, true), (4, true), (5, true), (6, true), (7, true), (8, true), (9, true), (10, true), (11, true), (12, true), (13, true), (14, true), (15, true), (16, true), (17, true), (18, true), (19, true), (20, true), (21, true), (22, true), (23, true), (24, true), (25, true), (26, true), (27, true), (28, true), (29, true), (30, true), (31, true), (32, true), (33, true), (34, true), (35, true), (36, true), (37, true), (38, true), (39, true), (40, true), (41, true), (42, true), (43, true), (44, true), (45, true)] (by kernel_rfl) (by kernel_rfl) (by kernel_rfl) ?_
          repeat (first | refine yR ?_ | refine yK ?_ | refine yM ?_ | refine yB ?_ | refine yA ?_ | refine yS ?_ | refine yL ?_)
          refine zV qg rfl rfl rfl (by rw [lz]; omega) rfl ?_
          rw [zZ hkz, hzk]
          repeat (first | refine yR ?_ | refine yK ?_ | refine yM ?_ | refine yB ?_ | refine yA ?_ | refine yS ?_ | refine yL ?_)
          refine zV qg rfl rfl rfl (by rw [la]; omega) rfl ?_
          rw [zZ hlt', ← ht]
          repeat (first | refine yR ?_ | refine yK ?_ | refine yM ?_ | refine yB ?_ | refine yA ?_ | refine yS ?_ | refine yL ?_)
          rw [show (t.kind != t.kind) = false by simp]
          repeat (first | refine yR ?_ | refine yK ?_ | refine yM ?_ | refine yB ?_ | refine yA ?_ | refine yS ?_ | refine yL ?_)
          refine zV qg rfl rfl rfl (by rw [lz]; omega) rfl ?_
          rw [zZ hkz, hzk]
          repeat (first | refine yR ?_ | refine yK ?_ | refine yM ?_ | refine yB ?_ | refine yA ?_ | refine yS ?_ | refine yL ?_)
          refine zV qg rfl rfl rfl (by rw [la]; omega) rfl ?_
          rw [zZ hlt', ← ht]
          repeat (first | refine yR ?_ | refine yK ?_ | refine yM ?_ | refine yB ?_ | refine yA ?_ | refine yS ?_ | refine yL ?_)
          rw [show (!((⟨⟨t.s⟩⟩ : ByteArray).toList == (⟨⟨t.s⟩⟩ : ByteArray).toList)) = false by simp]
          repeat (first | refine yR ?_ | refine yK ?_ | refine yM ?_ | refine yB ?_ | refine yA ?_ | refine yS ?_ | refine yL ?_)
          refine zV qg rfl rfl rfl (by rw [lz]; omega) rfl ?_
          rw [zZ hkz, hzk]
          repeat (first | refine yR ?_ | refine yK ?_ | refine yM ?_ | refine yB ?_ | refine yA ?_ | refine yS ?_ | refine yL ?_)
          refine zV qg rfl rfl rfl (by rw [la]; omega) rfl ?_
          rw [zZ hlt', ← ht]
          repeat (first | refine yR ?_ | refine yK ?_ | refine yM ?_ | refine yB ?_ | refine yA ?_ | refine yS ?_ | refine yL ?_)
          rw [show (t.n != t.n) = false by simp]
          repeat (first | refine yR ?_ | refine yK ?_ | refine yM ?_ | refine yB ?_ | refine yA ?_ | refine yS ?_ | refine yL ?_)
          refine zV qg rfl rfl rfl (by rw [lz]; omega) rfl ?_
          rw [zZ hkz, hzk]
          repeat (first | refine yR ?_ | refine yK ?_ | refine yM ?_ | refine yB ?_ | refine yA ?_ | refine yS ?_ | refine yL ?_)
          rw [show (((q + s.length + 2 : Nat) : Int) != ((q + s.length + 2 : Nat) : Int)) = false by simp]
          repeat (first | refine yR ?_ | refine yK ?_ | refine yM ?_ | refine yB ?_ | refine yA ?_ | refine yS ?_ | refine yL ?_)
          refine jh ?_
          (repeat refine qb ?_); refine qe rfl (fun hf => ?_) (fun hf => ?_)
          · cases hf
          refine qq ?_
          (repeat refine qb ?_); refine qa ?_
          repeat (first | refine zR ?_ | refine zK ?_ | refine zM ?_ | refine zB ?_ | refine zA ?_ | refine zS ?_ | refine zL ?_)
          refine qc ?_
          refine ⟨_, _, ?_, qv [0, 2, 7, 8, 9, 12, 71, 72] [] rfl rfl, k + 1, _, hlt', rfl, zk hlt' (by omega), rfl⟩
          omega
        · rw [if_neg hlast] at hzk
          rw [show ((k : Int) == (a.length : Int) - 1) = false by rw [beq_eq_false_iff_ne]; omega]
          refine qc ?_
          (repeat refine qb ?_); refine qe rfl (fun he => ?_) (fun he => ?_)
          · cases he
          refine qq ?_
          (repeat refine qb ?_); refine zU [] [(0, true), (1, true), (2, true), (3, true), (4, true), (5, true), (6, true), (7, true), (8, true), (9, true), (10, true), (11, true), (12, true), (13, true), (14, true), (15, true), (16, true), (17, true), (18, true), (19, true), (20, true), (21, true), (22, true), (23, true), (24, true), (25, true), (26, true), (27, true), (28, true), (29, true), (30, true), (31, true), (32, true), (33, true), (34, true), (35, true), (36, true), (37, true), (38, true), (39, true), (40, true), (41, true), (42, true), (43, true), (44, true), (45, true)] (by kernel_rfl) (by kernel_rfl) (by kernel_rfl) ?_
          repeat (first | refine yR ?_ | refine yK ?_ | refine yM ?_ | refine yB ?_ | refine yA ?_ | refine yS ?_ | refine yL ?_)
          refine zV qg rfl rfl rfl (by rw [lz]; omega) rfl ?_
          rw [zZ hkz, hzk]
          repeat (first | refine yR ?_ | refine yK ?_ | refine yM ?_ | refine yB ?_ | refine yA ?_ | refine yS ?_ | refine yL ?_)
          refine zV qg rfl rfl rfl (by rw [la]; omega) rfl ?_
          rw [zZ hlt', ← ht]
          repeat (first | refine yR ?_ | refine yK ?_ | refine yM ?_ | refine yB ?_ | refine yA ?_ | refine yS ?_ | refine yL ?_)
          rw [show (t.kind != t.kind) = false by simp]
          repeat (first | refine yR ?_ | refine yK ?_ | refine yM ?_ | refine yB ?_ | refine yA ?_ | refine yS ?_ | refine yL ?_)
          refine zV qg rfl rfl rfl (by rw [lz]; omega) rfl ?_
          rw [zZ hkz, hzk]
          repeat (first | refine yR ?_ | refine yK ?_ | refine yM ?_ | refine yB ?_ | refine yA ?_ | refine yS ?_ | refine yL ?_)
          refine zV qg rfl rfl rfl (by rw [la]; omega) rfl ?_
          rw [zZ hlt', ← ht]
          repeat (first | refine yR ?_ | refine yK ?_ | refine yM ?_ | refine yB ?_ | refine yA ?_ | refine yS ?_ | refine yL ?_)
          rw [show (!((⟨⟨t.s⟩⟩ : ByteArray).toList == (⟨⟨t.s⟩⟩ : ByteArray).toList)) = false by simp]
          repeat (first | refine yR ?_ | refine yK ?_ | refine yM ?_ | refine yB ?_ | refine yA ?_ | refine yS ?_ | refine yL ?_)
          refine zV qg rfl rfl rfl (by rw [lz]; omega) rfl ?_
          rw [zZ hkz, hzk]
          repeat (first | refine yR ?_ | refine yK ?_ | refine yM ?_ | refine yB ?_ | refine yA ?_ | refine yS ?_ | refine yL ?_)
          refine zV qg rfl rfl rfl (by rw [la]; omega) rfl ?_
          rw [zZ hlt', ← ht]
          repeat (first | refine yR ?_ | refine yK ?_ | refine yM ?_ | refine yB ?_ | refine yA ?_ | refine yS ?_ | refine yL ?_)
          rw [show (t.n != t.n) = false by simp]
          repeat (first | refine yR ?_ | refine yK ?_ | refine yM ?_ | refine yB ?_ | refine yA ?_ | refine yS ?_ | refine yL ?_)
          refine zV qg rfl rfl rfl (by rw [lz]; omega) rfl ?_
          rw [zZ hkz, hzk]
          repeat (first | refine yR ?_ | refine yK ?_ | refine yM ?_ | refine yB ?_ | refine yA ?_ | refine yS ?_ | refine yL ?_)
          rw [show (((t.at_ + q : Nat) : Int) != ((t.at_ + q : Nat) : Int)) = false by simp]
          repeat (first | refine yR ?_ | refine yK ?_ | refine yM ?_ | refine yB ?_ | refine yA ?_ | refine yS ?_ | refine yL ?_)
          refine jh ?_
          (repeat refine qb ?_); refine qe rfl (fun hf => ?_) (fun hf => ?_)
          · cases hf
          refine qq ?_
          (repeat refine qb ?_); refine qa ?_
          repeat (first | refine zR ?_ | refine zK ?_ | refine zM ?_ | refine zB ?_ | refine zA ?_ | refine zS ?_ | refine zL ?_)
          refine qc ?_
          refine ⟨_, _, ?_, qv [0, 2, 7, 8, 9, 12, 71, 72] [] rfl rfl, k + 1, _, hlt', rfl, zk hlt' (by omega), rfl⟩
          omega
      · refine ji ?_
        refine SW.wk (qv [2, 7, 8] [] rfl rfl) ?_
        (repeat refine qb ?_); refine qa ?_
        refine SWT.mono (Q' := fun st => Wk st ⟨198, [(2, .p (pU c)), (7, .p (pI (q : Int))), (8, .p (pL (ja q))), (17, .p (pB (zY c)))], []⟩) ?_ fun st hst => SW.wk hst ?_
        · repeat (first | refine zR ?_ | refine zK ?_ | refine zM ?_ | refine zB ?_ | refine zA ?_ | refine zS ?_ | refine zL ?_)
          by_cases c1 : 65 ≤ c.toNat
          · rw [show decide ((c.toNat : Int) ≥ 65) = true by simp; omega]
            repeat (first | refine zR ?_ | refine zK ?_ | refine zM ?_ | refine zB ?_ | refine zA ?_ | refine zS ?_ | refine zL ?_)
            by_cases c2 : c.toNat ≤ 90
            · rw [show decide ((c.toNat : Int) ≤ 90) = true by simp; omega]
              rw [show zY c = true by simp [zY, c1, c2]]
              repeat (first | refine zR ?_ | refine zK ?_ | refine zM ?_ | refine zB ?_ | refine zA ?_ | refine zS ?_ | refine zL ?_)
              refine qc ?_
              exact qv [2, 7, 8, 17] [] rfl rfl
            rw [show decide ((c.toNat : Int) ≤ 90) = false by simp; omega]
            repeat (first | refine zR ?_ | refine zK ?_ | refine zM ?_ | refine zB ?_ | refine zA ?_ | refine zS ?_ | refine zL ?_)
            by_cases c3 : 126 < c.toNat
            · rw [show decide ((c.toNat : Int) > 126) = true by simp; omega]
              rw [show zY c = true by simp [zY, c3]]
              repeat (first | refine zR ?_ | refine zK ?_ | refine zM ?_ | refine zB ?_ | refine zA ?_ | refine zS ?_ | refine zL ?_)
              refine qc ?_
              exact qv [2, 7, 8, 17] [] rfl rfl
            rw [show decide ((c.toNat : Int) > 126) = false by simp; omega]
            repeat (first | refine zR ?_ | refine zK ?_ | refine zM ?_ | refine zB ?_ | refine zA ?_ | refine zS ?_ | refine zL ?_)
            by_cases c4 : c.toNat < 32
            · rw [show decide ((c.toNat : Int) < 32) = true by simp; omega]
              repeat (first | refine zR ?_ | refine zK ?_ | refine zM ?_ | refine zB ?_ | refine zA ?_ | refine zS ?_ | refine zL ?_)
              by_cases c5 : c.toNat = 10
              · rw [show ((c.toNat : Int) != 10) = false by rw [c5]; rfl]
                repeat (first | refine zR ?_ | refine zK ?_ | refine zM ?_ | refine zB ?_ | refine zA ?_ | refine zS ?_ | refine zL ?_)
                by_cases c6 : c.toNat = 36
                · rw [show ((c.toNat : Int) == 36) = true by rw [beq_iff_eq]; omega]
                  rw [show zY c = true by simp [zY, c6]]
                  repeat (first | refine zR ?_ | refine zK ?_ | refine zM ?_ | refine zB ?_ | refine zA ?_ | refine zS ?_ | refine zL ?_)
                  refine qc ?_
                  exact qv [2, 7, 8, 17] [] rfl rfl
                rw [show ((c.toNat : Int) == 36) = false by rw [beq_eq_false_iff_ne]; omega]
                repeat (first | refine zR ?_ | refine zK ?_ | refine zM ?_ | refine zB ?_ | refine zA ?_ | refine zS ?_ | refine zL ?_)
                by_cases c7 : c.toNat = 47
                · rw [show ((c.toNat : Int) == 47) = true by rw [beq_iff_eq]; omega]
                  rw [show zY c = true by simp [zY, c7]]
                  repeat (first | refine zR ?_ | refine zK ?_ | refine zM ?_ | refine zB ?_ | refine zA ?_ | refine zS ?_ | refine zL ?_)
                  refine qc ?_
                  exact qv [2, 7, 8, 17] [] rfl rfl
                rw [show ((c.toNat : Int) == 47) = false by rw [beq_eq_false_iff_ne]; omega]
                repeat (first | refine zR ?_ | refine zK ?_ | refine zM ?_ | refine zB ?_ | refine zA ?_ | refine zS ?_ | refine zL ?_)
                by_cases c8 : c.toNat = 95
                · rw [show ((c.toNat : Int) == 95) = true by rw [beq_iff_eq]; omega]
                  rw [show zY c = true by simp [zY, c8]]
                  repeat (first | refine zR ?_ | refine zK ?_ | refine zM ?_ | refine zB ?_ | refine zA ?_ | refine zS ?_ | refine zL ?_)
                  refine qc ?_
                  exact qv [2, 7, 8, 17] [] rfl rfl
                rw [show ((c.toNat : Int) == 95) = false by rw [beq_eq_false_iff_ne]; omega]
                repeat (first | refine zR ?_ | refine zK ?_ | refine zM ?_ | refine zB ?_ | refine zA ?_ | refine zS ?_ | refine zL ?_)
                by_cases c9 : c.toNat = 91
                · rw [show ((c.toNat : Int) == 91) = true by rw [beq_iff_eq]; omega]
                  rw [show zY c = true by simp [zY, c9]]
                  repeat (first | refine zR ?_ | refine zK ?_ | refine zM ?_ | refine zB ?_ | refine zA ?_ | refine zS ?_ | refine zL ?_)
                  refine qc ?_
                  exact qv [2, 7, 8, 17] [] rfl rfl
                rw [show ((c.toNat : Int) == 91) = false by rw [beq_eq_false_iff_ne]; omega]
                rw [show zY c = false by simp [zY, c6, c7, c8, c9]; omega]
                repeat (first | refine zR ?_ | refine zK ?_ | refine zM ?_ | refine zB ?_ | refine zA ?_ | refine zS ?_ | refine zL ?_)
                refine qc ?_
                exact qv [2, 7, 8, 17] [] rfl rfl
              · rw [show ((c.toNat : Int) != 10) = true by rw [bne_iff_ne]; omega]
                rw [show zY c = true by simp [zY, c4, c5]]
                repeat (first | refine zR ?_ | refine zK ?_ | refine zM ?_ | refine zB ?_ | refine zA ?_ | refine zS ?_ | refine zL ?_)
                refine qc ?_
                exact qv [2, 7, 8, 17] [] rfl rfl
            · rw [show decide ((c.toNat : Int) < 32) = false by simp; omega]
              repeat (first | refine zR ?_ | refine zK ?_ | refine zM ?_ | refine zB ?_ | refine zA ?_ | refine zS ?_ | refine zL ?_)
              by_cases c6 : c.toNat = 36
              · rw [show ((c.toNat : Int) == 36) = true by rw [beq_iff_eq]; omega]
                rw [show zY c = true by simp [zY, c6]]
                repeat (first | refine zR ?_ | refine zK ?_ | refine zM ?_ | refine zB ?_ | refine zA ?_ | refine zS ?_ | refine zL ?_)
                refine qc ?_
                exact qv [2, 7, 8, 17] [] rfl rfl
              rw [show ((c.toNat : Int) == 36) = false by rw [beq_eq_false_iff_ne]; omega]
              repeat (first | refine zR ?_ | refine zK ?_ | refine zM ?_ | refine zB ?_ | refine zA ?_ | refine zS ?_ | refine zL ?_)
              by_cases c7 : c.toNat = 47
              · rw [show ((c.toNat : Int) == 47) = true by rw [beq_iff_eq]; omega]
                rw [show zY c = true by simp [zY, c7]]
                repeat (first | refine zR ?_ | refine zK ?_ | refine zM ?_ | refine zB ?_ | refine zA ?_ | refine zS ?_ | refine zL ?_)
                refine qc ?_
                exact qv [2, 7, 8, 17] [] rfl rfl
              rw [show ((c.toNat : Int) == 47) = false by rw [beq_eq_false_iff_ne]; omega]
              repeat (first | refine zR ?_ | refine zK ?_ | refine zM ?_ | refine zB ?_ | refine zA ?_ | refine zS ?_ | refine zL ?_)
              by_cases c8 : c.toNat = 95
              · rw [show ((c.toNat : Int) == 95) = true by rw [beq_iff_eq]; omega]
                rw [show zY c = true by simp [zY, c8]]
                repeat (first | refine zR ?_ | refine zK ?_ | refine zM ?_ | refine zB ?_ | refine zA ?_ | refine zS ?_ | refine zL ?_)
                refine qc ?_
                exact qv [2, 7, 8, 17] [] rfl rfl
              rw [show ((c.toNat : Int) == 95) = false by rw [beq_eq_false_iff_ne]; omega]
              repeat (first | refine zR ?_ | refine zK ?_ | refine zM ?_ | refine zB ?_ | refine zA ?_ | refine zS ?_ | refine zL ?_)
              by_cases c9 : c.toNat = 91
              · rw [show ((c.toNat : Int) == 91) = true by rw [beq_iff_eq]; omega]
                rw [show zY c = true by simp [zY, c9]]
                repeat (first | refine zR ?_ | refine zK ?_ | refine zM ?_ | refine zB ?_ | refine zA ?_ | refine zS ?_ | refine zL ?_)
                refine qc ?_
                exact qv [2, 7, 8, 17] [] rfl rfl
              rw [show ((c.toNat : Int) == 91) = false by rw [beq_eq_false_iff_ne]; omega]
              rw [show zY c = false by simp [zY, c6, c7, c8, c9]; omega]
              repeat (first | refine zR ?_ | refine zK ?_ | refine zM ?_ | refine zB ?_ | refine zA ?_ | refine zS ?_ | refine zL ?_)
              refine qc ?_
              exact qv [2, 7, 8, 17] [] rfl rfl
          · rw [show decide ((c.toNat : Int) ≥ 65) = false by simp; omega]
            repeat (first | refine zR ?_ | refine zK ?_ | refine zM ?_ | refine zB ?_ | refine zA ?_ | refine zS ?_ | refine zL ?_)
            by_cases c3 : 126 < c.toNat
            · rw [show decide ((c.toNat : Int) > 126) = true by simp; omega]
              rw [show zY c = true by simp [zY, c3]]
              repeat (first | refine zR ?_ | refine zK ?_ | refine zM ?_ | refine zB ?_ | refine zA ?_ | refine zS ?_ | refine zL ?_)
              refine qc ?_
              exact qv [2, 7, 8, 17] [] rfl rfl
            rw [show decide ((c.toNat : Int) > 126) = false by simp; omega]
            repeat (first | refine zR ?_ | refine zK ?_ | refine zM ?_ | refine zB ?_ | refine zA ?_ | refine zS ?_ | refine zL ?_)
            by_cases c4 : c.toNat < 32
            · rw [show decide ((c.toNat : Int) < 32) = true by simp; omega]
              repeat (first | refine zR ?_ | refine zK ?_ | refine zM ?_ | refine zB ?_ | refine zA ?_ | refine zS ?_ | refine zL ?_)
              by_cases c5 : c.toNat = 10
              · rw [show ((c.toNat : Int) != 10) = false by rw [c5]; rfl]
                repeat (first | refine zR ?_ | refine zK ?_ | refine zM ?_ | refine zB ?_ | refine zA ?_ | refine zS ?_ | refine zL ?_)
                by_cases c6 : c.toNat = 36
                · rw [show ((c.toNat : Int) == 36) = true by rw [beq_iff_eq]; omega]
                  rw [show zY c = true by simp [zY, c6]]
                  repeat (first | refine zR ?_ | refine zK ?_ | refine zM ?_ | refine zB ?_ | refine zA ?_ | refine zS ?_ | refine zL ?_)
                  refine qc ?_
                  exact qv [2, 7, 8, 17] [] rfl rfl
                rw [show ((c.toNat : Int) == 36) = false by rw [beq_eq_false_iff_ne]; omega]
                repeat (first | refine zR ?_ | refine zK ?_ | refine zM ?_ | refine zB ?_ | refine zA ?_ | refine zS ?_ | refine zL ?_)
                by_cases c7 : c.toNat = 47
                · rw [show ((c.toNat : Int) == 47) = true by rw [beq_iff_eq]; omega]
                  rw [show zY c = true by simp [zY, c7]]
                  repeat (first | refine zR ?_ | refine zK ?_ | refine zM ?_ | refine zB ?_ | refine zA ?_ | refine zS ?_ | refine zL ?_)
                  refine qc ?_
                  exact qv [2, 7, 8, 17] [] rfl rfl
                rw [show ((c.toNat : Int) == 47) = false by rw [beq_eq_false_iff_ne]; omega]
                repeat (first | refine zR ?_ | refine zK ?_ | refine zM ?_ | refine zB ?_ | refine zA ?_ | refine zS ?_ | refine zL ?_)
                by_cases c8 : c.toNat = 95
                · rw [show ((c.toNat : Int) == 95) = true by rw [beq_iff_eq]; omega]
                  rw [show zY c = true by simp [zY, c8]]
                  repeat (first | refine zR ?_ | refine zK ?_ | refine zM ?_ | refine zB ?_ | refine zA ?_ | refine zS ?_ | refine zL ?_)
                  refine qc ?_
                  exact qv [2, 7, 8, 17] [] rfl rfl
                rw [show ((c.toNat : Int) == 95) = false by rw [beq_eq_false_iff_ne]; omega]
                repeat (first | refine zR ?_ | refine zK ?_ | refine zM ?_ | refine zB ?_ | refine zA ?_ | refine zS ?_ | refine zL ?_)
                by_cases c9 : c.toNat = 91
                · rw [show ((c.toNat : Int) == 91) = true by rw [beq_iff_eq]; omega]
                  rw [show zY c = true by simp [zY, c9]]
                  repeat (first | refine zR ?_ | refine zK ?_ | refine zM ?_ | refine zB ?_ | refine zA ?_ | refine zS ?_ | refine zL ?_)
                  refine qc ?_
                  exact qv [2, 7, 8, 17] [] rfl rfl
                rw [show ((c.toNat : Int) == 91) = false by rw [beq_eq_false_iff_ne]; omega]
                rw [show zY c = false by simp [zY, c6, c7, c8, c9]; omega]
                repeat (first | refine zR ?_ | refine zK ?_ | refine zM ?_ | refine zB ?_ | refine zA ?_ | refine zS ?_ | refine zL ?_)
                refine qc ?_
                exact qv [2, 7, 8, 17] [] rfl rfl
              · rw [show ((c.toNat : Int) != 10) = true by rw [bne_iff_ne]; omega]
                rw [show zY c = true by simp [zY, c4, c5]]
                repeat (first | refine zR ?_ | refine zK ?_ | refine zM ?_ | refine zB ?_ | refine zA ?_ | refine zS ?_ | refine zL ?_)
                refine qc ?_
                exact qv [2, 7, 8, 17] [] rfl rfl
            · rw [show decide ((c.toNat : Int) < 32) = false by simp; omega]
              repeat (first | refine zR ?_ | refine zK ?_ | refine zM ?_ | refine zB ?_ | refine zA ?_ | refine zS ?_ | refine zL ?_)
              by_cases c6 : c.toNat = 36
              · rw [show ((c.toNat : Int) == 36) = true by rw [beq_iff_eq]; omega]
                rw [show zY c = true by simp [zY, c6]]
                repeat (first | refine zR ?_ | refine zK ?_ | refine zM ?_ | refine zB ?_ | refine zA ?_ | refine zS ?_ | refine zL ?_)
                refine qc ?_
                exact qv [2, 7, 8, 17] [] rfl rfl
              rw [show ((c.toNat : Int) == 36) = false by rw [beq_eq_false_iff_ne]; omega]
              repeat (first | refine zR ?_ | refine zK ?_ | refine zM ?_ | refine zB ?_ | refine zA ?_ | refine zS ?_ | refine zL ?_)
              by_cases c7 : c.toNat = 47
              · rw [show ((c.toNat : Int) == 47) = true by rw [beq_iff_eq]; omega]
                rw [show zY c = true by simp [zY, c7]]
                repeat (first | refine zR ?_ | refine zK ?_ | refine zM ?_ | refine zB ?_ | refine zA ?_ | refine zS ?_ | refine zL ?_)
                refine qc ?_
                exact qv [2, 7, 8, 17] [] rfl rfl
              rw [show ((c.toNat : Int) == 47) = false by rw [beq_eq_false_iff_ne]; omega]
              repeat (first | refine zR ?_ | refine zK ?_ | refine zM ?_ | refine zB ?_ | refine zA ?_ | refine zS ?_ | refine zL ?_)
              by_cases c8 : c.toNat = 95
              · rw [show ((c.toNat : Int) == 95) = true by rw [beq_iff_eq]; omega]
                rw [show zY c = true by simp [zY, c8]]
                repeat (first | refine zR ?_ | refine zK ?_ | refine zM ?_ | refine zB ?_ | refine zA ?_ | refine zS ?_ | refine zL ?_)
                refine qc ?_
                exact qv [2, 7, 8, 17] [] rfl rfl
              rw [show ((c.toNat : Int) == 95) = false by rw [beq_eq_false_iff_ne]; omega]
              repeat (first | refine zR ?_ | refine zK ?_ | refine zM ?_ | refine zB ?_ | refine zA ?_ | refine zS ?_ | refine zL ?_)
              by_cases c9 : c.toNat = 91
              · rw [show ((c.toNat : Int) == 91) = true by rw [beq_iff_eq]; omega]
                rw [show zY c = true by simp [zY, c9]]
                repeat (first | refine zR ?_ | refine zK ?_ | refine zM ?_ | refine zB ?_ | refine zA ?_ | refine zS ?_ | refine zL ?_)
                refine qc ?_
                exact qv [2, 7, 8, 17] [] rfl rfl
              rw [show ((c.toNat : Int) == 91) = false by rw [beq_eq_false_iff_ne]; omega]
              rw [show zY c = false by simp [zY, c6, c7, c8, c9]; omega]
              repeat (first | refine zR ?_ | refine zK ?_ | refine zM ?_ | refine zB ?_ | refine zA ?_ | refine zS ?_ | refine zL ?_)
              refine qc ?_
              exact qv [2, 7, 8, 17] [] rfl rfl
        · have HB := all_l (ja q ++ c :: [120]) (by rw [List.length_append, hq5.2]; simp; omega)
          cases ho : zY c with
          | true =>
            rw [lex_odd ho (ja q) hq5.1 [120], hq5.2] at HB
            (repeat refine qb ?_); refine qa ?_
            repeat (first | refine zR ?_ | refine zK ?_ | refine zM ?_ | refine zB ?_ | refine zA ?_ | refine zS ?_ | refine zL ?_)
            refine qi rfl (je qg (b := [c]) rfl rfl rfl rfl rfl rfl rfl ?_)
            repeat (first | refine zR ?_ | refine zK ?_ | refine zM ?_ | refine zB ?_ | refine zA ?_ | refine zS ?_ | refine zL ?_)
            refine ql qg rfl rfl (jc (a := ja q) (b := [c]) (by rw [hq5.2]; omega) (by simp)) rfl ?_
            rw [jd]
            repeat (first | refine zR ?_ | refine zK ?_ | refine zM ?_ | refine zB ?_ | refine zA ?_ | refine zS ?_ | refine zL ?_)
            refine ql qg rfl rfl (jc (a := ja q ++ [c]) (b := [120]) (by rw [List.length_append, hq5.2]; simp; omega) (by simp)) rfl ?_
            rw [show (⟨⟨ja q ++ [c]⟩⟩ : ByteArray) ++ ⟨#[120]⟩ = ⟨⟨ja q ++ c :: [120]⟩⟩ from (jd _ [120]).trans (by rw [List.append_assoc]; rfl)]
            repeat (first | refine zR ?_ | refine zK ?_ | refine zM ?_ | refine zB ?_ | refine zA ?_ | refine zS ?_ | refine zL ?_)
            refine qi rfl (zT rfl rfl rfl rfl (HB) rfl rfl rfl ?_)
            repeat (first | refine zR ?_ | refine zK ?_ | refine zM ?_ | refine zB ?_ | refine zA ?_ | refine zS ?_ | refine zL ?_)
            repeat (first | refine zR ?_ | refine zK ?_ | refine zM ?_ | refine zB ?_ | refine zA ?_ | refine zS ?_ | refine zL ?_)
            refine qc ?_
            (repeat refine qb ?_); refine qa ?_
            repeat (first | refine zR ?_ | refine zK ?_ | refine zM ?_ | refine zB ?_ | refine zA ?_ | refine zS ?_ | refine zL ?_)
            rw [show ((q : Int) == (q : Int)) = true by simp]
            repeat (first | refine zR ?_ | refine zK ?_ | refine zM ?_ | refine zB ?_ | refine zA ?_ | refine zS ?_ | refine zL ?_)
            refine qi rfl (qd rfl rfl rfl rfl (zW) rfl rfl ?_)
            repeat (first | refine zR ?_ | refine zK ?_ | refine zM ?_ | refine zB ?_ | refine zA ?_ | refine zS ?_ | refine zL ?_)
            repeat (first | refine zR ?_ | refine zK ?_ | refine zM ?_ | refine zB ?_ | refine zA ?_ | refine zS ?_ | refine zL ?_)
            refine qc ?_
            (repeat refine qb ?_); refine qj ?_
            exact jf rfl rfl
          | false =>
            cases hl : lexL (ja q ++ c :: [120]) with
            | error e =>
              rw [hl] at HB
              (repeat refine qb ?_); refine qa ?_
              repeat (first | refine zR ?_ | refine zK ?_ | refine zM ?_ | refine zB ?_ | refine zA ?_ | refine zS ?_ | refine zL ?_)
              refine qi rfl (je qg (b := [c]) rfl rfl rfl rfl rfl rfl rfl ?_)
              repeat (first | refine zR ?_ | refine zK ?_ | refine zM ?_ | refine zB ?_ | refine zA ?_ | refine zS ?_ | refine zL ?_)
              refine ql qg rfl rfl (jc (a := ja q) (b := [c]) (by rw [hq5.2]; omega) (by simp)) rfl ?_
              rw [jd]
              repeat (first | refine zR ?_ | refine zK ?_ | refine zM ?_ | refine zB ?_ | refine zA ?_ | refine zS ?_ | refine zL ?_)
              refine ql qg rfl rfl (jc (a := ja q ++ [c]) (b := [120]) (by rw [List.length_append, hq5.2]; simp; omega) (by simp)) rfl ?_
              rw [show (⟨⟨ja q ++ [c]⟩⟩ : ByteArray) ++ ⟨#[120]⟩ = ⟨⟨ja q ++ c :: [120]⟩⟩ from (jd _ [120]).trans (by rw [List.append_assoc]; rfl)]
              repeat (first | refine zR ?_ | refine zK ?_ | refine zM ?_ | refine zB ?_ | refine zA ?_ | refine zS ?_ | refine zL ?_)
              refine qi rfl (zT rfl rfl rfl rfl (HB) rfl rfl rfl ?_)
              repeat (first | refine zR ?_ | refine zK ?_ | refine zM ?_ | refine zB ?_ | refine zA ?_ | refine zS ?_ | refine zL ?_)
              repeat (first | refine zR ?_ | refine zK ?_ | refine zM ?_ | refine zB ?_ | refine zA ?_ | refine zS ?_ | refine zL ?_)
              refine qc ?_
              (repeat refine qb ?_); refine qa ?_
              repeat (first | refine zR ?_ | refine zK ?_ | refine zM ?_ | refine zB ?_ | refine zA ?_ | refine zS ?_ | refine zL ?_)
              repeat (first | refine zR ?_ | refine zK ?_ | refine zM ?_ | refine zB ?_ | refine zA ?_ | refine zS ?_ | refine zL ?_)
              refine qi rfl (qd rfl rfl rfl rfl (zW) rfl rfl ?_)
              repeat (first | refine zR ?_ | refine zK ?_ | refine zM ?_ | refine zB ?_ | refine zA ?_ | refine zS ?_ | refine zL ?_)
              repeat (first | refine zR ?_ | refine zK ?_ | refine zM ?_ | refine zB ?_ | refine zA ?_ | refine zS ?_ | refine zL ?_)
              refine qc ?_
              (repeat refine qb ?_); refine qj ?_
              exact jf rfl rfl
            | ok y =>
              rw [hl] at HB
              (repeat refine qb ?_); refine qa ?_
              repeat (first | refine zR ?_ | refine zK ?_ | refine zM ?_ | refine zB ?_ | refine zA ?_ | refine zS ?_ | refine zL ?_)
              refine qi rfl (je qg (b := [c]) rfl rfl rfl rfl rfl rfl rfl ?_)
              repeat (first | refine zR ?_ | refine zK ?_ | refine zM ?_ | refine zB ?_ | refine zA ?_ | refine zS ?_ | refine zL ?_)
              refine ql qg rfl rfl (jc (a := ja q) (b := [c]) (by rw [hq5.2]; omega) (by simp)) rfl ?_
              rw [jd]
              repeat (first | refine zR ?_ | refine zK ?_ | refine zM ?_ | refine zB ?_ | refine zA ?_ | refine zS ?_ | refine zL ?_)
              refine ql qg rfl rfl (jc (a := ja q ++ [c]) (b := [120]) (by rw [List.length_append, hq5.2]; simp; omega) (by simp)) rfl ?_
              rw [show (⟨⟨ja q ++ [c]⟩⟩ : ByteArray) ++ ⟨#[120]⟩ = ⟨⟨ja q ++ c :: [120]⟩⟩ from (jd _ [120]).trans (by rw [List.append_assoc]; rfl)]
              repeat (first | refine zR ?_ | refine zK ?_ | refine zM ?_ | refine zB ?_ | refine zA ?_ | refine zS ?_ | refine zL ?_)
              refine qi rfl (zT rfl rfl rfl rfl (HB) rfl rfl rfl ?_)
              repeat (first | refine zR ?_ | refine zK ?_ | refine zM ?_ | refine zB ?_ | refine zA ?_ | refine zS ?_ | refine zL ?_)
              repeat (first | refine zR ?_ | refine zK ?_ | refine zM ?_ | refine zB ?_ | refine zA ?_ | refine zS ?_ | refine zL ?_)
              refine qc ?_
              (repeat refine qb ?_); refine qa ?_
              repeat (first | refine zR ?_ | refine zK ?_ | refine zM ?_ | refine zB ?_ | refine zA ?_ | refine zS ?_ | refine zL ?_)
              repeat (first | refine zR ?_ | refine zK ?_ | refine zM ?_ | refine zB ?_ | refine zA ?_ | refine zS ?_ | refine zL ?_)
              refine qi rfl (qd rfl rfl rfl rfl (zW) rfl rfl ?_)
              repeat (first | refine zR ?_ | refine zK ?_ | refine zM ?_ | refine zB ?_ | refine zA ?_ | refine zS ?_ | refine zL ?_)
              repeat (first | refine zR ?_ | refine zK ?_ | refine zM ?_ | refine zB ?_ | refine zA ?_ | refine zS ?_ | refine zL ?_)
              refine qc ?_
              (repeat refine qb ?_); refine qj ?_
              exact jf rfl rfl
  · rw [show decide ((s.length : Int) > 200) = false by simp; omega]
    refine qc ?_
    (repeat refine qb ?_); refine qe rfl (fun hc => ?_) (fun hc => ?_)
    · cases hc
    refine qq ?_
    have hs : s.length ≤ 200 := by omega
    clear h2
    have ls : (⟨⟨s⟩⟩ : ByteArray).size = s.length := rfl
    have HX := all_l s (by omega)
    have HM := all_l (ja q ++ (s ++ [10, 32])) (by simp only [List.length_append, hq5.2, List.length_cons, List.length_nil]; omega)
    rw [lex_around (ja q) hq5.1, hq5.2] at HM
    refine SW.wk (qv [0, 1, 2] [] rfl rfl) ?_
    (repeat refine qb ?_); refine qa ?_
    repeat (first | refine zR ?_ | refine zK ?_ | refine zM ?_ | refine zB ?_ | refine zA ?_ | refine zS ?_ | refine zL ?_)
    refine qi rfl (qd rfl rfl rfl rfl (HW) rfl rfl ?_)
    repeat (first | refine zR ?_ | refine zK ?_ | refine zM ?_ | refine zB ?_ | refine zA ?_ | refine zS ?_ | refine zL ?_)
    refine qc ?_
    (repeat refine qb ?_); refine qa ?_
    repeat (first | refine zR ?_ | refine zK ?_ | refine zM ?_ | refine zB ?_ | refine zA ?_ | refine zS ?_ | refine zL ?_)
    refine ql qg rfl rfl (⟨by decide, by omega, by show (q : Int) ≤ 5; omega⟩) rfl ?_
    rw [show (⟨#[10, 32, 10, 32, 32]⟩ : ByteArray).extract (Int.toNat 0) (Int.toNat (q : Int)) = ⟨⟨ja q⟩⟩ from ext_l _ 0 _]
    repeat (first | refine zR ?_ | refine zK ?_ | refine zM ?_ | refine zB ?_ | refine zA ?_ | refine zS ?_ | refine zL ?_)
    refine qc ?_
    cases hx : lexL s with
    | error e =>
      have he := err_le hx
      rw [hx] at HX HM
      (repeat refine qb ?_); refine qa ?_
      repeat (first | refine zR ?_ | refine zK ?_ | refine zM ?_ | refine zB ?_ | refine zA ?_ | refine zS ?_ | refine zL ?_)
      refine qi rfl (zT rfl rfl rfl rfl (HX) rfl rfl rfl ?_)
      repeat (first | refine zR ?_ | refine zK ?_ | refine zM ?_ | refine zB ?_ | refine zA ?_ | refine zS ?_ | refine zL ?_)
      repeat (first | refine zR ?_ | refine zK ?_ | refine zM ?_ | refine zB ?_ | refine zA ?_ | refine zS ?_ | refine zL ?_)
      refine qc ?_
      (repeat refine qb ?_); refine qa ?_
      repeat (first | refine zR ?_ | refine zK ?_ | refine zM ?_ | refine zB ?_ | refine zA ?_ | refine zS ?_ | refine zL ?_)
      refine ql qg rfl rfl (jc (a := ja q) (b := s) (by rw [hq5.2]; omega) (by omega)) rfl ?_
      rw [jd]
      repeat (first | refine zR ?_ | refine zK ?_ | refine zM ?_ | refine zB ?_ | refine zA ?_ | refine zS ?_ | refine zL ?_)
      refine ql qg rfl rfl (jc (a := ja q ++ s) (b := [10, 32]) (by rw [List.length_append, hq5.2]; omega) (by simp)) rfl ?_
      rw [show (⟨⟨ja q ++ s⟩⟩ : ByteArray) ++ ⟨#[10, 32]⟩ = ⟨⟨ja q ++ (s ++ [10, 32])⟩⟩ from (jd _ [10, 32]).trans (by rw [List.append_assoc])]
      repeat (first | refine zR ?_ | refine zK ?_ | refine zM ?_ | refine zB ?_ | refine zA ?_ | refine zS ?_ | refine zL ?_)
      refine qi rfl (zT rfl rfl rfl rfl (HM) rfl rfl rfl ?_)
      repeat (first | refine zR ?_ | refine zK ?_ | refine zM ?_ | refine zB ?_ | refine zA ?_ | refine zS ?_ | refine zL ?_)
      repeat (first | refine zR ?_ | refine zK ?_ | refine zM ?_ | refine zB ?_ | refine zA ?_ | refine zS ?_ | refine zL ?_)
      refine qc ?_
      (repeat refine qb ?_); refine qa ?_
      repeat (first | refine zR ?_ | refine zK ?_ | refine zM ?_ | refine zB ?_ | refine zA ?_ | refine zS ?_ | refine zL ?_)
      rw [show IntKind.i64.wrap ((e : Int) + (q : Int)) = ((e + q : Nat) : Int) by rw [IntWalk.i64_in _ (by omega)]; omega, show (((e + q : Nat) : Int) != ((e + q : Nat) : Int)) = false by simp]
      repeat (first | refine zR ?_ | refine zK ?_ | refine zM ?_ | refine zB ?_ | refine zA ?_ | refine zS ?_ | refine zL ?_)
      refine qc ?_
      (repeat refine qb ?_); refine qe rfl (fun hd => ?_) (fun hd => ?_)
      · cases hd
      refine qq ?_
      refine SW.wk ((wk_nilq 9 900 30 4 rfl rfl).trans (wk_nilq 12 901 30 4 rfl rfl)) ?_
      refine SW.wk (qv [0, 2, 7, 8, 9, 12] [] rfl rfl) ?_
      obtain ⟨S, hS⟩ : ∃ S : St, S = ⟨198, [(0, .p (pL s)), (2, .p (pU c)), (7, .p (pI (q : Int))), (8, .p (pL (ja q))), (9, .p (jg [])), (12, .p (jg []))], []⟩ := ⟨_, rfl⟩
      change SW _ _ _ ⟨198, [(0, .p (pL s)), (2, .p (pU c)), (7, .p (pI (q : Int))), (8, .p (pL (ja q))), (9, .p (jg [])), (12, .p (jg []))], []⟩
      rw [← hS]
      obtain ⟨a, z, hzl, hal, hz, hat, hS2⟩ : ∃ a z : List Tok, z.length = a.length ∧ a.length ≤ 1000 ∧ (∀ (k : Nat) (h : k < a.length) (h2 : k < z.length), z[k] = if k = a.length - 1 then ⟨a[k].kind, q + s.length + 2, a[k].n, a[k].s⟩ else ⟨a[k].kind, a[k].at_ + q, a[k].n, a[k].s⟩) ∧ (∀ t ∈ a, t.at_ ≤ 0 + s.length) ∧ S = ⟨198, [(0, .p (pL s)), (2, .p (pU c)), (7, .p (pI (q : Int))), (8, .p (pL (ja q))), (9, .p (jg a)), (12, .p (jg z))], []⟩ :=
        ⟨[], [], rfl, by simp, fun k h => (nomatch h), fun t h => (nomatch h), hS⟩
      clear hS
      subst hS2
      have la : (a.map Tok.pv).length = a.length := by simp
      have lz : (z.map Tok.pv).length = z.length := by simp
      (repeat refine qb ?_); refine qa ?_
      repeat (first | refine zR ?_ | refine zK ?_ | refine zM ?_ | refine zB ?_ | refine zA ?_ | refine zS ?_ | refine zL ?_)
      refine qc ?_
      (repeat refine qb ?_); refine zf ?_
      refine SW.wk (qv [0, 2, 7, 8, 9, 12, 71, 72] [] rfl rfl) ?_
      refine sw_loop (fun m st => ∃ (k : Nat) (kk : Int), k ≤ a.length ∧ m = a.length - k ∧ kk = k ∧ st = ⟨198, [(0, .p (pL s)), (2, .p (pU c)), (7, .p (pI (q : Int))), (8, .p (pL (ja q))), (9, .p (jg a)), (12, .p (jg z)), (71, .p (pI (a.map Tok.pv).length)), (72, .p (pI kk))], []⟩) a.length ⟨0, 0, Nat.zero_le _, rfl, rfl, rfl⟩ ?_
      rintro m st ⟨k, _, hk, rfl, rfl, rfl⟩
      (repeat refine qb ?_); refine qa ?_
      repeat (first | refine zR ?_ | refine zK ?_ | refine zM ?_ | refine zB ?_ | refine zA ?_ | refine zS ?_ | refine zL ?_)
      refine qc ?_
      (repeat refine qb ?_); refine qe rfl (fun hlt => ?_) (fun hlt => ?_)
      · refine qq ?_
        rw [la] at hlt
        simp only [decide_eq_true_eq] at hlt
        have hlt' : k < a.length := by omega
        have hkz : k < z.length := by omega
        have hzk := hz k hlt' hkz
        have hat2 := hat _ (List.getElem_mem hlt')
        obtain ⟨t, ht⟩ : ∃ t, t = a[k] := ⟨_, rfl⟩
        rw [← ht] at hzk hat2
        (repeat refine qb ?_); refine zf ?_
        (repeat refine qb ?_); refine qa ?_
        repeat (first | refine zR ?_ | refine zK ?_ | refine zM ?_ | refine zB ?_ | refine zA ?_ | refine zS ?_ | refine zL ?_)
        refine qc ?_
        (repeat refine qb ?_); refine qa ?_
        repeat (first | refine zR ?_ | refine zK ?_ | refine zM ?_ | refine zB ?_ | refine zA ?_ | refine zS ?_ | refine zL ?_)
        refine ql qg rfl rfl (by rw [la]; omega) rfl ?_
        rw [zZ hlt', ← ht]
        repeat (first | refine zR ?_ | refine zK ?_ | refine zM ?_ | refine zB ?_ | refine zA ?_ | refine zS ?_ | refine zL ?_)
        rw [show IntKind.i64.wrap ((t.at_ : Int) + (q : Int)) = ((t.at_ + q : Nat) : Int) by rw [IntWalk.i64_in _ (by omega)]; omega]
        repeat (first | refine zR ?_ | refine zK ?_ | refine zM ?_ | refine zB ?_ | refine zA ?_ | refine zS ?_ | refine zL ?_)
        refine qc ?_
        (repeat refine qb ?_); refine qa ?_
        repeat (first | refine zR ?_ | refine zK ?_ | refine zM ?_ | refine zB ?_ | refine zA ?_ | refine zS ?_ | refine zL ?_)
        rw [la]
        repeat (first | refine zR ?_ | refine zK ?_ | refine zM ?_ | refine zB ?_ | refine zA ?_ | refine zS ?_ | refine zL ?_)
        rw [show IntKind.i64.wrap ((a.length : Int) - 1) = (a.length : Int) - 1 from IntWalk.i64_in _ (by omega)]
        by_cases hlast : k = a.length - 1
        · rw [if_pos hlast] at hzk
          rw [show ((k : Int) == (a.length : Int) - 1) = true by rw [beq_iff_eq]; omega]
          refine qc ?_
          (repeat refine qb ?_); refine qe rfl (fun he => ?_) (fun he => ?_)
          rotate_left
          · cases he
          (repeat refine qb ?_); refine qa ?_
          repeat (first | refine zR ?_ | refine zK ?_ | refine zM ?_ | refine zB ?_ | refine zA ?_ | refine zS ?_ | refine zL ?_)
          rw [show (⟨⟨s⟩⟩ : ByteArray).size = s.length from rfl]
          repeat (first | refine zR ?_ | refine zK ?_ | refine zM ?_ | refine zB ?_ | refine zA ?_ | refine zS ?_ | refine zL ?_)
          rw [show IntKind.i64.wrap ((q : Int) + (s.length : Int)) = (q : Int) + (s.length : Int) from IntWalk.i64_in _ (by omega), show IntKind.i64.wrap ((q : Int) + (s.length : Int) + 2) = ((q + s.length + 2 : Nat) : Int) by rw [IntWalk.i64_in _ (by omega)]; omega]
          repeat (first | refine zR ?_ | refine zK ?_ | refine zM ?_ | refine zB ?_ | refine zA ?_ | refine zS ?_ | refine zL ?_)
          refine qc ?_
          (repeat refine qb ?_); refine zU [] [(0, true), (1, true), (2, true), (3, true), (4, true), (5, true), (6, true), (7, true), (8, true), (9, true), (10, true), (11, true), (12, true), (13, true), (14, true), (15, true), (16, true), (17, true), (18, true), (19, true), (20, true), (21, true), (22, true), (23, true), (24, true), (25, true), (26, true), (27, true), (28, true), (29, true), (30, true), (31, true), (32, true), (33, true), (34, true), (35, true), (36, true), (37, true), (38, true), (39, true), (40, true), (41, true), (42, true), (43, true), (44, true), (45, true)] (by kernel_rfl) (by kernel_rfl) (by kernel_rfl) ?_
          repeat (first | refine yR ?_ | refine yK ?_ | refine yM ?_ | refine yB ?_ | refine yA ?_ | refine yS ?_ | refine yL ?_)
          refine zV qg rfl rfl rfl (by rw [lz]; omega) rfl ?_
          rw [zZ hkz, hzk]
          repeat (first | refine yR ?_ | refine yK ?_ | refine yM ?_ | refine yB ?_ | refine yA ?_ | refine yS ?_ | refine yL ?_)
          refine zV qg rfl rfl rfl (by rw [la]; omega) rfl ?_
          rw [zZ hlt', ← ht]
          repeat (first | refine yR ?_ | refine yK ?_ | refine yM ?_ | refine yB ?_ | refine yA ?_ | refine yS ?_ | refine yL ?_)
          rw [show (t.kind != t.kind) = false by simp]
          repeat (first | refine yR ?_ | refine yK ?_ | refine yM ?_ | refine yB ?_ | refine yA ?_ | refine yS ?_ | refine yL ?_)
          refine zV qg rfl rfl rfl (by rw [lz]; omega) rfl ?_
          rw [zZ hkz, hzk]
          repeat (first | refine yR ?_ | refine yK ?_ | refine yM ?_ | refine yB ?_ | refine yA ?_ | refine yS ?_ | refine yL ?_)
          refine zV qg rfl rfl rfl (by rw [la]; omega) rfl ?_
          rw [zZ hlt', ← ht]
          repeat (first | refine yR ?_ | refine yK ?_ | refine yM ?_ | refine yB ?_ | refine yA ?_ | refine yS ?_ | refine yL ?_)
          rw [show (!((⟨⟨t.s⟩⟩ : ByteArray).toList == (⟨⟨t.s⟩⟩ : ByteArray).toList)) = false by simp]
          repeat (first | refine yR ?_ | refine yK ?_ | refine yM ?_ | refine yB ?_ | refine yA ?_ | refine yS ?_ | refine yL ?_)
          refine zV qg rfl rfl rfl (by rw [lz]; omega) rfl ?_
          rw [zZ hkz, hzk]
          repeat (first | refine yR ?_ | refine yK ?_ | refine yM ?_ | refine yB ?_ | refine yA ?_ | refine yS ?_ | refine yL ?_)
          refine zV qg rfl rfl rfl (by rw [la]; omega) rfl ?_
          rw [zZ hlt', ← ht]
          repeat (first | refine yR ?_ | refine yK ?_ | refine yM ?_ | refine yB ?_ | refine yA ?_ | refine yS ?_ | refine yL ?_)
          rw [show (t.n != t.n) = false by simp]
          repeat (first | refine yR ?_ | refine yK ?_ | refine yM ?_ | refine yB ?_ | refine yA ?_ | refine yS ?_ | refine yL ?_)
          refine zV qg rfl rfl rfl (by rw [lz]; omega) rfl ?_
          rw [zZ hkz, hzk]
          repeat (first | refine yR ?_ | refine yK ?_ | refine yM ?_ | refine yB ?_ | refine yA ?_ | refine yS ?_ | refine yL ?_)
          rw [show (((q + s.length + 2 : Nat) : Int) != ((q + s.length + 2 : Nat) : Int)) = false by simp]
          repeat (first | refine yR ?_ | refine yK ?_ | refine yM ?_ | refine yB ?_ | refine yA ?_ | refine yS ?_ | refine yL ?_)
          refine jh ?_
          (repeat refine qb ?_); refine qe rfl (fun hf => ?_) (fun hf => ?_)
          · cases hf
          refine qq ?_
          (repeat refine qb ?_); refine qa ?_
          repeat (first | refine zR ?_ | refine zK ?_ | refine zM ?_ | refine zB ?_ | refine zA ?_ | refine zS ?_ | refine zL ?_)
          refine qc ?_
          refine ⟨_, _, ?_, qv [0, 2, 7, 8, 9, 12, 71, 72] [] rfl rfl, k + 1, _, hlt', rfl, zk hlt' (by omega), rfl⟩
          omega
        · rw [if_neg hlast] at hzk
          rw [show ((k : Int) == (a.length : Int) - 1) = false by rw [beq_eq_false_iff_ne]; omega]
          refine qc ?_
          (repeat refine qb ?_); refine qe rfl (fun he => ?_) (fun he => ?_)
          · cases he
          refine qq ?_
          (repeat refine qb ?_); refine zU [] [(0, true), (1, true), (2, true), (3, true), (4, true), (5, true), (6, true), (7, true), (8, true), (9, true), (10, true), (11, true), (12, true), (13, true), (14, true), (15, true), (16, true), (17, true), (18, true), (19, true), (20, true), (21, true), (22, true), (23, true), (24, true), (25, true), (26, true), (27, true), (28, true), (29, true), (30, true), (31, true), (32, true), (33, true), (34, true), (35, true), (36, true), (37, true), (38, true), (39, true), (40, true), (41, true), (42, true), (43, true), (44, true), (45, true)] (by kernel_rfl) (by kernel_rfl) (by kernel_rfl) ?_
          repeat (first | refine yR ?_ | refine yK ?_ | refine yM ?_ | refine yB ?_ | refine yA ?_ | refine yS ?_ | refine yL ?_)
          refine zV qg rfl rfl rfl (by rw [lz]; omega) rfl ?_
          rw [zZ hkz, hzk]
          repeat (first | refine yR ?_ | refine yK ?_ | refine yM ?_ | refine yB ?_ | refine yA ?_ | refine yS ?_ | refine yL ?_)
          refine zV qg rfl rfl rfl (by rw [la]; omega) rfl ?_
          rw [zZ hlt', ← ht]
          repeat (first | refine yR ?_ | refine yK ?_ | refine yM ?_ | refine yB ?_ | refine yA ?_ | refine yS ?_ | refine yL ?_)
          rw [show (t.kind != t.kind) = false by simp]
          repeat (first | refine yR ?_ | refine yK ?_ | refine yM ?_ | refine yB ?_ | refine yA ?_ | refine yS ?_ | refine yL ?_)
          refine zV qg rfl rfl rfl (by rw [lz]; omega) rfl ?_
          rw [zZ hkz, hzk]
          repeat (first | refine yR ?_ | refine yK ?_ | refine yM ?_ | refine yB ?_ | refine yA ?_ | refine yS ?_ | refine yL ?_)
          refine zV qg rfl rfl rfl (by rw [la]; omega) rfl ?_
          rw [zZ hlt', ← ht]
          repeat (first | refine yR ?_ | refine yK ?_ | refine yM ?_ | refine yB ?_ | refine yA ?_ | refine yS ?_ | refine yL ?_)
          rw [show (!((⟨⟨t.s⟩⟩ : ByteArray).toList == (⟨⟨t.s⟩⟩ : ByteArray).toList)) = false by simp]
          repeat (first | refine yR ?_ | refine yK ?_ | refine yM ?_ | refine yB ?_ | refine yA ?_ | refine yS ?_ | refine yL ?_)
          refine zV qg rfl rfl rfl (by rw [lz]; omega) rfl ?_
          rw [zZ hkz, hzk]
          repeat (first | refine yR ?_ | refine yK ?_ | refine yM ?_ | refine yB ?_ | refine yA ?_ | refine yS ?_ | refine yL ?_)
          refine zV qg rfl rfl rfl (by rw [la]; omega) rfl ?_
          rw [zZ hlt', ← ht]
          repeat (first | refine yR ?_ | refine yK ?_ | refine yM ?_ | refine yB ?_ | refine yA ?_ | refine yS ?_ | refine yL ?_)
          rw [show (t.n != t.n) = false by simp]
          repeat (first | refine yR ?_ | refine yK ?_ | refine yM ?_ | refine yB ?_ | refine yA ?_ | refine yS ?_ | refine yL ?_)
          refine zV qg rfl rfl rfl (by rw [lz]; omega) rfl ?_
          rw [zZ hkz, hzk]
          repeat (first | refine yR ?_ | refine yK ?_ | refine yM ?_ | refine yB ?_ | refine yA ?_ | refine yS ?_ | refine yL ?_)
          rw [show (((t.at_ + q : Nat) : Int) != ((t.at_ + q : Nat) : Int)) = false by simp]
          repeat (first | refine yR ?_ | refine yK ?_ | refine yM ?_ | refine yB ?_ | refine yA ?_ | refine yS ?_ | refine yL ?_)
          refine jh ?_
          (repeat refine qb ?_); refine qe rfl (fun hf => ?_) (fun hf => ?_)
          · cases hf
          refine qq ?_
          (repeat refine qb ?_); refine qa ?_
          repeat (first | refine zR ?_ | refine zK ?_ | refine zM ?_ | refine zB ?_ | refine zA ?_ | refine zS ?_ | refine zL ?_)
          refine qc ?_
          refine ⟨_, _, ?_, qv [0, 2, 7, 8, 9, 12, 71, 72] [] rfl rfl, k + 1, _, hlt', rfl, zk hlt' (by omega), rfl⟩
          omega
      · refine ji ?_
        refine SW.wk (qv [2, 7, 8] [] rfl rfl) ?_
        (repeat refine qb ?_); refine qa ?_
        refine SWT.mono (Q' := fun st => Wk st ⟨198, [(2, .p (pU c)), (7, .p (pI (q : Int))), (8, .p (pL (ja q))), (17, .p (pB (zY c)))], []⟩) ?_ fun st hst => SW.wk hst ?_
        · repeat (first | refine zR ?_ | refine zK ?_ | refine zM ?_ | refine zB ?_ | refine zA ?_ | refine zS ?_ | refine zL ?_)
          by_cases c1 : 65 ≤ c.toNat
          · rw [show decide ((c.toNat : Int) ≥ 65) = true by simp; omega]
            repeat (first | refine zR ?_ | refine zK ?_ | refine zM ?_ | refine zB ?_ | refine zA ?_ | refine zS ?_ | refine zL ?_)
            by_cases c2 : c.toNat ≤ 90
            · rw [show decide ((c.toNat : Int) ≤ 90) = true by simp; omega]
              rw [show zY c = true by simp [zY, c1, c2]]
              repeat (first | refine zR ?_ | refine zK ?_ | refine zM ?_ | refine zB ?_ | refine zA ?_ | refine zS ?_ | refine zL ?_)
              refine qc ?_
              exact qv [2, 7, 8, 17] [] rfl rfl
            rw [show decide ((c.toNat : Int) ≤ 90) = false by simp; omega]
            repeat (first | refine zR ?_ | refine zK ?_ | refine zM ?_ | refine zB ?_ | refine zA ?_ | refine zS ?_ | refine zL ?_)
            by_cases c3 : 126 < c.toNat
            · rw [show decide ((c.toNat : Int) > 126) = true by simp; omega]
              rw [show zY c = true by simp [zY, c3]]
              repeat (first | refine zR ?_ | refine zK ?_ | refine zM ?_ | refine zB ?_ | refine zA ?_ | refine zS ?_ | refine zL ?_)
              refine qc ?_
              exact qv [2, 7, 8, 17] [] rfl rfl
            rw [show decide ((c.toNat : Int) > 126) = false by simp; omega]
            repeat (first | refine zR ?_ | refine zK ?_ | refine zM ?_ | refine zB ?_ | refine zA ?_ | refine zS ?_ | refine zL ?_)
            by_cases c4 : c.toNat < 32
            · rw [show decide ((c.toNat : Int) < 32) = true by simp; omega]
              repeat (first | refine zR ?_ | refine zK ?_ | refine zM ?_ | refine zB ?_ | refine zA ?_ | refine zS ?_ | refine zL ?_)
              by_cases c5 : c.toNat = 10
              · rw [show ((c.toNat : Int) != 10) = false by rw [c5]; rfl]
                repeat (first | refine zR ?_ | refine zK ?_ | refine zM ?_ | refine zB ?_ | refine zA ?_ | refine zS ?_ | refine zL ?_)
                by_cases c6 : c.toNat = 36
                · rw [show ((c.toNat : Int) == 36) = true by rw [beq_iff_eq]; omega]
                  rw [show zY c = true by simp [zY, c6]]
                  repeat (first | refine zR ?_ | refine zK ?_ | refine zM ?_ | refine zB ?_ | refine zA ?_ | refine zS ?_ | refine zL ?_)
                  refine qc ?_
                  exact qv [2, 7, 8, 17] [] rfl rfl
                rw [show ((c.toNat : Int) == 36) = false by rw [beq_eq_false_iff_ne]; omega]
                repeat (first | refine zR ?_ | refine zK ?_ | refine zM ?_ | refine zB ?_ | refine zA ?_ | refine zS ?_ | refine zL ?_)
                by_cases c7 : c.toNat = 47
                · rw [show ((c.toNat : Int) == 47) = true by rw [beq_iff_eq]; omega]
                  rw [show zY c = true by simp [zY, c7]]
                  repeat (first | refine zR ?_ | refine zK ?_ | refine zM ?_ | refine zB ?_ | refine zA ?_ | refine zS ?_ | refine zL ?_)
                  refine qc ?_
                  exact qv [2, 7, 8, 17] [] rfl rfl
                rw [show ((c.toNat : Int) == 47) = false by rw [beq_eq_false_iff_ne]; omega]
                repeat (first | refine zR ?_ | refine zK ?_ | refine zM ?_ | refine zB ?_ | refine zA ?_ | refine zS ?_ | refine zL ?_)
                by_cases c8 : c.toNat = 95
                · rw [show ((c.toNat : Int) == 95) = true by rw [beq_iff_eq]; omega]
                  rw [show zY c = true by simp [zY, c8]]
                  repeat (first | refine zR ?_ | refine zK ?_ | refine zM ?_ | refine zB ?_ | refine zA ?_ | refine zS ?_ | refine zL ?_)
                  refine qc ?_
                  exact qv [2, 7, 8, 17] [] rfl rfl
                rw [show ((c.toNat : Int) == 95) = false by rw [beq_eq_false_iff_ne]; omega]
                repeat (first | refine zR ?_ | refine zK ?_ | refine zM ?_ | refine zB ?_ | refine zA ?_ | refine zS ?_ | refine zL ?_)
                by_cases c9 : c.toNat = 91
                · rw [show ((c.toNat : Int) == 91) = true by rw [beq_iff_eq]; omega]
                  rw [show zY c = true by simp [zY, c9]]
                  repeat (first | refine zR ?_ | refine zK ?_ | refine zM ?_ | refine zB ?_ | refine zA ?_ | refine zS ?_ | refine zL ?_)
                  refine qc ?_
                  exact qv [2, 7, 8, 17] [] rfl rfl
                rw [show ((c.toNat : Int) == 91) = false by rw [beq_eq_false_iff_ne]; omega]
                rw [show zY c = false by simp [zY, c6, c7, c8, c9]; omega]
                repeat (first | refine zR ?_ | refine zK ?_ | refine zM ?_ | refine zB ?_ | refine zA ?_ | refine zS ?_ | refine zL ?_)
                refine qc ?_
                exact qv [2, 7, 8, 17] [] rfl rfl
              · rw [show ((c.toNat : Int) != 10) = true by rw [bne_iff_ne]; omega]
                rw [show zY c = true by simp [zY, c4, c5]]
                repeat (first | refine zR ?_ | refine zK ?_ | refine zM ?_ | refine zB ?_ | refine zA ?_ | refine zS ?_ | refine zL ?_)
                refine qc ?_
                exact qv [2, 7, 8, 17] [] rfl rfl
            · rw [show decide ((c.toNat : Int) < 32) = false by simp; omega]
              repeat (first | refine zR ?_ | refine zK ?_ | refine zM ?_ | refine zB ?_ | refine zA ?_ | refine zS ?_ | refine zL ?_)
              by_cases c6 : c.toNat = 36
              · rw [show ((c.toNat : Int) == 36) = true by rw [beq_iff_eq]; omega]
                rw [show zY c = true by simp [zY, c6]]
                repeat (first | refine zR ?_ | refine zK ?_ | refine zM ?_ | refine zB ?_ | refine zA ?_ | refine zS ?_ | refine zL ?_)
                refine qc ?_
                exact qv [2, 7, 8, 17] [] rfl rfl
              rw [show ((c.toNat : Int) == 36) = false by rw [beq_eq_false_iff_ne]; omega]
              repeat (first | refine zR ?_ | refine zK ?_ | refine zM ?_ | refine zB ?_ | refine zA ?_ | refine zS ?_ | refine zL ?_)
              by_cases c7 : c.toNat = 47
              · rw [show ((c.toNat : Int) == 47) = true by rw [beq_iff_eq]; omega]
                rw [show zY c = true by simp [zY, c7]]
                repeat (first | refine zR ?_ | refine zK ?_ | refine zM ?_ | refine zB ?_ | refine zA ?_ | refine zS ?_ | refine zL ?_)
                refine qc ?_
                exact qv [2, 7, 8, 17] [] rfl rfl
              rw [show ((c.toNat : Int) == 47) = false by rw [beq_eq_false_iff_ne]; omega]
              repeat (first | refine zR ?_ | refine zK ?_ | refine zM ?_ | refine zB ?_ | refine zA ?_ | refine zS ?_ | refine zL ?_)
              by_cases c8 : c.toNat = 95
              · rw [show ((c.toNat : Int) == 95) = true by rw [beq_iff_eq]; omega]
                rw [show zY c = true by simp [zY, c8]]
                repeat (first | refine zR ?_ | refine zK ?_ | refine zM ?_ | refine zB ?_ | refine zA ?_ | refine zS ?_ | refine zL ?_)
                refine qc ?_
                exact qv [2, 7, 8, 17] [] rfl rfl
              rw [show ((c.toNat : Int) == 95) = false by rw [beq_eq_false_iff_ne]; omega]
              repeat (first | refine zR ?_ | refine zK ?_ | refine zM ?_ | refine zB ?_ | refine zA ?_ | refine zS ?_ | refine zL ?_)
              by_cases c9 : c.toNat = 91
              · rw [show ((c.toNat : Int) == 91) = true by rw [beq_iff_eq]; omega]
                rw [show zY c = true by simp [zY, c9]]
                repeat (first | refine zR ?_ | refine zK ?_ | refine zM ?_ | refine zB ?_ | refine zA ?_ | refine zS ?_ | refine zL ?_)
                refine qc ?_
                exact qv [2, 7, 8, 17] [] rfl rfl
              rw [show ((c.toNat : Int) == 91) = false by rw [beq_eq_false_iff_ne]; omega]
              rw [show zY c = false by simp [zY, c6, c7, c8, c9]; omega]
              repeat (first | refine zR ?_ | refine zK ?_ | refine zM ?_ | refine zB ?_ | refine zA ?_ | refine zS ?_ | refine zL ?_)
              refine qc ?_
              exact qv [2, 7, 8, 17] [] rfl rfl
          · rw [show decide ((c.toNat : Int) ≥ 65) = false by simp; omega]
            repeat (first | refine zR ?_ | refine zK ?_ | refine zM ?_ | refine zB ?_ | refine zA ?_ | refine zS ?_ | refine zL ?_)
            by_cases c3 : 126 < c.toNat
            · rw [show decide ((c.toNat : Int) > 126) = true by simp; omega]
              rw [show zY c = true by simp [zY, c3]]
              repeat (first | refine zR ?_ | refine zK ?_ | refine zM ?_ | refine zB ?_ | refine zA ?_ | refine zS ?_ | refine zL ?_)
              refine qc ?_
              exact qv [2, 7, 8, 17] [] rfl rfl
            rw [show decide ((c.toNat : Int) > 126) = false by simp; omega]
            repeat (first | refine zR ?_ | refine zK ?_ | refine zM ?_ | refine zB ?_ | refine zA ?_ | refine zS ?_ | refine zL ?_)
            by_cases c4 : c.toNat < 32
            · rw [show decide ((c.toNat : Int) < 32) = true by simp; omega]
              repeat (first | refine zR ?_ | refine zK ?_ | refine zM ?_ | refine zB ?_ | refine zA ?_ | refine zS ?_ | refine zL ?_)
              by_cases c5 : c.toNat = 10
              · rw [show ((c.toNat : Int) != 10) = false by rw [c5]; rfl]
                repeat (first | refine zR ?_ | refine zK ?_ | refine zM ?_ | refine zB ?_ | refine zA ?_ | refine zS ?_ | refine zL ?_)
                by_cases c6 : c.toNat = 36
                · rw [show ((c.toNat : Int) == 36) = true by rw [beq_iff_eq]; omega]
                  rw [show zY c = true by simp [zY, c6]]
                  repeat (first | refine zR ?_ | refine zK ?_ | refine zM ?_ | refine zB ?_ | refine zA ?_ | refine zS ?_ | refine zL ?_)
                  refine qc ?_
                  exact qv [2, 7, 8, 17] [] rfl rfl
                rw [show ((c.toNat : Int) == 36) = false by rw [beq_eq_false_iff_ne]; omega]
                repeat (first | refine zR ?_ | refine zK ?_ | refine zM ?_ | refine zB ?_ | refine zA ?_ | refine zS ?_ | refine zL ?_)
                by_cases c7 : c.toNat = 47
                · rw [show ((c.toNat : Int) == 47) = true by rw [beq_iff_eq]; omega]
                  rw [show zY c = true by simp [zY, c7]]
                  repeat (first | refine zR ?_ | refine zK ?_ | refine zM ?_ | refine zB ?_ | refine zA ?_ | refine zS ?_ | refine zL ?_)
                  refine qc ?_
                  exact qv [2, 7, 8, 17] [] rfl rfl
                rw [show ((c.toNat : Int) == 47) = false by rw [beq_eq_false_iff_ne]; omega]
                repeat (first | refine zR ?_ | refine zK ?_ | refine zM ?_ | refine zB ?_ | refine zA ?_ | refine zS ?_ | refine zL ?_)
                by_cases c8 : c.toNat = 95
                · rw [show ((c.toNat : Int) == 95) = true by rw [beq_iff_eq]; omega]
                  rw [show zY c = true by simp [zY, c8]]
                  repeat (first | refine zR ?_ | refine zK ?_ | refine zM ?_ | refine zB ?_ | refine zA ?_ | refine zS ?_ | refine zL ?_)
                  refine qc ?_
                  exact qv [2, 7, 8, 17] [] rfl rfl
                rw [show ((c.toNat : Int) == 95) = false by rw [beq_eq_false_iff_ne]; omega]
                repeat (first | refine zR ?_ | refine zK ?_ | refine zM ?_ | refine zB ?_ | refine zA ?_ | refine zS ?_ | refine zL ?_)
                by_cases c9 : c.toNat = 91
                · rw [show ((c.toNat : Int) == 91) = true by rw [beq_iff_eq]; omega]
                  rw [show zY c = true by simp [zY, c9]]
                  repeat (first | refine zR ?_ | refine zK ?_ | refine zM ?_ | refine zB ?_ | refine zA ?_ | refine zS ?_ | refine zL ?_)
                  refine qc ?_
                  exact qv [2, 7, 8, 17] [] rfl rfl
                rw [show ((c.toNat : Int) == 91) = false by rw [beq_eq_false_iff_ne]; omega]
                rw [show zY c = false by simp [zY, c6, c7, c8, c9]; omega]
                repeat (first | refine zR ?_ | refine zK ?_ | refine zM ?_ | refine zB ?_ | refine zA ?_ | refine zS ?_ | refine zL ?_)
                refine qc ?_
                exact qv [2, 7, 8, 17] [] rfl rfl
              · rw [show ((c.toNat : Int) != 10) = true by rw [bne_iff_ne]; omega]
                rw [show zY c = true by simp [zY, c4, c5]]
                repeat (first | refine zR ?_ | refine zK ?_ | refine zM ?_ | refine zB ?_ | refine zA ?_ | refine zS ?_ | refine zL ?_)
                refine qc ?_
                exact qv [2, 7, 8, 17] [] rfl rfl
            · rw [show decide ((c.toNat : Int) < 32) = false by simp; omega]
              repeat (first | refine zR ?_ | refine zK ?_ | refine zM ?_ | refine zB ?_ | refine zA ?_ | refine zS ?_ | refine zL ?_)
              by_cases c6 : c.toNat = 36
              · rw [show ((c.toNat : Int) == 36) = true by rw [beq_iff_eq]; omega]
                rw [show zY c = true by simp [zY, c6]]
                repeat (first | refine zR ?_ | refine zK ?_ | refine zM ?_ | refine zB ?_ | refine zA ?_ | refine zS ?_ | refine zL ?_)
                refine qc ?_
                exact qv [2, 7, 8, 17] [] rfl rfl
              rw [show ((c.toNat : Int) == 36) = false by rw [beq_eq_false_iff_ne]; omega]
              repeat (first | refine zR ?_ | refine zK ?_ | refine zM ?_ | refine zB ?_ | refine zA ?_ | refine zS ?_ | refine zL ?_)
              by_cases c7 : c.toNat = 47
              · rw [show ((c.toNat : Int) == 47) = true by rw [beq_iff_eq]; omega]
                rw [show zY c = true by simp [zY, c7]]
                repeat (first | refine zR ?_ | refine zK ?_ | refine zM ?_ | refine zB ?_ | refine zA ?_ | refine zS ?_ | refine zL ?_)
                refine qc ?_
                exact qv [2, 7, 8, 17] [] rfl rfl
              rw [show ((c.toNat : Int) == 47) = false by rw [beq_eq_false_iff_ne]; omega]
              repeat (first | refine zR ?_ | refine zK ?_ | refine zM ?_ | refine zB ?_ | refine zA ?_ | refine zS ?_ | refine zL ?_)
              by_cases c8 : c.toNat = 95
              · rw [show ((c.toNat : Int) == 95) = true by rw [beq_iff_eq]; omega]
                rw [show zY c = true by simp [zY, c8]]
                repeat (first | refine zR ?_ | refine zK ?_ | refine zM ?_ | refine zB ?_ | refine zA ?_ | refine zS ?_ | refine zL ?_)
                refine qc ?_
                exact qv [2, 7, 8, 17] [] rfl rfl
              rw [show ((c.toNat : Int) == 95) = false by rw [beq_eq_false_iff_ne]; omega]
              repeat (first | refine zR ?_ | refine zK ?_ | refine zM ?_ | refine zB ?_ | refine zA ?_ | refine zS ?_ | refine zL ?_)
              by_cases c9 : c.toNat = 91
              · rw [show ((c.toNat : Int) == 91) = true by rw [beq_iff_eq]; omega]
                rw [show zY c = true by simp [zY, c9]]
                repeat (first | refine zR ?_ | refine zK ?_ | refine zM ?_ | refine zB ?_ | refine zA ?_ | refine zS ?_ | refine zL ?_)
                refine qc ?_
                exact qv [2, 7, 8, 17] [] rfl rfl
              rw [show ((c.toNat : Int) == 91) = false by rw [beq_eq_false_iff_ne]; omega]
              rw [show zY c = false by simp [zY, c6, c7, c8, c9]; omega]
              repeat (first | refine zR ?_ | refine zK ?_ | refine zM ?_ | refine zB ?_ | refine zA ?_ | refine zS ?_ | refine zL ?_)
              refine qc ?_
              exact qv [2, 7, 8, 17] [] rfl rfl
        · have HB := all_l (ja q ++ c :: [120]) (by rw [List.length_append, hq5.2]; simp; omega)
          cases ho : zY c with
          | true =>
            rw [lex_odd ho (ja q) hq5.1 [120], hq5.2] at HB
            (repeat refine qb ?_); refine qa ?_
            repeat (first | refine zR ?_ | refine zK ?_ | refine zM ?_ | refine zB ?_ | refine zA ?_ | refine zS ?_ | refine zL ?_)
            refine qi rfl (je qg (b := [c]) rfl rfl rfl rfl rfl rfl rfl ?_)
            repeat (first | refine zR ?_ | refine zK ?_ | refine zM ?_ | refine zB ?_ | refine zA ?_ | refine zS ?_ | refine zL ?_)
            refine ql qg rfl rfl (jc (a := ja q) (b := [c]) (by rw [hq5.2]; omega) (by simp)) rfl ?_
            rw [jd]
            repeat (first | refine zR ?_ | refine zK ?_ | refine zM ?_ | refine zB ?_ | refine zA ?_ | refine zS ?_ | refine zL ?_)
            refine ql qg rfl rfl (jc (a := ja q ++ [c]) (b := [120]) (by rw [List.length_append, hq5.2]; simp; omega) (by simp)) rfl ?_
            rw [show (⟨⟨ja q ++ [c]⟩⟩ : ByteArray) ++ ⟨#[120]⟩ = ⟨⟨ja q ++ c :: [120]⟩⟩ from (jd _ [120]).trans (by rw [List.append_assoc]; rfl)]
            repeat (first | refine zR ?_ | refine zK ?_ | refine zM ?_ | refine zB ?_ | refine zA ?_ | refine zS ?_ | refine zL ?_)
            refine qi rfl (zT rfl rfl rfl rfl (HB) rfl rfl rfl ?_)
            repeat (first | refine zR ?_ | refine zK ?_ | refine zM ?_ | refine zB ?_ | refine zA ?_ | refine zS ?_ | refine zL ?_)
            repeat (first | refine zR ?_ | refine zK ?_ | refine zM ?_ | refine zB ?_ | refine zA ?_ | refine zS ?_ | refine zL ?_)
            refine qc ?_
            (repeat refine qb ?_); refine qa ?_
            repeat (first | refine zR ?_ | refine zK ?_ | refine zM ?_ | refine zB ?_ | refine zA ?_ | refine zS ?_ | refine zL ?_)
            rw [show ((q : Int) == (q : Int)) = true by simp]
            repeat (first | refine zR ?_ | refine zK ?_ | refine zM ?_ | refine zB ?_ | refine zA ?_ | refine zS ?_ | refine zL ?_)
            refine qi rfl (qd rfl rfl rfl rfl (zW) rfl rfl ?_)
            repeat (first | refine zR ?_ | refine zK ?_ | refine zM ?_ | refine zB ?_ | refine zA ?_ | refine zS ?_ | refine zL ?_)
            repeat (first | refine zR ?_ | refine zK ?_ | refine zM ?_ | refine zB ?_ | refine zA ?_ | refine zS ?_ | refine zL ?_)
            refine qc ?_
            (repeat refine qb ?_); refine qj ?_
            exact jf rfl rfl
          | false =>
            cases hl : lexL (ja q ++ c :: [120]) with
            | error e =>
              rw [hl] at HB
              (repeat refine qb ?_); refine qa ?_
              repeat (first | refine zR ?_ | refine zK ?_ | refine zM ?_ | refine zB ?_ | refine zA ?_ | refine zS ?_ | refine zL ?_)
              refine qi rfl (je qg (b := [c]) rfl rfl rfl rfl rfl rfl rfl ?_)
              repeat (first | refine zR ?_ | refine zK ?_ | refine zM ?_ | refine zB ?_ | refine zA ?_ | refine zS ?_ | refine zL ?_)
              refine ql qg rfl rfl (jc (a := ja q) (b := [c]) (by rw [hq5.2]; omega) (by simp)) rfl ?_
              rw [jd]
              repeat (first | refine zR ?_ | refine zK ?_ | refine zM ?_ | refine zB ?_ | refine zA ?_ | refine zS ?_ | refine zL ?_)
              refine ql qg rfl rfl (jc (a := ja q ++ [c]) (b := [120]) (by rw [List.length_append, hq5.2]; simp; omega) (by simp)) rfl ?_
              rw [show (⟨⟨ja q ++ [c]⟩⟩ : ByteArray) ++ ⟨#[120]⟩ = ⟨⟨ja q ++ c :: [120]⟩⟩ from (jd _ [120]).trans (by rw [List.append_assoc]; rfl)]
              repeat (first | refine zR ?_ | refine zK ?_ | refine zM ?_ | refine zB ?_ | refine zA ?_ | refine zS ?_ | refine zL ?_)
              refine qi rfl (zT rfl rfl rfl rfl (HB) rfl rfl rfl ?_)
              repeat (first | refine zR ?_ | refine zK ?_ | refine zM ?_ | refine zB ?_ | refine zA ?_ | refine zS ?_ | refine zL ?_)
              repeat (first | refine zR ?_ | refine zK ?_ | refine zM ?_ | refine zB ?_ | refine zA ?_ | refine zS ?_ | refine zL ?_)
              refine qc ?_
              (repeat refine qb ?_); refine qa ?_
              repeat (first | refine zR ?_ | refine zK ?_ | refine zM ?_ | refine zB ?_ | refine zA ?_ | refine zS ?_ | refine zL ?_)
              repeat (first | refine zR ?_ | refine zK ?_ | refine zM ?_ | refine zB ?_ | refine zA ?_ | refine zS ?_ | refine zL ?_)
              refine qi rfl (qd rfl rfl rfl rfl (zW) rfl rfl ?_)
              repeat (first | refine zR ?_ | refine zK ?_ | refine zM ?_ | refine zB ?_ | refine zA ?_ | refine zS ?_ | refine zL ?_)
              repeat (first | refine zR ?_ | refine zK ?_ | refine zM ?_ | refine zB ?_ | refine zA ?_ | refine zS ?_ | refine zL ?_)
              refine qc ?_
              (repeat refine qb ?_); refine qj ?_
              exact jf rfl rfl
            | ok y =>
              rw [hl] at HB
              (repeat refine qb ?_); refine qa ?_
              repeat (first | refine zR ?_ | refine zK ?_ | refine zM ?_ | refine zB ?_ | refine zA ?_ | refine zS ?_ | refine zL ?_)
              refine qi rfl (je qg (b := [c]) rfl rfl rfl rfl rfl rfl rfl ?_)
              repeat (first | refine zR ?_ | refine zK ?_ | refine zM ?_ | refine zB ?_ | refine zA ?_ | refine zS ?_ | refine zL ?_)
              refine ql qg rfl rfl (jc (a := ja q) (b := [c]) (by rw [hq5.2]; omega) (by simp)) rfl ?_
              rw [jd]
              repeat (first | refine zR ?_ | refine zK ?_ | refine zM ?_ | refine zB ?_ | refine zA ?_ | refine zS ?_ | refine zL ?_)
              refine ql qg rfl rfl (jc (a := ja q ++ [c]) (b := [120]) (by rw [List.length_append, hq5.2]; simp; omega) (by simp)) rfl ?_
              rw [show (⟨⟨ja q ++ [c]⟩⟩ : ByteArray) ++ ⟨#[120]⟩ = ⟨⟨ja q ++ c :: [120]⟩⟩ from (jd _ [120]).trans (by rw [List.append_assoc]; rfl)]
              repeat (first | refine zR ?_ | refine zK ?_ | refine zM ?_ | refine zB ?_ | refine zA ?_ | refine zS ?_ | refine zL ?_)
              refine qi rfl (zT rfl rfl rfl rfl (HB) rfl rfl rfl ?_)
              repeat (first | refine zR ?_ | refine zK ?_ | refine zM ?_ | refine zB ?_ | refine zA ?_ | refine zS ?_ | refine zL ?_)
              repeat (first | refine zR ?_ | refine zK ?_ | refine zM ?_ | refine zB ?_ | refine zA ?_ | refine zS ?_ | refine zL ?_)
              refine qc ?_
              (repeat refine qb ?_); refine qa ?_
              repeat (first | refine zR ?_ | refine zK ?_ | refine zM ?_ | refine zB ?_ | refine zA ?_ | refine zS ?_ | refine zL ?_)
              repeat (first | refine zR ?_ | refine zK ?_ | refine zM ?_ | refine zB ?_ | refine zA ?_ | refine zS ?_ | refine zL ?_)
              refine qi rfl (qd rfl rfl rfl rfl (zW) rfl rfl ?_)
              repeat (first | refine zR ?_ | refine zK ?_ | refine zM ?_ | refine zB ?_ | refine zA ?_ | refine zS ?_ | refine zL ?_)
              repeat (first | refine zR ?_ | refine zK ?_ | refine zM ?_ | refine zB ?_ | refine zA ?_ | refine zS ?_ | refine zL ?_)
              refine qc ?_
              (repeat refine qb ?_); refine qj ?_
              exact jf rfl rfl
    | ok a =>
      have hxl := all_len hx
      have hat := at_le hx
      have hend := lexL_end hx
      have hdl : a.dropLast.length = a.length - 1 := List.length_dropLast
      rw [hx] at HX HM
      change Holds _ _ _ (allR (.ok (a.dropLast.map (Tok.shift q) ++ [⟨7, q + s.length + 2, 0, []⟩]))) (allO (.ok (a.dropLast.map (Tok.shift q) ++ [⟨7, q + s.length + 2, 0, []⟩]))) at HM
      obtain ⟨z, hzz⟩ : ∃ z, z = a.dropLast.map (Tok.shift q) ++ [(⟨7, q + s.length + 2, 0, []⟩ : Tok)] := ⟨_, rfl⟩
      rw [← hzz] at HM
      have hzl : z.length = a.length := by rw [hzz, List.length_append, List.length_map, hdl]; simp; omega
      have hz : ∀ (k : Nat) (h : k < a.length) (h2 : k < z.length), z[k] = if k = a.length - 1 then ⟨a[k].kind, q + s.length + 2, a[k].n, a[k].s⟩ else ⟨a[k].kind, a[k].at_ + q, a[k].n, a[k].s⟩ := fun k h h2 => by
        subst hzz
        by_cases hl : k = a.length - 1
        · rw [if_pos hl, List.getElem_append_right (by rw [List.length_map]; omega)]
          have hg : a[k] = ⟨7, 0 + s.length, 0, []⟩ := by
            rw [List.getLast?_eq_getElem?, ← hl, List.getElem?_eq_getElem h] at hend
            exact Option.some.inj hend
          rw [hg]
          simp
        · rw [if_neg hl, List.getElem_append_left (by rw [List.length_map]; omega), List.getElem_map, List.getElem_dropLast]
          rfl
      clear hzz
      (repeat refine qb ?_); refine qa ?_
      repeat (first | refine zR ?_ | refine zK ?_ | refine zM ?_ | refine zB ?_ | refine zA ?_ | refine zS ?_ | refine zL ?_)
      refine qi rfl (zT rfl rfl rfl rfl (HX) rfl rfl rfl ?_)
      repeat (first | refine zR ?_ | refine zK ?_ | refine zM ?_ | refine zB ?_ | refine zA ?_ | refine zS ?_ | refine zL ?_)
      repeat (first | refine zR ?_ | refine zK ?_ | refine zM ?_ | refine zB ?_ | refine zA ?_ | refine zS ?_ | refine zL ?_)
      refine qc ?_
      refine SW.wk (wk_frz (k := 33000) rfl) ?_
      (repeat refine qb ?_); refine qa ?_
      repeat (first | refine zR ?_ | refine zK ?_ | refine zM ?_ | refine zB ?_ | refine zA ?_ | refine zS ?_ | refine zL ?_)
      refine ql qg rfl rfl (jc (a := ja q) (b := s) (by rw [hq5.2]; omega) (by omega)) rfl ?_
      rw [jd]
      repeat (first | refine zR ?_ | refine zK ?_ | refine zM ?_ | refine zB ?_ | refine zA ?_ | refine zS ?_ | refine zL ?_)
      refine ql qg rfl rfl (jc (a := ja q ++ s) (b := [10, 32]) (by rw [List.length_append, hq5.2]; omega) (by simp)) rfl ?_
      rw [show (⟨⟨ja q ++ s⟩⟩ : ByteArray) ++ ⟨#[10, 32]⟩ = ⟨⟨ja q ++ (s ++ [10, 32])⟩⟩ from (jd _ [10, 32]).trans (by rw [List.append_assoc])]
      repeat (first | refine zR ?_ | refine zK ?_ | refine zM ?_ | refine zB ?_ | refine zA ?_ | refine zS ?_ | refine zL ?_)
      refine qi rfl (zT rfl rfl rfl rfl (HM) rfl rfl rfl ?_)
      repeat (first | refine zR ?_ | refine zK ?_ | refine zM ?_ | refine zB ?_ | refine zA ?_ | refine zS ?_ | refine zL ?_)
      repeat (first | refine zR ?_ | refine zK ?_ | refine zM ?_ | refine zB ?_ | refine zA ?_ | refine zS ?_ | refine zL ?_)
      refine qc ?_
      refine SW.wk (wk_frz (k := 42000) rfl) ?_
      (repeat refine qb ?_); refine qa ?_
      repeat (first | refine zR ?_ | refine zK ?_ | refine zM ?_ | refine zB ?_ | refine zA ?_ | refine zS ?_ | refine zL ?_)
      rw [show ((a.map Tok.pv).length : Int) = (z.length : Int) by simp; omega, show (((z.map Tok.pv).length : Nat) : Int) = (z.length : Int) by simp, show ((z.length : Int) != (z.length : Int)) = false by simp]
      repeat (first | refine zR ?_ | refine zK ?_ | refine zM ?_ | refine zB ?_ | refine zA ?_ | refine zS ?_ | refine zL ?_)
      refine qc ?_
      (repeat refine qb ?_); refine qe rfl (fun hd => ?_) (fun hd => ?_)
      · cases hd
      refine qq ?_
      have la : (a.map Tok.pv).length = a.length := by simp
      have lz : (z.map Tok.pv).length = z.length := by simp
      (repeat refine qb ?_); refine qa ?_
      repeat (first | refine zR ?_ | refine zK ?_ | refine zM ?_ | refine zB ?_ | refine zA ?_ | refine zS ?_ | refine zL ?_)
      refine qc ?_
      (repeat refine qb ?_); refine zf ?_
      refine SW.wk (qv [0, 2, 7, 8, 9, 12, 71, 72] [] rfl rfl) ?_
      refine sw_loop (fun m st => ∃ (k : Nat) (kk : Int), k ≤ a.length ∧ m = a.length - k ∧ kk = k ∧ st = ⟨198, [(0, .p (pL s)), (2, .p (pU c)), (7, .p (pI (q : Int))), (8, .p (pL (ja q))), (9, .p (jg a)), (12, .p (jg z)), (71, .p (pI (a.map Tok.pv).length)), (72, .p (pI kk))], []⟩) a.length ⟨0, 0, Nat.zero_le _, rfl, rfl, rfl⟩ ?_
      rintro m st ⟨k, _, hk, rfl, rfl, rfl⟩
      (repeat refine qb ?_); refine qa ?_
      repeat (first | refine zR ?_ | refine zK ?_ | refine zM ?_ | refine zB ?_ | refine zA ?_ | refine zS ?_ | refine zL ?_)
      refine qc ?_
      (repeat refine qb ?_); refine qe rfl (fun hlt => ?_) (fun hlt => ?_)
      · refine qq ?_
        rw [la] at hlt
        simp only [decide_eq_true_eq] at hlt
        have hlt' : k < a.length := by omega
        have hkz : k < z.length := by omega
        have hzk := hz k hlt' hkz
        have hat2 := hat _ (List.getElem_mem hlt')
        obtain ⟨t, ht⟩ : ∃ t, t = a[k] := ⟨_, rfl⟩
        rw [← ht] at hzk hat2
        (repeat refine qb ?_); refine zf ?_
        (repeat refine qb ?_); refine qa ?_
        repeat (first | refine zR ?_ | refine zK ?_ | refine zM ?_ | refine zB ?_ | refine zA ?_ | refine zS ?_ | refine zL ?_)
        refine qc ?_
        (repeat refine qb ?_); refine qa ?_
        repeat (first | refine zR ?_ | refine zK ?_ | refine zM ?_ | refine zB ?_ | refine zA ?_ | refine zS ?_ | refine zL ?_)
        refine ql qg rfl rfl (by rw [la]; omega) rfl ?_
        rw [zZ hlt', ← ht]
        repeat (first | refine zR ?_ | refine zK ?_ | refine zM ?_ | refine zB ?_ | refine zA ?_ | refine zS ?_ | refine zL ?_)
        rw [show IntKind.i64.wrap ((t.at_ : Int) + (q : Int)) = ((t.at_ + q : Nat) : Int) by rw [IntWalk.i64_in _ (by omega)]; omega]
        repeat (first | refine zR ?_ | refine zK ?_ | refine zM ?_ | refine zB ?_ | refine zA ?_ | refine zS ?_ | refine zL ?_)
        refine qc ?_
        (repeat refine qb ?_); refine qa ?_
        repeat (first | refine zR ?_ | refine zK ?_ | refine zM ?_ | refine zB ?_ | refine zA ?_ | refine zS ?_ | refine zL ?_)
        rw [la]
        repeat (first | refine zR ?_ | refine zK ?_ | refine zM ?_ | refine zB ?_ | refine zA ?_ | refine zS ?_ | refine zL ?_)
        rw [show IntKind.i64.wrap ((a.length : Int) - 1) = (a.length : Int) - 1 from IntWalk.i64_in _ (by omega)]
        by_cases hlast : k = a.length - 1
        · rw [if_pos hlast] at hzk
          rw [show ((k : Int) == (a.length : Int) - 1) = true by rw [beq_iff_eq]; omega]
          refine qc ?_
          (repeat refine qb ?_); refine qe rfl (fun he => ?_) (fun he => ?_)
          rotate_left
          · cases he
          (repeat refine qb ?_); refine qa ?_
          repeat (first | refine zR ?_ | refine zK ?_ | refine zM ?_ | refine zB ?_ | refine zA ?_ | refine zS ?_ | refine zL ?_)
          rw [show (⟨⟨s⟩⟩ : ByteArray).size = s.length from rfl]
          repeat (first | refine zR ?_ | refine zK ?_ | refine zM ?_ | refine zB ?_ | refine zA ?_ | refine zS ?_ | refine zL ?_)
          rw [show IntKind.i64.wrap ((q : Int) + (s.length : Int)) = (q : Int) + (s.length : Int) from IntWalk.i64_in _ (by omega), show IntKind.i64.wrap ((q : Int) + (s.length : Int) + 2) = ((q + s.length + 2 : Nat) : Int) by rw [IntWalk.i64_in _ (by omega)]; omega]
          repeat (first | refine zR ?_ | refine zK ?_ | refine zM ?_ | refine zB ?_ | refine zA ?_ | refine zS ?_ | refine zL ?_)
          refine qc ?_
          (repeat refine qb ?_); refine zU [] [(0, true), (1, true), (2, true), (3, true), (4, true), (5, true), (6, true), (7, true), (8, true), (9, true), (10, true), (11, true), (12, true), (13, true), (14, true), (15, true), (16, true), (17, true), (18, true), (19, true), (20, true), (21, true), (22, true), (23, true), (24, true), (25, true), (26, true), (27, true), (28, true), (29, true), (30, true), (31, true), (32, true), (33, true), (34, true), (35, true), (36, true), (37, true), (38, true), (39, true), (40, true), (41, true), (42, true), (43, true), (44, true), (45, true)] (by kernel_rfl) (by kernel_rfl) (by kernel_rfl) ?_
          repeat (first | refine yR ?_ | refine yK ?_ | refine yM ?_ | refine yB ?_ | refine yA ?_ | refine yS ?_ | refine yL ?_)
          refine zV qg rfl rfl rfl (by rw [lz]; omega) rfl ?_
          rw [zZ hkz, hzk]
          repeat (first | refine yR ?_ | refine yK ?_ | refine yM ?_ | refine yB ?_ | refine yA ?_ | refine yS ?_ | refine yL ?_)
          refine zV qg rfl rfl rfl (by rw [la]; omega) rfl ?_
          rw [zZ hlt', ← ht]
          repeat (first | refine yR ?_ | refine yK ?_ | refine yM ?_ | refine yB ?_ | refine yA ?_ | refine yS ?_ | refine yL ?_)
          rw [show (t.kind != t.kind) = false by simp]
          repeat (first | refine yR ?_ | refine yK ?_ | refine yM ?_ | refine yB ?_ | refine yA ?_ | refine yS ?_ | refine yL ?_)
          refine zV qg rfl rfl rfl (by rw [lz]; omega) rfl ?_
          rw [zZ hkz, hzk]
          repeat (first | refine yR ?_ | refine yK ?_ | refine yM ?_ | refine yB ?_ | refine yA ?_ | refine yS ?_ | refine yL ?_)
          refine zV qg rfl rfl rfl (by rw [la]; omega) rfl ?_
          rw [zZ hlt', ← ht]
          repeat (first | refine yR ?_ | refine yK ?_ | refine yM ?_ | refine yB ?_ | refine yA ?_ | refine yS ?_ | refine yL ?_)
          rw [show (!((⟨⟨t.s⟩⟩ : ByteArray).toList == (⟨⟨t.s⟩⟩ : ByteArray).toList)) = false by simp]
          repeat (first | refine yR ?_ | refine yK ?_ | refine yM ?_ | refine yB ?_ | refine yA ?_ | refine yS ?_ | refine yL ?_)
          refine zV qg rfl rfl rfl (by rw [lz]; omega) rfl ?_
          rw [zZ hkz, hzk]
          repeat (first | refine yR ?_ | refine yK ?_ | refine yM ?_ | refine yB ?_ | refine yA ?_ | refine yS ?_ | refine yL ?_)
          refine zV qg rfl rfl rfl (by rw [la]; omega) rfl ?_
          rw [zZ hlt', ← ht]
          repeat (first | refine yR ?_ | refine yK ?_ | refine yM ?_ | refine yB ?_ | refine yA ?_ | refine yS ?_ | refine yL ?_)
          rw [show (t.n != t.n) = false by simp]
          repeat (first | refine yR ?_ | refine yK ?_ | refine yM ?_ | refine yB ?_ | refine yA ?_ | refine yS ?_ | refine yL ?_)
          refine zV qg rfl rfl rfl (by rw [lz]; omega) rfl ?_
          rw [zZ hkz, hzk]
          repeat (first | refine yR ?_ | refine yK ?_ | refine yM ?_ | refine yB ?_ | refine yA ?_ | refine yS ?_ | refine yL ?_)
          rw [show (((q + s.length + 2 : Nat) : Int) != ((q + s.length + 2 : Nat) : Int)) = false by simp]
          repeat (first | refine yR ?_ | refine yK ?_ | refine yM ?_ | refine yB ?_ | refine yA ?_ | refine yS ?_ | refine yL ?_)
          refine jh ?_
          (repeat refine qb ?_); refine qe rfl (fun hf => ?_) (fun hf => ?_)
          · cases hf
          refine qq ?_
          (repeat refine qb ?_); refine qa ?_
          repeat (first | refine zR ?_ | refine zK ?_ | refine zM ?_ | refine zB ?_ | refine zA ?_ | refine zS ?_ | refine zL ?_)
          refine qc ?_
          refine ⟨_, _, ?_, qv [0, 2, 7, 8, 9, 12, 71, 72] [] rfl rfl, k + 1, _, hlt', rfl, zk hlt' (by omega), rfl⟩
          omega
        · rw [if_neg hlast] at hzk
          rw [show ((k : Int) == (a.length : Int) - 1) = false by rw [beq_eq_false_iff_ne]; omega]
          refine qc ?_
          (repeat refine qb ?_); refine qe rfl (fun he => ?_) (fun he => ?_)
          · cases he
          refine qq ?_
          (repeat refine qb ?_); refine zU [] [(0, true), (1, true), (2, true), (3, true), (4, true), (5, true), (6, true), (7, true), (8, true), (9, true), (10, true), (11, true), (12, true), (13, true), (14, true), (15, true), (16, true), (17, true), (18, true), (19, true), (20, true), (21, true), (22, true), (23, true), (24, true), (25, true), (26, true), (27, true), (28, true), (29, true), (30, true), (31, true), (32, true), (33, true), (34, true), (35, true), (36, true), (37, true), (38, true), (39, true), (40, true), (41, true), (42, true), (43, true), (44, true), (45, true)] (by kernel_rfl) (by kernel_rfl) (by kernel_rfl) ?_
          repeat (first | refine yR ?_ | refine yK ?_ | refine yM ?_ | refine yB ?_ | refine yA ?_ | refine yS ?_ | refine yL ?_)
          refine zV qg rfl rfl rfl (by rw [lz]; omega) rfl ?_
          rw [zZ hkz, hzk]
          repeat (first | refine yR ?_ | refine yK ?_ | refine yM ?_ | refine yB ?_ | refine yA ?_ | refine yS ?_ | refine yL ?_)
          refine zV qg rfl rfl rfl (by rw [la]; omega) rfl ?_
          rw [zZ hlt', ← ht]
          repeat (first | refine yR ?_ | refine yK ?_ | refine yM ?_ | refine yB ?_ | refine yA ?_ | refine yS ?_ | refine yL ?_)
          rw [show (t.kind != t.kind) = false by simp]
          repeat (first | refine yR ?_ | refine yK ?_ | refine yM ?_ | refine yB ?_ | refine yA ?_ | refine yS ?_ | refine yL ?_)
          refine zV qg rfl rfl rfl (by rw [lz]; omega) rfl ?_
          rw [zZ hkz, hzk]
          repeat (first | refine yR ?_ | refine yK ?_ | refine yM ?_ | refine yB ?_ | refine yA ?_ | refine yS ?_ | refine yL ?_)
          refine zV qg rfl rfl rfl (by rw [la]; omega) rfl ?_
          rw [zZ hlt', ← ht]
          repeat (first | refine yR ?_ | refine yK ?_ | refine yM ?_ | refine yB ?_ | refine yA ?_ | refine yS ?_ | refine yL ?_)
          rw [show (!((⟨⟨t.s⟩⟩ : ByteArray).toList == (⟨⟨t.s⟩⟩ : ByteArray).toList)) = false by simp]
          repeat (first | refine yR ?_ | refine yK ?_ | refine yM ?_ | refine yB ?_ | refine yA ?_ | refine yS ?_ | refine yL ?_)
          refine zV qg rfl rfl rfl (by rw [lz]; omega) rfl ?_
          rw [zZ hkz, hzk]
          repeat (first | refine yR ?_ | refine yK ?_ | refine yM ?_ | refine yB ?_ | refine yA ?_ | refine yS ?_ | refine yL ?_)
          refine zV qg rfl rfl rfl (by rw [la]; omega) rfl ?_
          rw [zZ hlt', ← ht]
          repeat (first | refine yR ?_ | refine yK ?_ | refine yM ?_ | refine yB ?_ | refine yA ?_ | refine yS ?_ | refine yL ?_)
          rw [show (t.n != t.n) = false by simp]
          repeat (first | refine yR ?_ | refine yK ?_ | refine yM ?_ | refine yB ?_ | refine yA ?_ | refine yS ?_ | refine yL ?_)
          refine zV qg rfl rfl rfl (by rw [lz]; omega) rfl ?_
          rw [zZ hkz, hzk]
          repeat (first | refine yR ?_ | refine yK ?_ | refine yM ?_ | refine yB ?_ | refine yA ?_ | refine yS ?_ | refine yL ?_)
          rw [show (((t.at_ + q : Nat) : Int) != ((t.at_ + q : Nat) : Int)) = false by simp]
          repeat (first | refine yR ?_ | refine yK ?_ | refine yM ?_ | refine yB ?_ | refine yA ?_ | refine yS ?_ | refine yL ?_)
          refine jh ?_
          (repeat refine qb ?_); refine qe rfl (fun hf => ?_) (fun hf => ?_)
          · cases hf
          refine qq ?_
          (repeat refine qb ?_); refine qa ?_
          repeat (first | refine zR ?_ | refine zK ?_ | refine zM ?_ | refine zB ?_ | refine zA ?_ | refine zS ?_ | refine zL ?_)
          refine qc ?_
          refine ⟨_, _, ?_, qv [0, 2, 7, 8, 9, 12, 71, 72] [] rfl rfl, k + 1, _, hlt', rfl, zk hlt' (by omega), rfl⟩
          omega
      · refine ji ?_
        refine SW.wk (qv [2, 7, 8] [] rfl rfl) ?_
        (repeat refine qb ?_); refine qa ?_
        refine SWT.mono (Q' := fun st => Wk st ⟨198, [(2, .p (pU c)), (7, .p (pI (q : Int))), (8, .p (pL (ja q))), (17, .p (pB (zY c)))], []⟩) ?_ fun st hst => SW.wk hst ?_
        · repeat (first | refine zR ?_ | refine zK ?_ | refine zM ?_ | refine zB ?_ | refine zA ?_ | refine zS ?_ | refine zL ?_)
          by_cases c1 : 65 ≤ c.toNat
          · rw [show decide ((c.toNat : Int) ≥ 65) = true by simp; omega]
            repeat (first | refine zR ?_ | refine zK ?_ | refine zM ?_ | refine zB ?_ | refine zA ?_ | refine zS ?_ | refine zL ?_)
            by_cases c2 : c.toNat ≤ 90
            · rw [show decide ((c.toNat : Int) ≤ 90) = true by simp; omega]
              rw [show zY c = true by simp [zY, c1, c2]]
              repeat (first | refine zR ?_ | refine zK ?_ | refine zM ?_ | refine zB ?_ | refine zA ?_ | refine zS ?_ | refine zL ?_)
              refine qc ?_
              exact qv [2, 7, 8, 17] [] rfl rfl
            rw [show decide ((c.toNat : Int) ≤ 90) = false by simp; omega]
            repeat (first | refine zR ?_ | refine zK ?_ | refine zM ?_ | refine zB ?_ | refine zA ?_ | refine zS ?_ | refine zL ?_)
            by_cases c3 : 126 < c.toNat
            · rw [show decide ((c.toNat : Int) > 126) = true by simp; omega]
              rw [show zY c = true by simp [zY, c3]]
              repeat (first | refine zR ?_ | refine zK ?_ | refine zM ?_ | refine zB ?_ | refine zA ?_ | refine zS ?_ | refine zL ?_)
              refine qc ?_
              exact qv [2, 7, 8, 17] [] rfl rfl
            rw [show decide ((c.toNat : Int) > 126) = false by simp; omega]
            repeat (first | refine zR ?_ | refine zK ?_ | refine zM ?_ | refine zB ?_ | refine zA ?_ | refine zS ?_ | refine zL ?_)
            by_cases c4 : c.toNat < 32
            · rw [show decide ((c.toNat : Int) < 32) = true by simp; omega]
              repeat (first | refine zR ?_ | refine zK ?_ | refine zM ?_ | refine zB ?_ | refine zA ?_ | refine zS ?_ | refine zL ?_)
              by_cases c5 : c.toNat = 10
              · rw [show ((c.toNat : Int) != 10) = false by rw [c5]; rfl]
                repeat (first | refine zR ?_ | refine zK ?_ | refine zM ?_ | refine zB ?_ | refine zA ?_ | refine zS ?_ | refine zL ?_)
                by_cases c6 : c.toNat = 36
                · rw [show ((c.toNat : Int) == 36) = true by rw [beq_iff_eq]; omega]
                  rw [show zY c = true by simp [zY, c6]]
                  repeat (first | refine zR ?_ | refine zK ?_ | refine zM ?_ | refine zB ?_ | refine zA ?_ | refine zS ?_ | refine zL ?_)
                  refine qc ?_
                  exact qv [2, 7, 8, 17] [] rfl rfl
                rw [show ((c.toNat : Int) == 36) = false by rw [beq_eq_false_iff_ne]; omega]
                repeat (first | refine zR ?_ | refine zK ?_ | refine zM ?_ | refine zB ?_ | refine zA ?_ | refine zS ?_ | refine zL ?_)
                by_cases c7 : c.toNat = 47
                · rw [show ((c.toNat : Int) == 47) = true by rw [beq_iff_eq]; omega]
                  rw [show zY c = true by simp [zY, c7]]
                  repeat (first | refine zR ?_ | refine zK ?_ | refine zM ?_ | refine zB ?_ | refine zA ?_ | refine zS ?_ | refine zL ?_)
                  refine qc ?_
                  exact qv [2, 7, 8, 17] [] rfl rfl
                rw [show ((c.toNat : Int) == 47) = false by rw [beq_eq_false_iff_ne]; omega]
                repeat (first | refine zR ?_ | refine zK ?_ | refine zM ?_ | refine zB ?_ | refine zA ?_ | refine zS ?_ | refine zL ?_)
                by_cases c8 : c.toNat = 95
                · rw [show ((c.toNat : Int) == 95) = true by rw [beq_iff_eq]; omega]
                  rw [show zY c = true by simp [zY, c8]]
                  repeat (first | refine zR ?_ | refine zK ?_ | refine zM ?_ | refine zB ?_ | refine zA ?_ | refine zS ?_ | refine zL ?_)
                  refine qc ?_
                  exact qv [2, 7, 8, 17] [] rfl rfl
                rw [show ((c.toNat : Int) == 95) = false by rw [beq_eq_false_iff_ne]; omega]
                repeat (first | refine zR ?_ | refine zK ?_ | refine zM ?_ | refine zB ?_ | refine zA ?_ | refine zS ?_ | refine zL ?_)
                by_cases c9 : c.toNat = 91
                · rw [show ((c.toNat : Int) == 91) = true by rw [beq_iff_eq]; omega]
                  rw [show zY c = true by simp [zY, c9]]
                  repeat (first | refine zR ?_ | refine zK ?_ | refine zM ?_ | refine zB ?_ | refine zA ?_ | refine zS ?_ | refine zL ?_)
                  refine qc ?_
                  exact qv [2, 7, 8, 17] [] rfl rfl
                rw [show ((c.toNat : Int) == 91) = false by rw [beq_eq_false_iff_ne]; omega]
                rw [show zY c = false by simp [zY, c6, c7, c8, c9]; omega]
                repeat (first | refine zR ?_ | refine zK ?_ | refine zM ?_ | refine zB ?_ | refine zA ?_ | refine zS ?_ | refine zL ?_)
                refine qc ?_
                exact qv [2, 7, 8, 17] [] rfl rfl
              · rw [show ((c.toNat : Int) != 10) = true by rw [bne_iff_ne]; omega]
                rw [show zY c = true by simp [zY, c4, c5]]
                repeat (first | refine zR ?_ | refine zK ?_ | refine zM ?_ | refine zB ?_ | refine zA ?_ | refine zS ?_ | refine zL ?_)
                refine qc ?_
                exact qv [2, 7, 8, 17] [] rfl rfl
            · rw [show decide ((c.toNat : Int) < 32) = false by simp; omega]
              repeat (first | refine zR ?_ | refine zK ?_ | refine zM ?_ | refine zB ?_ | refine zA ?_ | refine zS ?_ | refine zL ?_)
              by_cases c6 : c.toNat = 36
              · rw [show ((c.toNat : Int) == 36) = true by rw [beq_iff_eq]; omega]
                rw [show zY c = true by simp [zY, c6]]
                repeat (first | refine zR ?_ | refine zK ?_ | refine zM ?_ | refine zB ?_ | refine zA ?_ | refine zS ?_ | refine zL ?_)
                refine qc ?_
                exact qv [2, 7, 8, 17] [] rfl rfl
              rw [show ((c.toNat : Int) == 36) = false by rw [beq_eq_false_iff_ne]; omega]
              repeat (first | refine zR ?_ | refine zK ?_ | refine zM ?_ | refine zB ?_ | refine zA ?_ | refine zS ?_ | refine zL ?_)
              by_cases c7 : c.toNat = 47
              · rw [show ((c.toNat : Int) == 47) = true by rw [beq_iff_eq]; omega]
                rw [show zY c = true by simp [zY, c7]]
                repeat (first | refine zR ?_ | refine zK ?_ | refine zM ?_ | refine zB ?_ | refine zA ?_ | refine zS ?_ | refine zL ?_)
                refine qc ?_
                exact qv [2, 7, 8, 17] [] rfl rfl
              rw [show ((c.toNat : Int) == 47) = false by rw [beq_eq_false_iff_ne]; omega]
              repeat (first | refine zR ?_ | refine zK ?_ | refine zM ?_ | refine zB ?_ | refine zA ?_ | refine zS ?_ | refine zL ?_)
              by_cases c8 : c.toNat = 95
              · rw [show ((c.toNat : Int) == 95) = true by rw [beq_iff_eq]; omega]
                rw [show zY c = true by simp [zY, c8]]
                repeat (first | refine zR ?_ | refine zK ?_ | refine zM ?_ | refine zB ?_ | refine zA ?_ | refine zS ?_ | refine zL ?_)
                refine qc ?_
                exact qv [2, 7, 8, 17] [] rfl rfl
              rw [show ((c.toNat : Int) == 95) = false by rw [beq_eq_false_iff_ne]; omega]
              repeat (first | refine zR ?_ | refine zK ?_ | refine zM ?_ | refine zB ?_ | refine zA ?_ | refine zS ?_ | refine zL ?_)
              by_cases c9 : c.toNat = 91
              · rw [show ((c.toNat : Int) == 91) = true by rw [beq_iff_eq]; omega]
                rw [show zY c = true by simp [zY, c9]]
                repeat (first | refine zR ?_ | refine zK ?_ | refine zM ?_ | refine zB ?_ | refine zA ?_ | refine zS ?_ | refine zL ?_)
                refine qc ?_
                exact qv [2, 7, 8, 17] [] rfl rfl
              rw [show ((c.toNat : Int) == 91) = false by rw [beq_eq_false_iff_ne]; omega]
              rw [show zY c = false by simp [zY, c6, c7, c8, c9]; omega]
              repeat (first | refine zR ?_ | refine zK ?_ | refine zM ?_ | refine zB ?_ | refine zA ?_ | refine zS ?_ | refine zL ?_)
              refine qc ?_
              exact qv [2, 7, 8, 17] [] rfl rfl
          · rw [show decide ((c.toNat : Int) ≥ 65) = false by simp; omega]
            repeat (first | refine zR ?_ | refine zK ?_ | refine zM ?_ | refine zB ?_ | refine zA ?_ | refine zS ?_ | refine zL ?_)
            by_cases c3 : 126 < c.toNat
            · rw [show decide ((c.toNat : Int) > 126) = true by simp; omega]
              rw [show zY c = true by simp [zY, c3]]
              repeat (first | refine zR ?_ | refine zK ?_ | refine zM ?_ | refine zB ?_ | refine zA ?_ | refine zS ?_ | refine zL ?_)
              refine qc ?_
              exact qv [2, 7, 8, 17] [] rfl rfl
            rw [show decide ((c.toNat : Int) > 126) = false by simp; omega]
            repeat (first | refine zR ?_ | refine zK ?_ | refine zM ?_ | refine zB ?_ | refine zA ?_ | refine zS ?_ | refine zL ?_)
            by_cases c4 : c.toNat < 32
            · rw [show decide ((c.toNat : Int) < 32) = true by simp; omega]
              repeat (first | refine zR ?_ | refine zK ?_ | refine zM ?_ | refine zB ?_ | refine zA ?_ | refine zS ?_ | refine zL ?_)
              by_cases c5 : c.toNat = 10
              · rw [show ((c.toNat : Int) != 10) = false by rw [c5]; rfl]
                repeat (first | refine zR ?_ | refine zK ?_ | refine zM ?_ | refine zB ?_ | refine zA ?_ | refine zS ?_ | refine zL ?_)
                by_cases c6 : c.toNat = 36
                · rw [show ((c.toNat : Int) == 36) = true by rw [beq_iff_eq]; omega]
                  rw [show zY c = true by simp [zY, c6]]
                  repeat (first | refine zR ?_ | refine zK ?_ | refine zM ?_ | refine zB ?_ | refine zA ?_ | refine zS ?_ | refine zL ?_)
                  refine qc ?_
                  exact qv [2, 7, 8, 17] [] rfl rfl
                rw [show ((c.toNat : Int) == 36) = false by rw [beq_eq_false_iff_ne]; omega]
                repeat (first | refine zR ?_ | refine zK ?_ | refine zM ?_ | refine zB ?_ | refine zA ?_ | refine zS ?_ | refine zL ?_)
                by_cases c7 : c.toNat = 47
                · rw [show ((c.toNat : Int) == 47) = true by rw [beq_iff_eq]; omega]
                  rw [show zY c = true by simp [zY, c7]]
                  repeat (first | refine zR ?_ | refine zK ?_ | refine zM ?_ | refine zB ?_ | refine zA ?_ | refine zS ?_ | refine zL ?_)
                  refine qc ?_
                  exact qv [2, 7, 8, 17] [] rfl rfl
                rw [show ((c.toNat : Int) == 47) = false by rw [beq_eq_false_iff_ne]; omega]
                repeat (first | refine zR ?_ | refine zK ?_ | refine zM ?_ | refine zB ?_ | refine zA ?_ | refine zS ?_ | refine zL ?_)
                by_cases c8 : c.toNat = 95
                · rw [show ((c.toNat : Int) == 95) = true by rw [beq_iff_eq]; omega]
                  rw [show zY c = true by simp [zY, c8]]
                  repeat (first | refine zR ?_ | refine zK ?_ | refine zM ?_ | refine zB ?_ | refine zA ?_ | refine zS ?_ | refine zL ?_)
                  refine qc ?_
                  exact qv [2, 7, 8, 17] [] rfl rfl
                rw [show ((c.toNat : Int) == 95) = false by rw [beq_eq_false_iff_ne]; omega]
                repeat (first | refine zR ?_ | refine zK ?_ | refine zM ?_ | refine zB ?_ | refine zA ?_ | refine zS ?_ | refine zL ?_)
                by_cases c9 : c.toNat = 91
                · rw [show ((c.toNat : Int) == 91) = true by rw [beq_iff_eq]; omega]
                  rw [show zY c = true by simp [zY, c9]]
                  repeat (first | refine zR ?_ | refine zK ?_ | refine zM ?_ | refine zB ?_ | refine zA ?_ | refine zS ?_ | refine zL ?_)
                  refine qc ?_
                  exact qv [2, 7, 8, 17] [] rfl rfl
                rw [show ((c.toNat : Int) == 91) = false by rw [beq_eq_false_iff_ne]; omega]
                rw [show zY c = false by simp [zY, c6, c7, c8, c9]; omega]
                repeat (first | refine zR ?_ | refine zK ?_ | refine zM ?_ | refine zB ?_ | refine zA ?_ | refine zS ?_ | refine zL ?_)
                refine qc ?_
                exact qv [2, 7, 8, 17] [] rfl rfl
              · rw [show ((c.toNat : Int) != 10) = true by rw [bne_iff_ne]; omega]
                rw [show zY c = true by simp [zY, c4, c5]]
                repeat (first | refine zR ?_ | refine zK ?_ | refine zM ?_ | refine zB ?_ | refine zA ?_ | refine zS ?_ | refine zL ?_)
                refine qc ?_
                exact qv [2, 7, 8, 17] [] rfl rfl
            · rw [show decide ((c.toNat : Int) < 32) = false by simp; omega]
              repeat (first | refine zR ?_ | refine zK ?_ | refine zM ?_ | refine zB ?_ | refine zA ?_ | refine zS ?_ | refine zL ?_)
              by_cases c6 : c.toNat = 36
              · rw [show ((c.toNat : Int) == 36) = true by rw [beq_iff_eq]; omega]
                rw [show zY c = true by simp [zY, c6]]
                repeat (first | refine zR ?_ | refine zK ?_ | refine zM ?_ | refine zB ?_ | refine zA ?_ | refine zS ?_ | refine zL ?_)
                refine qc ?_
                exact qv [2, 7, 8, 17] [] rfl rfl
              rw [show ((c.toNat : Int) == 36) = false by rw [beq_eq_false_iff_ne]; omega]
              repeat (first | refine zR ?_ | refine zK ?_ | refine zM ?_ | refine zB ?_ | refine zA ?_ | refine zS ?_ | refine zL ?_)
              by_cases c7 : c.toNat = 47
              · rw [show ((c.toNat : Int) == 47) = true by rw [beq_iff_eq]; omega]
                rw [show zY c = true by simp [zY, c7]]
                repeat (first | refine zR ?_ | refine zK ?_ | refine zM ?_ | refine zB ?_ | refine zA ?_ | refine zS ?_ | refine zL ?_)
                refine qc ?_
                exact qv [2, 7, 8, 17] [] rfl rfl
              rw [show ((c.toNat : Int) == 47) = false by rw [beq_eq_false_iff_ne]; omega]
              repeat (first | refine zR ?_ | refine zK ?_ | refine zM ?_ | refine zB ?_ | refine zA ?_ | refine zS ?_ | refine zL ?_)
              by_cases c8 : c.toNat = 95
              · rw [show ((c.toNat : Int) == 95) = true by rw [beq_iff_eq]; omega]
                rw [show zY c = true by simp [zY, c8]]
                repeat (first | refine zR ?_ | refine zK ?_ | refine zM ?_ | refine zB ?_ | refine zA ?_ | refine zS ?_ | refine zL ?_)
                refine qc ?_
                exact qv [2, 7, 8, 17] [] rfl rfl
              rw [show ((c.toNat : Int) == 95) = false by rw [beq_eq_false_iff_ne]; omega]
              repeat (first | refine zR ?_ | refine zK ?_ | refine zM ?_ | refine zB ?_ | refine zA ?_ | refine zS ?_ | refine zL ?_)
              by_cases c9 : c.toNat = 91
              · rw [show ((c.toNat : Int) == 91) = true by rw [beq_iff_eq]; omega]
                rw [show zY c = true by simp [zY, c9]]
                repeat (first | refine zR ?_ | refine zK ?_ | refine zM ?_ | refine zB ?_ | refine zA ?_ | refine zS ?_ | refine zL ?_)
                refine qc ?_
                exact qv [2, 7, 8, 17] [] rfl rfl
              rw [show ((c.toNat : Int) == 91) = false by rw [beq_eq_false_iff_ne]; omega]
              rw [show zY c = false by simp [zY, c6, c7, c8, c9]; omega]
              repeat (first | refine zR ?_ | refine zK ?_ | refine zM ?_ | refine zB ?_ | refine zA ?_ | refine zS ?_ | refine zL ?_)
              refine qc ?_
              exact qv [2, 7, 8, 17] [] rfl rfl
        · have HB := all_l (ja q ++ c :: [120]) (by rw [List.length_append, hq5.2]; simp; omega)
          cases ho : zY c with
          | true =>
            rw [lex_odd ho (ja q) hq5.1 [120], hq5.2] at HB
            (repeat refine qb ?_); refine qa ?_
            repeat (first | refine zR ?_ | refine zK ?_ | refine zM ?_ | refine zB ?_ | refine zA ?_ | refine zS ?_ | refine zL ?_)
            refine qi rfl (je qg (b := [c]) rfl rfl rfl rfl rfl rfl rfl ?_)
            repeat (first | refine zR ?_ | refine zK ?_ | refine zM ?_ | refine zB ?_ | refine zA ?_ | refine zS ?_ | refine zL ?_)
            refine ql qg rfl rfl (jc (a := ja q) (b := [c]) (by rw [hq5.2]; omega) (by simp)) rfl ?_
            rw [jd]
            repeat (first | refine zR ?_ | refine zK ?_ | refine zM ?_ | refine zB ?_ | refine zA ?_ | refine zS ?_ | refine zL ?_)
            refine ql qg rfl rfl (jc (a := ja q ++ [c]) (b := [120]) (by rw [List.length_append, hq5.2]; simp; omega) (by simp)) rfl ?_
            rw [show (⟨⟨ja q ++ [c]⟩⟩ : ByteArray) ++ ⟨#[120]⟩ = ⟨⟨ja q ++ c :: [120]⟩⟩ from (jd _ [120]).trans (by rw [List.append_assoc]; rfl)]
            repeat (first | refine zR ?_ | refine zK ?_ | refine zM ?_ | refine zB ?_ | refine zA ?_ | refine zS ?_ | refine zL ?_)
            refine qi rfl (zT rfl rfl rfl rfl (HB) rfl rfl rfl ?_)
            repeat (first | refine zR ?_ | refine zK ?_ | refine zM ?_ | refine zB ?_ | refine zA ?_ | refine zS ?_ | refine zL ?_)
            repeat (first | refine zR ?_ | refine zK ?_ | refine zM ?_ | refine zB ?_ | refine zA ?_ | refine zS ?_ | refine zL ?_)
            refine qc ?_
            (repeat refine qb ?_); refine qa ?_
            repeat (first | refine zR ?_ | refine zK ?_ | refine zM ?_ | refine zB ?_ | refine zA ?_ | refine zS ?_ | refine zL ?_)
            rw [show ((q : Int) == (q : Int)) = true by simp]
            repeat (first | refine zR ?_ | refine zK ?_ | refine zM ?_ | refine zB ?_ | refine zA ?_ | refine zS ?_ | refine zL ?_)
            refine qi rfl (qd rfl rfl rfl rfl (zW) rfl rfl ?_)
            repeat (first | refine zR ?_ | refine zK ?_ | refine zM ?_ | refine zB ?_ | refine zA ?_ | refine zS ?_ | refine zL ?_)
            repeat (first | refine zR ?_ | refine zK ?_ | refine zM ?_ | refine zB ?_ | refine zA ?_ | refine zS ?_ | refine zL ?_)
            refine qc ?_
            (repeat refine qb ?_); refine qj ?_
            exact jf rfl rfl
          | false =>
            cases hl : lexL (ja q ++ c :: [120]) with
            | error e =>
              rw [hl] at HB
              (repeat refine qb ?_); refine qa ?_
              repeat (first | refine zR ?_ | refine zK ?_ | refine zM ?_ | refine zB ?_ | refine zA ?_ | refine zS ?_ | refine zL ?_)
              refine qi rfl (je qg (b := [c]) rfl rfl rfl rfl rfl rfl rfl ?_)
              repeat (first | refine zR ?_ | refine zK ?_ | refine zM ?_ | refine zB ?_ | refine zA ?_ | refine zS ?_ | refine zL ?_)
              refine ql qg rfl rfl (jc (a := ja q) (b := [c]) (by rw [hq5.2]; omega) (by simp)) rfl ?_
              rw [jd]
              repeat (first | refine zR ?_ | refine zK ?_ | refine zM ?_ | refine zB ?_ | refine zA ?_ | refine zS ?_ | refine zL ?_)
              refine ql qg rfl rfl (jc (a := ja q ++ [c]) (b := [120]) (by rw [List.length_append, hq5.2]; simp; omega) (by simp)) rfl ?_
              rw [show (⟨⟨ja q ++ [c]⟩⟩ : ByteArray) ++ ⟨#[120]⟩ = ⟨⟨ja q ++ c :: [120]⟩⟩ from (jd _ [120]).trans (by rw [List.append_assoc]; rfl)]
              repeat (first | refine zR ?_ | refine zK ?_ | refine zM ?_ | refine zB ?_ | refine zA ?_ | refine zS ?_ | refine zL ?_)
              refine qi rfl (zT rfl rfl rfl rfl (HB) rfl rfl rfl ?_)
              repeat (first | refine zR ?_ | refine zK ?_ | refine zM ?_ | refine zB ?_ | refine zA ?_ | refine zS ?_ | refine zL ?_)
              repeat (first | refine zR ?_ | refine zK ?_ | refine zM ?_ | refine zB ?_ | refine zA ?_ | refine zS ?_ | refine zL ?_)
              refine qc ?_
              (repeat refine qb ?_); refine qa ?_
              repeat (first | refine zR ?_ | refine zK ?_ | refine zM ?_ | refine zB ?_ | refine zA ?_ | refine zS ?_ | refine zL ?_)
              repeat (first | refine zR ?_ | refine zK ?_ | refine zM ?_ | refine zB ?_ | refine zA ?_ | refine zS ?_ | refine zL ?_)
              refine qi rfl (qd rfl rfl rfl rfl (zW) rfl rfl ?_)
              repeat (first | refine zR ?_ | refine zK ?_ | refine zM ?_ | refine zB ?_ | refine zA ?_ | refine zS ?_ | refine zL ?_)
              repeat (first | refine zR ?_ | refine zK ?_ | refine zM ?_ | refine zB ?_ | refine zA ?_ | refine zS ?_ | refine zL ?_)
              refine qc ?_
              (repeat refine qb ?_); refine qj ?_
              exact jf rfl rfl
            | ok y =>
              rw [hl] at HB
              (repeat refine qb ?_); refine qa ?_
              repeat (first | refine zR ?_ | refine zK ?_ | refine zM ?_ | refine zB ?_ | refine zA ?_ | refine zS ?_ | refine zL ?_)
              refine qi rfl (je qg (b := [c]) rfl rfl rfl rfl rfl rfl rfl ?_)
              repeat (first | refine zR ?_ | refine zK ?_ | refine zM ?_ | refine zB ?_ | refine zA ?_ | refine zS ?_ | refine zL ?_)
              refine ql qg rfl rfl (jc (a := ja q) (b := [c]) (by rw [hq5.2]; omega) (by simp)) rfl ?_
              rw [jd]
              repeat (first | refine zR ?_ | refine zK ?_ | refine zM ?_ | refine zB ?_ | refine zA ?_ | refine zS ?_ | refine zL ?_)
              refine ql qg rfl rfl (jc (a := ja q ++ [c]) (b := [120]) (by rw [List.length_append, hq5.2]; simp; omega) (by simp)) rfl ?_
              rw [show (⟨⟨ja q ++ [c]⟩⟩ : ByteArray) ++ ⟨#[120]⟩ = ⟨⟨ja q ++ c :: [120]⟩⟩ from (jd _ [120]).trans (by rw [List.append_assoc]; rfl)]
              repeat (first | refine zR ?_ | refine zK ?_ | refine zM ?_ | refine zB ?_ | refine zA ?_ | refine zS ?_ | refine zL ?_)
              refine qi rfl (zT rfl rfl rfl rfl (HB) rfl rfl rfl ?_)
              repeat (first | refine zR ?_ | refine zK ?_ | refine zM ?_ | refine zB ?_ | refine zA ?_ | refine zS ?_ | refine zL ?_)
              repeat (first | refine zR ?_ | refine zK ?_ | refine zM ?_ | refine zB ?_ | refine zA ?_ | refine zS ?_ | refine zL ?_)
              refine qc ?_
              (repeat refine qb ?_); refine qa ?_
              repeat (first | refine zR ?_ | refine zK ?_ | refine zM ?_ | refine zB ?_ | refine zA ?_ | refine zS ?_ | refine zL ?_)
              repeat (first | refine zR ?_ | refine zK ?_ | refine zM ?_ | refine zB ?_ | refine zA ?_ | refine zS ?_ | refine zL ?_)
              refine qi rfl (qd rfl rfl rfl rfl (zW) rfl rfl ?_)
              repeat (first | refine zR ?_ | refine zK ?_ | refine zM ?_ | refine zB ?_ | refine zA ?_ | refine zS ?_ | refine zL ?_)
              repeat (first | refine zR ?_ | refine zK ?_ | refine zM ?_ | refine zB ?_ | refine zA ?_ | refine zS ?_ | refine zL ?_)
              refine qc ?_
              (repeat refine qb ?_); refine qj ?_
              exact jf rfl rfl
end Go.Proofs.YtnojoaneboppnaaDoor
namespace Go.Proofs.YtnojoaneboppnaaDoor
set_option linter.unusedVariables false
set_option linter.unusedSimpArgs false
open Go.RowKit
inductive RelsP (w : World) : List PV → List Value → Prop
  | nil : RelsP w [] []
  | cons {x : PV} {u : Value} {xs : List PV} {us : List Value} (h : RelP (fun _ => True) w x u) (r : RelsP w xs us) : RelsP w (x :: xs) (u :: us)
theorem RelsP.get {w : World} {xs : List PV} {us : List Value} (h : RelsP w xs us) : us.length = xs.length ∧ ∀ (i : Nat) (s : PV) (u : Value), xs[i]? = some s → us[i]? = some u → RelP (fun _ => True) w s u := by
  induction h with
  | nil => exact ⟨rfl, fun i s u h => by simp at h⟩
  | cons h r ih =>
    refine ⟨by simp [ih.1], fun i s u hs hu => ?_⟩
    cases i with
    | zero => simp at hs hu; subst hs; subst hu; exact h
    | succ i => exact ih.2 i s u (by simpa using hs) (by simpa using hu)
theorem law_callsG {P : Program} {f : FuncId} {args : List PV} {us : List Value} {W : World} (hg : GlOk (entry W) fun _ => False) (H : Holds P f args (.p (.v (.bool true))) []) (hr : RelsP W args us) : Calls P f us.toArray W fun e w' => e = .returned (.bool true) ∧ Below W.heap.size W w' := by
  obtain ⟨h1, h2⟩ := hr.get
  refine (H.2 W (fun _ => False) us ⟨fun _ h => h.elim, hg⟩ h1 fun i s u hs hu => (h2 i s u hs hu).weak fun _ _ _ => fun h => h).mono fun e w' ⟨v, γ, he, hb, _, hv⟩ => ?_
  have := hv.v_inv
  subst this
  exact ⟨he, hb⟩
theorem rel_int {w : World} (k : IntKind) (n : Int) : RelP (fun _ => True) w (.v (.int k n)) (.int k n) := .v rfl
theorem rel_str {w : World} (n : ByteArray) : RelP (fun _ => True) w (.v (.string n)) (.string n) := .v rfl
end Go.Proofs.YtnojoaneboppnaaDoor
namespace Go.Proofs.YtnojoaneboppnaaDoor
set_option linter.unusedSimpArgs false
open Go.ChangeShapes Go.WideShapes Go.ChangeAt Go.RowKit
set_option linter.unusedVariables false
theorem law_liftL {H : Type} {enc : TypeId × Value → H} {C : Checked} {os : Os} {f : FuncId} {fn : Func} {s : ChangeSpec} {bt : TypeId} {laid : List (String × DataW Unit)}
    (own : ownKnob C.prog.godebug = none) (started : os.Started) (noInit : C.prog.inits.idxOf? f = none) (hfn : C.prog.funcs[f]? = some fn)
    (witness : ∃ (w : World) (tape : Tape) (i : Input), w.os = os ∧ (w.forCall tape i).Shaped C.prog ∧ i.vars = [] ∧ Input.okWide C.prog (w.forCall tape i) .any w.heap.size f i ∧
      ((s.pre enc C.prog fn [] false (w.forCall tape i).memory i.args ∧ laidMetH C.prog laid (w.forCall tape i).memory) ∧ sizedMet enc C.prog fn (OpenSpec.ofChange s) false (w.forCall tape i).memory i.args) ∧ ({} : Assume).holds C.prog (lone (Frame.enter C.prog f i.args .normal) [] (w.forCall tape i)))
    (hl : laidOutB C.prog = true) (hts : ∀ t ∈ fn.params.toList, C.prog.readableRec t = true ∧ t < C.prog.types.size) (hvars : s.vars = []) (hvt : s.plain.varTypes C.prog = [])
    (hspec : ∀ (W : World) (args : Array Value) (ds : List (DataW H)) (ps : List MemPlace), DataW.TrodAll enc C.prog W 0 (fun _ => true) true fn.params.toList args.toList ds ps → s.fn H ds = { results := [.lit (.bool true)], args := ds })
    (hres : fn.resultTypes = #[bt]) (hbt : C.prog.underlying bt = some .bool)
    (walk : ∀ (W : World) (base : Nat) (args : Array Value) (ds : List (DataW H)) (ps : List MemPlace), laidMetH C.prog laid W →
      (∀ (j : Nat) t v, fn.params[j]? = some t → args[j]? = some v → Value.okWide C.prog W .any base t v) →
      DataW.TrodAll enc C.prog W 0 (fun _ => true) true fn.params.toList args.toList ds ps →
      (∀ n ∈ DataW.weightsEach C.prog fn.params.toList ds, n ≤ reachBytes) →
      Calls C.prog f args W fun e W' => e = .returned (.bool true) ∧ Below W.heap.size W W') :
    ReturnsInHanded {} C os f .any (fun w args => (s.pre enc C.prog fn [] false w args ∧ laidMetH C.prog laid w) ∧ sizedMet enc C.prog fn (OpenSpec.ofChange s) false w args) (s.post enc C.prog fn false true false false) := by
  refine returnsInHanded_of_change_and (X := fun w _ => laidMetH C.prog laid w) (fun _ _ _ hh h => h.of_heap hh) own started noInit hfn witness ?_
  intro W base args ds gs before hval hW _ hsz hL _
  have hlt : ∀ p ∈ before, p.block < W.heap.size := fun p hp => hW.lt p hp
  have hW0 := hW
  obtain ⟨p, q, hA, hV, rfl, hz, hn⟩ := hW0
  rw [hvars] at hV
  obtain ⟨rfl, rfl⟩ := trodVars_none hV
  have hsp := hspec W args ds p hA
  refine (walk W base args ds p hL hval hA ?_).mono fun e W' ⟨he, hb⟩ => ?_
  · intro n hn
    rw [hvt, List.append_nil, List.append_nil] at hsz
    exact of_decide_eq_true (List.all_eq_true.1 hsz n hn)
  · subst he
    refine ⟨_, rfl, ds, [], p ++ [], [], p, [], hW, ?_, ?_, ?_, World.keptBut_mono (fun x hx => ⟨hx, Or.inr (Or.inl (by simpa using hx))⟩) (hb.frame (· ∈ p ++ [])), fun h => by cases h⟩
    · rw [List.append_nil, hsp, hres]
      exact trodAll_mk1 (shut_bool hbt _)
    · rw [List.append_nil, hsp]
      exact trodAll_below hl hb hts (fun x hx => hlt x (by simpa using hx)) (fun x hx => by simpa using hlt x (by simpa using hx)) hA
    · rw [List.append_nil, hsp, hvars]
      rfl
theorem qN {P : Program} {x : String × DataW Unit} {l : List (String × DataW Unit)} {W : World} (h : laidMet P (x :: l) W) : laidMet P l W := by
  obtain ⟨ps, ⟨g, t, cs, fuel, p, q, h1, h2, h3, h4, h5, h6⟩, hn, hb⟩ := h
  subst h6
  exact ⟨q, h5, (List.nodup_append.1 hn).2.1, fun b off hm => hb b off (List.mem_append_right _ hm)⟩
theorem block_of_tab {P : Program} {W : World} {name : String} {k : IntKind} {zs : List Int} {g : Nat} (h : Lib.TabIs P W name k zs) (hg : P.globalNamed name = some g) {us : List Value} (hu : us = zs.map fun z => Value.int k z) : g < W.heap.size ∧ ∃ ty m, W.heap[g]? = some (.cells us.toArray ty m) := by
  unfold Lib.TabIs World.var? at h
  rw [hg] at h
  simp only [Option.bind_some] at h
  split at h
  · rename_i cs ty m hb
    cases h
    exact ⟨(Array.getElem?_eq_some_iff.1 hb).1, ty, m, by rw [hb, hu]⟩
  · cases h
theorem err_of_reads {P : Program} {W : World} {name nm : String} {g t : Nat} {ms : Array (String × TypeId)} {d : DataW Unit} (hg : P.globalNamed name = some g) (ht : (P.globals[g]?).map (·.type) = some t) (hu : P.underlying t = some (.interface ms)) (h : Lib.VarReads P W name (.iface nm d)) :
    g < W.heap.size ∧ ∃ ev ty m, W.heap[g]? = some (.cells #[ev] ty m) ∧ errV ev = true := by
  obtain ⟨g', t', cs, fuel, p, h1, h2, h3, h4⟩ := h
  rw [hg] at h1
  cases h1
  rw [ht] at h2
  cases h2
  have hc : ∃ u v, cs.toList = [.iface u v] := by
    cases fuel with
    | zero => cases h4
    | succ fuel =>
      unfold DataW.trod at h4
      rw [hu] at h4
      generalize cs.toList = l at h4
      match l, h4 with
      | [.iface u v], _ => exact ⟨u, v, rfl⟩
      | [.nilIface], h4 => simp at h4
      | [], h4 => simp at h4
      | _ :: _ :: _, h4 => simp at h4
  obtain ⟨u, v, hc⟩ := hc
  have hc' : cs = #[.iface u v] := Array.toList_inj.1 hc
  subst hc'
  unfold World.var? at h3
  rw [hg] at h3
  simp only [Option.bind_some] at h3
  split at h3
  · rename_i cs ty m hb
    cases h3
    exact ⟨(Array.getElem?_eq_some_iff.1 hb).1, _, ty, m, hb, rfl⟩
  · cases h3
end Go.Proofs.YtnojoaneboppnaaDoor
namespace Go.Proofs.YtnojoaneboppnaaDoor
open Go.RowKit
theorem own_none : ownKnob Tryd.prog.godebug = none := by kernel_rfl
theorem gl_of_laid {rest : List (String × DataW Unit)} {W : World} (h : laidMet Tryd.prog (("math/bits.deBruijn32tab", Rows.laid_math_bits_deBruijn32tab) :: ("math/bits.deBruijn64tab", Rows.laid_math_bits_deBruijn64tab) :: ("internal/strconv.uint64pow10", Rows.laid_internal_strconv_uint64pow10) :: ("strconv.ErrRange", Rows.laid_strconv_ErrRange) :: rest) W) : GlOk (entry W) fun _ => False := by
  have b0 := block_of_tab (g := 4) (us := [.int .u8 0, .int .u8 1, .int .u8 28, .int .u8 2, .int .u8 29, .int .u8 14, .int .u8 24, .int .u8 3, .int .u8 30, .int .u8 22, .int .u8 20, .int .u8 15, .int .u8 25, .int .u8 17, .int .u8 4, .int .u8 8, .int .u8 31, .int .u8 27, .int .u8 13, .int .u8 23, .int .u8 21, .int .u8 19, .int .u8 16, .int .u8 7, .int .u8 26, .int .u8 12, .int .u8 18, .int .u8 6, .int .u8 11, .int .u8 5, .int .u8 10, .int .u8 9]) (Lib.tabIs_of_head (k := .u8) (zs := [0, 1, 28, 2, 29, 14, 24, 3, 30, 22, 20, 15, 25, 17, 4, 8, 31, 27, 13, 23, 21, 19, 16, 7, 26, 12, 18, 6, 11, 5, 10, 9]) (g := 4) (t := 109) (e := 5) (n := 32) (by kernel_rfl) (by kernel_rfl) Tryd.underlying109 Tryd.underlying5 (by kernel_rfl) (by kernel_rfl) h) (by kernel_rfl) rfl
  have b1 := block_of_tab (g := 5) (us := [.int .u8 0, .int .u8 1, .int .u8 56, .int .u8 2, .int .u8 57, .int .u8 49, .int .u8 28, .int .u8 3, .int .u8 61, .int .u8 58, .int .u8 42, .int .u8 50, .int .u8 38, .int .u8 29, .int .u8 17, .int .u8 4, .int .u8 62, .int .u8 47, .int .u8 59, .int .u8 36, .int .u8 45, .int .u8 43, .int .u8 51, .int .u8 22, .int .u8 53, .int .u8 39, .int .u8 33, .int .u8 30, .int .u8 24, .int .u8 18, .int .u8 12, .int .u8 5, .int .u8 63, .int .u8 55, .int .u8 48, .int .u8 27, .int .u8 60, .int .u8 41, .int .u8 37, .int .u8 16, .int .u8 46, .int .u8 35, .int .u8 44, .int .u8 21, .int .u8 52, .int .u8 32, .int .u8 23, .int .u8 11, .int .u8 54, .int .u8 26, .int .u8 40, .int .u8 15, .int .u8 34, .int .u8 20, .int .u8 31, .int .u8 10, .int .u8 25, .int .u8 14, .int .u8 19, .int .u8 9, .int .u8 13, .int .u8 8, .int .u8 7, .int .u8 6]) (Lib.tabIs_of_head (k := .u8) (zs := [0, 1, 56, 2, 57, 49, 28, 3, 61, 58, 42, 50, 38, 29, 17, 4, 62, 47, 59, 36, 45, 43, 51, 22, 53, 39, 33, 30, 24, 18, 12, 5, 63, 55, 48, 27, 60, 41, 37, 16, 46, 35, 44, 21, 52, 32, 23, 11, 54, 26, 40, 15, 34, 20, 31, 10, 25, 14, 19, 9, 13, 8, 7, 6]) (g := 5) (t := 110) (e := 5) (n := 64) (by kernel_rfl) (by kernel_rfl) Tryd.underlying110 Tryd.underlying5 (by kernel_rfl) (by kernel_rfl) (qN h)) (by kernel_rfl) rfl
  have b2 := block_of_tab (g := 1) (us := [.int .u64 1, .int .u64 10, .int .u64 100, .int .u64 1000, .int .u64 10000, .int .u64 100000, .int .u64 1000000, .int .u64 10000000, .int .u64 100000000, .int .u64 1000000000, .int .u64 10000000000, .int .u64 100000000000, .int .u64 1000000000000, .int .u64 10000000000000, .int .u64 100000000000000, .int .u64 1000000000000000, .int .u64 10000000000000000, .int .u64 100000000000000000, .int .u64 1000000000000000000, .int .u64 10000000000000000000]) (Lib.tabIs_of_head (k := .u64) (zs := [1, 10, 100, 1000, 10000, 100000, 1000000, 10000000, 100000000, 1000000000, 10000000000, 100000000000, 1000000000000, 10000000000000, 100000000000000, 1000000000000000, 10000000000000000, 100000000000000000, 1000000000000000000, 10000000000000000000]) (g := 1) (t := 95) (e := 49) (n := 20) (by kernel_rfl) (by kernel_rfl) Tryd.underlying95 Tryd.underlying49 (by kernel_rfl) (by kernel_rfl) (qN (qN h))) (by kernel_rfl) rfl
  have bE := err_of_reads (g := 3) (t := 69) (by kernel_rfl) (by kernel_rfl) Tryd.underlying69 (Lib.laidMet.reads (qN (qN (qN h))) (List.mem_cons_self ..))
  refine ⟨?_, fun g hg => ?_⟩
  rotate_left
  · have e : g = 3 := by simpa [ETab] using hg
    subst e
    exact ⟨bE.1, fun h => h, bE.2⟩
  intro g us hg
  simp only [GTab, qk] at hg
  repeat' split at hg
  all_goals first | cases hg; done | skip
  all_goals (subst_vars; cases hg)
  all_goals first | exact ⟨b0.1, fun h => h, b0.2⟩ | exact ⟨b1.1, fun h => h, b1.2⟩ | exact ⟨b2.1, fun h => h, b2.2⟩
noncomputable def lowB : Nat := (World.holding Tryd.prog default ⟨#[], #[], []⟩).heap.size
noncomputable def worldB (os : Os) : World :=
  let w0 := World.holding Tryd.prog os ⟨#[.cells #[.string ⟨#[118, 97, 108, 117, 101, 32, 111, 117, 116, 32, 111, 102, 32, 114, 97, 110, 103, 101]⟩] 108, .cells #[.string ⟨#[105, 110, 118, 97, 108, 105, 100, 32, 115, 121, 110, 116, 97, 120]⟩] 108], #[], []⟩
  { w0 with heap := ((((((((((w0.heap).modify 4 fun | .cells _ t frozen => .cells #[.int .u8 0, .int .u8 1, .int .u8 28, .int .u8 2, .int .u8 29, .int .u8 14, .int .u8 24, .int .u8 3, .int .u8 30, .int .u8 22, .int .u8 20, .int .u8 15, .int .u8 25, .int .u8 17, .int .u8 4, .int .u8 8, .int .u8 31, .int .u8 27, .int .u8 13, .int .u8 23, .int .u8 21, .int .u8 19, .int .u8 16, .int .u8 7, .int .u8 26, .int .u8 12, .int .u8 18, .int .u8 6, .int .u8 11, .int .u8 5, .int .u8 10, .int .u8 9] t frozen | o => o)).modify 5 fun | .cells _ t frozen => .cells #[.int .u8 0, .int .u8 1, .int .u8 56, .int .u8 2, .int .u8 57, .int .u8 49, .int .u8 28, .int .u8 3, .int .u8 61, .int .u8 58, .int .u8 42, .int .u8 50, .int .u8 38, .int .u8 29, .int .u8 17, .int .u8 4, .int .u8 62, .int .u8 47, .int .u8 59, .int .u8 36, .int .u8 45, .int .u8 43, .int .u8 51, .int .u8 22, .int .u8 53, .int .u8 39, .int .u8 33, .int .u8 30, .int .u8 24, .int .u8 18, .int .u8 12, .int .u8 5, .int .u8 63, .int .u8 55, .int .u8 48, .int .u8 27, .int .u8 60, .int .u8 41, .int .u8 37, .int .u8 16, .int .u8 46, .int .u8 35, .int .u8 44, .int .u8 21, .int .u8 52, .int .u8 32, .int .u8 23, .int .u8 11, .int .u8 54, .int .u8 26, .int .u8 40, .int .u8 15, .int .u8 34, .int .u8 20, .int .u8 31, .int .u8 10, .int .u8 25, .int .u8 14, .int .u8 19, .int .u8 9, .int .u8 13, .int .u8 8, .int .u8 7, .int .u8 6] t frozen | o => o)).modify 1 fun | .cells _ t frozen => .cells #[.int .u64 1, .int .u64 10, .int .u64 100, .int .u64 1000, .int .u64 10000, .int .u64 100000, .int .u64 1000000, .int .u64 10000000, .int .u64 100000000, .int .u64 1000000000, .int .u64 10000000000, .int .u64 100000000000, .int .u64 1000000000000, .int .u64 10000000000000, .int .u64 100000000000000, .int .u64 1000000000000000, .int .u64 10000000000000000, .int .u64 100000000000000000, .int .u64 1000000000000000000, .int .u64 10000000000000000000] t frozen | o => o)).modify 3 fun | .cells _ t frozen => .cells #[.iface 106 (.pointer (some ⟨lowB + 0, 0, none⟩))] t frozen | o => o)).modify 2 fun | .cells _ t frozen => .cells #[.iface 106 (.pointer (some ⟨lowB + 1, 0, none⟩))] t frozen | o => o) }
theorem worldB_met (os : Os) (args : Array Value) : laidMet Tryd.prog [("math/bits.deBruijn32tab", Rows.laid_math_bits_deBruijn32tab), ("math/bits.deBruijn64tab", Rows.laid_math_bits_deBruijn64tab), ("internal/strconv.uint64pow10", Rows.laid_internal_strconv_uint64pow10), ("strconv.ErrRange", Rows.laid_strconv_ErrRange), ("strconv.ErrSyntax", Rows.laid_strconv_ErrSyntax)] ((worldB os).forCall (fun _ _ => 0) ⟨#[], args, []⟩).memory :=
  laidMet_of_run' 100 (by kernel_rfl) (by kernel_rfl)
end Go.Proofs.YtnojoaneboppnaaDoor
