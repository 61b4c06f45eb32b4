/-
  What the statement leans on, part 4: LexD, FnsD, LexRuns, Within, LexLong, LexJoins, Bld, Quo, TextH, LexValues, RefLexA, RefLexB, LexBlanks, RefLexC, RefLexD, LexTells, LawKit0, LawL, Laid.
-/
import Derived.Shelf.Strings.Builder1
import Derived.Test.YtnojoaneboppnaaDoorRows
import Derived.Lib.LaidTab
import Derived.Lib.LaidU8
import Derived.LaidLaws
import Derived.LaidHandle
import Derived.Stop.Joined
import Derived.ChangeSame
import Derived.ChangeVars
import Derived.JoinedOf
import Derived.RowKitTokens
import Derived.Test.YtnojoaneboppnaaDoorPk1
import Derived.Test.YtnojoaneboppnaaDoorPk2
import Derived.Test.YtnojoaneboppnaaDoorPk3
namespace Go.Proofs.YtnojoaneboppnaaDoor
set_option linter.unusedVariables false
set_option linter.unusedSimpArgs false
open Go.RowKit
set_option maxHeartbeats 4000000
set_option maxRecDepth 100000
def Tok.pv (t : Tok) : List PV := [pI t.kind, pI (t.at_ : Int), pI t.n, pL t.s]
abbrev jg (l : List Tok) : PV := .sl 4 (l.map Tok.pv)
def allR : Except Nat (List Tok) → SV
  | .ok _ => .tup [.row 0, .p (pI 0), .p (pI 0)]
  | .error e => .tup [.p nilV, .p (pI 5), .p (pI e)]
def allO : Except Nat (List Tok) → List (Nat × Box)
  | .ok a => [(0, .row 30 4 (a.map Tok.pv))]
  | .error _ => []
def joinE (o : List Tok) : Except Nat (List Tok) → Except Nat (List Tok)
  | .ok b => .ok (o ++ b)
  | .error e => .error e
def stA (l : Bs) (k : Int) (n : Int) (o : List Tok) (a b c : Int) (d : Bs) : St := ⟨52, [(0, .p (pL l)), (5, .row 0), (6, .ptr 6 0), (7, .p (pI k)), (8, .p (pI n))], [(6, .cells [.p (pI a), .p (pI b), .p (pI c), .p (pL d)]), (0, .row 30 4 (o.map Tok.pv))]⟩
def invA (l : Bs) (k : Nat) (o : List Tok) : Prop := k ≤ l.length ∧ o.length ≤ k ∧ lexL l = joinE o (lexF (l.length - k + 1) k (l.drop k))
theorem all_l (l : Bs) (hl : l.length ≤ 4096) : Holds Tryd.prog 9 [pL l] (allR (lexL l)) (allO (lexL l)) := by
  have ls : (⟨⟨l⟩⟩ : ByteArray).size = l.length := rfl
  refine qF (ts := [2,3,4]) Tryd.func9 (by kernel_rfl) rfl rfl rfl ?_
  (repeat refine qb ?_); refine qa ?_
  repeat (first | refine zR ?_ | refine zK ?_ | refine zM ?_ | refine zB ?_ | refine zA ?_ | refine zS ?_ | refine zL ?_)
  refine qc ?_
  (repeat refine qb ?_); refine sw_scope 0 (fun m s => ∃ (k : Nat) (o : List Tok) (n a b c : Int) (d : Bs), m = l.length - k ∧ invA l k o ∧ s = stA l k n o a b c d) rfl ?_ ?_
  · (repeat refine qb ?_); refine qa ?_
    repeat (first | refine zR ?_ | refine zK ?_ | refine zM ?_ | refine zB ?_ | refine zA ?_ | refine zS ?_ | refine zL ?_)
    rw [ls, show decide ((l.length : Int) > 4096) = false by simp; omega]
    refine qc ?_
    (repeat refine qb ?_); refine qe rfl (fun hc => ?_) (fun hc => ?_)
    · cases hc
    refine qq ?_
    (repeat refine qb ?_); refine qa ?_
    repeat (first | refine zR ?_ | refine zK ?_ | refine zM ?_ | refine zB ?_ | refine zA ?_ | refine zS ?_ | refine zL ?_)
    refine qc ?_
    (repeat refine qb ?_); refine qa ?_
    repeat (first | refine zR ?_ | refine zK ?_ | refine zM ?_ | refine zB ?_ | refine zA ?_ | refine zS ?_ | refine zL ?_)
    refine qc ?_
    (repeat refine qb ?_); refine qa ?_
    repeat (first | refine zR ?_ | refine zK ?_ | refine zM ?_ | refine zB ?_ | refine zA ?_ | refine zS ?_ | refine zL ?_)
    refine qc ?_
    refine SW.wk (wk_nil 5 900 30 4 rfl rfl) ?_
    refine SW.wk (qv [0, 5, 6, 7, 8] [(6, 6), (900, 0)] rfl rfl) ?_
    (repeat refine qb ?_); refine sw_label ?_
    change SW _ _ _ (stA l ((0 : Nat) : Int) 0 [] 0 0 0 [])
    obtain ⟨S, hS⟩ : ∃ S, S = stA l ((0 : Nat) : Int) 0 [] 0 0 0 [] := ⟨_, rfl⟩
    rw [← hS]
    obtain ⟨k, o, n, a, b, c, d, hi, hS2⟩ : ∃ (k : Nat) (o : List Tok) (n a b c : Int) (d : Bs), invA l k o ∧ S = stA l k n o a b c d := ⟨0, [], 0, 0, 0, 0, [], ⟨Nat.zero_le _, Nat.zero_le _, by unfold lexL; simp only [Nat.sub_zero, List.drop_zero]; cases lexF (l.length + 1) 0 l <;> rfl⟩, hS⟩
    clear hS
    subst hS2
    unfold stA
    have hE := hi.2.2
    have ho := hi.2.1
    have hk := hi.1
    (repeat refine qb ?_); refine qa ?_
    repeat (first | refine zR ?_ | refine zK ?_ | refine zM ?_ | refine zB ?_ | refine zA ?_ | refine zS ?_ | refine zL ?_)
    rw [ls]
    by_cases hend : k = l.length
    · have hfin : lexL l = .ok (o ++ [⟨7, k, 0, []⟩]) := by
        rw [hE, hend, List.drop_of_length_le (Nat.le_refl _)]; rfl
      rw [show ((k : Int) == (l.length : Int)) = true by rw [beq_iff_eq]; omega]
      refine qc ?_
      (repeat refine qb ?_); refine qe rfl (fun hc => ?_) (fun hc => ?_)
      rotate_left
      · cases hc
      (repeat refine qb ?_); refine qa ?_
      repeat (first | refine zR ?_ | refine zK ?_ | refine zM ?_ | refine zB ?_ | refine zA ?_ | refine zS ?_ | refine zL ?_)
      refine qi rfl (qy qg rfl rfl rfl rfl rfl rfl rfl rfl rfl rfl rfl rfl rfl rfl rfl rfl (by simp only [List.length_append, List.length_map, List.length_take, List.length_cons, List.length_nil]; unfold reachBytes; omega) (by simp only [List.length_append, List.length_map, List.length_take, List.length_cons, List.length_nil]; omega) ?_)
      repeat (first | refine zR ?_ | refine zK ?_ | refine zM ?_ | refine zB ?_ | refine zA ?_ | refine zS ?_ | refine zL ?_)
      refine qc ?_
      (repeat refine qb ?_); refine qj ?_
      rw [hfin, show allO (.ok (o ++ [⟨7, k, 0, []⟩])) = [(0, .row 30 4 (o.map Tok.pv ++ [[pI 7, pI (k : Int), pI 0, pL []]]))] by show [(0, Box.row 30 4 ((o ++ [_]).map Tok.pv))] = _; rw [List.map_append]; rfl]
      exact ⟨Or.inr rfl, _, _, [(20, 0)], Wk.refl _, rfl, rfl, rfl, rfl⟩
    have hlt : k < l.length := by omega
    rw [show ((k : Int) == (l.length : Int)) = false by rw [beq_eq_false_iff_ne]; omega]
    refine qc ?_
    (repeat refine qb ?_); refine qe rfl (fun hc => ?_) (fun hc => ?_)
    · cases hc
    refine qq ?_
    obtain ⟨ch, hch⟩ : ∃ ch, ch = l[k] := ⟨_, rfl⟩
    have hdr : l.drop k = ch :: l.drop (k + 1) := by rw [hch]; exact List.drop_eq_getElem_cons hlt
    have hst : lexF (l.length - k + 1) k (l.drop k) = if zu ch then lexF (l.length - k) (k + 1) (l.drop (k + 1)) else match tokL (ch :: l.drop (k + 1)) with
      | none => .error k
      | some t => match lexF (l.length - k) (k + t.len) ((ch :: l.drop (k + 1)).drop t.len) with
        | .ok b => .ok (t.at_ k :: b)
        | .error e => .error e := by rw [hdr]; rfl
    have hbl : zu ch = (decide (ch.toNat = 32) || decide (ch.toNat = 10)) := rfl
    (repeat refine qb ?_); refine qa ?_
    repeat (first | refine zR ?_ | refine zK ?_ | refine zM ?_ | refine zB ?_ | refine zA ?_ | refine zS ?_ | refine zL ?_)
    refine ql qg rfl rfl (by rw [ls]; omega) rfl ?_
    rw [qX hlt, ← hch]
    repeat (first | refine zR ?_ | refine zK ?_ | refine zM ?_ | refine zB ?_ | refine zA ?_ | refine zS ?_ | refine zL ?_)
    cases hb : zu ch with
    | true =>
      rw [hb, if_pos rfl] at hst
      have hi2 : invA l (k + 1) o := ⟨hlt, by omega, by rw [hE, hst, show l.length - k = l.length - (k + 1) + 1 by omega]⟩
      by_cases h32 : ch.toNat = 32
      · rw [show ((ch.toNat : Int) == 32) = true by rw [beq_iff_eq]; omega]
        repeat (first | refine zR ?_ | refine zK ?_ | refine zM ?_ | refine zB ?_ | refine zA ?_ | refine zS ?_ | refine zL ?_)
        refine qc ?_
        (repeat refine qb ?_); refine qe rfl (fun hq => ?_) (fun hq => ?_)
        rotate_left
        · cases hq
        (repeat refine qb ?_); refine qa ?_
        repeat (first | refine zR ?_ | refine zK ?_ | refine zM ?_ | refine zB ?_ | refine zA ?_ | refine zS ?_ | refine zL ?_)
        refine qc ?_
        rw [zk hlt (by omega)]
        (repeat refine qb ?_); refine sw_goto ?_
        first
          | exact ⟨rfl, _, _, qv [0, 5, 6, 7, 8] [(6, 6), (0, 0)] rfl rfl, k + 1, o, n, _, _, _, _, rfl, hi2, rfl⟩
          | exact ⟨rfl, _, _, (by omega), qv [0, 5, 6, 7, 8] [(6, 6), (0, 0)] rfl rfl, k + 1, o, n, _, _, _, _, rfl, hi2, rfl⟩
      · have h10 : ch.toNat = 10 := by rw [hb] at hbl; simp [h32] at hbl; exact hbl
        rw [show ((ch.toNat : Int) == 32) = false by rw [beq_eq_false_iff_ne]; omega]
        repeat (first | refine zR ?_ | refine zK ?_ | refine zM ?_ | refine zB ?_ | refine zA ?_ | refine zS ?_ | refine zL ?_)
        refine ql qg rfl rfl (by rw [ls]; omega) rfl ?_
        rw [qX hlt, ← hch]
        repeat (first | refine zR ?_ | refine zK ?_ | refine zM ?_ | refine zB ?_ | refine zA ?_ | refine zS ?_ | refine zL ?_)
        rw [show ((ch.toNat : Int) == 10) = true by rw [beq_iff_eq]; omega]
        repeat (first | refine zR ?_ | refine zK ?_ | refine zM ?_ | refine zB ?_ | refine zA ?_ | refine zS ?_ | refine zL ?_)
        refine qc ?_
        (repeat refine qb ?_); refine qe rfl (fun hq => ?_) (fun hq => ?_)
        rotate_left
        · cases hq
        (repeat refine qb ?_); refine qa ?_
        repeat (first | refine zR ?_ | refine zK ?_ | refine zM ?_ | refine zB ?_ | refine zA ?_ | refine zS ?_ | refine zL ?_)
        refine qc ?_
        rw [zk hlt (by omega)]
        (repeat refine qb ?_); refine sw_goto ?_
        first
          | exact ⟨rfl, _, _, qv [0, 5, 6, 7, 8] [(6, 6), (0, 0)] rfl rfl, k + 1, o, n, _, _, _, _, rfl, hi2, rfl⟩
          | exact ⟨rfl, _, _, (by omega), qv [0, 5, 6, 7, 8] [(6, 6), (0, 0)] rfl rfl, k + 1, o, n, _, _, _, _, rfl, hi2, rfl⟩
    | false =>
      rw [hb, if_neg (by simp)] at hst
      rw [hb] at hbl
      have hn2 : ch.toNat ≠ 32 ∧ ch.toNat ≠ 10 := by
        have := hbl.symm
        simp at this; exact this
      rw [show ((ch.toNat : Int) == 32) = false by rw [beq_eq_false_iff_ne]; omega]
      repeat (first | refine zR ?_ | refine zK ?_ | refine zM ?_ | refine zB ?_ | refine zA ?_ | refine zS ?_ | refine zL ?_)
      refine ql qg rfl rfl (by rw [ls]; omega) rfl ?_
      rw [qX hlt, ← hch]
      repeat (first | refine zR ?_ | refine zK ?_ | refine zM ?_ | refine zB ?_ | refine zA ?_ | refine zS ?_ | refine zL ?_)
      rw [show ((ch.toNat : Int) == 10) = false by rw [beq_eq_false_iff_ne]; omega]
      repeat (first | refine zR ?_ | refine zK ?_ | refine zM ?_ | refine zB ?_ | refine zA ?_ | refine zS ?_ | refine zL ?_)
      refine qc ?_
      (repeat refine qb ?_); refine qe rfl (fun hq => ?_) (fun hq => ?_)
      · cases hq
      refine qq ?_
      have HB := begins_l ch (l.drop (k + 1)) (by simp; omega)
      have hBT := beg_tok (ch :: l.drop (k + 1))
      generalize begR (ch :: l.drop (k + 1)) = B at HB hBT
      obtain ⟨bk, bv, bs, bn⟩ := B
      simp only at hBT
      (repeat refine qb ?_); refine qa ?_
      repeat (first | refine zR ?_ | refine zK ?_ | refine zM ?_ | refine zB ?_ | refine zA ?_ | refine zS ?_ | refine zL ?_)
      refine ql qg rfl rfl (by rw [ls]; omega) rfl ?_
      rw [ext_l, show (l.drop (Int.toNat (k : Int))).take (Int.toNat ((⟨⟨l⟩⟩ : ByteArray).size : Int) - Int.toNat (k : Int)) = ch :: l.drop (k + 1) from (List.take_of_length_le (by simp [ls])).trans hdr]
      repeat (first | refine zR ?_ | refine zK ?_ | refine zM ?_ | refine zB ?_ | refine zA ?_ | refine zS ?_ | refine zL ?_)
      refine qi rfl (qd rfl rfl rfl rfl (HB) rfl rfl ?_)
      repeat (first | refine zR ?_ | refine zK ?_ | refine zM ?_ | refine zB ?_ | refine zA ?_ | refine zS ?_ | refine zL ?_)
      repeat (first | refine zR ?_ | refine zK ?_ | refine zM ?_ | refine zB ?_ | refine zA ?_ | refine zS ?_ | refine zL ?_)
      refine qc ?_
      (repeat refine qb ?_); refine qa ?_
      repeat (first | refine zR ?_ | refine zK ?_ | refine zM ?_ | refine zB ?_ | refine zA ?_ | refine zS ?_ | refine zL ?_)
      by_cases h0 : bn = 0
      · rw [if_pos h0] at hBT
        rw [hBT] at hst
        have hfin : lexL l = .error k := by rw [hE, hst]; rfl
        rw [show ((bn : Int) == 0) = true by rw [beq_iff_eq]; omega]
        refine qc ?_
        (repeat refine qb ?_); refine qe rfl (fun hz => ?_) (fun hz => ?_)
        · (repeat refine qb ?_); refine qa ?_
          repeat (first | refine zR ?_ | refine zK ?_ | refine zM ?_ | refine zB ?_ | refine zA ?_ | refine zS ?_ | refine zL ?_)
          refine qc ?_
          (repeat refine qb ?_); refine qj ?_
          rw [hfin]
          exact ⟨Or.inr rfl, _, _, [], Wk.refl _, rfl, rfl, rfl, rfl⟩
        · cases hz
      rw [if_neg h0] at hBT
      have hlen := zX hBT
      simp only [List.length_cons, List.length_drop] at hlen
      rw [hBT] at hst
      simp only at hst
      have hi2 : invA l (k + bn) (o ++ [⟨bk, k, bv, bs⟩]) := by
        refine ⟨by omega, by simp; omega, ?_⟩
        rw [hE, hst, ← hdr, List.drop_drop]
        rw [lexF_fuel (f := l.length - k) (g := l.length - (k + bn) + 1) (by simp only [List.length_drop]; omega) (by simp only [List.length_drop]; omega)]
        cases lexF (l.length - (k + bn) + 1) (k + bn) (l.drop (k + bn)) with
        | ok b => show Except.ok (o ++ (_ :: b)) = Except.ok ((o ++ [_]) ++ b); rw [List.append_assoc]; rfl
        | error e => rfl
      rw [show ((bn : Int) == 0) = false by rw [beq_eq_false_iff_ne]; omega]
      refine qc ?_
      (repeat refine qb ?_); refine qe rfl (fun hz => ?_) (fun hz => ?_)
      · cases hz
      refine qq ?_
      (repeat refine qb ?_); refine qa ?_
      repeat (first | refine zR ?_ | refine zK ?_ | refine zM ?_ | refine zB ?_ | refine zA ?_ | refine zS ?_ | refine zL ?_)
      refine qc ?_
      (repeat refine qb ?_); refine qa ?_
      repeat (first | refine zR ?_ | refine zK ?_ | refine zM ?_ | refine zB ?_ | refine zA ?_ | refine zS ?_ | refine zL ?_)
      refine qi rfl (qy qg rfl rfl rfl rfl rfl rfl rfl rfl rfl rfl rfl rfl rfl rfl rfl rfl (by simp only [List.length_append, List.length_map, List.length_take, List.length_cons, List.length_nil]; unfold reachBytes; omega) (by simp only [List.length_append, List.length_map, List.length_take, List.length_cons, List.length_nil]; omega) ?_)
      repeat (first | refine zR ?_ | refine zK ?_ | refine zM ?_ | refine zB ?_ | refine zA ?_ | refine zS ?_ | refine zL ?_)
      refine qc ?_
      (repeat refine qb ?_); refine qa ?_
      repeat (first | refine zR ?_ | refine zK ?_ | refine zM ?_ | refine zB ?_ | refine zA ?_ | refine zS ?_ | refine zL ?_)
      refine qc ?_
      rw [show IntKind.i64.wrap ((k : Int) + (bn : Int)) = ((k + bn : Nat) : Int) from IntWalk.i64_in _ (by omega)]
      refine SW.wk (qv [0, 5, 6, 7, 8] [(6, 6), (48, 0)] rfl rfl) ?_
      have eO : (o ++ [(⟨bk, k, bv, bs⟩ : Tok)]).map Tok.pv = o.map Tok.pv ++ [[pI bk, pI (k : Int), pI bv, pL bs]] := by rw [List.map_append]; rfl
      change SW _ _ _ ⟨52, [(0, .p (pL l)), (5, .row 0), (6, .ptr 6 0), (7, .p (pI ((k + bn : Nat) : Int))), (8, .p (pI (bn : Int)))], [(6, .cells [.p (pI bk), .p (pI (k : Int)), .p (pI bv), .p (pL bs)]), (0, .row 30 4 (o.map Tok.pv ++ [[pI bk, pI (k : Int), pI bv, pL bs]]))]⟩
      rw [← eO]
      (repeat refine qb ?_); refine sw_goto ?_
      first
        | exact ⟨rfl, _, _, qv [0, 5, 6, 7, 8] [(6, 6), (0, 0)] rfl rfl, k + bn, o ++ [⟨bk, k, bv, bs⟩], (bn : Int), _, _, _, _, rfl, hi2, rfl⟩
        | exact ⟨rfl, _, _, (by omega), qv [0, 5, 6, 7, 8] [(6, 6), (0, 0)] rfl rfl, k + bn, o ++ [⟨bk, k, bv, bs⟩], (bn : Int), _, _, _, _, rfl, hi2, rfl⟩
  · rintro m s ⟨k, o, n, a, b, c, d, rfl, hi, rfl⟩
    unfold stA
    refine qb ?_
    refine qq ?_
    have hE := hi.2.2
    have ho := hi.2.1
    have hk := hi.1
    (repeat refine qb ?_); refine qa ?_
    repeat (first | refine zR ?_ | refine zK ?_ | refine zM ?_ | refine zB ?_ | refine zA ?_ | refine zS ?_ | refine zL ?_)
    rw [ls]
    by_cases hend : k = l.length
    · have hfin : lexL l = .ok (o ++ [⟨7, k, 0, []⟩]) := by
        rw [hE, hend, List.drop_of_length_le (Nat.le_refl _)]; rfl
      rw [show ((k : Int) == (l.length : Int)) = true by rw [beq_iff_eq]; omega]
      refine qc ?_
      (repeat refine qb ?_); refine qe rfl (fun hc => ?_) (fun hc => ?_)
      rotate_left
      · cases hc
      (repeat refine qb ?_); refine qa ?_
      repeat (first | refine zR ?_ | refine zK ?_ | refine zM ?_ | refine zB ?_ | refine zA ?_ | refine zS ?_ | refine zL ?_)
      refine qi rfl (qy qg rfl rfl rfl rfl rfl rfl rfl rfl rfl rfl rfl rfl rfl rfl rfl rfl (by simp only [List.length_append, List.length_map, List.length_take, List.length_cons, List.length_nil]; unfold reachBytes; omega) (by simp only [List.length_append, List.length_map, List.length_take, List.length_cons, List.length_nil]; omega) ?_)
      repeat (first | refine zR ?_ | refine zK ?_ | refine zM ?_ | refine zB ?_ | refine zA ?_ | refine zS ?_ | refine zL ?_)
      refine qc ?_
      (repeat refine qb ?_); refine qj ?_
      rw [hfin, show allO (.ok (o ++ [⟨7, k, 0, []⟩])) = [(0, .row 30 4 (o.map Tok.pv ++ [[pI 7, pI (k : Int), pI 0, pL []]]))] by show [(0, Box.row 30 4 ((o ++ [_]).map Tok.pv))] = _; rw [List.map_append]; rfl]
      exact ⟨Or.inr rfl, _, _, [(20, 0)], Wk.refl _, rfl, rfl, rfl, rfl⟩
    have hlt : k < l.length := by omega
    rw [show ((k : Int) == (l.length : Int)) = false by rw [beq_eq_false_iff_ne]; omega]
    refine qc ?_
    (repeat refine qb ?_); refine qe rfl (fun hc => ?_) (fun hc => ?_)
    · cases hc
    refine qq ?_
    obtain ⟨ch, hch⟩ : ∃ ch, ch = l[k] := ⟨_, rfl⟩
    have hdr : l.drop k = ch :: l.drop (k + 1) := by rw [hch]; exact List.drop_eq_getElem_cons hlt
    have hst : lexF (l.length - k + 1) k (l.drop k) = if zu ch then lexF (l.length - k) (k + 1) (l.drop (k + 1)) else match tokL (ch :: l.drop (k + 1)) with
      | none => .error k
      | some t => match lexF (l.length - k) (k + t.len) ((ch :: l.drop (k + 1)).drop t.len) with
        | .ok b => .ok (t.at_ k :: b)
        | .error e => .error e := by rw [hdr]; rfl
    have hbl : zu ch = (decide (ch.toNat = 32) || decide (ch.toNat = 10)) := rfl
    (repeat refine qb ?_); refine qa ?_
    repeat (first | refine zR ?_ | refine zK ?_ | refine zM ?_ | refine zB ?_ | refine zA ?_ | refine zS ?_ | refine zL ?_)
    refine ql qg rfl rfl (by rw [ls]; omega) rfl ?_
    rw [qX hlt, ← hch]
    repeat (first | refine zR ?_ | refine zK ?_ | refine zM ?_ | refine zB ?_ | refine zA ?_ | refine zS ?_ | refine zL ?_)
    cases hb : zu ch with
    | true =>
      rw [hb, if_pos rfl] at hst
      have hi2 : invA l (k + 1) o := ⟨hlt, by omega, by rw [hE, hst, show l.length - k = l.length - (k + 1) + 1 by omega]⟩
      by_cases h32 : ch.toNat = 32
      · rw [show ((ch.toNat : Int) == 32) = true by rw [beq_iff_eq]; omega]
        repeat (first | refine zR ?_ | refine zK ?_ | refine zM ?_ | refine zB ?_ | refine zA ?_ | refine zS ?_ | refine zL ?_)
        refine qc ?_
        (repeat refine qb ?_); refine qe rfl (fun hq => ?_) (fun hq => ?_)
        rotate_left
        · cases hq
        (repeat refine qb ?_); refine qa ?_
        repeat (first | refine zR ?_ | refine zK ?_ | refine zM ?_ | refine zB ?_ | refine zA ?_ | refine zS ?_ | refine zL ?_)
        refine qc ?_
        rw [zk hlt (by omega)]
        (repeat refine qb ?_); refine sw_goto ?_
        first
          | exact ⟨rfl, _, _, qv [0, 5, 6, 7, 8] [(6, 6), (0, 0)] rfl rfl, k + 1, o, n, _, _, _, _, rfl, hi2, rfl⟩
          | exact ⟨rfl, _, _, (by omega), qv [0, 5, 6, 7, 8] [(6, 6), (0, 0)] rfl rfl, k + 1, o, n, _, _, _, _, rfl, hi2, rfl⟩
      · have h10 : ch.toNat = 10 := by rw [hb] at hbl; simp [h32] at hbl; exact hbl
        rw [show ((ch.toNat : Int) == 32) = false by rw [beq_eq_false_iff_ne]; omega]
        repeat (first | refine zR ?_ | refine zK ?_ | refine zM ?_ | refine zB ?_ | refine zA ?_ | refine zS ?_ | refine zL ?_)
        refine ql qg rfl rfl (by rw [ls]; omega) rfl ?_
        rw [qX hlt, ← hch]
        repeat (first | refine zR ?_ | refine zK ?_ | refine zM ?_ | refine zB ?_ | refine zA ?_ | refine zS ?_ | refine zL ?_)
        rw [show ((ch.toNat : Int) == 10) = true by rw [beq_iff_eq]; omega]
        repeat (first | refine zR ?_ | refine zK ?_ | refine zM ?_ | refine zB ?_ | refine zA ?_ | refine zS ?_ | refine zL ?_)
        refine qc ?_
        (repeat refine qb ?_); refine qe rfl (fun hq => ?_) (fun hq => ?_)
        rotate_left
        · cases hq
        (repeat refine qb ?_); refine qa ?_
        repeat (first | refine zR ?_ | refine zK ?_ | refine zM ?_ | refine zB ?_ | refine zA ?_ | refine zS ?_ | refine zL ?_)
        refine qc ?_
        rw [zk hlt (by omega)]
        (repeat refine qb ?_); refine sw_goto ?_
        first
          | exact ⟨rfl, _, _, qv [0, 5, 6, 7, 8] [(6, 6), (0, 0)] rfl rfl, k + 1, o, n, _, _, _, _, rfl, hi2, rfl⟩
          | exact ⟨rfl, _, _, (by omega), qv [0, 5, 6, 7, 8] [(6, 6), (0, 0)] rfl rfl, k + 1, o, n, _, _, _, _, rfl, hi2, rfl⟩
    | false =>
      rw [hb, if_neg (by simp)] at hst
      rw [hb] at hbl
      have hn2 : ch.toNat ≠ 32 ∧ ch.toNat ≠ 10 := by
        have := hbl.symm
        simp at this; exact this
      rw [show ((ch.toNat : Int) == 32) = false by rw [beq_eq_false_iff_ne]; omega]
      repeat (first | refine zR ?_ | refine zK ?_ | refine zM ?_ | refine zB ?_ | refine zA ?_ | refine zS ?_ | refine zL ?_)
      refine ql qg rfl rfl (by rw [ls]; omega) rfl ?_
      rw [qX hlt, ← hch]
      repeat (first | refine zR ?_ | refine zK ?_ | refine zM ?_ | refine zB ?_ | refine zA ?_ | refine zS ?_ | refine zL ?_)
      rw [show ((ch.toNat : Int) == 10) = false by rw [beq_eq_false_iff_ne]; omega]
      repeat (first | refine zR ?_ | refine zK ?_ | refine zM ?_ | refine zB ?_ | refine zA ?_ | refine zS ?_ | refine zL ?_)
      refine qc ?_
      (repeat refine qb ?_); refine qe rfl (fun hq => ?_) (fun hq => ?_)
      · cases hq
      refine qq ?_
      have HB := begins_l ch (l.drop (k + 1)) (by simp; omega)
      have hBT := beg_tok (ch :: l.drop (k + 1))
      generalize begR (ch :: l.drop (k + 1)) = B at HB hBT
      obtain ⟨bk, bv, bs, bn⟩ := B
      simp only at hBT
      (repeat refine qb ?_); refine qa ?_
      repeat (first | refine zR ?_ | refine zK ?_ | refine zM ?_ | refine zB ?_ | refine zA ?_ | refine zS ?_ | refine zL ?_)
      refine ql qg rfl rfl (by rw [ls]; omega) rfl ?_
      rw [ext_l, show (l.drop (Int.toNat (k : Int))).take (Int.toNat ((⟨⟨l⟩⟩ : ByteArray).size : Int) - Int.toNat (k : Int)) = ch :: l.drop (k + 1) from (List.take_of_length_le (by simp [ls])).trans hdr]
      repeat (first | refine zR ?_ | refine zK ?_ | refine zM ?_ | refine zB ?_ | refine zA ?_ | refine zS ?_ | refine zL ?_)
      refine qi rfl (qd rfl rfl rfl rfl (HB) rfl rfl ?_)
      repeat (first | refine zR ?_ | refine zK ?_ | refine zM ?_ | refine zB ?_ | refine zA ?_ | refine zS ?_ | refine zL ?_)
      repeat (first | refine zR ?_ | refine zK ?_ | refine zM ?_ | refine zB ?_ | refine zA ?_ | refine zS ?_ | refine zL ?_)
      refine qc ?_
      (repeat refine qb ?_); refine qa ?_
      repeat (first | refine zR ?_ | refine zK ?_ | refine zM ?_ | refine zB ?_ | refine zA ?_ | refine zS ?_ | refine zL ?_)
      by_cases h0 : bn = 0
      · rw [if_pos h0] at hBT
        rw [hBT] at hst
        have hfin : lexL l = .error k := by rw [hE, hst]; rfl
        rw [show ((bn : Int) == 0) = true by rw [beq_iff_eq]; omega]
        refine qc ?_
        (repeat refine qb ?_); refine qe rfl (fun hz => ?_) (fun hz => ?_)
        · (repeat refine qb ?_); refine qa ?_
          repeat (first | refine zR ?_ | refine zK ?_ | refine zM ?_ | refine zB ?_ | refine zA ?_ | refine zS ?_ | refine zL ?_)
          refine qc ?_
          (repeat refine qb ?_); refine qj ?_
          rw [hfin]
          exact ⟨Or.inr rfl, _, _, [], Wk.refl _, rfl, rfl, rfl, rfl⟩
        · cases hz
      rw [if_neg h0] at hBT
      have hlen := zX hBT
      simp only [List.length_cons, List.length_drop] at hlen
      rw [hBT] at hst
      simp only at hst
      have hi2 : invA l (k + bn) (o ++ [⟨bk, k, bv, bs⟩]) := by
        refine ⟨by omega, by simp; omega, ?_⟩
        rw [hE, hst, ← hdr, List.drop_drop]
        rw [lexF_fuel (f := l.length - k) (g := l.length - (k + bn) + 1) (by simp only [List.length_drop]; omega) (by simp only [List.length_drop]; omega)]
        cases lexF (l.length - (k + bn) + 1) (k + bn) (l.drop (k + bn)) with
        | ok b => show Except.ok (o ++ (_ :: b)) = Except.ok ((o ++ [_]) ++ b); rw [List.append_assoc]; rfl
        | error e => rfl
      rw [show ((bn : Int) == 0) = false by rw [beq_eq_false_iff_ne]; omega]
      refine qc ?_
      (repeat refine qb ?_); refine qe rfl (fun hz => ?_) (fun hz => ?_)
      · cases hz
      refine qq ?_
      (repeat refine qb ?_); refine qa ?_
      repeat (first | refine zR ?_ | refine zK ?_ | refine zM ?_ | refine zB ?_ | refine zA ?_ | refine zS ?_ | refine zL ?_)
      refine qc ?_
      (repeat refine qb ?_); refine qa ?_
      repeat (first | refine zR ?_ | refine zK ?_ | refine zM ?_ | refine zB ?_ | refine zA ?_ | refine zS ?_ | refine zL ?_)
      refine qi rfl (qy qg rfl rfl rfl rfl rfl rfl rfl rfl rfl rfl rfl rfl rfl rfl rfl rfl (by simp only [List.length_append, List.length_map, List.length_take, List.length_cons, List.length_nil]; unfold reachBytes; omega) (by simp only [List.length_append, List.length_map, List.length_take, List.length_cons, List.length_nil]; omega) ?_)
      repeat (first | refine zR ?_ | refine zK ?_ | refine zM ?_ | refine zB ?_ | refine zA ?_ | refine zS ?_ | refine zL ?_)
      refine qc ?_
      (repeat refine qb ?_); refine qa ?_
      repeat (first | refine zR ?_ | refine zK ?_ | refine zM ?_ | refine zB ?_ | refine zA ?_ | refine zS ?_ | refine zL ?_)
      refine qc ?_
      rw [show IntKind.i64.wrap ((k : Int) + (bn : Int)) = ((k + bn : Nat) : Int) from IntWalk.i64_in _ (by omega)]
      refine SW.wk (qv [0, 5, 6, 7, 8] [(6, 6), (48, 0)] rfl rfl) ?_
      have eO : (o ++ [(⟨bk, k, bv, bs⟩ : Tok)]).map Tok.pv = o.map Tok.pv ++ [[pI bk, pI (k : Int), pI bv, pL bs]] := by rw [List.map_append]; rfl
      change SW _ _ _ ⟨52, [(0, .p (pL l)), (5, .row 0), (6, .ptr 6 0), (7, .p (pI ((k + bn : Nat) : Int))), (8, .p (pI (bn : Int)))], [(6, .cells [.p (pI bk), .p (pI (k : Int)), .p (pI bv), .p (pL bs)]), (0, .row 30 4 (o.map Tok.pv ++ [[pI bk, pI (k : Int), pI bv, pL bs]]))]⟩
      rw [← eO]
      (repeat refine qb ?_); refine sw_goto ?_
      first
        | exact ⟨rfl, _, _, qv [0, 5, 6, 7, 8] [(6, 6), (0, 0)] rfl rfl, k + bn, o ++ [⟨bk, k, bv, bs⟩], (bn : Int), _, _, _, _, rfl, hi2, rfl⟩
        | exact ⟨rfl, _, _, (by omega), qv [0, 5, 6, 7, 8] [(6, 6), (0, 0)] rfl rfl, k + bn, o ++ [⟨bk, k, bv, bs⟩], (bn : Int), _, _, _, _, rfl, hi2, rfl⟩
end Go.Proofs.YtnojoaneboppnaaDoor
namespace Go.Proofs.YtnojoaneboppnaaDoor
open Go.RowKit
noncomputable def fnsd12 : FnI := ⟨74, Tryd.f12.body.getD .skip, [.tmp 0], []⟩
theorem fnsd12_ok : FnOk Tryd.prog 12 fnsd12 := ⟨_, Tryd.func12, by kernel_rfl, by kernel_rfl, by kernel_rfl, by kernel_rfl, by kernel_rfl, by kernel_rfl⟩
noncomputable def fnsd11 : FnI := ⟨26, Tryd.f11.body.getD .skip, [.tmp 4], [(6, [(0, true), (1, true), (2, true), (3, true), (4, true), (5, false), (6, false), (7, false), (8, false)])]⟩
theorem fnsd11_ok : FnOk Tryd.prog 11 fnsd11 := ⟨_, Tryd.func11, by kernel_rfl, by kernel_rfl, by kernel_rfl, by kernel_rfl, by kernel_rfl, by kernel_rfl⟩
noncomputable def fnsd9 : FnI := ⟨52, Tryd.f9.body.getD .skip, [.tmp 2, .tmp 3, .tmp 4], []⟩
theorem fnsd9_ok : FnOk Tryd.prog 9 fnsd9 := ⟨_, Tryd.func9, by kernel_rfl, by kernel_rfl, by kernel_rfl, by kernel_rfl, by kernel_rfl, by kernel_rfl⟩
noncomputable def fnsd17 : FnI := ⟨106, Tryd.f17.body.getD .skip, [.cell 2 30, .tmp 3], [(30, [(0, true), (1, true), (2, false), (3, false), (4, false), (5, false), (6, false)])]⟩
theorem fnsd17_ok : FnOk Tryd.prog 17 fnsd17 := ⟨_, Tryd.func17, by kernel_rfl, by kernel_rfl, by kernel_rfl, by kernel_rfl, by kernel_rfl, by kernel_rfl⟩
noncomputable def fnsd31 : FnI := ⟨50, Tryd.f31.body.getD .skip, [.tmp 2, .tmp 3], []⟩
theorem fnsd31_ok : FnOk Tryd.prog 31 fnsd31 := ⟨_, Tryd.func31, by kernel_rfl, by kernel_rfl, by kernel_rfl, by kernel_rfl, by kernel_rfl, by kernel_rfl⟩
noncomputable def fnsd43 : FnI := ⟨38, Tryd.f43.body.getD .skip, [.tmp 2, .tmp 3], [(3, [(0, true), (1, true), (4, true), (5, true), (2, false), (3, true), (6, false), (7, false), (8, false), (9, false)])]⟩
theorem fnsd43_ok : FnOk Tryd.prog 43 fnsd43 := ⟨_, Tryd.func43, by kernel_rfl, by kernel_rfl, by kernel_rfl, by kernel_rfl, by kernel_rfl, by kernel_rfl⟩
noncomputable def fnsd42 : FnI := ⟨17, Tryd.f42.body.getD .skip, [.tmp 2], []⟩
theorem fnsd42_ok : FnOk Tryd.prog 42 fnsd42 := ⟨_, Tryd.func42, by kernel_rfl, by kernel_rfl, by kernel_rfl, by kernel_rfl, by kernel_rfl, by kernel_rfl⟩
noncomputable def fnsd49 : FnI := ⟨20, Tryd.f49.body.getD .skip, [.tmp 2], []⟩
theorem fnsd49_ok : FnOk Tryd.prog 49 fnsd49 := ⟨_, Tryd.func49, by kernel_rfl, by kernel_rfl, by kernel_rfl, by kernel_rfl, by kernel_rfl, by kernel_rfl⟩
noncomputable def fnsd29 : FnI := ⟨9, Tryd.f29.body.getD .skip, [.tmp 2], []⟩
theorem fnsd29_ok : FnOk Tryd.prog 29 fnsd29 := ⟨_, Tryd.func29, by kernel_rfl, by kernel_rfl, by kernel_rfl, by kernel_rfl, by kernel_rfl, by kernel_rfl⟩
noncomputable def fnsd30 : FnI := ⟨35, Tryd.f30.body.getD .skip, [.tmp 4, .tmp 5], []⟩
theorem fnsd30_ok : FnOk Tryd.prog 30 fnsd30 := ⟨_, Tryd.func30, by kernel_rfl, by kernel_rfl, by kernel_rfl, by kernel_rfl, by kernel_rfl, by kernel_rfl⟩
noncomputable def fnsd39 : FnI := ⟨20, Tryd.f39.body.getD .skip, [.tmp 4], []⟩
theorem fnsd39_ok : FnOk Tryd.prog 39 fnsd39 := ⟨_, Tryd.func39, by kernel_rfl, by kernel_rfl, by kernel_rfl, by kernel_rfl, by kernel_rfl, by kernel_rfl⟩
noncomputable def fnsd28 : FnI := ⟨12, Tryd.f28.body.getD .skip, [.tmp 2], []⟩
theorem fnsd28_ok : FnOk Tryd.prog 28 fnsd28 := ⟨_, Tryd.func28, by kernel_rfl, by kernel_rfl, by kernel_rfl, by kernel_rfl, by kernel_rfl, by kernel_rfl⟩
noncomputable def fnsd24 : FnI := ⟨49, Tryd.f24.body.getD .skip, [.tmp 2], []⟩
theorem fnsd24_ok : FnOk Tryd.prog 24 fnsd24 := ⟨_, Tryd.func24, by kernel_rfl, by kernel_rfl, by kernel_rfl, by kernel_rfl, by kernel_rfl, by kernel_rfl⟩
noncomputable def fnsd40 : FnI := ⟨17, Tryd.f40.body.getD .skip, [.tmp 2], []⟩
theorem fnsd40_ok : FnOk Tryd.prog 40 fnsd40 := ⟨_, Tryd.func40, by kernel_rfl, by kernel_rfl, by kernel_rfl, by kernel_rfl, by kernel_rfl, by kernel_rfl⟩
noncomputable def FnsDF : List (FuncId × FnI) := [(12, fnsd12),
  (11, fnsd11),
  (9, fnsd9),
  (17, fnsd17),
  (31, fnsd31),
  (43, fnsd43),
  (42, fnsd42),
  (49, fnsd49),
  (29, fnsd29),
  (30, fnsd30),
  (39, fnsd39),
  (28, fnsd28),
  (24, fnsd24),
  (40, fnsd40)]
theorem FnsDF_ok (C : FuncId → List PV → Option SV) : FOk Tryd.prog ⟨TTab, FnsDF, C⟩ := qE fnsd12_ok <|
  qE fnsd11_ok <|
  qE fnsd9_ok <|
  qE fnsd17_ok <|
  qE fnsd31_ok <|
  qE fnsd43_ok <|
  qE fnsd42_ok <|
  qE fnsd49_ok <|
  qE fnsd29_ok <|
  qE fnsd30_ok <|
  qE fnsd39_ok <|
  qE fnsd28_ok <|
  qE fnsd24_ok <|
  qE fnsd40_ok <| fok_nil
end Go.Proofs.YtnojoaneboppnaaDoor
namespace Go.Proofs.YtnojoaneboppnaaDoor
set_option linter.unusedVariables false
set_option linter.unusedSimpArgs false
open Go.RowKit
theorem zW : Holds Tryd.prog 12 [] (.p (.v (.bool true))) [] :=
  .ofW (evF1_ok (n := 5000) qg (ctab_ok _) (FnsDF_ok ctab) (by kernel_rfl) (by kernel_rfl))
end Go.Proofs.YtnojoaneboppnaaDoor
namespace Go.Proofs.YtnojoaneboppnaaDoor
set_option linter.unusedVariables false
set_option linter.unusedSimpArgs false
open Go.RowKit
set_option maxHeartbeats 1000000
end Go.Proofs.YtnojoaneboppnaaDoor
namespace Go.Proofs.YtnojoaneboppnaaDoor
set_option linter.unusedVariables false
set_option linter.unusedSimpArgs false
open Go.RowKit
set_option maxHeartbeats 4000000
set_option maxRecDepth 100000
theorem jc {a b : Bs} (ha : a.length ≤ 100000) (hb : b.length ≤ 100000) : (((⟨⟨a⟩⟩ : ByteArray).size + (⟨⟨b⟩⟩ : ByteArray).size : Nat) : Int) ≤ IntKind.i64.max := by
  have h1 : (IntKind.i64.max : Int) = 9223372036854775807 := rfl
  have h2 : (⟨⟨a⟩⟩ : ByteArray).size = a.length := rfl
  have h3 : (⟨⟨b⟩⟩ : ByteArray).size = b.length := rfl
  rw [h1, h2, h3]; omega
end Go.Proofs.YtnojoaneboppnaaDoor
namespace Go.Proofs.YtnojoaneboppnaaDoor
set_option linter.unusedVariables false
set_option linter.unusedSimpArgs false
open Go.RowKit
set_option maxHeartbeats 4000000
set_option maxRecDepth 100000
theorem eqL_tok (t : Tok) : eqL t.pv t.pv = some true := by
  have h : eqL t.pv t.pv = some ((t.kind == t.kind) && (((t.at_ : Int) == (t.at_ : Int)) && ((t.n == t.n) && (((⟨⟨t.s⟩⟩ : ByteArray).toList == (⟨⟨t.s⟩⟩ : ByteArray).toList) && true)))) := rfl
  rw [h]; simp
theorem opR_neT {T : TT} {K : List Nat} {st : St} {o : Op} {t t' : TypeId} {a b : Operand} (x : Tok) (ho : o = .binOp .neq t a b t') {n m : Nat} {d : Ty} {z : List Value} (ht : lk t T = some ⟨n, m, d, z, true⟩) (ha : evS st a = some (.p (.agg x.pv))) (hb : evS st b = some (.p (.agg x.pv))) : opR T K st o = some (qD x.pv z = true, .p (pB false)) := by
  subst ho
  show rBin T .neq t (evS st a) (evS st b) = _
  rw [ha, hb]
  unfold rBin
  simp only [ht, eqL_tok]
  rfl
theorem all_len {l : Bs} {a : List Tok} (h : lexL l = .ok a) : 1 ≤ a.length ∧ a.length ≤ l.length + 1 := by
  have h1 := jp h
  refine ⟨List.length_pos_iff.2 h1, ?_⟩
  have : ∀ {f k : Nat} {l : Bs} {a : List Tok}, lexF f k l = .ok a → a.length ≤ l.length + 1 := by
    intro f
    induction f with
    | zero => intro k l a h; cases h
    | succ f ih =>
      intro k l a h
      cases l with
      | nil => cases h; simp
      | cons c r =>
        rw [lexF] at h
        split at h
        · have := ih h; simp; omega
        · cases ht : tokL (c :: r) with
          | none => rw [ht] at h; cases h
          | some t =>
            have hl := zX ht
            rw [ht] at h
            simp only at h
            cases hr : lexF f (k + t.len) ((c :: r).drop t.len) with
            | error e => rw [hr] at h; cases h
            | ok a' =>
              rw [hr] at h
              cases h
              have := ih hr
              rw [List.length_drop] at this
              simp only [List.length_cons] at this hl ⊢
              omega
  exact this h
end Go.Proofs.YtnojoaneboppnaaDoor
namespace Go.Proofs.YtnojoaneboppnaaDoor
open Go.RowKit Go.Shelf
end Go.Proofs.YtnojoaneboppnaaDoor
namespace Go.Proofs.YtnojoaneboppnaaDoor
open Go.RowKit
set_option linter.unusedSimpArgs false
set_option linter.unusedVariables false
attribute [local go_sem] ext_cell ext_frozen
attribute [local go_sem low] alloc_cell alloc_frozen
end Go.Proofs.YtnojoaneboppnaaDoor
namespace Go.Proofs.YtnojoaneboppnaaDoor
set_option linter.unusedVariables false
set_option linter.unusedSimpArgs false
open Go.RowKit
set_option maxHeartbeats 4000000
end Go.Proofs.YtnojoaneboppnaaDoor
namespace Go.Proofs.YtnojoaneboppnaaDoor
set_option linter.unusedVariables false
set_option linter.unusedSimpArgs false
open Go.RowKit
set_option maxHeartbeats 4000000
set_option maxRecDepth 100000
end Go.Proofs.YtnojoaneboppnaaDoor
namespace Go.Proofs.YtnojoaneboppnaaDoor
set_option linter.unusedVariables false
set_option linter.unusedSimpArgs false
open Go.RowKit
set_option maxHeartbeats 4000000
set_option maxRecDepth 100000
theorem rletter_h (c : UInt8) : Holds Tryd.prog 18 [pU c] (.p (pB (qB c))) [] := by
  refine qF (ts := [2]) Tryd.func18 (by kernel_rfl) rfl rfl rfl ?_
  (repeat refine qb ?_); refine qa ?_
  repeat (first | refine zR ?_ | refine zK ?_ | refine zM ?_ | refine zB ?_ | refine zA ?_ | refine zS ?_ | refine zL ?_)
  refine qc ?_
  (repeat refine qb ?_); refine qa ?_
  repeat (first | refine zR ?_ | refine zK ?_ | refine zM ?_ | refine zB ?_ | refine zA ?_ | refine zS ?_ | refine zL ?_)
  by_cases h1 : 97 ≤ c.toNat
  · rw [show decide ((c.toNat : Int) ≥ 97) = true by simp; omega]
    repeat (first | refine zR ?_ | refine zK ?_ | refine zM ?_ | refine zB ?_ | refine zA ?_ | refine zS ?_ | refine zL ?_)
    by_cases h2 : c.toNat ≤ 122
    · rw [show decide ((c.toNat : Int) ≤ 122) = true by simp; omega]
      refine qc ?_
      (repeat refine qb ?_); refine qj ?_
      exact jf rfl (by simp [qB, h1, h2])
    · rw [show decide ((c.toNat : Int) ≤ 122) = false by simp; omega]
      refine qc ?_
      (repeat refine qb ?_); refine qj ?_
      exact jf rfl (by simp [qB, h2])
  · rw [show decide ((c.toNat : Int) ≥ 97) = false by simp; omega]
    repeat (first | refine zR ?_ | refine zK ?_ | refine zM ?_ | refine zB ?_ | refine zA ?_ | refine zS ?_ | refine zL ?_)
    refine qc ?_
    (repeat refine qb ?_); refine qj ?_
    exact jf rfl (by simp [qB, h1])
theorem rdigit_h (c : UInt8) : Holds Tryd.prog 20 [pU c] (.p (pB (qp c))) [] := by
  refine qF (ts := [2]) Tryd.func20 (by kernel_rfl) rfl rfl rfl ?_
  (repeat refine qb ?_); refine qa ?_
  repeat (first | refine zR ?_ | refine zK ?_ | refine zM ?_ | refine zB ?_ | refine zA ?_ | refine zS ?_ | refine zL ?_)
  refine qc ?_
  (repeat refine qb ?_); refine qa ?_
  repeat (first | refine zR ?_ | refine zK ?_ | refine zM ?_ | refine zB ?_ | refine zA ?_ | refine zS ?_ | refine zL ?_)
  by_cases h1 : 48 ≤ c.toNat
  · rw [show decide ((c.toNat : Int) ≥ 48) = true by simp; omega]
    repeat (first | refine zR ?_ | refine zK ?_ | refine zM ?_ | refine zB ?_ | refine zA ?_ | refine zS ?_ | refine zL ?_)
    by_cases h2 : c.toNat ≤ 57
    · rw [show decide ((c.toNat : Int) ≤ 57) = true by simp; omega]
      refine qc ?_
      (repeat refine qb ?_); refine qj ?_
      exact jf rfl (by simp [qp, h1, h2])
    · rw [show decide ((c.toNat : Int) ≤ 57) = false by simp; omega]
      refine qc ?_
      (repeat refine qb ?_); refine qj ?_
      exact jf rfl (by simp [qp, h2])
  · rw [show decide ((c.toNat : Int) ≥ 48) = false by simp; omega]
    repeat (first | refine zR ?_ | refine zK ?_ | refine zM ?_ | refine zB ?_ | refine zA ?_ | refine zS ?_ | refine zL ?_)
    refine qc ?_
    (repeat refine qb ?_); refine qj ?_
    exact jf rfl (by simp [qp, h1])
def wordN : Bs → Nat
  | [] => 0
  | c :: r => if qB c then (qR (c :: r)).length else 0
theorem jE (c : UInt8) (r : Bs) : wordN (c :: r) = if qB c then (qR (c :: r)).length else 0 := rfl
theorem add_k {a k n : Nat} (h : a + k < n) (hn : n ≤ 4611686018427387904) : IntKind.i64.wrap (((a + k : Nat) : Int) + 1) = ((a + (k + 1) : Nat) : Int) := by
  rw [IntWalk.i64_in _ (by omega)]; omega
theorem drop_get {l : Bs} {a k : Nat} (h : a + k < l.length) : (l.drop a)[k]'(by rw [List.length_drop]; omega) = l[a + k] := List.getElem_drop ..
theorem rword_h (l : Bs) (hn : l.length ≤ 100000) (a : Nat) (ha0 : a ≤ l.length) : Holds Tryd.prog 19 [pL l, pI (a : Int)] (.p (pI ((a + wordN (l.drop a) : Nat) : Int))) [] := by
  have ls : (⟨⟨l⟩⟩ : ByteArray).size = l.length := rfl
  refine qF (ts := [4]) Tryd.func19 (by kernel_rfl) rfl rfl rfl ?_
  (repeat refine qb ?_); refine qa ?_
  repeat (first | refine zR ?_ | refine zK ?_ | refine zM ?_ | refine zB ?_ | refine zA ?_ | refine zS ?_ | refine zL ?_)
  refine qc ?_
  (repeat refine qb ?_); refine qa ?_
  repeat (first | refine zR ?_ | refine zK ?_ | refine zM ?_ | refine zB ?_ | refine zA ?_ | refine zS ?_ | refine zL ?_)
  rw [ls]
  by_cases hend : a < l.length
  rotate_left
  · have hW : wordN (l.drop a) = 0 := by rw [List.drop_of_length_le (by omega)]; rfl
    rw [show decide ((a : Int) ≥ (l.length : Int)) = true by simp; omega]
    repeat (first | refine zR ?_ | refine zK ?_ | refine zM ?_ | refine zB ?_ | refine zA ?_ | refine zS ?_ | refine zL ?_)
    refine qc ?_
    (repeat refine qb ?_); refine qe rfl (fun hc => ?_) (fun hc => ?_)
    · (repeat refine qb ?_); refine qa ?_
      repeat (first | refine zR ?_ | refine zK ?_ | refine zM ?_ | refine zB ?_ | refine zA ?_ | refine zS ?_ | refine zL ?_)
      refine qc ?_
      (repeat refine qb ?_); refine qj ?_
      exact fin_i rfl (by rw [hW]; simp)
    · cases hc
  rw [show decide ((a : Int) ≥ (l.length : Int)) = false by simp; omega]
  obtain ⟨c, hcc⟩ : ∃ c, c = l[a] := ⟨_, rfl⟩
  have hdr : l.drop a = c :: l.drop (a + 1) := by rw [hcc]; exact List.drop_eq_getElem_cons hend
  have HL := rletter_h c
  repeat (first | refine zR ?_ | refine zK ?_ | refine zM ?_ | refine zB ?_ | refine zA ?_ | refine zS ?_ | refine zL ?_)
  refine ql qg rfl rfl (by rw [ls]; omega) rfl ?_
  rw [qX hend, ← hcc]
  repeat (first | refine zR ?_ | refine zK ?_ | refine zM ?_ | refine zB ?_ | refine zA ?_ | refine zS ?_ | refine zL ?_)
  refine qi rfl (qd rfl rfl rfl rfl (HL) rfl rfl ?_)
  repeat (first | refine zR ?_ | refine zK ?_ | refine zM ?_ | refine zB ?_ | refine zA ?_ | refine zS ?_ | refine zL ?_)
  cases hl : qB c with
  | false =>
    have hW : wordN (l.drop a) = 0 := by rw [hdr, jE, hl]; rfl
    repeat (first | refine zR ?_ | refine zK ?_ | refine zM ?_ | refine zB ?_ | refine zA ?_ | refine zS ?_ | refine zL ?_)
    refine qc ?_
    (repeat refine qb ?_); refine qe rfl (fun hc => ?_) (fun hc => ?_)
    · (repeat refine qb ?_); refine qa ?_
      repeat (first | refine zR ?_ | refine zK ?_ | refine zM ?_ | refine zB ?_ | refine zA ?_ | refine zS ?_ | refine zL ?_)
      refine qc ?_
      (repeat refine qb ?_); refine qj ?_
      exact fin_i rfl (by rw [hW]; simp)
    · cases hc
  | true =>
    have hW : wordN (l.drop a) = ((l.drop a).takeWhile qw).length := by rw [hdr, jE, if_pos hl]; rfl
    repeat (first | refine zR ?_ | refine zK ?_ | refine zM ?_ | refine zB ?_ | refine zA ?_ | refine zS ?_ | refine zL ?_)
    refine qc ?_
    (repeat refine qb ?_); refine qe rfl (fun hc => ?_) (fun hc => ?_)
    · cases hc
    refine qq ?_
    (repeat refine qb ?_); refine zf ?_
    clear hcc hdr HL hl
    refine SW.wk (qv [0, 1] [] rfl rfl) ?_
    refine jC (fun m s => ∃ k : Nat, a + k ≤ l.length ∧ m = l.length - (a + k) ∧ (∀ x ∈ (l.drop a).take k, qw x = true) ∧ s = ⟨42, [(0, .p (pL l)), (1, .p (pI ((a + k : Nat) : Int)))], []⟩) (l.length - a) ⟨0, by omega, rfl, by simp, rfl⟩ ?_
    rintro m s ⟨k, hk, rfl, ha, rfl⟩
    (repeat refine qb ?_); refine qa ?_
    repeat (first | refine zR ?_ | refine zK ?_ | refine zM ?_ | refine zB ?_ | refine zA ?_ | refine zS ?_ | refine zL ?_)
    rw [ls]
    by_cases hlt : a + k < l.length
    rotate_left
    · rw [show decide (((a + k : Nat) : Int) < (l.length : Int)) = false by simp; omega]
      repeat (first | refine zR ?_ | refine zK ?_ | refine zM ?_ | refine zB ?_ | refine zA ?_ | refine zS ?_ | refine zL ?_)
      refine qc ?_
      (repeat refine qb ?_); refine qe rfl (fun hc => ?_) (fun hc => ?_)
      · cases hc
      refine ji ?_
      (repeat refine qb ?_); refine qa ?_
      repeat (first | refine zR ?_ | refine zK ?_ | refine zM ?_ | refine zB ?_ | refine zA ?_ | refine zS ?_ | refine zL ?_)
      refine qc ?_
      (repeat refine qb ?_); refine qj ?_
      exact fin_i rfl (by rw [hW, jz (k := k) (by rw [List.length_drop]; omega) ha fun h => absurd h (by rw [List.length_drop]; omega)])
    rw [show decide (((a + k : Nat) : Int) < (l.length : Int)) = true by simp; omega]
    obtain ⟨c, hcc⟩ : ∃ c, c = l[a + k] := ⟨_, rfl⟩
    have HL := rletter_h c
    have HD := rdigit_h c
    repeat (first | refine zR ?_ | refine zK ?_ | refine zM ?_ | refine zB ?_ | refine zA ?_ | refine zS ?_ | refine zL ?_)
    refine ql qg rfl rfl (by rw [ls]; omega) rfl ?_
    rw [qX hlt, ← hcc]
    repeat (first | refine zR ?_ | refine zK ?_ | refine zM ?_ | refine zB ?_ | refine zA ?_ | refine zS ?_ | refine zL ?_)
    refine qi rfl (qd rfl rfl rfl rfl (HL) rfl rfl ?_)
    repeat (first | refine zR ?_ | refine zK ?_ | refine zM ?_ | refine zB ?_ | refine zA ?_ | refine zS ?_ | refine zL ?_)
    cases hl : qB c with
    | true =>
      repeat (first | refine zR ?_ | refine zK ?_ | refine zM ?_ | refine zB ?_ | refine zA ?_ | refine zS ?_ | refine zL ?_)
      refine qc ?_
      (repeat refine qb ?_); refine qe rfl (fun hc => ?_) (fun hc => ?_)
      rotate_left
      · cases hc
      refine qq ?_
      (repeat refine qb ?_); refine zf ?_
      (repeat refine qb ?_); refine qa ?_
      repeat (first | refine zR ?_ | refine zK ?_ | refine zM ?_ | refine zB ?_ | refine zA ?_ | refine zS ?_ | refine zL ?_)
      refine qc ?_
      rw [add_k hlt (by omega)]
      refine ⟨_, _, ?_, qv [0, 1] [] rfl rfl, k + 1, by omega, rfl, ?_, rfl⟩
      · omega
      · intro x hx
        rw [List.take_succ_eq_append_getElem (by rw [List.length_drop]; omega), List.mem_append, List.mem_singleton, drop_get hlt, ← hcc] at hx
        rcases hx with hx | rfl
        · exact ha x hx
        · simp [qw, hl]
    | false =>
      repeat (first | refine zR ?_ | refine zK ?_ | refine zM ?_ | refine zB ?_ | refine zA ?_ | refine zS ?_ | refine zL ?_)
      refine ql qg rfl rfl (by rw [ls]; omega) rfl ?_
      rw [qX hlt, ← hcc]
      repeat (first | refine zR ?_ | refine zK ?_ | refine zM ?_ | refine zB ?_ | refine zA ?_ | refine zS ?_ | refine zL ?_)
      refine qi rfl (qd rfl rfl rfl rfl (HD) rfl rfl ?_)
      repeat (first | refine zR ?_ | refine zK ?_ | refine zM ?_ | refine zB ?_ | refine zA ?_ | refine zS ?_ | refine zL ?_)
      cases hd : qp c with
      | true =>
        repeat (first | refine zR ?_ | refine zK ?_ | refine zM ?_ | refine zB ?_ | refine zA ?_ | refine zS ?_ | refine zL ?_)
        refine qc ?_
        (repeat refine qb ?_); refine qe rfl (fun hc => ?_) (fun hc => ?_)
        rotate_left
        · cases hc
        refine qq ?_
        (repeat refine qb ?_); refine zf ?_
        (repeat refine qb ?_); refine qa ?_
        repeat (first | refine zR ?_ | refine zK ?_ | refine zM ?_ | refine zB ?_ | refine zA ?_ | refine zS ?_ | refine zL ?_)
        refine qc ?_
        rw [add_k hlt (by omega)]
        refine ⟨_, _, ?_, qv [0, 1] [] rfl rfl, k + 1, by omega, rfl, ?_, rfl⟩
        · omega
        · intro x hx
          rw [List.take_succ_eq_append_getElem (by rw [List.length_drop]; omega), List.mem_append, List.mem_singleton, drop_get hlt, ← hcc] at hx
          rcases hx with hx | rfl
          · exact ha x hx
          · simp [qw, hd]
      | false =>
        repeat (first | refine zR ?_ | refine zK ?_ | refine zM ?_ | refine zB ?_ | refine zA ?_ | refine zS ?_ | refine zL ?_)
        refine ql qg rfl rfl (by rw [ls]; omega) rfl ?_
        rw [qX hlt, ← hcc]
        repeat (first | refine zR ?_ | refine zK ?_ | refine zM ?_ | refine zB ?_ | refine zA ?_ | refine zS ?_ | refine zL ?_)
        by_cases h95 : c.toNat = 95
        · rw [show ((c.toNat : Int) == 95) = true by rw [beq_iff_eq]; omega]
          repeat (first | refine zR ?_ | refine zK ?_ | refine zM ?_ | refine zB ?_ | refine zA ?_ | refine zS ?_ | refine zL ?_)
          refine qc ?_
          (repeat refine qb ?_); refine qe rfl (fun hc => ?_) (fun hc => ?_)
          rotate_left
          · cases hc
          refine qq ?_
          (repeat refine qb ?_); refine zf ?_
          (repeat refine qb ?_); refine qa ?_
          repeat (first | refine zR ?_ | refine zK ?_ | refine zM ?_ | refine zB ?_ | refine zA ?_ | refine zS ?_ | refine zL ?_)
          refine qc ?_
          rw [add_k hlt (by omega)]
          refine ⟨_, _, ?_, qv [0, 1] [] rfl rfl, k + 1, by omega, rfl, ?_, rfl⟩
          · omega
          · intro x hx
            rw [List.take_succ_eq_append_getElem (by rw [List.length_drop]; omega), List.mem_append, List.mem_singleton, drop_get hlt, ← hcc] at hx
            rcases hx with hx | rfl
            · exact ha x hx
            · simp [qw, h95]
        · rw [show ((c.toNat : Int) == 95) = false by rw [beq_eq_false_iff_ne]; omega]
          repeat (first | refine zR ?_ | refine zK ?_ | refine zM ?_ | refine zB ?_ | refine zA ?_ | refine zS ?_ | refine zL ?_)
          refine qc ?_
          (repeat refine qb ?_); refine qe rfl (fun hc => ?_) (fun hc => ?_)
          · cases hc
          refine ji ?_
          (repeat refine qb ?_); refine qa ?_
          repeat (first | refine zR ?_ | refine zK ?_ | refine zM ?_ | refine zB ?_ | refine zA ?_ | refine zS ?_ | refine zL ?_)
          refine qc ?_
          (repeat refine qb ?_); refine qj ?_
          exact fin_i rfl (by rw [hW, jz (k := k) (by rw [List.length_drop]; omega) ha fun h => by rw [drop_get hlt, ← hcc]; simp [qw, hl, hd, h95]])
theorem byteAt_get {s : ByteArray} {k : Nat} (hk : k < s.size) : zC s k = (s[k].toNat : Int) := by
  unfold zC
  have : s.data.getD k 0 = s[k] := by
    rw [Array.getD_eq_getD_getElem?, Array.getElem?_eq_getElem (by exact hk)]; rfl
  rw [this]
theorem refName_h (s : ByteArray) (hs : s.size ≤ reachBytes) : Holds Tryd.prog 22 [pS s] (.p (pB (nameS s))) [] := by
  unfold reachBytes at hs
  refine qF (ts := [2]) Tryd.func22 (by kernel_rfl) rfl rfl rfl ?_
  (repeat refine qb ?_); refine qa ?_
  repeat (first | refine zR ?_ | refine zK ?_ | refine zM ?_ | refine zB ?_ | refine zA ?_ | refine zS ?_ | refine zL ?_)
  refine qc ?_
  (repeat refine qb ?_); refine qa ?_
  repeat (first | refine zR ?_ | refine zK ?_ | refine zM ?_ | refine zB ?_ | refine zA ?_ | refine zS ?_ | refine zL ?_)
  refine qc ?_
  (repeat refine qb ?_); refine zf ?_
  refine SW.wk (qv [0, 3] [] rfl rfl) ?_
  refine jC (fun m st => ∃ (k : Nat) (kk : Int), k ≤ s.size ∧ m = s.size - k ∧ kk = k ∧ (∀ i (h : i < s.size), i < k → okC (i == 0) s[i].toNat = true) ∧ st = ⟨45, [(0, .p (pS s)), (3, .p (pI kk))], []⟩) s.size ⟨0, 0, Nat.zero_le _, rfl, rfl, fun i _ h => absurd h (Nat.not_lt_zero _), rfl⟩ ?_
  rintro m st ⟨k, _, hk, rfl, rfl, ha, rfl⟩
  (repeat refine qb ?_); refine qa ?_
  repeat (first | refine zR ?_ | refine zK ?_ | refine zM ?_ | refine zB ?_ | refine zA ?_ | refine zS ?_ | refine zL ?_)
  refine qc ?_
  (repeat refine qb ?_); refine qe rfl (fun hlt => ?_) (fun hlt => ?_)
  · refine qq ?_
    have hlt' : k < s.size := by simpa using hlt
    (repeat refine qb ?_); refine zf ?_
    (repeat refine qb ?_); refine qa ?_
    repeat (first | refine zR ?_ | refine zK ?_ | refine zM ?_ | refine zB ?_ | refine zA ?_ | refine zS ?_ | refine zL ?_)
    refine ql qg rfl rfl (by omega) rfl ?_
    rw [show Int.toNat (k : Int) = k from rfl, byteAt_get hlt']
    repeat (first | refine zR ?_ | refine zK ?_ | refine zM ?_ | refine zB ?_ | refine zA ?_ | refine zS ?_ | refine zL ?_)
    refine qc ?_
    (repeat refine qb ?_); refine sw_region_spec (by kernel_rfl) ?_
    repeat (refine sws_read qg rfl (by exact True.intro) rfl ?_)
    refine sws_nil ?_
    obtain ⟨c, hc⟩ : ∃ c : Nat, c = s[k].toNat := ⟨_, rfl⟩
    rw [← hc]
    have hok : okC (k == 0) s[k].toNat = ((97 ≤ c && c ≤ 122) || (!(k == 0) && ((48 ≤ c && c ≤ 57) || c == 95))) := by rw [← hc]; rfl
    (repeat refine qb ?_); refine qe rfl (fun hb => ?_) (fun hb => ?_)
    · (repeat refine qb ?_); refine qa ?_
      repeat (first | refine zR ?_ | refine zK ?_ | refine zM ?_ | refine zB ?_ | refine zA ?_ | refine zS ?_ | refine zL ?_)
      refine qc ?_
      (repeat refine qb ?_); refine qj ?_
      refine jf rfl (nameS_no hlt' ?_).symm
      rw [hok]
      revert hb
      cases h1 : decide (97 ≤ c) <;> cases h2 : decide (c ≤ 122) <;> cases h3 : decide (48 ≤ c) <;> cases h4 : decide (c ≤ 57) <;> simp_all <;> omega
    · refine qq ?_
      (repeat refine qb ?_); refine qa ?_
      repeat (first | refine zR ?_ | refine zK ?_ | refine zM ?_ | refine zB ?_ | refine zA ?_ | refine zS ?_ | refine zL ?_)
      refine qc ?_
      refine ⟨_, _, ?_, qv [0, 3] [] rfl rfl, k + 1, _, hlt', rfl, zk hlt' (by omega), name_step hlt' ha ?_, rfl⟩
      · omega
      · rw [hok]
        revert hb
        cases h1 : decide (97 ≤ c) <;> cases h2 : decide (c ≤ 122) <;> cases h3 : decide (48 ≤ c) <;> cases h4 : decide (c ≤ 57) <;> simp_all <;> omega
  · refine ji ?_
    have hkk : k = s.size := by
      have : ¬ (k : Int) < (s.size : Int) := by simpa using hlt
      omega
    subst hkk
    (repeat refine qb ?_); refine sw_region_spec (by kernel_rfl) ?_
    repeat (refine sws_read qg rfl (by exact True.intro) rfl ?_)
    refine sws_nil ?_
    (repeat refine qb ?_); refine qj ?_
    refine jf rfl ?_
    rw [nameS_end ha, Bool.eq_iff_iff]
    simp
    omega
theorem u64_in {n : Int} (h : 0 ≤ n ∧ n < 18446744073709551616) : IntKind.u64.wrap n = n := by
  simp [IntKind.wrap, IntKind.bits, IntKind.signed]; omega
def numN (r : Bs) : Nat × Nat × Bool :=
  if 19 < (r.takeWhile qp).length then (19, 0, false)
  else ((r.takeWhile qp).length, decV (r.takeWhile qp), decide (0 < (r.takeWhile qp).length) && (decide ((r.head?.map (·.toNat)) ≠ some 48) || decide ((r.takeWhile qp).length = 1)))
abbrev pW (n : Nat) : PV := .v (.int .u64 (n : Int))
theorem decV_take {r : Bs} {k : Nat} (h : k < r.length) : decV (r.take (k + 1)) = 10 * decV (r.take k) + (r[k].toNat - 48) := by
  rw [List.take_succ_eq_append_getElem h, decV_snoc]
theorem decV_lt {r : Bs} (h : ∀ c ∈ r, qp c = true) : decV r < 10 ^ r.length := by
  have := (decA_len r 0 h).1
  have e : decA 0 r = decV r := rfl
  rw [e] at this
  omega
theorem take_ge {p : UInt8 → Bool} {l : Bs} {k : Nat} (hk : k ≤ l.length) (h : ∀ c ∈ l.take k, p c = true) : k ≤ (l.takeWhile p).length := by
  rw [← List.take_append_drop k l, List.takeWhile_append]
  have e1 : (l.take k).takeWhile p = l.take k := all_self _ h
  rw [e1, if_pos rfl, List.length_append, List.length_take]; omega
theorem fin_t3 {ts : List Tmp} {st : St} {x y z x' y' z' : PV} (h : resS st ts = some (.tup [.p x, .p y, .p z])) (hx : x = x') (hy : y = y') (hz : z = z') : Fin ts (.tup [.p x', .p y', .p z']) [] .ret st := by
  subst hx; subst hy; subst hz; exact ⟨Or.inr rfl, st, _, [], Wk.refl _, h, rfl, rfl, rfl⟩
theorem rnumber_h (l : Bs) (hn : l.length ≤ 100000) (a : Nat) (ha0 : a ≤ l.length) : Holds Tryd.prog 21 [pL l, pI (a : Int)] (.tup [.p (pI ((a + (numN (l.drop a)).1 : Nat) : Int)), .p (pW (numN (l.drop a)).2.1), .p (pB (numN (l.drop a)).2.2)]) [] := by
  have ls : (⟨⟨l⟩⟩ : ByteArray).size = l.length := rfl
  obtain ⟨r, hr⟩ : ∃ r, r = l.drop a := ⟨_, rfl⟩
  have hrl : r.length = l.length - a := by rw [hr, List.length_drop]
  rw [← hr]
  refine qF (ts := [4,5,6]) Tryd.func21 (by kernel_rfl) rfl rfl rfl ?_
  (repeat refine qb ?_); refine qa ?_
  repeat (first | refine zR ?_ | refine zK ?_ | refine zM ?_ | refine zB ?_ | refine zA ?_ | refine zS ?_ | refine zL ?_)
  refine qc ?_
  (repeat refine qb ?_); refine qa ?_
  repeat (first | refine zR ?_ | refine zK ?_ | refine zM ?_ | refine zB ?_ | refine zA ?_ | refine zS ?_ | refine zL ?_)
  refine qc ?_
  (repeat refine qb ?_); refine zf ?_
  refine SW.wk (qv [0, 1, 7, 8] [] rfl rfl) ?_
  refine jC (fun m s => ∃ k : Nat, a + k ≤ l.length ∧ k ≤ 19 ∧ m = l.length - (a + k) ∧ (∀ x ∈ r.take k, qp x = true) ∧ s = ⟨52, [(0, .p (pL l)), (1, .p (pI (a : Int))), (7, .p (pI ((a + k : Nat) : Int))), (8, .p (pW (decV (r.take k))))], []⟩) (l.length - a) ⟨0, by omega, by omega, rfl, by simp, rfl⟩ ?_
  rintro m s ⟨k, hk, hk19, rfl, hall, rfl⟩
  (repeat refine qb ?_); refine qa ?_
  repeat (first | refine zR ?_ | refine zK ?_ | refine zM ?_ | refine zB ?_ | refine zA ?_ | refine zS ?_ | refine zL ?_)
  rw [ls]
  by_cases hlt : a + k < l.length
  rotate_left
  · rw [show decide (((a + k : Nat) : Int) < (l.length : Int)) = false by simp; omega]
    repeat (first | refine zR ?_ | refine zK ?_ | refine zM ?_ | refine zB ?_ | refine zA ?_ | refine zS ?_ | refine zL ?_)
    refine qc ?_
    (repeat refine qb ?_); refine qe rfl (fun hc => ?_) (fun hc => ?_)
    · cases hc
    refine ji ?_
    have hd : r.takeWhile qp = r.take k := by
      have h1 := jz (k := k) (by omega) hall fun h => absurd h (by omega)
      have h2 := take_tw qp r
      rw [h1] at h2
      exact h2.symm
    have hdl : (r.takeWhile qp).length = k := by rw [hd, List.length_take]; omega
    have hN : numN r = (k, decV (r.take k), decide (0 < k) && (decide ((r.head?.map (·.toNat)) ≠ some 48) || decide (k = 1))) := by
      unfold numN
      rw [hdl, if_neg (by omega), hd]
    rw [hN]
    (repeat refine qb ?_); refine qa ?_
    repeat (first | refine zR ?_ | refine zK ?_ | refine zM ?_ | refine zB ?_ | refine zA ?_ | refine zS ?_ | refine zL ?_)
    by_cases hk0 : k = 0
    · rw [show decide (((a + k : Nat) : Int) > (a : Int)) = false by simp; omega]
      repeat (first | refine zR ?_ | refine zK ?_ | refine zM ?_ | refine zB ?_ | refine zA ?_ | refine zS ?_ | refine zL ?_)
      refine qc ?_
      (repeat refine qb ?_); refine qj ?_
      exact fin_t3 rfl rfl rfl (by simp [hk0])
    rw [show decide (((a + k : Nat) : Int) > (a : Int)) = true by simp; omega]
    have hla : a < l.length := by omega
    obtain ⟨x, hx⟩ : ∃ x, x = l[a] := ⟨_, rfl⟩
    have hh : (r.head?.map (·.toNat)) = some x.toNat := by rw [hr, List.drop_eq_getElem_cons hla, ← hx]; rfl
    rw [hh]
    repeat (first | refine zR ?_ | refine zK ?_ | refine zM ?_ | refine zB ?_ | refine zA ?_ | refine zS ?_ | refine zL ?_)
    refine ql qg rfl rfl (by rw [ls]; omega) rfl ?_
    rw [qX hla, ← hx]
    repeat (first | refine zR ?_ | refine zK ?_ | refine zM ?_ | refine zB ?_ | refine zA ?_ | refine zS ?_ | refine zL ?_)
    by_cases h48 : x.toNat = 48
    · rw [show ((x.toNat : Int) != 48) = false by rw [bne_eq_false_iff_eq]; omega]
      repeat (first | refine zR ?_ | refine zK ?_ | refine zM ?_ | refine zB ?_ | refine zA ?_ | refine zS ?_ | refine zL ?_)
      rw [show IntKind.i64.wrap ((a : Int) + 1) = ((a + 1 : Nat) : Int) by rw [IntWalk.i64_in _ (by omega)]; omega]
      refine qc ?_
      (repeat refine qb ?_); refine qj ?_
      refine fin_t3 rfl rfl rfl ?_
      by_cases h1 : k = 1
      · subst h1; simp
      · have : ¬ ((a + k : Nat) : Int) = ((a + 1 : Nat) : Int) := by omega
        simp [h48, h1, this]; omega
    · rw [show ((x.toNat : Int) != 48) = true by rw [bne_iff_ne]; omega]
      repeat (first | refine zR ?_ | refine zK ?_ | refine zM ?_ | refine zB ?_ | refine zA ?_ | refine zS ?_ | refine zL ?_)
      refine qc ?_
      (repeat refine qb ?_); refine qj ?_
      refine fin_t3 rfl rfl rfl ?_
      have : 0 < k := by omega
      simp [h48, this]
  rw [show decide (((a + k : Nat) : Int) < (l.length : Int)) = true by simp; omega]
  obtain ⟨c, hcc⟩ : ∃ c, c = l[a + k] := ⟨_, rfl⟩
  have hrk : k < r.length := by omega
  have hrc : r[k] = c := by subst hr; rw [hcc]; exact List.getElem_drop ..
  have HD := rdigit_h c
  repeat (first | refine zR ?_ | refine zK ?_ | refine zM ?_ | refine zB ?_ | refine zA ?_ | refine zS ?_ | refine zL ?_)
  refine ql qg rfl rfl (by rw [ls]; omega) rfl ?_
  rw [qX hlt, ← hcc]
  repeat (first | refine zR ?_ | refine zK ?_ | refine zM ?_ | refine zB ?_ | refine zA ?_ | refine zS ?_ | refine zL ?_)
  refine qi rfl (qd rfl rfl rfl rfl (HD) rfl rfl ?_)
  repeat (first | refine zR ?_ | refine zK ?_ | refine zM ?_ | refine zB ?_ | refine zA ?_ | refine zS ?_ | refine zL ?_)
  cases hd : qp c with
  | false =>
    repeat (first | refine zR ?_ | refine zK ?_ | refine zM ?_ | refine zB ?_ | refine zA ?_ | refine zS ?_ | refine zL ?_)
    refine qc ?_
    (repeat refine qb ?_); refine qe rfl (fun hc => ?_) (fun hc => ?_)
    · cases hc
    refine ji ?_
    have hd : r.takeWhile qp = r.take k := by
      have h1 := jz (k := k) (by omega) hall fun h => by rw [hrc]; exact hd
      have h2 := take_tw qp r
      rw [h1] at h2
      exact h2.symm
    have hdl : (r.takeWhile qp).length = k := by rw [hd, List.length_take]; omega
    have hN : numN r = (k, decV (r.take k), decide (0 < k) && (decide ((r.head?.map (·.toNat)) ≠ some 48) || decide (k = 1))) := by
      unfold numN
      rw [hdl, if_neg (by omega), hd]
    rw [hN]
    (repeat refine qb ?_); refine qa ?_
    repeat (first | refine zR ?_ | refine zK ?_ | refine zM ?_ | refine zB ?_ | refine zA ?_ | refine zS ?_ | refine zL ?_)
    by_cases hk0 : k = 0
    · rw [show decide (((a + k : Nat) : Int) > (a : Int)) = false by simp; omega]
      repeat (first | refine zR ?_ | refine zK ?_ | refine zM ?_ | refine zB ?_ | refine zA ?_ | refine zS ?_ | refine zL ?_)
      refine qc ?_
      (repeat refine qb ?_); refine qj ?_
      exact fin_t3 rfl rfl rfl (by simp [hk0])
    rw [show decide (((a + k : Nat) : Int) > (a : Int)) = true by simp; omega]
    have hla : a < l.length := by omega
    obtain ⟨x, hx⟩ : ∃ x, x = l[a] := ⟨_, rfl⟩
    have hh : (r.head?.map (·.toNat)) = some x.toNat := by rw [hr, List.drop_eq_getElem_cons hla, ← hx]; rfl
    rw [hh]
    repeat (first | refine zR ?_ | refine zK ?_ | refine zM ?_ | refine zB ?_ | refine zA ?_ | refine zS ?_ | refine zL ?_)
    refine ql qg rfl rfl (by rw [ls]; omega) rfl ?_
    rw [qX hla, ← hx]
    repeat (first | refine zR ?_ | refine zK ?_ | refine zM ?_ | refine zB ?_ | refine zA ?_ | refine zS ?_ | refine zL ?_)
    by_cases h48 : x.toNat = 48
    · rw [show ((x.toNat : Int) != 48) = false by rw [bne_eq_false_iff_eq]; omega]
      repeat (first | refine zR ?_ | refine zK ?_ | refine zM ?_ | refine zB ?_ | refine zA ?_ | refine zS ?_ | refine zL ?_)
      rw [show IntKind.i64.wrap ((a : Int) + 1) = ((a + 1 : Nat) : Int) by rw [IntWalk.i64_in _ (by omega)]; omega]
      refine qc ?_
      (repeat refine qb ?_); refine qj ?_
      refine fin_t3 rfl rfl rfl ?_
      by_cases h1 : k = 1
      · subst h1; simp
      · have : ¬ ((a + k : Nat) : Int) = ((a + 1 : Nat) : Int) := by omega
        simp [h48, h1, this]; omega
    · rw [show ((x.toNat : Int) != 48) = true by rw [bne_iff_ne]; omega]
      repeat (first | refine zR ?_ | refine zK ?_ | refine zM ?_ | refine zB ?_ | refine zA ?_ | refine zS ?_ | refine zL ?_)
      refine qc ?_
      (repeat refine qb ?_); refine qj ?_
      refine fin_t3 rfl rfl rfl ?_
      have : 0 < k := by omega
      simp [h48, this]
  | true =>
    have hc48 := isDigB_iff.1 hd
    have hall2 : ∀ x ∈ r.take (k + 1), qp x = true := by
      intro x hx
      rw [List.take_succ_eq_append_getElem hrk, List.mem_append, List.mem_singleton, hrc] at hx
      rcases hx with hx | rfl
      · exact hall x hx
      · exact hd
    repeat (first | refine zR ?_ | refine zK ?_ | refine zM ?_ | refine zB ?_ | refine zA ?_ | refine zS ?_ | refine zL ?_)
    refine qc ?_
    (repeat refine qb ?_); refine qe rfl (fun hc => ?_) (fun hc => ?_)
    rotate_left
    · cases hc
    refine qq ?_
    (repeat refine qb ?_); refine zf ?_
    (repeat refine qb ?_); refine qa ?_
    repeat (first | refine zR ?_ | refine zK ?_ | refine zM ?_ | refine zB ?_ | refine zA ?_ | refine zS ?_ | refine zL ?_)
    rw [show IntKind.i64.wrap (((a + k : Nat) : Int) - (a : Int)) = (k : Int) by rw [IntWalk.i64_in _ (by omega)]; omega]
    by_cases h19 : k = 19
    · have hN : numN r = (19, 0, false) := by
        unfold numN
        rw [if_pos]
        have := take_ge (p := qp) (show k + 1 ≤ r.length by omega) hall2
        omega
      rw [hN, show decide ((k : Int) ≥ 19) = true by simp; omega]
      refine qc ?_
      (repeat refine qb ?_); refine qe rfl (fun hz => ?_) (fun hz => ?_)
      · (repeat refine qb ?_); refine qa ?_
        repeat (first | refine zR ?_ | refine zK ?_ | refine zM ?_ | refine zB ?_ | refine zA ?_ | refine zS ?_ | refine zL ?_)
        refine qc ?_
        (repeat refine qb ?_); refine qj ?_
        exact fin_t3 rfl (by rw [h19]) rfl rfl
      · cases hz
    · rw [show decide ((k : Int) ≥ 19) = false by simp; omega]
      refine qc ?_
      (repeat refine qb ?_); refine qe rfl (fun hz => ?_) (fun hz => ?_)
      · cases hz
      refine qq ?_
      have hb : decV (r.take k) < 1000000000000000000 := by
        have h1 := decV_lt hall
        have h2 : 10 ^ (r.take k).length ≤ 10 ^ 18 := Nat.pow_le_pow_right (by omega) (by rw [List.length_take]; omega)
        omega
      have hs := decV_take hrk
      rw [hrc] at hs
      (repeat refine qb ?_); refine qa ?_
      repeat (first | refine zR ?_ | refine zK ?_ | refine zM ?_ | refine zB ?_ | refine zA ?_ | refine zS ?_ | refine zL ?_)
      refine ql qg rfl rfl (by rw [ls]; omega) rfl ?_
      rw [qX hlt, ← hcc]
      repeat (first | refine zR ?_ | refine zK ?_ | refine zM ?_ | refine zB ?_ | refine zA ?_ | refine zS ?_ | refine zL ?_)
      rw [u8_in (n := (c.toNat : Int) - 48) (by omega)]
      repeat (first | refine zR ?_ | refine zK ?_ | refine zM ?_ | refine zB ?_ | refine zA ?_ | refine zS ?_ | refine zL ?_)
      rw [show IntKind.u64.wrap ((c.toNat : Int) - 48) = ((c.toNat - 48 : Nat) : Int) by rw [u64_in (by omega)]; omega, show IntKind.u64.wrap (10 * (decV (r.take k) : Int)) = ((10 * decV (r.take k) : Nat) : Int) by rw [u64_in (by omega)]; omega]
      repeat (first | refine zR ?_ | refine zK ?_ | refine zM ?_ | refine zB ?_ | refine zA ?_ | refine zS ?_ | refine zL ?_)
      rw [show IntKind.u64.wrap (((10 * decV (r.take k) : Nat) : Int) + ((c.toNat - 48 : Nat) : Int)) = ((decV (r.take (k + 1)) : Nat) : Int) by rw [u64_in (by omega), hs]; omega]
      repeat (first | refine zR ?_ | refine zK ?_ | refine zM ?_ | refine zB ?_ | refine zA ?_ | refine zS ?_ | refine zL ?_)
      refine qc ?_
      (repeat refine qb ?_); refine qa ?_
      repeat (first | refine zR ?_ | refine zK ?_ | refine zM ?_ | refine zB ?_ | refine zA ?_ | refine zS ?_ | refine zL ?_)
      refine qc ?_
      rw [add_k hlt (by omega)]
      refine ⟨_, _, ?_, qv [0, 1, 7, 8] [] rfl rfl, k + 1, by omega, by omega, rfl, hall2, rfl⟩
      omega
theorem unhex_h (c : UInt8) : Holds Tryd.prog 33 [pU c] (.tup [.p (.v (.int .u8 (((hexB c).getD 0 : Nat) : Int))), .p (pB (hexB c).isSome)]) [] := by
  have H := rdigit_h c
  have hc := UInt8.toNat_lt c
  refine qF (ts := [2,3]) Tryd.func33 (by kernel_rfl) rfl rfl rfl ?_
  (repeat refine qb ?_); refine qa ?_
  repeat (first | refine zR ?_ | refine zK ?_ | refine zM ?_ | refine zB ?_ | refine zA ?_ | refine zS ?_ | refine zL ?_)
  refine qc ?_
  (repeat refine qb ?_); refine zf ?_
  (repeat refine qb ?_); refine qa ?_
  repeat (first | refine zR ?_ | refine zK ?_ | refine zM ?_ | refine zB ?_ | refine zA ?_ | refine zS ?_ | refine zL ?_)
  refine qi rfl (qd rfl rfl rfl rfl (H) rfl rfl ?_)
  repeat (first | refine zR ?_ | refine zK ?_ | refine zM ?_ | refine zB ?_ | refine zA ?_ | refine zS ?_ | refine zL ?_)
  cases hd : qp c with
  | true =>
    have h1 := isDigB_iff.1 hd
    have e : hexB c = some (c.toNat - 48) := by unfold hexB; rw [if_pos hd]
    repeat (first | refine zR ?_ | refine zK ?_ | refine zM ?_ | refine zB ?_ | refine zA ?_ | refine zS ?_ | refine zL ?_)
    refine qc ?_
    (repeat refine qb ?_); refine qe rfl (fun hq => ?_) (fun hq => ?_)
    · (repeat refine qb ?_); refine qa ?_
      repeat (first | refine zR ?_ | refine zK ?_ | refine zM ?_ | refine zB ?_ | refine zA ?_ | refine zS ?_ | refine zL ?_)
      rw [u8_in (n := (c.toNat : Int) - 48) (by omega)]
      repeat (first | refine zR ?_ | refine zK ?_ | refine zM ?_ | refine zB ?_ | refine zA ?_ | refine zS ?_ | refine zL ?_)
      refine qc ?_
      (repeat refine qb ?_); refine qj ?_
      exact jH rfl (by rw [e]; simp only [Option.getD_some]; congr 2; omega) (by rw [e]; rfl)
    · cases hq
  | false =>
    repeat (first | refine zR ?_ | refine zK ?_ | refine zM ?_ | refine zB ?_ | refine zA ?_ | refine zS ?_ | refine zL ?_)
    refine qc ?_
    (repeat refine qb ?_); refine qe rfl (fun hq => ?_) (fun hq => ?_)
    · cases hq
    · (repeat refine qb ?_); refine qa ?_
      repeat (first | refine zR ?_ | refine zK ?_ | refine zM ?_ | refine zB ?_ | refine zA ?_ | refine zS ?_ | refine zL ?_)
      by_cases h1 : 97 ≤ c.toNat
      · rw [show decide ((c.toNat : Int) ≥ 97) = true by simp; omega]
        repeat (first | refine zR ?_ | refine zK ?_ | refine zM ?_ | refine zB ?_ | refine zA ?_ | refine zS ?_ | refine zL ?_)
        by_cases h2 : c.toNat ≤ 102
        · rw [show decide ((c.toNat : Int) ≤ 102) = true by simp; omega]
          have e : hexB c = some (c.toNat - 87) := by unfold hexB; rw [if_neg (by rw [hd]; simp), if_pos ⟨h1, h2⟩]
          repeat (first | refine zR ?_ | refine zK ?_ | refine zM ?_ | refine zB ?_ | refine zA ?_ | refine zS ?_ | refine zL ?_)
          refine qc ?_
          (repeat refine qb ?_); refine qe rfl (fun h9 => ?_) (fun h9 => ?_)
          · (repeat refine qb ?_); refine qa ?_
            repeat (first | refine zR ?_ | refine zK ?_ | refine zM ?_ | refine zB ?_ | refine zA ?_ | refine zS ?_ | refine zL ?_)
            rw [u8_in (n := (c.toNat : Int) - 97) (by omega), u8_in (n := (c.toNat : Int) - 97 + 10) (by omega)]
            repeat (first | refine zR ?_ | refine zK ?_ | refine zM ?_ | refine zB ?_ | refine zA ?_ | refine zS ?_ | refine zL ?_)
            refine qc ?_
            (repeat refine qb ?_); refine qj ?_
            exact jH rfl (by rw [e]; simp only [Option.getD_some]; congr 2; omega) (by rw [e]; rfl)
          · cases h9
        · rw [show decide ((c.toNat : Int) ≤ 102) = false by simp; omega]
          have e : hexB c = none := by unfold hexB; rw [if_neg (by rw [hd]; simp), if_neg (by omega)]
          repeat (first | refine zR ?_ | refine zK ?_ | refine zM ?_ | refine zB ?_ | refine zA ?_ | refine zS ?_ | refine zL ?_)
          refine qc ?_
          (repeat refine qb ?_); refine qe rfl (fun h9 => ?_) (fun h9 => ?_)
          · cases h9
          · refine qq ?_
            (repeat refine qb ?_); refine qa ?_
            repeat (first | refine zR ?_ | refine zK ?_ | refine zM ?_ | refine zB ?_ | refine zA ?_ | refine zS ?_ | refine zL ?_)
            refine qc ?_
            (repeat refine qb ?_); refine qj ?_
            exact jH rfl (by rw [e]; rfl) (by rw [e]; rfl)
      · rw [show decide ((c.toNat : Int) ≥ 97) = false by simp; omega]
        have e : hexB c = none := by unfold hexB; rw [if_neg (by rw [hd]; simp), if_neg (by omega)]
        repeat (first | refine zR ?_ | refine zK ?_ | refine zM ?_ | refine zB ?_ | refine zA ?_ | refine zS ?_ | refine zL ?_)
        refine qc ?_
        (repeat refine qb ?_); refine qe rfl (fun h9 => ?_) (fun h9 => ?_)
        · cases h9
        · refine qq ?_
          (repeat refine qb ?_); refine qa ?_
          repeat (first | refine zR ?_ | refine zK ?_ | refine zM ?_ | refine zB ?_ | refine zA ?_ | refine zS ?_ | refine zL ?_)
          refine qc ?_
          (repeat refine qb ?_); refine qj ?_
          exact jH rfl (by rw [e]; rfl) (by rw [e]; rfl)
theorem or_hex : ∀ a b : _root_.Fin 16, IntKind.u8.wrap ((BitVec.ofInt IntKind.u8.bits (IntKind.u8.wrap ((a.val : Int) * 2 ^ (min (4 : Int).toNat IntKind.u8.bits))) ||| BitVec.ofInt IntKind.u8.bits (b.val : Int)).toNat : Int) = ((16 * a.val + b.val : Nat) : Int) := by decide
def quoR (l : Bs) (a : Nat) (r : SV) : Prop := match qQ (l.drop (a + 1)) with
  | some (t, k) => r = .tup [.p (pI ((a + 1 + k : Nat) : Int)), .p (pL t), .p (pB (decide (t.length ≤ 64)))]
  | none => ∃ x : Int, r = .tup [.p (pI x), .p (pL []), .p (pB false)]
end Go.Proofs.YtnojoaneboppnaaDoor
namespace Go.Proofs.YtnojoaneboppnaaDoor
set_option linter.unusedVariables false
set_option linter.unusedSimpArgs false
open Go.RowKit
set_option maxHeartbeats 4000000
set_option maxRecDepth 100000
theorem holdsE_of {P : Program} {f : FuncId} {fn : Func} {c : Code} {args : List PV} {R : SV → Prop} {ts : List Tmp} (hf : P.funcs[f]? = some fn) (hname : (fn.name == "runtime.NumGoroutine") = false) (hb : fn.body = some c)
    (hres : fn.results = (ts.map ResultVar.tmp).toArray) (hn : (Nat.ble args.length fn.ntmps && Nat.ble fn.ntmps 900) = true) (h : SW P c (FinR ts fun r _ => R r ∧ flatS r = true) ⟨fn.ntmps, argFr 0 args, []⟩) : HoldsE P f args R := by
  refine ⟨⟨fn, hf, hname, by rw [hb]; rfl⟩, fun w Sx vs hSx hl hr => ?_⟩
  rw [← argFrS_p] at h
  refine (body_run (args := args.map .p) hf hb hres (by simpa using hn) h (belowB_entry.2 (Below.refl _ w)) (heap_nil hSx fun _ => .nilIface) (by simpa using hl) fun i s u hs hu => ?_).mono fun e w' he => ?_
  · rw [List.getElem?_map] at hs
    obtain ⟨x, hx, rfl⟩ := Option.map_eq_some_iff.1 hs
    exact .p ((hr i x u hx hu).weak fun b _ hok => ⟨hok, fun i bx hi => by cases hi⟩)
  · obtain ⟨v, γ', r', o', ⟨h0, hfl⟩, h1, h2, h3, h4⟩ := he
    exact ⟨r', v, h0, hfl, h1, belowB_entry.1 h2, h4.flat hfl⟩
theorem rquoted_h (l : Bs) (hn : l.length ≤ 100000) (a : Nat) (ha0 : a < l.length) : HoldsE Tryd.prog 23 [pL l, pI (a : Int)] (quoR l a) := by
  have ls : (⟨⟨l⟩⟩ : ByteArray).size = l.length := rfl
  refine holdsE_of (ts := [4, 5, 6]) Tryd.func23 (by kernel_rfl) rfl rfl rfl ?_
  (repeat refine qb ?_); refine qa ?_
  repeat (first | refine zR ?_ | refine zK ?_ | refine zM ?_ | refine zB ?_ | refine zA ?_ | refine zS ?_ | refine zL ?_)
  refine qc ?_
  (repeat refine qb ?_); refine qa ?_
  repeat (first | refine zR ?_ | refine zK ?_ | refine zM ?_ | refine zB ?_ | refine zA ?_ | refine zS ?_ | refine zL ?_)
  refine qc ?_
  (repeat refine qb ?_); refine qa ?_
  repeat (first | refine zR ?_ | refine zK ?_ | refine zM ?_ | refine zB ?_ | refine zA ?_ | refine zS ?_ | refine zL ?_)
  refine qc ?_
  rw [zk ha0 (by omega)]
  (repeat refine qb ?_); refine zf ?_
  refine SW.wk (qv [0, 1, 7] [] rfl rfl) ?_
  refine jC (fun m s => ∃ (b : Nat) (o : Bs), a + 1 ≤ b ∧ b ≤ l.length ∧ m = l.length - b ∧ o.length ≤ b ∧ qQ (l.drop (a + 1)) = (qQ (l.drop b)).map (fun p => (o ++ p.1, p.2 + (b - (a + 1)))) ∧ s = ⟨107, [(0, .p (pL l)), (1, .p (pI (b : Int))), (7, .p (pL o))], []⟩) (l.length - (a + 1)) ⟨a + 1, [], Nat.le_refl _, by omega, rfl, Nat.zero_le _, by cases qQ (l.drop (a + 1)) <;> simp, rfl⟩ ?_
  rintro m s ⟨b, o, hab, hbl, rfl, ho, hT, rfl⟩
  (repeat refine qb ?_); refine qa ?_
  repeat (first | refine zR ?_ | refine zK ?_ | refine zM ?_ | refine zB ?_ | refine zA ?_ | refine zS ?_ | refine zL ?_)
  rw [ls]
  by_cases hlt : b < l.length
  rotate_left
  · have hN : qQ (l.drop (a + 1)) = none := by rw [hT, List.drop_of_length_le (by omega)]; rfl
    have hQ : ∀ x : Int, quoR l a (.tup [.p (pI x), .p (pL []), .p (pB false)]) := fun x => by unfold quoR; rw [hN]; exact ⟨x, rfl⟩
    rw [show decide ((b : Int) < (l.length : Int)) = false by simp; omega]
    refine qc ?_
    (repeat refine qb ?_); refine qe rfl (fun hc => ?_) (fun hc => ?_)
    · cases hc
    refine ji ?_
    (repeat refine qb ?_); refine qa ?_
    repeat (first | refine zR ?_ | refine zK ?_ | refine zM ?_ | refine zB ?_ | refine zA ?_ | refine zS ?_ | refine zL ?_)
    refine qc ?_
    (repeat refine qb ?_); refine qj ?_
    exact ⟨Or.inr rfl, _, _, [], _, _, Wk.refl _, rfl, rfl, rfl, rfl, hQ _, rfl⟩
  rw [show decide ((b : Int) < (l.length : Int)) = true by simp; omega]
  refine qc ?_
  (repeat refine qb ?_); refine qe rfl (fun hc => ?_) (fun hc => ?_)
  rotate_left
  · cases hc
  refine qq ?_
  obtain ⟨c, hcc⟩ : ∃ c, c = l[b] := ⟨_, rfl⟩
  have hdr : l.drop b = c :: l.drop (b + 1) := by rw [hcc]; exact List.drop_eq_getElem_cons hlt
  (repeat refine qb ?_); refine zf ?_
  (repeat refine qb ?_); refine qa ?_
  repeat (first | refine zR ?_ | refine zK ?_ | refine zM ?_ | refine zB ?_ | refine zA ?_ | refine zS ?_ | refine zL ?_)
  refine ql qg rfl rfl (by rw [ls]; omega) rfl ?_
  rw [qX hlt, ← hcc]
  repeat (first | refine zR ?_ | refine zK ?_ | refine zM ?_ | refine zB ?_ | refine zA ?_ | refine zS ?_ | refine zL ?_)
  refine qc ?_
  (repeat refine qb ?_); refine zf ?_
  (repeat refine qb ?_); refine qa ?_
  repeat (first | refine zR ?_ | refine zK ?_ | refine zM ?_ | refine zB ?_ | refine zA ?_ | refine zS ?_ | refine zL ?_)
  by_cases h34 : c.toNat = 34
  · have hS : qQ (l.drop (a + 1)) = some (o, 1 + (b - (a + 1))) := by
      rw [hT, hdr, qT, if_pos h34]; simp
    have hQ : quoR l a (.tup [.p (pI ((a + 1 + (1 + (b - (a + 1))) : Nat) : Int)), .p (pL o), .p (pB (decide (o.length ≤ 64)))]) := by unfold quoR; rw [hS]
    rw [show ((c.toNat : Int) == 34) = true by rw [beq_iff_eq]; omega]
    refine qc ?_
    (repeat refine qb ?_); refine qe rfl (fun hz => ?_) (fun hz => ?_)
    rotate_left
    · cases hz
    (repeat refine qb ?_); refine qa ?_
    repeat (first | refine zR ?_ | refine zK ?_ | refine zM ?_ | refine zB ?_ | refine zA ?_ | refine zS ?_ | refine zL ?_)
    rw [zk hlt (by omega), show ((b + 1 : Nat) : Int) = ((a + 1 + (1 + (b - (a + 1))) : Nat) : Int) by omega, show (⟨⟨o⟩⟩ : ByteArray).size = o.length from rfl, show decide ((o.length : Int) ≤ 64) = decide (o.length ≤ 64) by rw [Bool.eq_iff_iff]; simp; omega]
    repeat (first | refine zR ?_ | refine zK ?_ | refine zM ?_ | refine zB ?_ | refine zA ?_ | refine zS ?_ | refine zL ?_)
    refine qc ?_
    (repeat refine qb ?_); refine qj ?_
    exact ⟨Or.inr rfl, _, _, [], _, _, Wk.refl _, rfl, rfl, rfl, rfl, hQ, rfl⟩
  rw [show ((c.toNat : Int) == 34) = false by rw [beq_eq_false_iff_ne]; omega]
  refine qc ?_
  (repeat refine qb ?_); refine qe rfl (fun hz => ?_) (fun hz => ?_)
  · cases hz
  (repeat refine qb ?_); refine qa ?_
  repeat (first | refine zR ?_ | refine zK ?_ | refine zM ?_ | refine zB ?_ | refine zA ?_ | refine zS ?_ | refine zL ?_)
  by_cases h92 : c.toNat = 92
  · have hp : zc c = false := by simp [zc, h92]
    have hO : qQ (l.drop b) = oddT (l.drop (b + 1)) := by rw [hdr, qT, if_neg h34, if_neg (by rw [hp]; simp), if_pos h92]
    rw [show ((c.toNat : Int) == 92) = true by rw [beq_iff_eq]; omega]
    refine qc ?_
    (repeat refine qb ?_); refine qe rfl (fun hz => ?_) (fun hz => ?_)
    rotate_left
    · cases hz
    (repeat refine qb ?_); refine qa ?_
    repeat (first | refine zR ?_ | refine zK ?_ | refine zM ?_ | refine zB ?_ | refine zA ?_ | refine zS ?_ | refine zL ?_)
    rw [ls, show IntKind.i64.wrap ((b : Int) + 2) = ((b + 2 : Nat) : Int) from IntWalk.i64_in _ (by omega)]
    by_cases hend : l.length ≤ b + 2
    · have hN : qQ (l.drop (a + 1)) = none := by
        rw [hT, hO]
        have : (l.drop (b + 1)).length ≤ 1 := by simp; omega
        match hd : l.drop (b + 1), this with
        | [], _ => rfl
        | [_], _ => rfl
        | _ :: _ :: _, h => simp at h
      rw [show decide (((b + 2 : Nat) : Int) ≥ (l.length : Int)) = true by simp; omega]
      refine qc ?_
      have hQ : ∀ x : Int, quoR l a (.tup [.p (pI x), .p (pL []), .p (pB false)]) := fun x => by unfold quoR; rw [hN]; exact ⟨x, rfl⟩
      (repeat refine qb ?_); refine qe rfl (fun hz => ?_) (fun hz => ?_)
      rotate_left
      · cases hz
      (repeat refine qb ?_); refine qa ?_
      repeat (first | refine zR ?_ | refine zK ?_ | refine zM ?_ | refine zB ?_ | refine zA ?_ | refine zS ?_ | refine zL ?_)
      refine qc ?_
      (repeat refine qb ?_); refine qj ?_
      exact ⟨Or.inr rfl, _, _, [], _, _, Wk.refl _, rfl, rfl, rfl, rfl, hQ _, rfl⟩
    rw [show decide (((b + 2 : Nat) : Int) ≥ (l.length : Int)) = false by simp; omega]
    refine qc ?_
    (repeat refine qb ?_); refine qe rfl (fun hz => ?_) (fun hz => ?_)
    · cases hz
    refine qq ?_
    obtain ⟨h, hh⟩ : ∃ h, h = l[b + 1] := ⟨_, rfl⟩
    obtain ⟨x, hx⟩ : ∃ x, x = l[b + 2] := ⟨_, rfl⟩
    have hdr2 : l.drop (b + 1) = h :: x :: l.drop (b + 3) := by
      rw [hh, hx, List.drop_eq_getElem_cons (show b + 1 < l.length by omega), List.drop_eq_getElem_cons (show b + 1 + 1 < l.length by omega)]
    have hO2 : oddT (l.drop (b + 1)) = match hexB h, hexB x with
      | some a, some b' => if zc (UInt8.ofNat (16 * a + b')) then none else (qQ (l.drop (b + 3))).map fun p => (UInt8.ofNat (16 * a + b') :: p.1, p.2 + 3)
      | _, _ => none := by rw [hdr2]; rfl
    have H1 := unhex_h h
    have H2 := unhex_h x
    (repeat refine qb ?_); refine qa ?_
    repeat (first | refine zR ?_ | refine zK ?_ | refine zM ?_ | refine zB ?_ | refine zA ?_ | refine zS ?_ | refine zL ?_)
    rw [zk hlt (by omega)]
    refine ql qg rfl rfl (by rw [ls]; omega) rfl ?_
    rw [qX (show b + 1 < l.length by omega), ← hh]
    repeat (first | refine zR ?_ | refine zK ?_ | refine zM ?_ | refine zB ?_ | refine zA ?_ | refine zS ?_ | refine zL ?_)
    refine qi rfl (qd rfl rfl rfl rfl (H1) rfl rfl ?_)
    repeat (first | refine zR ?_ | refine zK ?_ | refine zM ?_ | refine zB ?_ | refine zA ?_ | refine zS ?_ | refine zL ?_)
    repeat (first | refine zR ?_ | refine zK ?_ | refine zM ?_ | refine zB ?_ | refine zA ?_ | refine zS ?_ | refine zL ?_)
    refine qc ?_
    (repeat refine qb ?_); refine qa ?_
    repeat (first | refine zR ?_ | refine zK ?_ | refine zM ?_ | refine zB ?_ | refine zA ?_ | refine zS ?_ | refine zL ?_)
    rw [show IntKind.i64.wrap ((b : Int) + 2) = ((b + 2 : Nat) : Int) from IntWalk.i64_in _ (by omega)]
    refine ql qg rfl rfl (by rw [ls]; omega) rfl ?_
    rw [qX (show b + 2 < l.length by omega), ← hx]
    repeat (first | refine zR ?_ | refine zK ?_ | refine zM ?_ | refine zB ?_ | refine zA ?_ | refine zS ?_ | refine zL ?_)
    refine qi rfl (qd rfl rfl rfl rfl (H2) rfl rfl ?_)
    repeat (first | refine zR ?_ | refine zK ?_ | refine zM ?_ | refine zB ?_ | refine zA ?_ | refine zS ?_ | refine zL ?_)
    repeat (first | refine zR ?_ | refine zK ?_ | refine zM ?_ | refine zB ?_ | refine zA ?_ | refine zS ?_ | refine zL ?_)
    refine qc ?_
    have hh16 : (hexB h).getD 0 < 16 := by cases he : hexB h with | none => decide | some v => exact hexB_lt he
    have hx16 : (hexB x).getD 0 < 16 := by cases he : hexB x with | none => decide | some v => exact hexB_lt he
    have hor := or_hex ⟨(hexB h).getD 0, hh16⟩ ⟨(hexB x).getD 0, hx16⟩
    simp only at hor
    (repeat refine qb ?_); refine qa ?_
    repeat (first | refine zR ?_ | refine zK ?_ | refine zM ?_ | refine zB ?_ | refine zA ?_ | refine zS ?_ | refine zL ?_)
    refine ql qg rfl rfl (by decide) rfl ?_
    repeat (first | refine zR ?_ | refine zK ?_ | refine zM ?_ | refine zB ?_ | refine zA ?_ | refine zS ?_ | refine zL ?_)
    rw [hor]
    repeat (first | refine zR ?_ | refine zK ?_ | refine zM ?_ | refine zB ?_ | refine zA ?_ | refine zS ?_ | refine zL ?_)
    refine qc ?_
    (repeat refine qb ?_); refine qa ?_
    repeat (first | refine zR ?_ | refine zK ?_ | refine zM ?_ | refine zB ?_ | refine zA ?_ | refine zS ?_ | refine zL ?_)
    cases hhs : hexB h with
    | none =>
      have hN : qQ (l.drop (a + 1)) = none := by rw [hT, hO, hO2, hhs]; rfl
      repeat (first | refine zR ?_ | refine zK ?_ | refine zM ?_ | refine zB ?_ | refine zA ?_ | refine zS ?_ | refine zL ?_)
      refine qc ?_
      have hQ : ∀ x : Int, quoR l a (.tup [.p (pI x), .p (pL []), .p (pB false)]) := fun x => by unfold quoR; rw [hN]; exact ⟨x, rfl⟩
      (repeat refine qb ?_); refine qe rfl (fun hz => ?_) (fun hz => ?_)
      rotate_left
      · cases hz
      (repeat refine qb ?_); refine qa ?_
      repeat (first | refine zR ?_ | refine zK ?_ | refine zM ?_ | refine zB ?_ | refine zA ?_ | refine zS ?_ | refine zL ?_)
      refine qc ?_
      (repeat refine qb ?_); refine qj ?_
      exact ⟨Or.inr rfl, _, _, [], _, _, Wk.refl _, rfl, rfl, rfl, rfl, hQ _, rfl⟩
    | some u =>
      cases hxs : hexB x with
      | none =>
        have hN : qQ (l.drop (a + 1)) = none := by rw [hT, hO, hO2, hhs, hxs]; rfl
        repeat (first | refine zR ?_ | refine zK ?_ | refine zM ?_ | refine zB ?_ | refine zA ?_ | refine zS ?_ | refine zL ?_)
        refine qc ?_
        have hQ : ∀ x : Int, quoR l a (.tup [.p (pI x), .p (pL []), .p (pB false)]) := fun x => by unfold quoR; rw [hN]; exact ⟨x, rfl⟩
        (repeat refine qb ?_); refine qe rfl (fun hz => ?_) (fun hz => ?_)
        rotate_left
        · cases hz
        (repeat refine qb ?_); refine qa ?_
        repeat (first | refine zR ?_ | refine zK ?_ | refine zM ?_ | refine zB ?_ | refine zA ?_ | refine zS ?_ | refine zL ?_)
        refine qc ?_
        (repeat refine qb ?_); refine qj ?_
        exact ⟨Or.inr rfl, _, _, [], _, _, Wk.refl _, rfl, rfl, rfl, rfl, hQ _, rfl⟩
      | some v =>
        rw [hhs] at hh16
        rw [hxs] at hx16
        simp only [Option.getD_some] at hh16 hx16
        obtain ⟨q, hq⟩ : ∃ q, q = UInt8.ofNat (16 * u + v) := ⟨_, rfl⟩
        have hqn : q.toNat = 16 * u + v := by rw [hq, UInt8.toNat_ofNat']; omega
        rw [hhs, hxs] at hO2
        simp only at hO2
        rw [← hq] at hO2
        simp only [Option.getD_some, Option.isSome_some]
        rw [← hqn]
        repeat (first | refine zR ?_ | refine zK ?_ | refine zM ?_ | refine zB ?_ | refine zA ?_ | refine zS ?_ | refine zL ?_)
        by_cases q1 : 32 ≤ q.toNat
        rotate_left
        · rw [show decide ((q.toNat : Int) ≥ 32) = false by simp; omega]
          have hpq : zc q = false := by simp [zc, q1]
          repeat (first | refine zR ?_ | refine zK ?_ | refine zM ?_ | refine zB ?_ | refine zA ?_ | refine zS ?_ | refine zL ?_)
          refine qc ?_
          (repeat refine qb ?_); refine qe rfl (fun hz => ?_) (fun hz => ?_)
          · cases hz
          refine qq ?_
          (repeat refine qb ?_); refine qa ?_
          repeat (first | refine zR ?_ | refine zK ?_ | refine zM ?_ | refine zB ?_ | refine zA ?_ | refine zS ?_ | refine zL ?_)
          refine qi rfl (je qg (b := [q]) rfl rfl rfl rfl rfl rfl rfl ?_)
          repeat (first | refine zR ?_ | refine zK ?_ | refine zM ?_ | refine zB ?_ | refine zA ?_ | refine zS ?_ | refine zL ?_)
          refine ql qg rfl rfl (jc (a := o) (b := [q]) (by omega) (by simp)) rfl ?_
          rw [jd]
          repeat (first | refine zR ?_ | refine zK ?_ | refine zM ?_ | refine zB ?_ | refine zA ?_ | refine zS ?_ | refine zL ?_)
          refine qc ?_
          (repeat refine qb ?_); refine qa ?_
          repeat (first | refine zR ?_ | refine zK ?_ | refine zM ?_ | refine zB ?_ | refine zA ?_ | refine zS ?_ | refine zL ?_)
          refine qc ?_
          rw [show IntKind.i64.wrap ((b : Int) + 2) = ((b + 2 : Nat) : Int) from IntWalk.i64_in _ (by omega)]
          (repeat refine qb ?_); refine qa ?_
          repeat (first | refine zR ?_ | refine zK ?_ | refine zM ?_ | refine zB ?_ | refine zA ?_ | refine zS ?_ | refine zL ?_)
          refine qc ?_
          rw [show IntKind.i64.wrap (((b + 2 : Nat) : Int) + 1) = ((b + 3 : Nat) : Int) from IntWalk.i64_in _ (by omega)]
          refine ⟨_, _, ?_, qv [0, 1, 7] [] rfl rfl, b + 3, o ++ [q], by omega, by omega, rfl, by simp; omega, ?_, rfl⟩
          · omega
          · rw [hT, hO, hO2, if_neg (by rw [hpq]; simp), jG]
            congr 1
            funext p
            simp; omega
        rw [show decide ((q.toNat : Int) ≥ 32) = true by simp; omega]
        repeat (first | refine zR ?_ | refine zK ?_ | refine zM ?_ | refine zB ?_ | refine zA ?_ | refine zS ?_ | refine zL ?_)
        by_cases q2 : q.toNat ≤ 126
        rotate_left
        · rw [show decide ((q.toNat : Int) ≤ 126) = false by simp; omega]
          have hpq : zc q = false := by simp [zc, q2]
          repeat (first | refine zR ?_ | refine zK ?_ | refine zM ?_ | refine zB ?_ | refine zA ?_ | refine zS ?_ | refine zL ?_)
          refine qc ?_
          (repeat refine qb ?_); refine qe rfl (fun hz => ?_) (fun hz => ?_)
          · cases hz
          refine qq ?_
          (repeat refine qb ?_); refine qa ?_
          repeat (first | refine zR ?_ | refine zK ?_ | refine zM ?_ | refine zB ?_ | refine zA ?_ | refine zS ?_ | refine zL ?_)
          refine qi rfl (je qg (b := [q]) rfl rfl rfl rfl rfl rfl rfl ?_)
          repeat (first | refine zR ?_ | refine zK ?_ | refine zM ?_ | refine zB ?_ | refine zA ?_ | refine zS ?_ | refine zL ?_)
          refine ql qg rfl rfl (jc (a := o) (b := [q]) (by omega) (by simp)) rfl ?_
          rw [jd]
          repeat (first | refine zR ?_ | refine zK ?_ | refine zM ?_ | refine zB ?_ | refine zA ?_ | refine zS ?_ | refine zL ?_)
          refine qc ?_
          (repeat refine qb ?_); refine qa ?_
          repeat (first | refine zR ?_ | refine zK ?_ | refine zM ?_ | refine zB ?_ | refine zA ?_ | refine zS ?_ | refine zL ?_)
          refine qc ?_
          rw [show IntKind.i64.wrap ((b : Int) + 2) = ((b + 2 : Nat) : Int) from IntWalk.i64_in _ (by omega)]
          (repeat refine qb ?_); refine qa ?_
          repeat (first | refine zR ?_ | refine zK ?_ | refine zM ?_ | refine zB ?_ | refine zA ?_ | refine zS ?_ | refine zL ?_)
          refine qc ?_
          rw [show IntKind.i64.wrap (((b + 2 : Nat) : Int) + 1) = ((b + 3 : Nat) : Int) from IntWalk.i64_in _ (by omega)]
          refine ⟨_, _, ?_, qv [0, 1, 7] [] rfl rfl, b + 3, o ++ [q], by omega, by omega, rfl, by simp; omega, ?_, rfl⟩
          · omega
          · rw [hT, hO, hO2, if_neg (by rw [hpq]; simp), jG]
            congr 1
            funext p
            simp; omega
        rw [show decide ((q.toNat : Int) ≤ 126) = true by simp; omega]
        repeat (first | refine zR ?_ | refine zK ?_ | refine zM ?_ | refine zB ?_ | refine zA ?_ | refine zS ?_ | refine zL ?_)
        by_cases q3 : q.toNat = 34
        · rw [show ((q.toNat : Int) != 34) = false by rw [bne_eq_false_iff_eq]; omega]
          have hpq : zc q = false := by simp [zc, q3]
          repeat (first | refine zR ?_ | refine zK ?_ | refine zM ?_ | refine zB ?_ | refine zA ?_ | refine zS ?_ | refine zL ?_)
          refine qc ?_
          (repeat refine qb ?_); refine qe rfl (fun hz => ?_) (fun hz => ?_)
          · cases hz
          refine qq ?_
          (repeat refine qb ?_); refine qa ?_
          repeat (first | refine zR ?_ | refine zK ?_ | refine zM ?_ | refine zB ?_ | refine zA ?_ | refine zS ?_ | refine zL ?_)
          refine qi rfl (je qg (b := [q]) rfl rfl rfl rfl rfl rfl rfl ?_)
          repeat (first | refine zR ?_ | refine zK ?_ | refine zM ?_ | refine zB ?_ | refine zA ?_ | refine zS ?_ | refine zL ?_)
          refine ql qg rfl rfl (jc (a := o) (b := [q]) (by omega) (by simp)) rfl ?_
          rw [jd]
          repeat (first | refine zR ?_ | refine zK ?_ | refine zM ?_ | refine zB ?_ | refine zA ?_ | refine zS ?_ | refine zL ?_)
          refine qc ?_
          (repeat refine qb ?_); refine qa ?_
          repeat (first | refine zR ?_ | refine zK ?_ | refine zM ?_ | refine zB ?_ | refine zA ?_ | refine zS ?_ | refine zL ?_)
          refine qc ?_
          rw [show IntKind.i64.wrap ((b : Int) + 2) = ((b + 2 : Nat) : Int) from IntWalk.i64_in _ (by omega)]
          (repeat refine qb ?_); refine qa ?_
          repeat (first | refine zR ?_ | refine zK ?_ | refine zM ?_ | refine zB ?_ | refine zA ?_ | refine zS ?_ | refine zL ?_)
          refine qc ?_
          rw [show IntKind.i64.wrap (((b + 2 : Nat) : Int) + 1) = ((b + 3 : Nat) : Int) from IntWalk.i64_in _ (by omega)]
          refine ⟨_, _, ?_, qv [0, 1, 7] [] rfl rfl, b + 3, o ++ [q], by omega, by omega, rfl, by simp; omega, ?_, rfl⟩
          · omega
          · rw [hT, hO, hO2, if_neg (by rw [hpq]; simp), jG]
            congr 1
            funext p
            simp; omega
        rw [show ((q.toNat : Int) != 34) = true by rw [bne_iff_ne]; omega]
        repeat (first | refine zR ?_ | refine zK ?_ | refine zM ?_ | refine zB ?_ | refine zA ?_ | refine zS ?_ | refine zL ?_)
        by_cases q4 : q.toNat = 92
        · rw [show ((q.toNat : Int) != 92) = false by rw [bne_eq_false_iff_eq]; omega]
          have hpq : zc q = false := by simp [zc, q4]
          repeat (first | refine zR ?_ | refine zK ?_ | refine zM ?_ | refine zB ?_ | refine zA ?_ | refine zS ?_ | refine zL ?_)
          refine qc ?_
          (repeat refine qb ?_); refine qe rfl (fun hz => ?_) (fun hz => ?_)
          · cases hz
          refine qq ?_
          (repeat refine qb ?_); refine qa ?_
          repeat (first | refine zR ?_ | refine zK ?_ | refine zM ?_ | refine zB ?_ | refine zA ?_ | refine zS ?_ | refine zL ?_)
          refine qi rfl (je qg (b := [q]) rfl rfl rfl rfl rfl rfl rfl ?_)
          repeat (first | refine zR ?_ | refine zK ?_ | refine zM ?_ | refine zB ?_ | refine zA ?_ | refine zS ?_ | refine zL ?_)
          refine ql qg rfl rfl (jc (a := o) (b := [q]) (by omega) (by simp)) rfl ?_
          rw [jd]
          repeat (first | refine zR ?_ | refine zK ?_ | refine zM ?_ | refine zB ?_ | refine zA ?_ | refine zS ?_ | refine zL ?_)
          refine qc ?_
          (repeat refine qb ?_); refine qa ?_
          repeat (first | refine zR ?_ | refine zK ?_ | refine zM ?_ | refine zB ?_ | refine zA ?_ | refine zS ?_ | refine zL ?_)
          refine qc ?_
          rw [show IntKind.i64.wrap ((b : Int) + 2) = ((b + 2 : Nat) : Int) from IntWalk.i64_in _ (by omega)]
          (repeat refine qb ?_); refine qa ?_
          repeat (first | refine zR ?_ | refine zK ?_ | refine zM ?_ | refine zB ?_ | refine zA ?_ | refine zS ?_ | refine zL ?_)
          refine qc ?_
          rw [show IntKind.i64.wrap (((b + 2 : Nat) : Int) + 1) = ((b + 3 : Nat) : Int) from IntWalk.i64_in _ (by omega)]
          refine ⟨_, _, ?_, qv [0, 1, 7] [] rfl rfl, b + 3, o ++ [q], by omega, by omega, rfl, by simp; omega, ?_, rfl⟩
          · omega
          · rw [hT, hO, hO2, if_neg (by rw [hpq]; simp), jG]
            congr 1
            funext p
            simp; omega
        rw [show ((q.toNat : Int) != 92) = true by rw [bne_iff_ne]; omega]
        have hN : qQ (l.drop (a + 1)) = none := by
          rw [hT, hO, hO2, if_pos (by simp [zc, q1, q2, q3, q4])]; rfl
        repeat (first | refine zR ?_ | refine zK ?_ | refine zM ?_ | refine zB ?_ | refine zA ?_ | refine zS ?_ | refine zL ?_)
        refine qc ?_
        have hQ : ∀ x : Int, quoR l a (.tup [.p (pI x), .p (pL []), .p (pB false)]) := fun x => by unfold quoR; rw [hN]; exact ⟨x, rfl⟩
        (repeat refine qb ?_); refine qe rfl (fun hz => ?_) (fun hz => ?_)
        rotate_left
        · cases hz
        (repeat refine qb ?_); refine qa ?_
        repeat (first | refine zR ?_ | refine zK ?_ | refine zM ?_ | refine zB ?_ | refine zA ?_ | refine zS ?_ | refine zL ?_)
        refine qc ?_
        (repeat refine qb ?_); refine qj ?_
        exact ⟨Or.inr rfl, _, _, [], _, _, Wk.refl _, rfl, rfl, rfl, rfl, hQ _, rfl⟩
  rw [show ((c.toNat : Int) == 92) = false by rw [beq_eq_false_iff_ne]; omega]
  refine qc ?_
  (repeat refine qb ?_); refine qe rfl (fun hz => ?_) (fun hz => ?_)
  · cases hz
  (repeat refine qb ?_); refine qa ?_
  repeat (first | refine zR ?_ | refine zK ?_ | refine zM ?_ | refine zB ?_ | refine zA ?_ | refine zS ?_ | refine zL ?_)
  by_cases c1 : c.toNat < 32
  · have hp : zc c = false := by simp [zc]; omega
    have hN : qQ (l.drop (a + 1)) = none := by rw [hT, hdr, qT, if_neg h34, if_neg (by rw [hp]; simp), if_neg h92]; rfl
    rw [show decide ((c.toNat : Int) < 32) = true by simp; omega]
    repeat (first | refine zR ?_ | refine zK ?_ | refine zM ?_ | refine zB ?_ | refine zA ?_ | refine zS ?_ | refine zL ?_)
    refine qc ?_
    have hQ : ∀ x : Int, quoR l a (.tup [.p (pI x), .p (pL []), .p (pB false)]) := fun x => by unfold quoR; rw [hN]; exact ⟨x, rfl⟩
    (repeat refine qb ?_); refine qe rfl (fun hz => ?_) (fun hz => ?_)
    rotate_left
    · cases hz
    (repeat refine qb ?_); refine qa ?_
    repeat (first | refine zR ?_ | refine zK ?_ | refine zM ?_ | refine zB ?_ | refine zA ?_ | refine zS ?_ | refine zL ?_)
    refine qc ?_
    (repeat refine qb ?_); refine qj ?_
    exact ⟨Or.inr rfl, _, _, [], _, _, Wk.refl _, rfl, rfl, rfl, rfl, hQ _, rfl⟩
  rw [show decide ((c.toNat : Int) < 32) = false by simp; omega]
  repeat (first | refine zR ?_ | refine zK ?_ | refine zM ?_ | refine zB ?_ | refine zA ?_ | refine zS ?_ | refine zL ?_)
  by_cases c2 : 126 < c.toNat
  · have hp : zc c = false := by simp [zc]; omega
    have hN : qQ (l.drop (a + 1)) = none := by rw [hT, hdr, qT, if_neg h34, if_neg (by rw [hp]; simp), if_neg h92]; rfl
    rw [show decide ((c.toNat : Int) > 126) = true by simp; omega]
    repeat (first | refine zR ?_ | refine zK ?_ | refine zM ?_ | refine zB ?_ | refine zA ?_ | refine zS ?_ | refine zL ?_)
    refine qc ?_
    have hQ : ∀ x : Int, quoR l a (.tup [.p (pI x), .p (pL []), .p (pB false)]) := fun x => by unfold quoR; rw [hN]; exact ⟨x, rfl⟩
    (repeat refine qb ?_); refine qe rfl (fun hz => ?_) (fun hz => ?_)
    rotate_left
    · cases hz
    (repeat refine qb ?_); refine qa ?_
    repeat (first | refine zR ?_ | refine zK ?_ | refine zM ?_ | refine zB ?_ | refine zA ?_ | refine zS ?_ | refine zL ?_)
    refine qc ?_
    (repeat refine qb ?_); refine qj ?_
    exact ⟨Or.inr rfl, _, _, [], _, _, Wk.refl _, rfl, rfl, rfl, rfl, hQ _, rfl⟩
  rw [show decide ((c.toNat : Int) > 126) = false by simp; omega]
  have hp : zc c = true := by simp [zc, h34, h92]; omega
  repeat (first | refine zR ?_ | refine zK ?_ | refine zM ?_ | refine zB ?_ | refine zA ?_ | refine zS ?_ | refine zL ?_)
  refine qc ?_
  (repeat refine qb ?_); refine qe rfl (fun hz => ?_) (fun hz => ?_)
  · cases hz
  (repeat refine qb ?_); refine qa ?_
  repeat (first | refine zR ?_ | refine zK ?_ | refine zM ?_ | refine zB ?_ | refine zA ?_ | refine zS ?_ | refine zL ?_)
  refine qi rfl (je qg (b := [c]) rfl rfl rfl rfl rfl rfl rfl ?_)
  repeat (first | refine zR ?_ | refine zK ?_ | refine zM ?_ | refine zB ?_ | refine zA ?_ | refine zS ?_ | refine zL ?_)
  refine ql qg rfl rfl (jc (a := o) (b := [c]) (by omega) (by simp)) rfl ?_
  rw [jd]
  repeat (first | refine zR ?_ | refine zK ?_ | refine zM ?_ | refine zB ?_ | refine zA ?_ | refine zS ?_ | refine zL ?_)
  refine qc ?_
  (repeat refine qb ?_); refine qa ?_
  repeat (first | refine zR ?_ | refine zK ?_ | refine zM ?_ | refine zB ?_ | refine zA ?_ | refine zS ?_ | refine zL ?_)
  refine qc ?_
  rw [zk hlt (by omega)]
  refine ⟨_, _, ?_, qv [0, 1, 7] [] rfl rfl, b + 1, o ++ [c], by omega, by omega, rfl, by simp; omega, ?_, rfl⟩
  · omega
  · rw [hT, hdr, qT, if_neg h34, if_pos hp, jG]
    congr 1
    funext p
    simp; omega
theorem sameTok_h (l : List Tok) (hn : l.length ≤ 1000000) : Holds Tryd.prog 11 [jg l, jg l] (.p (pB true)) [] := by
    refine qF (ts := [4]) Tryd.func11 (by kernel_rfl) rfl rfl rfl ?_
    (repeat refine qb ?_); refine qa ?_
    repeat (first | refine zR ?_ | refine zK ?_ | refine zM ?_ | refine zB ?_ | refine zA ?_ | refine zS ?_ | refine zL ?_)
    refine qc ?_
    (repeat refine qb ?_); refine qa ?_
    repeat (first | refine zR ?_ | refine zK ?_ | refine zM ?_ | refine zB ?_ | refine zA ?_ | refine zS ?_ | refine zL ?_)
    refine qc ?_
    (repeat refine qb ?_); refine qe rfl (fun h0 => ?_) (fun h0 => ?_)
    · exfalso
      simp at h0
    refine qq ?_
    (repeat refine qb ?_); refine qa ?_
    repeat (first | refine zR ?_ | refine zK ?_ | refine zM ?_ | refine zB ?_ | refine zA ?_ | refine zS ?_ | refine zL ?_)
    refine qc ?_
    (repeat refine qb ?_); refine zf ?_
    refine SW.wk (qv [0, 1, 4, 5] [] rfl rfl) ?_
    refine jC (fun m s => ∃ (k : Nat) (kk : Int), k ≤ l.length ∧ m = l.length - k ∧ kk = k ∧ s = ⟨26, [(0, .p (jg l)), (1, .p (jg l)), (4, .p (pB false)), (5, .p (pI kk))], []⟩) l.length ⟨0, 0, Nat.zero_le _, rfl, rfl, rfl⟩ ?_
    rintro m s ⟨k, _, hk, rfl, rfl, rfl⟩
    (repeat refine qb ?_); refine qa ?_
    repeat (first | refine zR ?_ | refine zK ?_ | refine zM ?_ | refine zB ?_ | refine zA ?_ | refine zS ?_ | refine zL ?_)
    refine qc ?_
    (repeat refine qb ?_); refine qe rfl (fun hlt => ?_) (fun hlt => ?_)
    · refine qq ?_
      simp only [List.length_map, decide_eq_true_eq] at hlt
      have hlt' : k < l.length := by omega
      obtain ⟨x, hx⟩ : ∃ x, x = l[k] := ⟨_, rfl⟩
      (repeat refine qb ?_); refine zf ?_
      (repeat refine qb ?_); refine zU [] [(0, true), (1, true), (2, true), (3, true), (4, true), (5, true), (6, true), (7, true), (8, true)] (by kernel_rfl) (by kernel_rfl) (by kernel_rfl) ?_
      repeat (first | refine yR ?_ | refine yK ?_ | refine yM ?_ | refine yB ?_ | refine yA ?_ | refine yS ?_ | refine yL ?_)
      refine zV qg rfl rfl rfl (by simp only [List.length_map]; omega) rfl ?_
      rw [zZ hlt', ← hx]
      repeat (first | refine yR ?_ | refine yK ?_ | refine yM ?_ | refine yB ?_ | refine yA ?_ | refine yS ?_ | refine yL ?_)
      refine zV qg rfl rfl rfl (by simp only [List.length_map]; omega) rfl ?_
      rw [zZ hlt', ← hx]
      repeat (first | refine yR ?_ | refine yK ?_ | refine yM ?_ | refine yB ?_ | refine yA ?_ | refine yS ?_ | refine yL ?_)
      refine zV qg rfl rfl (opR_neT x rfl rfl rfl rfl) rfl rfl ?_
      refine jh ?_
      (repeat refine qb ?_); refine qe rfl (fun hp => ?_) (fun hp => ?_)
      · cases hp
      refine qq ?_
      (repeat refine qb ?_); refine qa ?_
      repeat (first | refine zR ?_ | refine zK ?_ | refine zM ?_ | refine zB ?_ | refine zA ?_ | refine zS ?_ | refine zL ?_)
      refine qc ?_
      refine ⟨_, _, ?_, qv [0, 1, 4, 5] [] rfl rfl, k + 1, _, hlt', rfl, zk hlt' (by omega), rfl⟩
      omega
    · refine ji ?_
      (repeat refine qb ?_); refine qa ?_
      repeat (first | refine zR ?_ | refine zK ?_ | refine zM ?_ | refine zB ?_ | refine zA ?_ | refine zS ?_ | refine zL ?_)
      refine qc ?_
      (repeat refine qb ?_); refine qj ?_
      exact jf rfl rfl
end Go.Proofs.YtnojoaneboppnaaDoor
namespace Go.Proofs.YtnojoaneboppnaaDoor
set_option linter.unusedVariables false
set_option linter.unusedSimpArgs false
open Go.RowKit
set_option maxHeartbeats 4000000
set_option maxRecDepth 100000
theorem SWT.mono {P : Program} {ops l : List Oper} {Q Q' : St → Prop} {st : St} (h : SWT P ops l Q' st) (hm : ∀ s, Q' s → Q s) : SWT P ops l Q st := fun w0 Sx γ a w QQ hI hQ =>
  h w0 Sx γ a w QQ hI fun st' γ' a' w' hI' hq => hQ st' γ' a' w' hI' (hm st' hq)
theorem wk_nilq {st : St} (t d : Nat) (e : TypeId) (z : Nat) (ht : lk t st.fr = some (.p (.v (.slice none 0 0)))) (hd : lk d st.own = none) (hdl : Nat.blt d 1000000 = true := by rfl) : Wk st (St.frz ⟨st.n, (t, .row d) :: st.fr, (d, .row e z []) :: st.own⟩ d z []) :=
  (wk_nil t d e z ht hd hdl).trans (wk_frz (e := e) (by show lk d ((d, Box.row e z []) :: st.own) = _; rw [qk, if_pos rfl]))
end Go.Proofs.YtnojoaneboppnaaDoor
namespace Go.Proofs.YtnojoaneboppnaaDoor
set_option linter.unusedVariables false
set_option linter.unusedSimpArgs false
open Go.RowKit
set_option maxHeartbeats 4000000
set_option maxRecDepth 100000
theorem lex_end {l : Bs} {k : Nat} {o : List Tok} (hi : invA l k o) (h : k = l.length) : lexL l = .ok (o ++ [⟨7, k, 0, []⟩]) := by
  rw [hi.2.2, h, List.drop_of_length_le (Nat.le_refl _)]; rfl
theorem lex_blank {l : Bs} {k : Nat} {o : List Tok} {c : UInt8} {r : Bs} (hi : invA l k o) (hd : l.drop k = c :: r) (hb : zu c = true) : invA l (k + 1) o := by
  obtain ⟨h1, h2, h3⟩ := hi
  have hl : k < l.length := by
    rcases Nat.lt_or_ge k l.length with h | h
    · exact h
    · rw [List.drop_of_length_le h] at hd; cases hd
  have hr : l.drop (k + 1) = r := by
    have := List.drop_eq_getElem_cons hl
    rw [hd] at this
    exact (List.cons.inj this).2.symm
  refine ⟨hl, by omega, ?_⟩
  rw [h3, hd, lexF, if_pos hb, hr, show l.length - k = l.length - (k + 1) + 1 by omega]
theorem jy {l : Bs} {k : Nat} {o : List Tok} {c : UInt8} {r : Bs} (hi : invA l k o) (hd : l.drop k = c :: r) (hb : zu c = false) (ht : tokL (c :: r) = none) : lexL l = .error k := by
  rw [hi.2.2, hd, lexF, if_neg (by rw [hb]; simp), ht]; rfl
theorem jF {l : Bs} {k : Nat} {o : List Tok} {c : UInt8} {r : Bs} {t : TokP} (hi : invA l k o) (hd : l.drop k = c :: r) (hb : zu c = false) (ht : tokL (c :: r) = some t) : invA l (k + t.len) (o ++ [t.at_ k]) ∧ 1 ≤ t.len ∧ k + t.len ≤ l.length := by
  obtain ⟨h1, h2, h3⟩ := hi
  have hlen := zX ht
  rw [← hd, List.length_drop] at hlen
  refine ⟨⟨by omega, by simp; omega, ?_⟩, hlen.1, by omega⟩
  rw [h3, hd, lexF, if_neg (by rw [hb]; simp), ht]
  simp only
  rw [← hd, List.drop_drop, lexF_fuel (f := l.length - k) (g := l.length - (k + t.len) + 1) (by simp only [List.length_drop]; omega) (by simp only [List.length_drop]; omega)]
  cases lexF (l.length - (k + t.len) + 1) (k + t.len) (l.drop (k + t.len)) with
  | ok b => show Except.ok (o ++ (_ :: b)) = Except.ok ((o ++ [_]) ++ b); rw [List.append_assoc]; rfl
  | error e => rfl
theorem num_yes {r : Bs} {j m : Nat} (h : numN r = (j, m, true)) : magL r = some (m, j) := by
  unfold numN at h
  split at h
  · cases h
  · simp only [Prod.mk.injEq, Bool.and_eq_true, Bool.or_eq_true, decide_eq_true_eq] at h
    obtain ⟨h1, h2, h3, h4⟩ := h
    unfold magL
    rw [if_neg, h1, h2]
    rintro (h | ⟨h5, h6⟩)
    · omega
    · rcases h4 with h4 | h4
      · exact h4 h6
      · omega
theorem num_no {r : Bs} {j m : Nat} (h : numN r = (j, m, false)) : magL r = none ∨ ∃ m j, magL r = some (m, j) ∧ 10 ^ 19 ≤ m := by
  unfold numN at h
  split at h
  · rename_i hl
    by_cases hc : (r.takeWhile qp).length = 0 ∨ (1 < (r.takeWhile qp).length ∧ (r.head?.map (·.toNat)) = some 48)
    · exact .inl (by unfold magL; rw [if_pos hc])
    · have hm : magL r = some (decV (r.takeWhile qp), (r.takeWhile qp).length) := by unfold magL; rw [if_neg hc]
      have h1 := magL_canon hm
      have h2 := (canon_bounds h1.1).2 (by omega)
      have h3 : 10 ^ 19 ≤ 10 ^ ((r.takeWhile qp).length - 1) := Nat.pow_le_pow_right (by omega) (by omega)
      exact .inr ⟨_, _, hm, by omega⟩
  · simp only [Prod.mk.injEq, Bool.and_eq_false_iff, Bool.or_eq_false_iff, decide_eq_false_iff_not] at h
    refine .inl ?_
    unfold magL
    rw [if_pos]
    rcases h.2.2 with h3 | h3
    · exact .inl (by omega)
    · by_cases h0 : (r.takeWhile qp).length = 0
      · exact .inl h0
      · exact .inr ⟨by omega, by simpa using h3.1⟩
theorem num_lt (r : Bs) : (numN r).2.1 < 18446744073709551616 := by
  unfold numN
  split
  · simp
  · rename_i h
    have h1 := decV_lt (r := r.takeWhile qp) (tw_all r)
    have h2 : 10 ^ (r.takeWhile qp).length ≤ 10 ^ 19 := Nat.pow_le_pow_right (by omega) (by omega)
    simp only
    omega
theorem neg_wrap {m : Nat} (h : m ≤ 9223372036854775808) : IntKind.i64.wrap (0 - IntKind.i64.wrap (m : Int)) = -(m : Int) := by
  simp [IntKind.wrap, IntKind.bits, IntKind.signed]
  omega
end Go.Proofs.YtnojoaneboppnaaDoor
namespace Go.Proofs.YtnojoaneboppnaaDoor
set_option linter.unusedVariables false
set_option linter.unusedSimpArgs false
open Go.RowKit
set_option maxHeartbeats 4000000
set_option maxRecDepth 100000
section
variable {P : Program} {T : TT} (hT : qu P T) {K : List Nat} {st : St}
include hT
theorem rdO_text {o : Oper} {sT dT e : TypeId} {x : Operand} {j z : Nat} {e0 : TypeId} {b : Bs} {s1 s2 d1 d2 e1 e2 : Nat} {s3 d3 e3 : List Value} {s4 d4 e4 : Bool} (ho : o.op = .convert sT dT x) (hx : evS st x = some (.row j)) (hj : lk j st.own = some (.row e0 z (b.map fun c => [pU c]))) (hK : K.contains j = false)
    (hs : lk sT T = some ⟨s1, s2, .sl e, s3, s4⟩) (hd : lk dT T = some ⟨d1, d2, .str, d3, d4⟩) (he : lk e T = some ⟨e1, e2, .int .u8, e3, e4⟩) : RdO P K st o (.p (pL b)) := by
  have hE : eConv T K st sT dT (evS st x) some = some (.p (pL b)) := by
    rw [hx]
    unfold eConv eText
    simp only [qt, hj, hs, hd, he, bytesOf_map, qW, hK]
    rfl
  obtain ⟨s, h1, h2⟩ := eConv_ok hT ho hE
  cases h2
  exact h1
end
theorem rlex_long (l : Bs) (hl : 4096 < l.length) : Holds Tryd.prog 10 [pL l] (.tup [.p nilV, .p (pI 6), .p (pI 4096)]) [] := by
  have ls : (⟨⟨l⟩⟩ : ByteArray).size = l.length := rfl
  refine qF (ts := [2,3,4]) Tryd.func10 (by kernel_rfl) rfl rfl rfl ?_
  (repeat refine qb ?_); refine qa ?_
  repeat (first | refine zR ?_ | refine zK ?_ | refine zM ?_ | refine zB ?_ | refine zA ?_ | refine zS ?_ | refine zL ?_)
  refine qc ?_
  (repeat refine qb ?_); refine qa ?_
  repeat (first | refine zR ?_ | refine zK ?_ | refine zM ?_ | refine zB ?_ | refine zA ?_ | refine zS ?_ | refine zL ?_)
  rw [ls, show decide ((l.length : Int) > 4096) = true by simp; omega]
  refine qc ?_
  (repeat refine qb ?_); refine qe rfl (fun hc => ?_) (fun hc => ?_)
  · (repeat refine qb ?_); refine qa ?_
    repeat (first | refine zR ?_ | refine zK ?_ | refine zM ?_ | refine zB ?_ | refine zA ?_ | refine zS ?_ | refine zL ?_)
    refine qc ?_
    (repeat refine qb ?_); refine qj ?_
    exact ⟨Or.inr rfl, _, _, [], Wk.refl _, rfl, rfl, rfl, rfl⟩
  · cases hc
theorem word_name (r : Bs) : nameL (r.take (wordN r)) = nameL (qR r) ∧ (nameL (qR r) = true → r.take (wordN r) = qR r ∧ wordN r = (qR r).length) := by
  cases r with
  | nil => exact ⟨rfl, fun h => (nomatch h)⟩
  | cons x r =>
    rw [jE]
    by_cases hx : qB x = true
    · rw [if_pos hx]
      have e : (x :: r).take (qR (x :: r)).length = qR (x :: r) := take_tw qw (x :: r)
      rw [e]
      exact ⟨rfl, fun _ => ⟨rfl, rfl⟩⟩
    · rw [if_neg hx]
      have e : nameL (qR (x :: r)) = false := by
        unfold qR
        rw [List.takeWhile_cons]
        split
        · simp [nameL, hx]
        · rfl
      rw [e]
      exact ⟨rfl, fun h => (nomatch h)⟩
theorem rlex_l (l : Bs) (hl : l.length ≤ 4096) : Holds Tryd.prog 10 [pL l] (allR (lexL l)) (allO (lexL l)) := by
  have ls : (⟨⟨l⟩⟩ : ByteArray).size = l.length := rfl
  refine qF (ts := [2,3,4]) Tryd.func10 (by kernel_rfl) rfl rfl rfl ?_
  (repeat refine qb ?_); refine qa ?_
  repeat (first | refine zR ?_ | refine zK ?_ | refine zM ?_ | refine zB ?_ | refine zA ?_ | refine zS ?_ | refine zL ?_)
  refine qc ?_
  (repeat refine qb ?_); refine qa ?_
  repeat (first | refine zR ?_ | refine zK ?_ | refine zM ?_ | refine zB ?_ | refine zA ?_ | refine zS ?_ | refine zL ?_)
  rw [ls, show decide ((l.length : Int) > 4096) = false by simp; omega]
  refine qc ?_
  (repeat refine qb ?_); refine qe rfl (fun hc => ?_) (fun hc => ?_)
  · cases hc
  refine qq ?_
  (repeat refine qb ?_); refine qa ?_
  repeat (first | refine zR ?_ | refine zK ?_ | refine zM ?_ | refine zB ?_ | refine zA ?_ | refine zS ?_ | refine zL ?_)
  refine qc ?_
  (repeat refine qb ?_); refine qa ?_
  repeat (first | refine zR ?_ | refine zK ?_ | refine zM ?_ | refine zB ?_ | refine zA ?_ | refine zS ?_ | refine zL ?_)
  refine qc ?_
  (repeat refine qb ?_); refine zf ?_
  refine SW.wk (wk_nil 5 900 30 4 rfl rfl) ?_
  refine SW.wk (qv [0, 5, 6] [(900, 0)] rfl rfl) ?_
  refine jC (fun m s => ∃ (k : Nat) (o : List Tok), invA l k o ∧ m = l.length - k ∧ s = ⟨216, [(0, .p (pL l)), (5, .row 0), (6, .p (pI (k : Int)))], [(0, .row 30 4 (o.map Tok.pv))]⟩) l.length ⟨0, [], ⟨Nat.zero_le _, Nat.zero_le _, by unfold lexL; simp only [Nat.sub_zero, List.drop_zero]; cases lexF (l.length + 1) 0 l <;> rfl⟩, rfl, rfl⟩ ?_
  rintro m s ⟨k0, o, hi0, rfl, rfl⟩
  have hk0 := hi0.1
  (repeat refine qb ?_); refine zf ?_
  (repeat refine qb ?_); refine zf ?_
  refine jC (fun m s => ∃ k : Nat, k0 ≤ k ∧ invA l k o ∧ m = l.length - k ∧ s = ⟨216, [(0, .p (pL l)), (5, .row 0), (6, .p (pI (k : Int)))], [(0, .row 30 4 (o.map Tok.pv))]⟩) (l.length - k0) ⟨k0, Nat.le_refl _, hi0, rfl, rfl⟩ ?_
  rintro m s ⟨k, hkk, hi, rfl, rfl⟩
  have hk := hi.1
  have hol := hi.2.1
  clear hi0
  (repeat refine qb ?_); refine qa ?_
  repeat (first | refine zR ?_ | refine zK ?_ | refine zM ?_ | refine zB ?_ | refine zA ?_ | refine zS ?_ | refine zL ?_)
  rw [ls]
  by_cases hend : k = l.length
  · have hfin := lex_end hi hend
    rw [show decide ((k : Int) < (l.length : Int)) = false by simp; omega]
    repeat (first | refine zR ?_ | refine zK ?_ | refine zM ?_ | refine zB ?_ | refine zA ?_ | refine zS ?_ | refine zL ?_)
    refine qc ?_
    (repeat refine qb ?_); refine qe rfl (fun hc => ?_) (fun hc => ?_)
    · cases hc
    refine ji ?_
    (repeat refine qb ?_); refine qa ?_
    repeat (first | refine zR ?_ | refine zK ?_ | refine zM ?_ | refine zB ?_ | refine zA ?_ | refine zS ?_ | refine zL ?_)
    refine qc ?_
    (repeat refine qb ?_); refine qa ?_
    repeat (first | refine zR ?_ | refine zK ?_ | refine zM ?_ | refine zB ?_ | refine zA ?_ | refine zS ?_ | refine zL ?_)
    rw [ls, show decide ((k : Int) ≥ (l.length : Int)) = true by simp; omega]
    refine qc ?_
    (repeat refine qb ?_); refine qe rfl (fun hc2 => ?_) (fun hc2 => ?_)
    rotate_left
    · cases hc2
    (repeat refine qb ?_); refine qa ?_
    repeat (first | refine zR ?_ | refine zK ?_ | refine zM ?_ | refine zB ?_ | refine zA ?_ | refine zS ?_ | refine zL ?_)
    refine qc ?_
    (repeat refine qb ?_); refine qa ?_
    repeat (first | refine zR ?_ | refine zK ?_ | refine zM ?_ | refine zB ?_ | refine zA ?_ | refine zS ?_ | refine zL ?_)
    refine qi rfl (qy qg rfl rfl rfl rfl rfl rfl rfl rfl rfl rfl rfl rfl rfl rfl rfl rfl (by simp only [List.length_append, List.length_map, List.length_take, List.length_cons, List.length_nil]; unfold reachBytes; omega) (by simp only [List.length_append, List.length_map, List.length_take, List.length_cons, List.length_nil]; omega) ?_)
    repeat (first | refine zR ?_ | refine zK ?_ | refine zM ?_ | refine zB ?_ | refine zA ?_ | refine zS ?_ | refine zL ?_)
    refine qc ?_
    (repeat refine qb ?_); refine qj ?_
    rw [hfin, show allO (.ok (o ++ [⟨7, k, 0, []⟩])) = [(0, .row 30 4 (o.map Tok.pv ++ [[pI 7, pI (k : Int), pI 0, pL []]]))] by show [(0, Box.row 30 4 ((o ++ [_]).map Tok.pv))] = _; rw [List.map_append]; rfl]
    exact ⟨Or.inr rfl, _, _, [(45, 0)], Wk.refl _, rfl, rfl, rfl, rfl⟩
  have hlt : k < l.length := by omega
  obtain ⟨c, hcc⟩ : ∃ c, c = l[k] := ⟨_, rfl⟩
  obtain ⟨r, hrr⟩ : ∃ r, r = l.drop (k + 1) := ⟨_, rfl⟩
  have hdr : l.drop k = c :: r := by rw [hcc, hrr]; exact List.drop_eq_getElem_cons hlt
  have hrl : r.length = l.length - (k + 1) := by rw [hrr, List.length_drop]
  have hbl : zu c = (decide (c.toNat = 32) || decide (c.toNat = 10)) := rfl
  rw [show decide ((k : Int) < (l.length : Int)) = true by simp; omega]
  repeat (first | refine zR ?_ | refine zK ?_ | refine zM ?_ | refine zB ?_ | refine zA ?_ | refine zS ?_ | refine zL ?_)
  refine ql qg rfl rfl (by rw [ls]; omega) rfl ?_
  rw [qX hlt, ← hcc]
  repeat (first | refine zR ?_ | refine zK ?_ | refine zM ?_ | refine zB ?_ | refine zA ?_ | refine zS ?_ | refine zL ?_)
  cases hb : zu c with
  | true =>
    have hi2 := lex_blank hi hdr hb
    by_cases h32 : c.toNat = 32
    · rw [show ((c.toNat : Int) == 32) = true by rw [beq_iff_eq]; omega]
      repeat (first | refine zR ?_ | refine zK ?_ | refine zM ?_ | refine zB ?_ | refine zA ?_ | refine zS ?_ | refine zL ?_)
      refine qc ?_
      (repeat refine qb ?_); refine qe rfl (fun hc => ?_) (fun hc => ?_)
      rotate_left
      · cases hc
      refine qq ?_
      (repeat refine qb ?_); refine zf ?_
      (repeat refine qb ?_); refine qa ?_
      repeat (first | refine zR ?_ | refine zK ?_ | refine zM ?_ | refine zB ?_ | refine zA ?_ | refine zS ?_ | refine zL ?_)
      refine qc ?_
      rw [zk hlt (by omega)]
      refine ⟨_, _, ?_, qv [0, 5, 6] [(0, 0)] rfl rfl, k + 1, by omega, hi2, rfl, rfl⟩
      omega
    · have h10 : c.toNat = 10 := by rw [hb] at hbl; simp [h32] at hbl; exact hbl
      rw [show ((c.toNat : Int) == 32) = false by rw [beq_eq_false_iff_ne]; omega]
      repeat (first | refine zR ?_ | refine zK ?_ | refine zM ?_ | refine zB ?_ | refine zA ?_ | refine zS ?_ | refine zL ?_)
      refine ql qg rfl rfl (by rw [ls]; omega) rfl ?_
      rw [qX hlt, ← hcc]
      repeat (first | refine zR ?_ | refine zK ?_ | refine zM ?_ | refine zB ?_ | refine zA ?_ | refine zS ?_ | refine zL ?_)
      rw [show ((c.toNat : Int) == 10) = true by rw [beq_iff_eq]; omega]
      repeat (first | refine zR ?_ | refine zK ?_ | refine zM ?_ | refine zB ?_ | refine zA ?_ | refine zS ?_ | refine zL ?_)
      refine qc ?_
      (repeat refine qb ?_); refine qe rfl (fun hc => ?_) (fun hc => ?_)
      rotate_left
      · cases hc
      refine qq ?_
      (repeat refine qb ?_); refine zf ?_
      (repeat refine qb ?_); refine qa ?_
      repeat (first | refine zR ?_ | refine zK ?_ | refine zM ?_ | refine zB ?_ | refine zA ?_ | refine zS ?_ | refine zL ?_)
      refine qc ?_
      rw [zk hlt (by omega)]
      refine ⟨_, _, ?_, qv [0, 5, 6] [(0, 0)] rfl rfl, k + 1, by omega, hi2, rfl, rfl⟩
      omega
  | false =>
    rw [hb] at hbl
    have hn2 : c.toNat ≠ 32 ∧ c.toNat ≠ 10 := by
      have := hbl.symm
      simp at this; exact this
    rw [show ((c.toNat : Int) == 32) = false by rw [beq_eq_false_iff_ne]; omega]
    repeat (first | refine zR ?_ | refine zK ?_ | refine zM ?_ | refine zB ?_ | refine zA ?_ | refine zS ?_ | refine zL ?_)
    refine ql qg rfl rfl (by rw [ls]; omega) rfl ?_
    rw [qX hlt, ← hcc]
    repeat (first | refine zR ?_ | refine zK ?_ | refine zM ?_ | refine zB ?_ | refine zA ?_ | refine zS ?_ | refine zL ?_)
    rw [show ((c.toNat : Int) == 10) = false by rw [beq_eq_false_iff_ne]; omega]
    repeat (first | refine zR ?_ | refine zK ?_ | refine zM ?_ | refine zB ?_ | refine zA ?_ | refine zS ?_ | refine zL ?_)
    refine qc ?_
    (repeat refine qb ?_); refine qe rfl (fun hc => ?_) (fun hc => ?_)
    · cases hc
    refine ji ?_
    refine SW.wk (qv [0, 5, 6] [(0, 0)] rfl rfl) ?_
    (repeat refine qb ?_); refine qa ?_
    repeat (first | refine zR ?_ | refine zK ?_ | refine zM ?_ | refine zB ?_ | refine zA ?_ | refine zS ?_ | refine zL ?_)
    refine qc ?_
    (repeat refine qb ?_); refine qa ?_
    repeat (first | refine zR ?_ | refine zK ?_ | refine zM ?_ | refine zB ?_ | refine zA ?_ | refine zS ?_ | refine zL ?_)
    rw [ls, show decide ((k : Int) ≥ (l.length : Int)) = false by simp; omega]
    refine qc ?_
    (repeat refine qb ?_); refine qe rfl (fun hc2 => ?_) (fun hc2 => ?_)
    · cases hc2
    refine qq ?_
    (repeat refine qb ?_); refine qa ?_
    repeat (first | refine zR ?_ | refine zK ?_ | refine zM ?_ | refine zB ?_ | refine zA ?_ | refine zS ?_ | refine zL ?_)
    rw [zk hlt (by omega)]
    repeat (first | refine zR ?_ | refine zK ?_ | refine zM ?_ | refine zB ?_ | refine zA ?_ | refine zS ?_ | refine zL ?_)
    refine qc ?_
    (repeat refine qb ?_); refine qa ?_
    repeat (first | refine zR ?_ | refine zK ?_ | refine zM ?_ | refine zB ?_ | refine zA ?_ | refine zS ?_ | refine zL ?_)
    refine ql qg rfl rfl (by rw [ls]; omega) rfl ?_
    rw [qX hlt, ← hcc]
    repeat (first | refine zR ?_ | refine zK ?_ | refine zM ?_ | refine zB ?_ | refine zA ?_ | refine zS ?_ | refine zL ?_)
    refine qc ?_
    (repeat refine qb ?_); refine zf ?_
    have HL := rletter_h c
    have HD := rdigit_h c
    have hn : l.length ≤ 100000 := by omega
    (repeat refine qb ?_); refine qa ?_
    repeat (first | refine zR ?_ | refine zK ?_ | refine zM ?_ | refine zB ?_ | refine zA ?_ | refine zS ?_ | refine zL ?_)
    refine qi rfl (qd rfl rfl rfl rfl (HL) rfl rfl ?_)
    repeat (first | refine zR ?_ | refine zK ?_ | refine zM ?_ | refine zB ?_ | refine zA ?_ | refine zS ?_ | refine zL ?_)
    cases hl : qB c with
    | true =>
      have HWd := rword_h l hn k hk
      rw [show wordN (l.drop k) = (qR (c :: r)).length by rw [hdr, jE, if_pos hl]] at HWd
      have htw : (l.drop k).take (qR (c :: r)).length = qR (c :: r) := by rw [hdr]; exact take_tw qw (c :: r)
      have hwl : (qR (c :: r)).length ≤ l.length - k := by
        have := qz qw (c :: r)
        rw [← hdr, List.length_drop, hdr] at this
        exact this
      have htk : tokL (c :: r) = if (qR (c :: r)).length ≤ 16 then some ⟨1, 0, qR (c :: r), (qR (c :: r)).length⟩ else none := by rw [tokL, if_pos hl]
      generalize qR (c :: r) = w at *
      repeat (first | refine zR ?_ | refine zK ?_ | refine zM ?_ | refine zB ?_ | refine zA ?_ | refine zS ?_ | refine zL ?_)
      refine qc ?_
      (repeat refine qb ?_); refine qe rfl (fun hz => ?_) (fun hz => ?_)
      rotate_left
      · cases hz
      (repeat refine qb ?_); refine qa ?_
      repeat (first | refine zR ?_ | refine zK ?_ | refine zM ?_ | refine zB ?_ | refine zA ?_ | refine zS ?_ | refine zL ?_)
      refine qc ?_
      (repeat refine qb ?_); refine qa ?_
      repeat (first | refine zR ?_ | refine zK ?_ | refine zM ?_ | refine zB ?_ | refine zA ?_ | refine zS ?_ | refine zL ?_)
      refine qi rfl (qd rfl rfl rfl rfl (HWd) rfl rfl ?_)
      repeat (first | refine zR ?_ | refine zK ?_ | refine zM ?_ | refine zB ?_ | refine zA ?_ | refine zS ?_ | refine zL ?_)
      repeat (first | refine zR ?_ | refine zK ?_ | refine zM ?_ | refine zB ?_ | refine zA ?_ | refine zS ?_ | refine zL ?_)
      refine qc ?_
      (repeat refine qb ?_); refine qa ?_
      repeat (first | refine zR ?_ | refine zK ?_ | refine zM ?_ | refine zB ?_ | refine zA ?_ | refine zS ?_ | refine zL ?_)
      refine ql qg rfl rfl (by rw [ls]; omega) rfl ?_
      rw [ext_l, show (l.drop (Int.toNat (k : Int))).take (Int.toNat ((k + w.length : Nat) : Int) - Int.toNat (k : Int)) = w by rw [Int.toNat_natCast, Int.toNat_natCast, show k + w.length - k = w.length by omega]; exact htw]
      repeat (first | refine zR ?_ | refine zK ?_ | refine zM ?_ | refine zB ?_ | refine zA ?_ | refine zS ?_ | refine zL ?_)
      refine qc ?_
      (repeat refine qb ?_); refine qa ?_
      repeat (first | refine zR ?_ | refine zK ?_ | refine zM ?_ | refine zB ?_ | refine zA ?_ | refine zS ?_ | refine zL ?_)
      rw [show (⟨⟨w⟩⟩ : ByteArray).size = w.length from rfl]
      by_cases h16 : w.length ≤ 16
      · have hY : tokL (c :: r) = some ⟨1, 0, w, w.length⟩ := by rw [htk, if_pos h16]
        rw [show decide ((w.length : Int) ≤ 16) = true by simp; omega]
        repeat (first | refine zR ?_ | refine zK ?_ | refine zM ?_ | refine zB ?_ | refine zA ?_ | refine zS ?_ | refine zL ?_)
        refine qc ?_
        obtain ⟨hi2, hl1, hl2⟩ := jF hi hdr hb hY
        (try simp only at hl1 hl2 hi2)
        have eO : (o ++ [(⟨1, k, 0, w⟩ : Tok)]).map Tok.pv = o.map Tok.pv ++ [[pI 1, pI (k : Int), pI 0, pL w]] := by rw [List.map_append]; rfl
        (repeat refine qb ?_); refine qa ?_
        repeat (first | refine zR ?_ | refine zK ?_ | refine zM ?_ | refine zB ?_ | refine zA ?_ | refine zS ?_ | refine zL ?_)
        refine qc ?_
        (repeat refine qb ?_); refine qe rfl (fun hz => ?_) (fun hz => ?_)
        · cases hz
        refine qq ?_
        (repeat refine qb ?_); refine qa ?_
        repeat (first | refine zR ?_ | refine zK ?_ | refine zM ?_ | refine zB ?_ | refine zA ?_ | refine zS ?_ | refine zL ?_)
        refine qi rfl (qy qg rfl rfl rfl rfl rfl rfl rfl rfl rfl rfl rfl rfl rfl rfl rfl rfl (by simp only [List.length_append, List.length_map, List.length_take, List.length_cons, List.length_nil]; unfold reachBytes; omega) (by simp only [List.length_append, List.length_map, List.length_take, List.length_cons, List.length_nil]; omega) ?_)
        repeat (first | refine zR ?_ | refine zK ?_ | refine zM ?_ | refine zB ?_ | refine zA ?_ | refine zS ?_ | refine zL ?_)
        refine qc ?_
        (repeat refine qb ?_); refine qa ?_
        repeat (first | refine zR ?_ | refine zK ?_ | refine zM ?_ | refine zB ?_ | refine zA ?_ | refine zS ?_ | refine zL ?_)
        refine qc ?_
        refine ⟨_, _, ?_, qv [0, 5, 6] [(214, 0)] rfl rfl, _, _, hi2, rfl, ?_⟩
        · show _ < _
          (try simp only)
          omega
        · show _ = (⟨216, [(0, .p (pL l)), (5, .row 0), (6, .p (pI _))], [(0, .row _ _ ((o ++ [(⟨1, k, 0, w⟩ : Tok)]).map Tok.pv))]⟩ : St)
          rw [eO]
          rfl
      · have hN : tokL (c :: r) = none := by rw [htk, if_neg h16]
        rw [show decide ((w.length : Int) ≤ 16) = false by simp; omega]
        repeat (first | refine zR ?_ | refine zK ?_ | refine zM ?_ | refine zB ?_ | refine zA ?_ | refine zS ?_ | refine zL ?_)
        refine qc ?_
        have hfin := jy hi hdr hb hN
        (repeat refine qb ?_); refine qa ?_
        repeat (first | refine zR ?_ | refine zK ?_ | refine zM ?_ | refine zB ?_ | refine zA ?_ | refine zS ?_ | refine zL ?_)
        refine qc ?_
        (repeat refine qb ?_); refine qe rfl (fun hz => ?_) (fun hz => ?_)
        rotate_left
        · cases hz
        (repeat refine qb ?_); refine qa ?_
        repeat (first | refine zR ?_ | refine zK ?_ | refine zM ?_ | refine zB ?_ | refine zA ?_ | refine zS ?_ | refine zL ?_)
        refine qc ?_
        (repeat refine qb ?_); refine qj ?_
        rw [hfin]
        exact ⟨Or.inr rfl, _, _, [], Wk.refl _, rfl, rfl, rfl, rfl⟩
    | false =>
    repeat (first | refine zR ?_ | refine zK ?_ | refine zM ?_ | refine zB ?_ | refine zA ?_ | refine zS ?_ | refine zL ?_)
    refine qc ?_
    (repeat refine qb ?_); refine qe rfl (fun hz => ?_) (fun hz => ?_)
    · cases hz
    (repeat refine qb ?_); refine qa ?_
    repeat (first | refine zR ?_ | refine zK ?_ | refine zM ?_ | refine zB ?_ | refine zA ?_ | refine zS ?_ | refine zL ?_)
    refine qi rfl (qd rfl rfl rfl rfl (HD) rfl rfl ?_)
    repeat (first | refine zR ?_ | refine zK ?_ | refine zM ?_ | refine zB ?_ | refine zA ?_ | refine zS ?_ | refine zL ?_)
    cases hd : qp c with
    | true =>
      have HNm := rnumber_h l hn k hk
      have hml := num_lt (l.drop k)
      rw [hdr] at HNm hml
      have htk : tokL (c :: r) = match magL (c :: r) with | some (m, j) => if m < 9223372036854775808 then some ⟨2, m, [], j⟩ else none | none => none := by rw [tokL, hl, if_neg (by simp), if_pos hd]; rfl
      have hyes := @num_yes (c :: r)
      have hno := @num_no (c :: r)
      generalize hnu : numN (c :: r) = x at *
      obtain ⟨j, m, b⟩ := x
      simp only at HNm hml
      repeat (first | refine zR ?_ | refine zK ?_ | refine zM ?_ | refine zB ?_ | refine zA ?_ | refine zS ?_ | refine zL ?_)
      refine qc ?_
      (repeat refine qb ?_); refine qe rfl (fun hz => ?_) (fun hz => ?_)
      rotate_left
      · cases hz
      (repeat refine qb ?_); refine qa ?_
      repeat (first | refine zR ?_ | refine zK ?_ | refine zM ?_ | refine zB ?_ | refine zA ?_ | refine zS ?_ | refine zL ?_)
      refine qc ?_
      (repeat refine qb ?_); refine qa ?_
      repeat (first | refine zR ?_ | refine zK ?_ | refine zM ?_ | refine zB ?_ | refine zA ?_ | refine zS ?_ | refine zL ?_)
      refine qc ?_
      (repeat refine qb ?_); refine qa ?_
      repeat (first | refine zR ?_ | refine zK ?_ | refine zM ?_ | refine zB ?_ | refine zA ?_ | refine zS ?_ | refine zL ?_)
      refine qi rfl (qd rfl rfl rfl rfl (HNm) rfl rfl ?_)
      repeat (first | refine zR ?_ | refine zK ?_ | refine zM ?_ | refine zB ?_ | refine zA ?_ | refine zS ?_ | refine zL ?_)
      repeat (first | refine zR ?_ | refine zK ?_ | refine zM ?_ | refine zB ?_ | refine zA ?_ | refine zS ?_ | refine zL ?_)
      refine qc ?_
      (repeat refine qb ?_); refine qa ?_
      repeat (first | refine zR ?_ | refine zK ?_ | refine zM ?_ | refine zB ?_ | refine zA ?_ | refine zS ?_ | refine zL ?_)
      cases b with
      | false =>
        have hN : tokL (c :: r) = none := by
          rw [htk]
          rcases hno rfl with h | ⟨m', j', h, hg⟩
          · rw [h]
          · rw [h]; simp only; rw [if_neg (by omega)]
        repeat (first | refine zR ?_ | refine zK ?_ | refine zM ?_ | refine zB ?_ | refine zA ?_ | refine zS ?_ | refine zL ?_)
        refine qc ?_
        (repeat refine qb ?_); refine qa ?_
        repeat (first | refine zR ?_ | refine zK ?_ | refine zM ?_ | refine zB ?_ | refine zA ?_ | refine zS ?_ | refine zL ?_)
        refine qc ?_
        have hfin := jy hi hdr hb hN
        (repeat refine qb ?_); refine qa ?_
        repeat (first | refine zR ?_ | refine zK ?_ | refine zM ?_ | refine zB ?_ | refine zA ?_ | refine zS ?_ | refine zL ?_)
        refine qc ?_
        (repeat refine qb ?_); refine qe rfl (fun hz => ?_) (fun hz => ?_)
        rotate_left
        · cases hz
        (repeat refine qb ?_); refine qa ?_
        repeat (first | refine zR ?_ | refine zK ?_ | refine zM ?_ | refine zB ?_ | refine zA ?_ | refine zS ?_ | refine zL ?_)
        refine qc ?_
        (repeat refine qb ?_); refine qj ?_
        rw [hfin]
        exact ⟨Or.inr rfl, _, _, [], Wk.refl _, rfl, rfl, rfl, rfl⟩
      | true =>
        have hmg := hyes rfl
        rw [hmg] at htk
        simp only at htk
        repeat (first | refine zR ?_ | refine zK ?_ | refine zM ?_ | refine zB ?_ | refine zA ?_ | refine zS ?_ | refine zL ?_)
        by_cases hb63 : m < 9223372036854775808
        · have hY : tokL (c :: r) = some ⟨2, (m : Int), [], j⟩ := by rw [htk, if_pos hb63]
          rw [show decide ((m : Int) < 9223372036854775808) = true by simp; omega]
          repeat (first | refine zR ?_ | refine zK ?_ | refine zM ?_ | refine zB ?_ | refine zA ?_ | refine zS ?_ | refine zL ?_)
          refine qc ?_
          (repeat refine qb ?_); refine qa ?_
          repeat (first | refine zR ?_ | refine zK ?_ | refine zM ?_ | refine zB ?_ | refine zA ?_ | refine zS ?_ | refine zL ?_)
          rw [show IntKind.i64.wrap (m : Int) = (m : Int) from IntWalk.i64_in _ (by omega)]
          repeat (first | refine zR ?_ | refine zK ?_ | refine zM ?_ | refine zB ?_ | refine zA ?_ | refine zS ?_ | refine zL ?_)
          refine qc ?_
          obtain ⟨hi2, hl1, hl2⟩ := jF hi hdr hb hY
          (try simp only at hl1 hl2 hi2)
          have eO : (o ++ [(⟨2, k, (m : Int), []⟩ : Tok)]).map Tok.pv = o.map Tok.pv ++ [[pI 2, pI (k : Int), pI (m : Int), pL []]] := by rw [List.map_append]; rfl
          (repeat refine qb ?_); refine qa ?_
          repeat (first | refine zR ?_ | refine zK ?_ | refine zM ?_ | refine zB ?_ | refine zA ?_ | refine zS ?_ | refine zL ?_)
          refine qc ?_
          (repeat refine qb ?_); refine qe rfl (fun hz => ?_) (fun hz => ?_)
          · cases hz
          refine qq ?_
          (repeat refine qb ?_); refine qa ?_
          repeat (first | refine zR ?_ | refine zK ?_ | refine zM ?_ | refine zB ?_ | refine zA ?_ | refine zS ?_ | refine zL ?_)
          refine qi rfl (qy qg rfl rfl rfl rfl rfl rfl rfl rfl rfl rfl rfl rfl rfl rfl rfl rfl (by simp only [List.length_append, List.length_map, List.length_take, List.length_cons, List.length_nil]; unfold reachBytes; omega) (by simp only [List.length_append, List.length_map, List.length_take, List.length_cons, List.length_nil]; omega) ?_)
          repeat (first | refine zR ?_ | refine zK ?_ | refine zM ?_ | refine zB ?_ | refine zA ?_ | refine zS ?_ | refine zL ?_)
          refine qc ?_
          (repeat refine qb ?_); refine qa ?_
          repeat (first | refine zR ?_ | refine zK ?_ | refine zM ?_ | refine zB ?_ | refine zA ?_ | refine zS ?_ | refine zL ?_)
          refine qc ?_
          refine ⟨_, _, ?_, qv [0, 5, 6] [(214, 0)] rfl rfl, _, _, hi2, rfl, ?_⟩
          · show _ < _
            (try simp only)
            omega
          · show _ = (⟨216, [(0, .p (pL l)), (5, .row 0), (6, .p (pI _))], [(0, .row _ _ ((o ++ [(⟨2, k, (m : Int), []⟩ : Tok)]).map Tok.pv))]⟩ : St)
            rw [eO]
            rfl
        · have hN : tokL (c :: r) = none := by rw [htk, if_neg hb63]
          rw [show decide ((m : Int) < 9223372036854775808) = false by simp; omega]
          repeat (first | refine zR ?_ | refine zK ?_ | refine zM ?_ | refine zB ?_ | refine zA ?_ | refine zS ?_ | refine zL ?_)
          refine qc ?_
          (repeat refine qb ?_); refine qa ?_
          repeat (first | refine zR ?_ | refine zK ?_ | refine zM ?_ | refine zB ?_ | refine zA ?_ | refine zS ?_ | refine zL ?_)
          refine qc ?_
          have hfin := jy hi hdr hb hN
          (repeat refine qb ?_); refine qa ?_
          repeat (first | refine zR ?_ | refine zK ?_ | refine zM ?_ | refine zB ?_ | refine zA ?_ | refine zS ?_ | refine zL ?_)
          refine qc ?_
          (repeat refine qb ?_); refine qe rfl (fun hz => ?_) (fun hz => ?_)
          rotate_left
          · cases hz
          (repeat refine qb ?_); refine qa ?_
          repeat (first | refine zR ?_ | refine zK ?_ | refine zM ?_ | refine zB ?_ | refine zA ?_ | refine zS ?_ | refine zL ?_)
          refine qc ?_
          (repeat refine qb ?_); refine qj ?_
          rw [hfin]
          exact ⟨Or.inr rfl, _, _, [], Wk.refl _, rfl, rfl, rfl, rfl⟩
    | false =>
    repeat (first | refine zR ?_ | refine zK ?_ | refine zM ?_ | refine zB ?_ | refine zA ?_ | refine zS ?_ | refine zL ?_)
    refine qc ?_
    (repeat refine qb ?_); refine qe rfl (fun hz => ?_) (fun hz => ?_)
    · cases hz
    have hrd : l.drop (k + 1) = r := hrr.symm
    have HNm := rnumber_h l hn (k + 1) (by omega)
    have hml := num_lt r
    rw [hrd] at HNm
    have hyes := @num_yes r
    have hno := @num_no r
    generalize hnu : numN r = x at *
    obtain ⟨j, m, b⟩ := x
    simp only at HNm hml
    (repeat refine qb ?_); refine qa ?_
    repeat (first | refine zR ?_ | refine zK ?_ | refine zM ?_ | refine zB ?_ | refine zA ?_ | refine zS ?_ | refine zL ?_)
    by_cases h45 : c.toNat = 45
    · have htk : tokL (c :: r) = match magL r with | some (m, j) => if m ≠ 0 ∧ m ≤ 9223372036854775808 then some ⟨2, -(m : Int), [], j + 1⟩ else none | none => none := by rw [tokL, hl, if_neg (by simp), hd, if_neg (by simp), if_pos h45]; rfl
      rw [show ((c.toNat : Int) == 45) = true by rw [beq_iff_eq]; omega]
      refine qc ?_
      (repeat refine qb ?_); refine qe rfl (fun hy => ?_) (fun hy => ?_)
      rotate_left
      · cases hy
      (repeat refine qb ?_); refine qa ?_
      repeat (first | refine zR ?_ | refine zK ?_ | refine zM ?_ | refine zB ?_ | refine zA ?_ | refine zS ?_ | refine zL ?_)
      refine qc ?_
      (repeat refine qb ?_); refine qa ?_
      repeat (first | refine zR ?_ | refine zK ?_ | refine zM ?_ | refine zB ?_ | refine zA ?_ | refine zS ?_ | refine zL ?_)
      refine qc ?_
      (repeat refine qb ?_); refine qa ?_
      repeat (first | refine zR ?_ | refine zK ?_ | refine zM ?_ | refine zB ?_ | refine zA ?_ | refine zS ?_ | refine zL ?_)
      rw [zk hlt (by omega)]
      refine qi rfl (qd rfl rfl rfl rfl (HNm) rfl rfl ?_)
      repeat (first | refine zR ?_ | refine zK ?_ | refine zM ?_ | refine zB ?_ | refine zA ?_ | refine zS ?_ | refine zL ?_)
      repeat (first | refine zR ?_ | refine zK ?_ | refine zM ?_ | refine zB ?_ | refine zA ?_ | refine zS ?_ | refine zL ?_)
      refine qc ?_
      (repeat refine qb ?_); refine qa ?_
      repeat (first | refine zR ?_ | refine zK ?_ | refine zM ?_ | refine zB ?_ | refine zA ?_ | refine zS ?_ | refine zL ?_)
      cases b with
      | false =>
        have hN : tokL (c :: r) = none := by
          rw [htk]
          rcases hno rfl with h | ⟨m', j', h, hg⟩
          · rw [h]
          · rw [h]; simp only; rw [if_neg (by omega)]
        repeat (first | refine zR ?_ | refine zK ?_ | refine zM ?_ | refine zB ?_ | refine zA ?_ | refine zS ?_ | refine zL ?_)
        refine qc ?_
        (repeat refine qb ?_); refine qa ?_
        repeat (first | refine zR ?_ | refine zK ?_ | refine zM ?_ | refine zB ?_ | refine zA ?_ | refine zS ?_ | refine zL ?_)
        refine qc ?_
        have hfin := jy hi hdr hb hN
        (repeat refine qb ?_); refine qa ?_
        repeat (first | refine zR ?_ | refine zK ?_ | refine zM ?_ | refine zB ?_ | refine zA ?_ | refine zS ?_ | refine zL ?_)
        refine qc ?_
        (repeat refine qb ?_); refine qe rfl (fun hz => ?_) (fun hz => ?_)
        rotate_left
        · cases hz
        (repeat refine qb ?_); refine qa ?_
        repeat (first | refine zR ?_ | refine zK ?_ | refine zM ?_ | refine zB ?_ | refine zA ?_ | refine zS ?_ | refine zL ?_)
        refine qc ?_
        (repeat refine qb ?_); refine qj ?_
        rw [hfin]
        exact ⟨Or.inr rfl, _, _, [], Wk.refl _, rfl, rfl, rfl, rfl⟩
      | true =>
        have hmg := hyes rfl
        rw [hmg] at htk
        simp only at htk
        repeat (first | refine zR ?_ | refine zK ?_ | refine zM ?_ | refine zB ?_ | refine zA ?_ | refine zS ?_ | refine zL ?_)
        by_cases hb63 : m ≤ 9223372036854775808
        · rw [show decide ((m : Int) ≤ 9223372036854775808) = true by simp; omega]
          repeat (first | refine zR ?_ | refine zK ?_ | refine zM ?_ | refine zB ?_ | refine zA ?_ | refine zS ?_ | refine zL ?_)
          by_cases h0 : m = 0
          · have hN : tokL (c :: r) = none := by rw [htk, if_neg (by omega)]
            rw [show ((m : Int) != 0) = false by rw [bne_eq_false_iff_eq]; omega]
            repeat (first | refine zR ?_ | refine zK ?_ | refine zM ?_ | refine zB ?_ | refine zA ?_ | refine zS ?_ | refine zL ?_)
            refine qc ?_
            (repeat refine qb ?_); refine qa ?_
            repeat (first | refine zR ?_ | refine zK ?_ | refine zM ?_ | refine zB ?_ | refine zA ?_ | refine zS ?_ | refine zL ?_)
            refine qc ?_
            have hfin := jy hi hdr hb hN
            (repeat refine qb ?_); refine qa ?_
            repeat (first | refine zR ?_ | refine zK ?_ | refine zM ?_ | refine zB ?_ | refine zA ?_ | refine zS ?_ | refine zL ?_)
            refine qc ?_
            (repeat refine qb ?_); refine qe rfl (fun hz => ?_) (fun hz => ?_)
            rotate_left
            · cases hz
            (repeat refine qb ?_); refine qa ?_
            repeat (first | refine zR ?_ | refine zK ?_ | refine zM ?_ | refine zB ?_ | refine zA ?_ | refine zS ?_ | refine zL ?_)
            refine qc ?_
            (repeat refine qb ?_); refine qj ?_
            rw [hfin]
            exact ⟨Or.inr rfl, _, _, [], Wk.refl _, rfl, rfl, rfl, rfl⟩
          · have hY : tokL (c :: r) = some ⟨2, -(m : Int), [], j + 1⟩ := by rw [htk, if_pos ⟨h0, hb63⟩]
            rw [show ((m : Int) != 0) = true by rw [bne_iff_ne]; omega]
            repeat (first | refine zR ?_ | refine zK ?_ | refine zM ?_ | refine zB ?_ | refine zA ?_ | refine zS ?_ | refine zL ?_)
            refine qc ?_
            (repeat refine qb ?_); refine qa ?_
            repeat (first | refine zR ?_ | refine zK ?_ | refine zM ?_ | refine zB ?_ | refine zA ?_ | refine zS ?_ | refine zL ?_)
            rw [neg_wrap hb63]
            repeat (first | refine zR ?_ | refine zK ?_ | refine zM ?_ | refine zB ?_ | refine zA ?_ | refine zS ?_ | refine zL ?_)
            refine qc ?_
            rw [show ((k + 1 + j : Nat) : Int) = ((k + (j + 1) : Nat) : Int) by omega]
            obtain ⟨hi2, hl1, hl2⟩ := jF hi hdr hb hY
            (try simp only at hl1 hl2 hi2)
            have eO : (o ++ [(⟨2, k, (-(m : Int)), []⟩ : Tok)]).map Tok.pv = o.map Tok.pv ++ [[pI 2, pI (k : Int), pI (-(m : Int)), pL []]] := by rw [List.map_append]; rfl
            (repeat refine qb ?_); refine qa ?_
            repeat (first | refine zR ?_ | refine zK ?_ | refine zM ?_ | refine zB ?_ | refine zA ?_ | refine zS ?_ | refine zL ?_)
            refine qc ?_
            (repeat refine qb ?_); refine qe rfl (fun hz => ?_) (fun hz => ?_)
            · cases hz
            refine qq ?_
            (repeat refine qb ?_); refine qa ?_
            repeat (first | refine zR ?_ | refine zK ?_ | refine zM ?_ | refine zB ?_ | refine zA ?_ | refine zS ?_ | refine zL ?_)
            refine qi rfl (qy qg rfl rfl rfl rfl rfl rfl rfl rfl rfl rfl rfl rfl rfl rfl rfl rfl (by simp only [List.length_append, List.length_map, List.length_take, List.length_cons, List.length_nil]; unfold reachBytes; omega) (by simp only [List.length_append, List.length_map, List.length_take, List.length_cons, List.length_nil]; omega) ?_)
            repeat (first | refine zR ?_ | refine zK ?_ | refine zM ?_ | refine zB ?_ | refine zA ?_ | refine zS ?_ | refine zL ?_)
            refine qc ?_
            (repeat refine qb ?_); refine qa ?_
            repeat (first | refine zR ?_ | refine zK ?_ | refine zM ?_ | refine zB ?_ | refine zA ?_ | refine zS ?_ | refine zL ?_)
            refine qc ?_
            refine ⟨_, _, ?_, qv [0, 5, 6] [(214, 0)] rfl rfl, _, _, hi2, rfl, ?_⟩
            · show _ < _
              (try simp only)
              omega
            · show _ = (⟨216, [(0, .p (pL l)), (5, .row 0), (6, .p (pI _))], [(0, .row _ _ ((o ++ [(⟨2, k, (-(m : Int)), []⟩ : Tok)]).map Tok.pv))]⟩ : St)
              rw [eO]
              rfl
        · have hN : tokL (c :: r) = none := by rw [htk, if_neg (by omega)]
          rw [show decide ((m : Int) ≤ 9223372036854775808) = false by simp; omega]
          repeat (first | refine zR ?_ | refine zK ?_ | refine zM ?_ | refine zB ?_ | refine zA ?_ | refine zS ?_ | refine zL ?_)
          refine qc ?_
          (repeat refine qb ?_); refine qa ?_
          repeat (first | refine zR ?_ | refine zK ?_ | refine zM ?_ | refine zB ?_ | refine zA ?_ | refine zS ?_ | refine zL ?_)
          refine qc ?_
          have hfin := jy hi hdr hb hN
          (repeat refine qb ?_); refine qa ?_
          repeat (first | refine zR ?_ | refine zK ?_ | refine zM ?_ | refine zB ?_ | refine zA ?_ | refine zS ?_ | refine zL ?_)
          refine qc ?_
          (repeat refine qb ?_); refine qe rfl (fun hz => ?_) (fun hz => ?_)
          rotate_left
          · cases hz
          (repeat refine qb ?_); refine qa ?_
          repeat (first | refine zR ?_ | refine zK ?_ | refine zM ?_ | refine zB ?_ | refine zA ?_ | refine zS ?_ | refine zL ?_)
          refine qc ?_
          (repeat refine qb ?_); refine qj ?_
          rw [hfin]
          exact ⟨Or.inr rfl, _, _, [], Wk.refl _, rfl, rfl, rfl, rfl⟩
    rw [show ((c.toNat : Int) == 45) = false by rw [beq_eq_false_iff_ne]; omega]
    refine qc ?_
    (repeat refine qb ?_); refine qe rfl (fun hy => ?_) (fun hy => ?_)
    · cases hy
    (repeat refine qb ?_); refine qa ?_
    repeat (first | refine zR ?_ | refine zK ?_ | refine zM ?_ | refine zB ?_ | refine zA ?_ | refine zS ?_ | refine zL ?_)
    by_cases h64 : c.toNat = 64
    · have htk : tokL (c :: r) = match magL r with | some (m, j) => if m ≤ 1099511627776 then some ⟨3, (m : Int), [], j + 1⟩ else none | none => none := by rw [tokL, hl, if_neg (by simp), hd, if_neg (by simp), if_neg h45, if_pos h64]; rfl
      rw [show ((c.toNat : Int) == 64) = true by rw [beq_iff_eq]; omega]
      refine qc ?_
      (repeat refine qb ?_); refine qe rfl (fun hy => ?_) (fun hy => ?_)
      rotate_left
      · cases hy
      (repeat refine qb ?_); refine qa ?_
      repeat (first | refine zR ?_ | refine zK ?_ | refine zM ?_ | refine zB ?_ | refine zA ?_ | refine zS ?_ | refine zL ?_)
      refine qc ?_
      (repeat refine qb ?_); refine qa ?_
      repeat (first | refine zR ?_ | refine zK ?_ | refine zM ?_ | refine zB ?_ | refine zA ?_ | refine zS ?_ | refine zL ?_)
      refine qc ?_
      (repeat refine qb ?_); refine qa ?_
      repeat (first | refine zR ?_ | refine zK ?_ | refine zM ?_ | refine zB ?_ | refine zA ?_ | refine zS ?_ | refine zL ?_)
      rw [zk hlt (by omega)]
      refine qi rfl (qd rfl rfl rfl rfl (HNm) rfl rfl ?_)
      repeat (first | refine zR ?_ | refine zK ?_ | refine zM ?_ | refine zB ?_ | refine zA ?_ | refine zS ?_ | refine zL ?_)
      repeat (first | refine zR ?_ | refine zK ?_ | refine zM ?_ | refine zB ?_ | refine zA ?_ | refine zS ?_ | refine zL ?_)
      refine qc ?_
      (repeat refine qb ?_); refine qa ?_
      repeat (first | refine zR ?_ | refine zK ?_ | refine zM ?_ | refine zB ?_ | refine zA ?_ | refine zS ?_ | refine zL ?_)
      cases b with
      | false =>
        have hN : tokL (c :: r) = none := by
          rw [htk]
          rcases hno rfl with h | ⟨m', j', h, hg⟩
          · rw [h]
          · rw [h]; simp only; rw [if_neg (by omega)]
        repeat (first | refine zR ?_ | refine zK ?_ | refine zM ?_ | refine zB ?_ | refine zA ?_ | refine zS ?_ | refine zL ?_)
        refine qc ?_
        (repeat refine qb ?_); refine qa ?_
        repeat (first | refine zR ?_ | refine zK ?_ | refine zM ?_ | refine zB ?_ | refine zA ?_ | refine zS ?_ | refine zL ?_)
        refine qc ?_
        have hfin := jy hi hdr hb hN
        (repeat refine qb ?_); refine qa ?_
        repeat (first | refine zR ?_ | refine zK ?_ | refine zM ?_ | refine zB ?_ | refine zA ?_ | refine zS ?_ | refine zL ?_)
        refine qc ?_
        (repeat refine qb ?_); refine qe rfl (fun hz => ?_) (fun hz => ?_)
        rotate_left
        · cases hz
        (repeat refine qb ?_); refine qa ?_
        repeat (first | refine zR ?_ | refine zK ?_ | refine zM ?_ | refine zB ?_ | refine zA ?_ | refine zS ?_ | refine zL ?_)
        refine qc ?_
        (repeat refine qb ?_); refine qj ?_
        rw [hfin]
        exact ⟨Or.inr rfl, _, _, [], Wk.refl _, rfl, rfl, rfl, rfl⟩
      | true =>
        have hmg := hyes rfl
        rw [hmg] at htk
        simp only at htk
        repeat (first | refine zR ?_ | refine zK ?_ | refine zM ?_ | refine zB ?_ | refine zA ?_ | refine zS ?_ | refine zL ?_)
        by_cases hb40 : m ≤ 1099511627776
        · have hY : tokL (c :: r) = some ⟨3, (m : Int), [], j + 1⟩ := by rw [htk, if_pos hb40]
          rw [show decide ((m : Int) ≤ 1099511627776) = true by simp; omega]
          repeat (first | refine zR ?_ | refine zK ?_ | refine zM ?_ | refine zB ?_ | refine zA ?_ | refine zS ?_ | refine zL ?_)
          refine qc ?_
          (repeat refine qb ?_); refine qa ?_
          repeat (first | refine zR ?_ | refine zK ?_ | refine zM ?_ | refine zB ?_ | refine zA ?_ | refine zS ?_ | refine zL ?_)
          rw [show IntKind.i64.wrap (m : Int) = (m : Int) from IntWalk.i64_in _ (by omega)]
          repeat (first | refine zR ?_ | refine zK ?_ | refine zM ?_ | refine zB ?_ | refine zA ?_ | refine zS ?_ | refine zL ?_)
          refine qc ?_
          rw [show ((k + 1 + j : Nat) : Int) = ((k + (j + 1) : Nat) : Int) by omega]
          obtain ⟨hi2, hl1, hl2⟩ := jF hi hdr hb hY
          (try simp only at hl1 hl2 hi2)
          have eO : (o ++ [(⟨3, k, (m : Int), []⟩ : Tok)]).map Tok.pv = o.map Tok.pv ++ [[pI 3, pI (k : Int), pI (m : Int), pL []]] := by rw [List.map_append]; rfl
          (repeat refine qb ?_); refine qa ?_
          repeat (first | refine zR ?_ | refine zK ?_ | refine zM ?_ | refine zB ?_ | refine zA ?_ | refine zS ?_ | refine zL ?_)
          refine qc ?_
          (repeat refine qb ?_); refine qe rfl (fun hz => ?_) (fun hz => ?_)
          · cases hz
          refine qq ?_
          (repeat refine qb ?_); refine qa ?_
          repeat (first | refine zR ?_ | refine zK ?_ | refine zM ?_ | refine zB ?_ | refine zA ?_ | refine zS ?_ | refine zL ?_)
          refine qi rfl (qy qg rfl rfl rfl rfl rfl rfl rfl rfl rfl rfl rfl rfl rfl rfl rfl rfl (by simp only [List.length_append, List.length_map, List.length_take, List.length_cons, List.length_nil]; unfold reachBytes; omega) (by simp only [List.length_append, List.length_map, List.length_take, List.length_cons, List.length_nil]; omega) ?_)
          repeat (first | refine zR ?_ | refine zK ?_ | refine zM ?_ | refine zB ?_ | refine zA ?_ | refine zS ?_ | refine zL ?_)
          refine qc ?_
          (repeat refine qb ?_); refine qa ?_
          repeat (first | refine zR ?_ | refine zK ?_ | refine zM ?_ | refine zB ?_ | refine zA ?_ | refine zS ?_ | refine zL ?_)
          refine qc ?_
          refine ⟨_, _, ?_, qv [0, 5, 6] [(214, 0)] rfl rfl, _, _, hi2, rfl, ?_⟩
          · show _ < _
            (try simp only)
            omega
          · show _ = (⟨216, [(0, .p (pL l)), (5, .row 0), (6, .p (pI _))], [(0, .row _ _ ((o ++ [(⟨3, k, (m : Int), []⟩ : Tok)]).map Tok.pv))]⟩ : St)
            rw [eO]
            rfl
        · have hN : tokL (c :: r) = none := by rw [htk, if_neg hb40]
          rw [show decide ((m : Int) ≤ 1099511627776) = false by simp; omega]
          repeat (first | refine zR ?_ | refine zK ?_ | refine zM ?_ | refine zB ?_ | refine zA ?_ | refine zS ?_ | refine zL ?_)
          refine qc ?_
          (repeat refine qb ?_); refine qa ?_
          repeat (first | refine zR ?_ | refine zK ?_ | refine zM ?_ | refine zB ?_ | refine zA ?_ | refine zS ?_ | refine zL ?_)
          refine qc ?_
          have hfin := jy hi hdr hb hN
          (repeat refine qb ?_); refine qa ?_
          repeat (first | refine zR ?_ | refine zK ?_ | refine zM ?_ | refine zB ?_ | refine zA ?_ | refine zS ?_ | refine zL ?_)
          refine qc ?_
          (repeat refine qb ?_); refine qe rfl (fun hz => ?_) (fun hz => ?_)
          rotate_left
          · cases hz
          (repeat refine qb ?_); refine qa ?_
          repeat (first | refine zR ?_ | refine zK ?_ | refine zM ?_ | refine zB ?_ | refine zA ?_ | refine zS ?_ | refine zL ?_)
          refine qc ?_
          (repeat refine qb ?_); refine qj ?_
          rw [hfin]
          exact ⟨Or.inr rfl, _, _, [], Wk.refl _, rfl, rfl, rfl, rfl⟩
    rw [show ((c.toNat : Int) == 64) = false by rw [beq_eq_false_iff_ne]; omega]
    clear HNm hml hyes hno hnu
    refine qc ?_
    (repeat refine qb ?_); refine qe rfl (fun hy => ?_) (fun hy => ?_)
    · cases hy
    (repeat refine qb ?_); refine qa ?_
    repeat (first | refine zR ?_ | refine zK ?_ | refine zM ?_ | refine zB ?_ | refine zA ?_ | refine zS ?_ | refine zL ?_)
    by_cases h35 : c.toNat = 35
    · have htk : tokL (c :: r) = if nameL (qR r) then some ⟨4, 0, qR r, (qR r).length + 1⟩ else none := by rw [tokL, hl, if_neg (by simp), hd, if_neg (by simp), if_neg h45, if_neg h64, if_pos h35]
      have HWd := rword_h l hn (k + 1) (by omega)
      rw [hrd] at HWd
      obtain ⟨hwn1, hwn2⟩ := word_name r
      have hwl : wordN r ≤ r.length := by
        cases hr0 : r with
        | nil => exact Nat.le_refl _
        | cons x r' =>
          rw [jE]
          split
          · exact qz qw (x :: r')
          · exact Nat.zero_le _
      have HNa := refName_h ⟨⟨r.take (wordN r)⟩⟩ (by show (r.take (wordN r)).length ≤ reachBytes; rw [List.length_take]; unfold reachBytes; omega)
      rw [nameS_l, hwn1] at HNa
      rw [show ((c.toNat : Int) == 35) = true by rw [beq_iff_eq]; omega]
      refine qc ?_
      (repeat refine qb ?_); refine qe rfl (fun hx1 => ?_) (fun hx1 => ?_)
      rotate_left
      · cases hx1
      (repeat refine qb ?_); refine qa ?_
      repeat (first | refine zR ?_ | refine zK ?_ | refine zM ?_ | refine zB ?_ | refine zA ?_ | refine zS ?_ | refine zL ?_)
      refine qc ?_
      (repeat refine qb ?_); refine qa ?_
      repeat (first | refine zR ?_ | refine zK ?_ | refine zM ?_ | refine zB ?_ | refine zA ?_ | refine zS ?_ | refine zL ?_)
      rw [zk hlt (by omega)]
      refine qi rfl (qd rfl rfl rfl rfl (HWd) rfl rfl ?_)
      repeat (first | refine zR ?_ | refine zK ?_ | refine zM ?_ | refine zB ?_ | refine zA ?_ | refine zS ?_ | refine zL ?_)
      repeat (first | refine zR ?_ | refine zK ?_ | refine zM ?_ | refine zB ?_ | refine zA ?_ | refine zS ?_ | refine zL ?_)
      refine qc ?_
      (repeat refine qb ?_); refine qa ?_
      repeat (first | refine zR ?_ | refine zK ?_ | refine zM ?_ | refine zB ?_ | refine zA ?_ | refine zS ?_ | refine zL ?_)
      rw [zk hlt (by omega)]
      refine ql qg rfl rfl (by rw [ls]; omega) rfl ?_
      rw [ext_l, show (l.drop (Int.toNat ((k + 1 : Nat) : Int))).take (Int.toNat ((k + 1 + wordN r : Nat) : Int) - Int.toNat ((k + 1 : Nat) : Int)) = r.take (wordN r) by rw [Int.toNat_natCast, Int.toNat_natCast, show k + 1 + wordN r - (k + 1) = wordN r by omega, hrd]]
      repeat (first | refine zR ?_ | refine zK ?_ | refine zM ?_ | refine zB ?_ | refine zA ?_ | refine zS ?_ | refine zL ?_)
      refine qc ?_
      (repeat refine qb ?_); refine qa ?_
      repeat (first | refine zR ?_ | refine zK ?_ | refine zM ?_ | refine zB ?_ | refine zA ?_ | refine zS ?_ | refine zL ?_)
      refine qi rfl (qd rfl rfl rfl rfl (HNa) rfl rfl ?_)
      repeat (first | refine zR ?_ | refine zK ?_ | refine zM ?_ | refine zB ?_ | refine zA ?_ | refine zS ?_ | refine zL ?_)
      cases hnm : nameL (qR r) with
      | true =>
        obtain ⟨e1, e2⟩ := hwn2 hnm
        have hY : tokL (c :: r) = some ⟨4, 0, qR r, (qR r).length + 1⟩ := by rw [htk, if_pos hnm]
        rw [e1, e2]
        repeat (first | refine zR ?_ | refine zK ?_ | refine zM ?_ | refine zB ?_ | refine zA ?_ | refine zS ?_ | refine zL ?_)
        refine qc ?_
        rw [show ((k + 1 + (qR r).length : Nat) : Int) = ((k + ((qR r).length + 1) : Nat) : Int) by omega]
        obtain ⟨hi2, hl1, hl2⟩ := jF hi hdr hb hY
        (try simp only at hl1 hl2 hi2)
        have eO : (o ++ [(⟨4, k, 0, (qR r)⟩ : Tok)]).map Tok.pv = o.map Tok.pv ++ [[pI 4, pI (k : Int), pI 0, pL (qR r)]] := by rw [List.map_append]; rfl
        (repeat refine qb ?_); refine qa ?_
        repeat (first | refine zR ?_ | refine zK ?_ | refine zM ?_ | refine zB ?_ | refine zA ?_ | refine zS ?_ | refine zL ?_)
        refine qc ?_
        (repeat refine qb ?_); refine qe rfl (fun hz => ?_) (fun hz => ?_)
        · cases hz
        refine qq ?_
        (repeat refine qb ?_); refine qa ?_
        repeat (first | refine zR ?_ | refine zK ?_ | refine zM ?_ | refine zB ?_ | refine zA ?_ | refine zS ?_ | refine zL ?_)
        refine qi rfl (qy qg rfl rfl rfl rfl rfl rfl rfl rfl rfl rfl rfl rfl rfl rfl rfl rfl (by simp only [List.length_append, List.length_map, List.length_take, List.length_cons, List.length_nil]; unfold reachBytes; omega) (by simp only [List.length_append, List.length_map, List.length_take, List.length_cons, List.length_nil]; omega) ?_)
        repeat (first | refine zR ?_ | refine zK ?_ | refine zM ?_ | refine zB ?_ | refine zA ?_ | refine zS ?_ | refine zL ?_)
        refine qc ?_
        (repeat refine qb ?_); refine qa ?_
        repeat (first | refine zR ?_ | refine zK ?_ | refine zM ?_ | refine zB ?_ | refine zA ?_ | refine zS ?_ | refine zL ?_)
        refine qc ?_
        refine ⟨_, _, ?_, qv [0, 5, 6] [(214, 0)] rfl rfl, _, _, hi2, rfl, ?_⟩
        · show _ < _
          (try simp only)
          omega
        · show _ = (⟨216, [(0, .p (pL l)), (5, .row 0), (6, .p (pI _))], [(0, .row _ _ ((o ++ [(⟨4, k, 0, (qR r)⟩ : Tok)]).map Tok.pv))]⟩ : St)
          rw [eO]
          rfl
      | false =>
        have hN : tokL (c :: r) = none := by rw [htk, hnm]; rfl
        repeat (first | refine zR ?_ | refine zK ?_ | refine zM ?_ | refine zB ?_ | refine zA ?_ | refine zS ?_ | refine zL ?_)
        refine qc ?_
        have hfin := jy hi hdr hb hN
        (repeat refine qb ?_); refine qa ?_
        repeat (first | refine zR ?_ | refine zK ?_ | refine zM ?_ | refine zB ?_ | refine zA ?_ | refine zS ?_ | refine zL ?_)
        refine qc ?_
        (repeat refine qb ?_); refine qe rfl (fun hz => ?_) (fun hz => ?_)
        rotate_left
        · cases hz
        (repeat refine qb ?_); refine qa ?_
        repeat (first | refine zR ?_ | refine zK ?_ | refine zM ?_ | refine zB ?_ | refine zA ?_ | refine zS ?_ | refine zL ?_)
        refine qc ?_
        (repeat refine qb ?_); refine qj ?_
        rw [hfin]
        exact ⟨Or.inr rfl, _, _, [], Wk.refl _, rfl, rfl, rfl, rfl⟩
    rw [show ((c.toNat : Int) == 35) = false by rw [beq_eq_false_iff_ne]; omega]
    refine qc ?_
    (repeat refine qb ?_); refine qe rfl (fun hx1 => ?_) (fun hx1 => ?_)
    · cases hx1
    (repeat refine qb ?_); refine qa ?_
    repeat (first | refine zR ?_ | refine zK ?_ | refine zM ?_ | refine zB ?_ | refine zA ?_ | refine zS ?_ | refine zL ?_)
    by_cases h34 : c.toNat = 34
    · have htk : tokL (c :: r) = match qQ r with | some (t, j) => if t.length ≤ 64 then some ⟨5, 0, t, j + 1⟩ else none | none => none := by rw [tokL, hl, if_neg (by simp), hd, if_neg (by simp), if_neg h45, if_neg h64, if_neg h35, if_pos h34]; rfl
      have HQ := rquoted_h l hn k hlt
      rw [show ((c.toNat : Int) == 34) = true by rw [beq_iff_eq]; omega]
      refine qc ?_
      (repeat refine qb ?_); refine qe rfl (fun hw => ?_) (fun hw => ?_)
      rotate_left
      · cases hw
      (repeat refine qb ?_); refine qa ?_
      repeat (first | refine zR ?_ | refine zK ?_ | refine zM ?_ | refine zB ?_ | refine zA ?_ | refine zS ?_ | refine zL ?_)
      refine qc ?_
      (repeat refine qb ?_); refine qa ?_
      repeat (first | refine zR ?_ | refine zK ?_ | refine zM ?_ | refine zB ?_ | refine zA ?_ | refine zS ?_ | refine zL ?_)
      refine qi rfl (act_call_E rfl rfl rfl rfl (HQ) rfl ?_)
      rintro x hR
      unfold quoR at hR
      rw [hrd] at hR
      cases hx : qQ r with
      | none =>
        have hN : tokL (c :: r) = none := by rw [htk, hx]
        rw [hx] at hR
        obtain ⟨y, rfl⟩ := hR
        repeat (first | refine zR ?_ | refine zK ?_ | refine zM ?_ | refine zB ?_ | refine zA ?_ | refine zS ?_ | refine zL ?_)
        refine qc ?_
        have hfin := jy hi hdr hb hN
        (repeat refine qb ?_); refine qa ?_
        repeat (first | refine zR ?_ | refine zK ?_ | refine zM ?_ | refine zB ?_ | refine zA ?_ | refine zS ?_ | refine zL ?_)
        refine qc ?_
        (repeat refine qb ?_); refine qe rfl (fun hz => ?_) (fun hz => ?_)
        rotate_left
        · cases hz
        (repeat refine qb ?_); refine qa ?_
        repeat (first | refine zR ?_ | refine zK ?_ | refine zM ?_ | refine zB ?_ | refine zA ?_ | refine zS ?_ | refine zL ?_)
        refine qc ?_
        (repeat refine qb ?_); refine qj ?_
        rw [hfin]
        exact ⟨Or.inr rfl, _, _, [], Wk.refl _, rfl, rfl, rfl, rfl⟩
      | some p =>
        obtain ⟨t, j⟩ := p
        rw [hx] at hR htk
        simp only at hR htk
        subst hR
        by_cases ht : t.length ≤ 64
        · have hY : tokL (c :: r) = some ⟨5, 0, t, j + 1⟩ := by rw [htk, if_pos ht]
          rw [decide_eq_true ht]
          repeat (first | refine zR ?_ | refine zK ?_ | refine zM ?_ | refine zB ?_ | refine zA ?_ | refine zS ?_ | refine zL ?_)
          refine qc ?_
          rw [show ((k + 1 + j : Nat) : Int) = ((k + (j + 1) : Nat) : Int) by omega]
          obtain ⟨hi2, hl1, hl2⟩ := jF hi hdr hb hY
          (try simp only at hl1 hl2 hi2)
          have eO : (o ++ [(⟨5, k, 0, t⟩ : Tok)]).map Tok.pv = o.map Tok.pv ++ [[pI 5, pI (k : Int), pI 0, pL t]] := by rw [List.map_append]; rfl
          (repeat refine qb ?_); refine qa ?_
          repeat (first | refine zR ?_ | refine zK ?_ | refine zM ?_ | refine zB ?_ | refine zA ?_ | refine zS ?_ | refine zL ?_)
          refine qc ?_
          (repeat refine qb ?_); refine qe rfl (fun hz => ?_) (fun hz => ?_)
          · cases hz
          refine qq ?_
          (repeat refine qb ?_); refine qa ?_
          repeat (first | refine zR ?_ | refine zK ?_ | refine zM ?_ | refine zB ?_ | refine zA ?_ | refine zS ?_ | refine zL ?_)
          refine qi rfl (qy qg rfl rfl rfl rfl rfl rfl rfl rfl rfl rfl rfl rfl rfl rfl rfl rfl (by simp only [List.length_append, List.length_map, List.length_take, List.length_cons, List.length_nil]; unfold reachBytes; omega) (by simp only [List.length_append, List.length_map, List.length_take, List.length_cons, List.length_nil]; omega) ?_)
          repeat (first | refine zR ?_ | refine zK ?_ | refine zM ?_ | refine zB ?_ | refine zA ?_ | refine zS ?_ | refine zL ?_)
          refine qc ?_
          (repeat refine qb ?_); refine qa ?_
          repeat (first | refine zR ?_ | refine zK ?_ | refine zM ?_ | refine zB ?_ | refine zA ?_ | refine zS ?_ | refine zL ?_)
          refine qc ?_
          refine ⟨_, _, ?_, qv [0, 5, 6] [(214, 0)] rfl rfl, _, _, hi2, rfl, ?_⟩
          · show _ < _
            (try simp only)
            omega
          · show _ = (⟨216, [(0, .p (pL l)), (5, .row 0), (6, .p (pI _))], [(0, .row _ _ ((o ++ [(⟨5, k, 0, t⟩ : Tok)]).map Tok.pv))]⟩ : St)
            rw [eO]
            rfl
        · have hN : tokL (c :: r) = none := by rw [htk, if_neg ht]
          rw [decide_eq_false ht]
          repeat (first | refine zR ?_ | refine zK ?_ | refine zM ?_ | refine zB ?_ | refine zA ?_ | refine zS ?_ | refine zL ?_)
          refine qc ?_
          have hfin := jy hi hdr hb hN
          (repeat refine qb ?_); refine qa ?_
          repeat (first | refine zR ?_ | refine zK ?_ | refine zM ?_ | refine zB ?_ | refine zA ?_ | refine zS ?_ | refine zL ?_)
          refine qc ?_
          (repeat refine qb ?_); refine qe rfl (fun hz => ?_) (fun hz => ?_)
          rotate_left
          · cases hz
          (repeat refine qb ?_); refine qa ?_
          repeat (first | refine zR ?_ | refine zK ?_ | refine zM ?_ | refine zB ?_ | refine zA ?_ | refine zS ?_ | refine zL ?_)
          refine qc ?_
          (repeat refine qb ?_); refine qj ?_
          rw [hfin]
          exact ⟨Or.inr rfl, _, _, [], Wk.refl _, rfl, rfl, rfl, rfl⟩
    rw [show ((c.toNat : Int) == 34) = false by rw [beq_eq_false_iff_ne]; omega]
    refine qc ?_
    (repeat refine qb ?_); refine qe rfl (fun hw => ?_) (fun hw => ?_)
    · cases hw
    have htk : tokL (c :: r) = if jw c then some ⟨6, 0, [c], 1⟩ else none := by rw [tokL, hl, if_neg (by simp), hd, if_neg (by simp), if_neg h45, if_neg h64, if_neg h35, if_neg h34]
    (repeat refine qb ?_); refine qa ?_
    refine SWT.mono (Q' := fun st => Wk st ⟨216, [(0, .p (pL l)), (5, .row 0), (6, .p (pI (k : Int))), (7, .ptr 7 0), (8, .p (pI ((k + 1 : Nat) : Int))), (9, .p (pB true)), (10, .p (pU c)), (160, .p (pB (jw c)))], [(7, .cells [.p (pI 0), .p (pI (k : Int)), .p (pI 0), .p (pL [])]), (0, .row 30 4 (o.map Tok.pv))]⟩) ?_ fun st hst => SW.wk hst ?_
    · repeat (first | refine zR ?_ | refine zK ?_ | refine zM ?_ | refine zB ?_ | refine zA ?_ | refine zS ?_ | refine zL ?_)
      by_cases m0 : c.toNat = 123
      · rw [show ((c.toNat : Int) == 123) = true by rw [beq_iff_eq]; omega, show jw c = true by simp [jw, m0]]
        repeat (first | refine zR ?_ | refine zK ?_ | refine zM ?_ | refine zB ?_ | refine zA ?_ | refine zS ?_ | refine zL ?_)
        refine qc ?_
        exact qv [0, 5, 6, 7, 8, 9, 10, 160] [(7, 7), (0, 0)] rfl rfl
      rw [show ((c.toNat : Int) == 123) = false by rw [beq_eq_false_iff_ne]; omega]
      repeat (first | refine zR ?_ | refine zK ?_ | refine zM ?_ | refine zB ?_ | refine zA ?_ | refine zS ?_ | refine zL ?_)
      by_cases m1 : c.toNat = 125
      · rw [show ((c.toNat : Int) == 125) = true by rw [beq_iff_eq]; omega, show jw c = true by simp [jw, m1]]
        repeat (first | refine zR ?_ | refine zK ?_ | refine zM ?_ | refine zB ?_ | refine zA ?_ | refine zS ?_ | refine zL ?_)
        refine qc ?_
        exact qv [0, 5, 6, 7, 8, 9, 10, 160] [(7, 7), (0, 0)] rfl rfl
      rw [show ((c.toNat : Int) == 125) = false by rw [beq_eq_false_iff_ne]; omega]
      repeat (first | refine zR ?_ | refine zK ?_ | refine zM ?_ | refine zB ?_ | refine zA ?_ | refine zS ?_ | refine zL ?_)
      by_cases m2 : c.toNat = 40
      · rw [show ((c.toNat : Int) == 40) = true by rw [beq_iff_eq]; omega, show jw c = true by simp [jw, m2]]
        repeat (first | refine zR ?_ | refine zK ?_ | refine zM ?_ | refine zB ?_ | refine zA ?_ | refine zS ?_ | refine zL ?_)
        refine qc ?_
        exact qv [0, 5, 6, 7, 8, 9, 10, 160] [(7, 7), (0, 0)] rfl rfl
      rw [show ((c.toNat : Int) == 40) = false by rw [beq_eq_false_iff_ne]; omega]
      repeat (first | refine zR ?_ | refine zK ?_ | refine zM ?_ | refine zB ?_ | refine zA ?_ | refine zS ?_ | refine zL ?_)
      by_cases m3 : c.toNat = 41
      · rw [show ((c.toNat : Int) == 41) = true by rw [beq_iff_eq]; omega, show jw c = true by simp [jw, m3]]
        repeat (first | refine zR ?_ | refine zK ?_ | refine zM ?_ | refine zB ?_ | refine zA ?_ | refine zS ?_ | refine zL ?_)
        refine qc ?_
        exact qv [0, 5, 6, 7, 8, 9, 10, 160] [(7, 7), (0, 0)] rfl rfl
      rw [show ((c.toNat : Int) == 41) = false by rw [beq_eq_false_iff_ne]; omega]
      repeat (first | refine zR ?_ | refine zK ?_ | refine zM ?_ | refine zB ?_ | refine zA ?_ | refine zS ?_ | refine zL ?_)
      by_cases m4 : c.toNat = 46
      · rw [show ((c.toNat : Int) == 46) = true by rw [beq_iff_eq]; omega, show jw c = true by simp [jw, m4]]
        repeat (first | refine zR ?_ | refine zK ?_ | refine zM ?_ | refine zB ?_ | refine zA ?_ | refine zS ?_ | refine zL ?_)
        refine qc ?_
        exact qv [0, 5, 6, 7, 8, 9, 10, 160] [(7, 7), (0, 0)] rfl rfl
      rw [show ((c.toNat : Int) == 46) = false by rw [beq_eq_false_iff_ne]; omega]
      repeat (first | refine zR ?_ | refine zK ?_ | refine zM ?_ | refine zB ?_ | refine zA ?_ | refine zS ?_ | refine zL ?_)
      by_cases m5 : c.toNat = 44
      · rw [show ((c.toNat : Int) == 44) = true by rw [beq_iff_eq]; omega, show jw c = true by simp [jw, m5]]
        repeat (first | refine zR ?_ | refine zK ?_ | refine zM ?_ | refine zB ?_ | refine zA ?_ | refine zS ?_ | refine zL ?_)
        refine qc ?_
        exact qv [0, 5, 6, 7, 8, 9, 10, 160] [(7, 7), (0, 0)] rfl rfl
      rw [show ((c.toNat : Int) == 44) = false by rw [beq_eq_false_iff_ne]; omega]
      repeat (first | refine zR ?_ | refine zK ?_ | refine zM ?_ | refine zB ?_ | refine zA ?_ | refine zS ?_ | refine zL ?_)
      by_cases m6 : c.toNat = 59
      · rw [show ((c.toNat : Int) == 59) = true by rw [beq_iff_eq]; omega, show jw c = true by simp [jw, m6]]
        repeat (first | refine zR ?_ | refine zK ?_ | refine zM ?_ | refine zB ?_ | refine zA ?_ | refine zS ?_ | refine zL ?_)
        refine qc ?_
        exact qv [0, 5, 6, 7, 8, 9, 10, 160] [(7, 7), (0, 0)] rfl rfl
      rw [show ((c.toNat : Int) == 59) = false by rw [beq_eq_false_iff_ne]; omega]
      repeat (first | refine zR ?_ | refine zK ?_ | refine zM ?_ | refine zB ?_ | refine zA ?_ | refine zS ?_ | refine zL ?_)
      by_cases m7 : c.toNat = 61
      · rw [show ((c.toNat : Int) == 61) = true by rw [beq_iff_eq]; omega, show jw c = true by simp [jw, m7]]
        repeat (first | refine zR ?_ | refine zK ?_ | refine zM ?_ | refine zB ?_ | refine zA ?_ | refine zS ?_ | refine zL ?_)
        refine qc ?_
        exact qv [0, 5, 6, 7, 8, 9, 10, 160] [(7, 7), (0, 0)] rfl rfl
      rw [show ((c.toNat : Int) == 61) = false by rw [beq_eq_false_iff_ne]; omega]
      repeat (first | refine zR ?_ | refine zK ?_ | refine zM ?_ | refine zB ?_ | refine zA ?_ | refine zS ?_ | refine zL ?_)
      by_cases m8 : c.toNat = 60
      · rw [show ((c.toNat : Int) == 60) = true by rw [beq_iff_eq]; omega, show jw c = true by simp [jw, m8]]
        repeat (first | refine zR ?_ | refine zK ?_ | refine zM ?_ | refine zB ?_ | refine zA ?_ | refine zS ?_ | refine zL ?_)
        refine qc ?_
        exact qv [0, 5, 6, 7, 8, 9, 10, 160] [(7, 7), (0, 0)] rfl rfl
      rw [show ((c.toNat : Int) == 60) = false by rw [beq_eq_false_iff_ne]; omega]
      repeat (first | refine zR ?_ | refine zK ?_ | refine zM ?_ | refine zB ?_ | refine zA ?_ | refine zS ?_ | refine zL ?_)
      by_cases m9 : c.toNat = 62
      · rw [show ((c.toNat : Int) == 62) = true by rw [beq_iff_eq]; omega, show jw c = true by simp [jw, m9]]
        repeat (first | refine zR ?_ | refine zK ?_ | refine zM ?_ | refine zB ?_ | refine zA ?_ | refine zS ?_ | refine zL ?_)
        refine qc ?_
        exact qv [0, 5, 6, 7, 8, 9, 10, 160] [(7, 7), (0, 0)] rfl rfl
      rw [show ((c.toNat : Int) == 62) = false by rw [beq_eq_false_iff_ne]; omega]
      repeat (first | refine zR ?_ | refine zK ?_ | refine zM ?_ | refine zB ?_ | refine zA ?_ | refine zS ?_ | refine zL ?_)
      by_cases m10 : c.toNat = 33
      · rw [show ((c.toNat : Int) == 33) = true by rw [beq_iff_eq]; omega, show jw c = true by simp [jw, m10]]
        repeat (first | refine zR ?_ | refine zK ?_ | refine zM ?_ | refine zB ?_ | refine zA ?_ | refine zS ?_ | refine zL ?_)
        refine qc ?_
        exact qv [0, 5, 6, 7, 8, 9, 10, 160] [(7, 7), (0, 0)] rfl rfl
      rw [show ((c.toNat : Int) == 33) = false by rw [beq_eq_false_iff_ne]; omega]
      rw [show jw c = false by simp [jw, m0, m1, m2, m3, m4, m5, m6, m7, m8, m9, m10]]
      repeat (first | refine zR ?_ | refine zK ?_ | refine zM ?_ | refine zB ?_ | refine zA ?_ | refine zS ?_ | refine zL ?_)
      refine qc ?_
      exact qv [0, 5, 6, 7, 8, 9, 10, 160] [(7, 7), (0, 0)] rfl rfl
    · cases hm : jw c with
      | true =>
        have hY : tokL (c :: r) = some ⟨6, 0, [c], 1⟩ := by rw [htk, if_pos hm]
        (repeat refine qb ?_); refine qe rfl (fun hv => ?_) (fun hv => ?_)
        rotate_left
        · cases hv
        (repeat refine qb ?_); refine jD 7 rfl (by kernel_rfl) ?_
        refine jB (i := 0) (K := [7, 204]) (by kernel_rfl) (by kernel_rfl) rfl rfl (qn qg rfl (by exact True.intro)) rfl ?_
        refine jB (i := 3) (K := [7, 204]) (by kernel_rfl) (by kernel_rfl) rfl rfl (qn qg rfl (by exact True.intro)) rfl ?_
        refine swb_fork2 1 4 (by kernel_rfl) ?_ ?_
        first | refine qx rfl rfl rfl (aM (h := ?_)) | refine qx rfl rfl rfl (aB (h := ?_)) | refine qx rfl rfl rfl (aA (h := ?_)) | refine qx rfl rfl rfl (aS (h := ?_)) | refine qx rfl rfl rfl (aL (h := ?_)) | refine qx rfl rfl rfl (jx (K := []) (qn qg rfl (by exact True.intro)) rfl ?_)
        refine jB (i := 2) (K := [7]) (by kernel_rfl) (by kernel_rfl) rfl rfl (rdO_text qg (b := [c]) rfl rfl rfl rfl rfl rfl rfl) rfl ?_
        refine jA 4 (by kernel_rfl) ?_
        first | refine qx rfl rfl rfl (aM (h := ?_)) | refine qx rfl rfl rfl (aB (h := ?_)) | refine qx rfl rfl rfl (aA (h := ?_)) | refine qx rfl rfl rfl (aS (h := ?_)) | refine qx rfl rfl rfl (aL (h := ?_)) | refine qx rfl rfl rfl (jx (K := []) (qn qg rfl (by exact True.intro)) rfl ?_)
        refine jB (i := 5) (K := [7, 204]) (by kernel_rfl) (by kernel_rfl) rfl rfl (qn qg rfl (by exact True.intro)) rfl ?_
        refine jA 6 (by kernel_rfl) ?_
        first | refine qx rfl rfl rfl (aM (h := ?_)) | refine qx rfl rfl rfl (aB (h := ?_)) | refine qx rfl rfl rfl (aA (h := ?_)) | refine qx rfl rfl rfl (aS (h := ?_)) | refine qx rfl rfl rfl (aL (h := ?_)) | refine qx rfl rfl rfl (jx (K := []) (qn qg rfl (by exact True.intro)) rfl ?_)
        refine swb_done (by kernel_rfl) ?_
        refine SW.wk (qv [0, 5, 6, 7, 8, 9] [(7, 7), (0, 0)] rfl rfl) ?_
        refine ?fk46_969
        rotate_left
        first | refine qx rfl rfl rfl (aM (h := ?_)) | refine qx rfl rfl rfl (aB (h := ?_)) | refine qx rfl rfl rfl (aA (h := ?_)) | refine qx rfl rfl rfl (aS (h := ?_)) | refine qx rfl rfl rfl (aL (h := ?_)) | refine qx rfl rfl rfl (jx (K := []) (qn qg rfl (by exact True.intro)) rfl ?_)
        refine jA 1 (by kernel_rfl) ?_
        first | refine qx rfl rfl rfl (aM (h := ?_)) | refine qx rfl rfl rfl (aB (h := ?_)) | refine qx rfl rfl rfl (aA (h := ?_)) | refine qx rfl rfl rfl (aS (h := ?_)) | refine qx rfl rfl rfl (aL (h := ?_)) | refine qx rfl rfl rfl (jx (K := []) (qn qg rfl (by exact True.intro)) rfl ?_)
        refine jB (i := 2) (K := [7]) (by kernel_rfl) (by kernel_rfl) rfl rfl (rdO_text qg (b := [c]) rfl rfl rfl rfl rfl rfl rfl) rfl ?_
        refine jB (i := 5) (K := [7, 204]) (by kernel_rfl) (by kernel_rfl) rfl rfl (qn qg rfl (by exact True.intro)) rfl ?_
        refine jA 6 (by kernel_rfl) ?_
        first | refine qx rfl rfl rfl (aM (h := ?_)) | refine qx rfl rfl rfl (aB (h := ?_)) | refine qx rfl rfl rfl (aA (h := ?_)) | refine qx rfl rfl rfl (aS (h := ?_)) | refine qx rfl rfl rfl (aL (h := ?_)) | refine qx rfl rfl rfl (jx (K := []) (qn qg rfl (by exact True.intro)) rfl ?_)
        refine swb_done (by kernel_rfl) ?_
        refine SW.wk (qv [0, 5, 6, 7, 8, 9] [(7, 7), (0, 0)] rfl rfl) ?_
        exact ?fk46_969
        obtain ⟨hi2, hl1, hl2⟩ := jF hi hdr hb hY
        (try simp only at hl1 hl2 hi2)
        have eO : (o ++ [(⟨6, k, 0, [c]⟩ : Tok)]).map Tok.pv = o.map Tok.pv ++ [[pI 6, pI (k : Int), pI 0, pL [c]]] := by rw [List.map_append]; rfl
        (repeat refine qb ?_); refine qa ?_
        repeat (first | refine zR ?_ | refine zK ?_ | refine zM ?_ | refine zB ?_ | refine zA ?_ | refine zS ?_ | refine zL ?_)
        refine qc ?_
        (repeat refine qb ?_); refine qe rfl (fun hz => ?_) (fun hz => ?_)
        · cases hz
        refine qq ?_
        (repeat refine qb ?_); refine qa ?_
        repeat (first | refine zR ?_ | refine zK ?_ | refine zM ?_ | refine zB ?_ | refine zA ?_ | refine zS ?_ | refine zL ?_)
        refine qi rfl (qy qg rfl rfl rfl rfl rfl rfl rfl rfl rfl rfl rfl rfl rfl rfl rfl rfl (by simp only [List.length_append, List.length_map, List.length_take, List.length_cons, List.length_nil]; unfold reachBytes; omega) (by simp only [List.length_append, List.length_map, List.length_take, List.length_cons, List.length_nil]; omega) ?_)
        repeat (first | refine zR ?_ | refine zK ?_ | refine zM ?_ | refine zB ?_ | refine zA ?_ | refine zS ?_ | refine zL ?_)
        refine qc ?_
        (repeat refine qb ?_); refine qa ?_
        repeat (first | refine zR ?_ | refine zK ?_ | refine zM ?_ | refine zB ?_ | refine zA ?_ | refine zS ?_ | refine zL ?_)
        refine qc ?_
        refine ⟨_, _, ?_, qv [0, 5, 6] [(214, 0)] rfl rfl, _, _, hi2, rfl, ?_⟩
        · show _ < _
          (try simp only)
          omega
        · show _ = (⟨216, [(0, .p (pL l)), (5, .row 0), (6, .p (pI _))], [(0, .row _ _ ((o ++ [(⟨6, k, 0, [c]⟩ : Tok)]).map Tok.pv))]⟩ : St)
          rw [eO]
          rfl
      | false =>
        have hN : tokL (c :: r) = none := by rw [htk, hm]; rfl
        (repeat refine qb ?_); refine qe rfl (fun hv => ?_) (fun hv => ?_)
        · cases hv
        (repeat refine qb ?_); refine qa ?_
        repeat (first | refine zR ?_ | refine zK ?_ | refine zM ?_ | refine zB ?_ | refine zA ?_ | refine zS ?_ | refine zL ?_)
        refine qc ?_
        have hfin := jy hi hdr hb hN
        (repeat refine qb ?_); refine qa ?_
        repeat (first | refine zR ?_ | refine zK ?_ | refine zM ?_ | refine zB ?_ | refine zA ?_ | refine zS ?_ | refine zL ?_)
        refine qc ?_
        (repeat refine qb ?_); refine qe rfl (fun hz => ?_) (fun hz => ?_)
        rotate_left
        · cases hz
        (repeat refine qb ?_); refine qa ?_
        repeat (first | refine zR ?_ | refine zK ?_ | refine zM ?_ | refine zB ?_ | refine zA ?_ | refine zS ?_ | refine zL ?_)
        refine qc ?_
        (repeat refine qb ?_); refine qj ?_
        rw [hfin]
        exact ⟨Or.inr rfl, _, _, [], Wk.refl _, rfl, rfl, rfl, rfl⟩
end Go.Proofs.YtnojoaneboppnaaDoor
namespace Go.Proofs.YtnojoaneboppnaaDoor
set_option linter.unusedVariables false
set_option linter.unusedSimpArgs false
open Go.RowKit
set_option maxHeartbeats 4000000
set_option maxRecDepth 100000
theorem all_long2 (l : Bs) (hl : 4096 < l.length) : Holds Tryd.prog 9 [pL l] (.tup [.p nilV, .p (pI 6), .p (pI 4096)]) [] := by
  have ls : (⟨⟨l⟩⟩ : ByteArray).size = l.length := rfl
  refine qF (ts := [2,3,4]) Tryd.func9 (by kernel_rfl) rfl rfl rfl ?_
  (repeat refine qb ?_); refine qa ?_
  repeat (first | refine zR ?_ | refine zK ?_ | refine zM ?_ | refine zB ?_ | refine zA ?_ | refine zS ?_ | refine zL ?_)
  refine qc ?_
  (repeat refine qb ?_); refine sw_scope 0 (fun _ _ => False) rfl ?_ (fun _ _ h => h.elim)
  (repeat refine qb ?_); refine qa ?_
  repeat (first | refine zR ?_ | refine zK ?_ | refine zM ?_ | refine zB ?_ | refine zA ?_ | refine zS ?_ | refine zL ?_)
  rw [ls, show decide ((l.length : Int) > 4096) = true by simp; omega]
  refine qc ?_
  (repeat refine qb ?_); refine qe rfl (fun hc => ?_) (fun hc => ?_)
  · (repeat refine qb ?_); refine qa ?_
    repeat (first | refine zR ?_ | refine zK ?_ | refine zM ?_ | refine zB ?_ | refine zA ?_ | refine zS ?_ | refine zL ?_)
    refine qc ?_
    (repeat refine qb ?_); refine qj ?_
    exact ⟨Or.inr rfl, _, _, [], Wk.refl _, rfl, rfl, rfl, rfl⟩
  · cases hc
theorem lexTells_h (s : Bs) : Holds Tryd.prog 3 [pL s] (.p (pB true)) [] := by
  refine qF (ts := [2]) Tryd.func3 (by kernel_rfl) rfl rfl rfl ?_
  (repeat refine qb ?_); refine qa ?_
  repeat (first | refine zR ?_ | refine zK ?_ | refine zM ?_ | refine zB ?_ | refine zA ?_ | refine zS ?_ | refine zL ?_)
  refine qc ?_
  (repeat refine qb ?_); refine qa ?_
  repeat (first | refine zR ?_ | refine zK ?_ | refine zM ?_ | refine zB ?_ | refine zA ?_ | refine zS ?_ | refine zL ?_)
  rw [show (⟨⟨s⟩⟩ : ByteArray).size = s.length from rfl]
  by_cases h2 : 400 < s.length
  · rw [show decide ((s.length : Int) > 400) = true by simp; omega]
    repeat (first | refine zR ?_ | refine zK ?_ | refine zM ?_ | refine zB ?_ | refine zA ?_ | refine zS ?_ | refine zL ?_)
    rw [show (⟨⟨s⟩⟩ : ByteArray).size = s.length from rfl]
    by_cases h4 : s.length ≤ 4096
    · rw [show decide ((s.length : Int) ≤ 4096) = true by simp; omega]
      repeat (first | refine zR ?_ | refine zK ?_ | refine zM ?_ | refine zB ?_ | refine zA ?_ | refine zS ?_ | refine zL ?_)
      refine qc ?_
      (repeat refine qb ?_); refine qe rfl (fun hc => ?_) (fun hc => ?_)
      rotate_left
      · cases hc
      (repeat refine qb ?_); refine qa ?_
      repeat (first | refine zR ?_ | refine zK ?_ | refine zM ?_ | refine zB ?_ | refine zA ?_ | refine zS ?_ | refine zL ?_)
      refine ql qg rfl rfl (⟨by decide, by decide, by show (400 : Int) ≤ (s.length : Int); omega⟩) rfl ?_
      rw [show (⟨⟨s⟩⟩ : ByteArray).extract (Int.toNat 0) (Int.toNat 400) = ⟨⟨s.take 400⟩⟩ from ext_l s 0 400]
      repeat (first | refine zR ?_ | refine zK ?_ | refine zM ?_ | refine zB ?_ | refine zA ?_ | refine zS ?_ | refine zL ?_)
      refine qc ?_
      have hs : (s.take 400).length ≤ 4096 := by simp; omega
      generalize s.take 400 = s at *
      clear h2 h4
      have hA := all_l s hs
      have hB := rlex_l s hs
      cases hx : lexL s with
      | error e =>
        rw [hx] at hA hB
        (repeat refine qb ?_); refine qa ?_
        repeat (first | refine zR ?_ | refine zK ?_ | refine zM ?_ | refine zB ?_ | refine zA ?_ | refine zS ?_ | refine zL ?_)
        refine qi rfl (zT rfl rfl rfl rfl (hA) rfl rfl rfl ?_)
        repeat (first | refine zR ?_ | refine zK ?_ | refine zM ?_ | refine zB ?_ | refine zA ?_ | refine zS ?_ | refine zL ?_)
        repeat (first | refine zR ?_ | refine zK ?_ | refine zM ?_ | refine zB ?_ | refine zA ?_ | refine zS ?_ | refine zL ?_)
        refine qc ?_
        (repeat refine qb ?_); refine qa ?_
        repeat (first | refine zR ?_ | refine zK ?_ | refine zM ?_ | refine zB ?_ | refine zA ?_ | refine zS ?_ | refine zL ?_)
        refine qi rfl (zT rfl rfl rfl rfl (hB) rfl rfl rfl ?_)
        repeat (first | refine zR ?_ | refine zK ?_ | refine zM ?_ | refine zB ?_ | refine zA ?_ | refine zS ?_ | refine zL ?_)
        repeat (first | refine zR ?_ | refine zK ?_ | refine zM ?_ | refine zB ?_ | refine zA ?_ | refine zS ?_ | refine zL ?_)
        refine qc ?_
        refine SW.wk ((wk_nilq 3 900 30 4 rfl rfl).trans (wk_nilq 6 901 30 4 rfl rfl)) ?_
        (repeat refine qb ?_); refine qa ?_
        repeat (first | refine zR ?_ | refine zK ?_ | refine zM ?_ | refine zB ?_ | refine zA ?_ | refine zS ?_ | refine zL ?_)
        refine qi rfl (qd rfl rfl rfl rfl (sameTok_h [] (by simp)) rfl rfl ?_)
        repeat (first | refine zR ?_ | refine zK ?_ | refine zM ?_ | refine zB ?_ | refine zA ?_ | refine zS ?_ | refine zL ?_)
        repeat (first | refine zR ?_ | refine zK ?_ | refine zM ?_ | refine zB ?_ | refine zA ?_ | refine zS ?_ | refine zL ?_)
        rw [show ((e : Int) == (e : Int)) = true by simp]
        repeat (first | refine zR ?_ | refine zK ?_ | refine zM ?_ | refine zB ?_ | refine zA ?_ | refine zS ?_ | refine zL ?_)
        refine qi rfl (qd rfl rfl rfl rfl (zW) rfl rfl ?_)
        repeat (first | refine zR ?_ | refine zK ?_ | refine zM ?_ | refine zB ?_ | refine zA ?_ | refine zS ?_ | refine zL ?_)
        repeat (first | refine zR ?_ | refine zK ?_ | refine zM ?_ | refine zB ?_ | refine zA ?_ | refine zS ?_ | refine zL ?_)
        refine qc ?_
        (repeat refine qb ?_); refine qj ?_
        exact jf rfl rfl
      | ok a =>
        have hal := all_len hx
        rw [hx] at hA hB
        (repeat refine qb ?_); refine qa ?_
        repeat (first | refine zR ?_ | refine zK ?_ | refine zM ?_ | refine zB ?_ | refine zA ?_ | refine zS ?_ | refine zL ?_)
        refine qi rfl (zT rfl rfl rfl rfl (hA) rfl rfl rfl ?_)
        repeat (first | refine zR ?_ | refine zK ?_ | refine zM ?_ | refine zB ?_ | refine zA ?_ | refine zS ?_ | refine zL ?_)
        repeat (first | refine zR ?_ | refine zK ?_ | refine zM ?_ | refine zB ?_ | refine zA ?_ | refine zS ?_ | refine zL ?_)
        refine qc ?_
        refine SW.wk (wk_frz (k := 22000) rfl) ?_
        (repeat refine qb ?_); refine qa ?_
        repeat (first | refine zR ?_ | refine zK ?_ | refine zM ?_ | refine zB ?_ | refine zA ?_ | refine zS ?_ | refine zL ?_)
        refine qi rfl (zT rfl rfl rfl rfl (hB) rfl rfl rfl ?_)
        repeat (first | refine zR ?_ | refine zK ?_ | refine zM ?_ | refine zB ?_ | refine zA ?_ | refine zS ?_ | refine zL ?_)
        repeat (first | refine zR ?_ | refine zK ?_ | refine zM ?_ | refine zB ?_ | refine zA ?_ | refine zS ?_ | refine zL ?_)
        refine qc ?_
        refine SW.wk (wk_frz (k := 28000) rfl) ?_
        (repeat refine qb ?_); refine qa ?_
        repeat (first | refine zR ?_ | refine zK ?_ | refine zM ?_ | refine zB ?_ | refine zA ?_ | refine zS ?_ | refine zL ?_)
        refine qi rfl (qd rfl rfl rfl rfl (sameTok_h a (by omega)) rfl rfl ?_)
        repeat (first | refine zR ?_ | refine zK ?_ | refine zM ?_ | refine zB ?_ | refine zA ?_ | refine zS ?_ | refine zL ?_)
        repeat (first | refine zR ?_ | refine zK ?_ | refine zM ?_ | refine zB ?_ | refine zA ?_ | refine zS ?_ | refine zL ?_)
        refine qi rfl (qd rfl rfl rfl rfl (zW) rfl rfl ?_)
        repeat (first | refine zR ?_ | refine zK ?_ | refine zM ?_ | refine zB ?_ | refine zA ?_ | refine zS ?_ | refine zL ?_)
        repeat (first | refine zR ?_ | refine zK ?_ | refine zM ?_ | refine zB ?_ | refine zA ?_ | refine zS ?_ | refine zL ?_)
        refine qc ?_
        (repeat refine qb ?_); refine qj ?_
        exact jf rfl rfl
    · rw [show decide ((s.length : Int) ≤ 4096) = false by simp; omega]
      have hA := all_long2 s (by omega)
      have hB := rlex_long s (by omega)
      repeat (first | refine zR ?_ | refine zK ?_ | refine zM ?_ | refine zB ?_ | refine zA ?_ | refine zS ?_ | refine zL ?_)
      refine qc ?_
      (repeat refine qb ?_); refine qe rfl (fun hc => ?_) (fun hc => ?_)
      · cases hc
      refine qq ?_
      (repeat refine qb ?_); refine qa ?_
      repeat (first | refine zR ?_ | refine zK ?_ | refine zM ?_ | refine zB ?_ | refine zA ?_ | refine zS ?_ | refine zL ?_)
      refine qi rfl (zT rfl rfl rfl rfl (hA) rfl rfl rfl ?_)
      repeat (first | refine zR ?_ | refine zK ?_ | refine zM ?_ | refine zB ?_ | refine zA ?_ | refine zS ?_ | refine zL ?_)
      repeat (first | refine zR ?_ | refine zK ?_ | refine zM ?_ | refine zB ?_ | refine zA ?_ | refine zS ?_ | refine zL ?_)
      refine qc ?_
      (repeat refine qb ?_); refine qa ?_
      repeat (first | refine zR ?_ | refine zK ?_ | refine zM ?_ | refine zB ?_ | refine zA ?_ | refine zS ?_ | refine zL ?_)
      refine qi rfl (zT rfl rfl rfl rfl (hB) rfl rfl rfl ?_)
      repeat (first | refine zR ?_ | refine zK ?_ | refine zM ?_ | refine zB ?_ | refine zA ?_ | refine zS ?_ | refine zL ?_)
      repeat (first | refine zR ?_ | refine zK ?_ | refine zM ?_ | refine zB ?_ | refine zA ?_ | refine zS ?_ | refine zL ?_)
      refine qc ?_
      refine SW.wk ((wk_nilq 3 900 30 4 rfl rfl).trans (wk_nilq 6 901 30 4 rfl rfl)) ?_
      (repeat refine qb ?_); refine qa ?_
      repeat (first | refine zR ?_ | refine zK ?_ | refine zM ?_ | refine zB ?_ | refine zA ?_ | refine zS ?_ | refine zL ?_)
      refine qi rfl (qd rfl rfl rfl rfl (sameTok_h [] (by simp)) rfl rfl ?_)
      repeat (first | refine zR ?_ | refine zK ?_ | refine zM ?_ | refine zB ?_ | refine zA ?_ | refine zS ?_ | refine zL ?_)
      repeat (first | refine zR ?_ | refine zK ?_ | refine zM ?_ | refine zB ?_ | refine zA ?_ | refine zS ?_ | refine zL ?_)
      refine qi rfl (qd rfl rfl rfl rfl (zW) rfl rfl ?_)
      repeat (first | refine zR ?_ | refine zK ?_ | refine zM ?_ | refine zB ?_ | refine zA ?_ | refine zS ?_ | refine zL ?_)
      repeat (first | refine zR ?_ | refine zK ?_ | refine zM ?_ | refine zB ?_ | refine zA ?_ | refine zS ?_ | refine zL ?_)
      refine qc ?_
      (repeat refine qb ?_); refine qj ?_
      exact jf rfl rfl
  · rw [show decide ((s.length : Int) > 400) = false by simp; omega]
    repeat (first | refine zR ?_ | refine zK ?_ | refine zM ?_ | refine zB ?_ | refine zA ?_ | refine zS ?_ | refine zL ?_)
    refine qc ?_
    (repeat refine qb ?_); refine qe rfl (fun hc => ?_) (fun hc => ?_)
    · cases hc
    refine qq ?_
    have hs : s.length ≤ 4096 := by omega
    clear h2
    have hA := all_l s hs
    have hB := rlex_l s hs
    cases hx : lexL s with
    | error e =>
      rw [hx] at hA hB
      (repeat refine qb ?_); refine qa ?_
      repeat (first | refine zR ?_ | refine zK ?_ | refine zM ?_ | refine zB ?_ | refine zA ?_ | refine zS ?_ | refine zL ?_)
      refine qi rfl (zT rfl rfl rfl rfl (hA) rfl rfl rfl ?_)
      repeat (first | refine zR ?_ | refine zK ?_ | refine zM ?_ | refine zB ?_ | refine zA ?_ | refine zS ?_ | refine zL ?_)
      repeat (first | refine zR ?_ | refine zK ?_ | refine zM ?_ | refine zB ?_ | refine zA ?_ | refine zS ?_ | refine zL ?_)
      refine qc ?_
      (repeat refine qb ?_); refine qa ?_
      repeat (first | refine zR ?_ | refine zK ?_ | refine zM ?_ | refine zB ?_ | refine zA ?_ | refine zS ?_ | refine zL ?_)
      refine qi rfl (zT rfl rfl rfl rfl (hB) rfl rfl rfl ?_)
      repeat (first | refine zR ?_ | refine zK ?_ | refine zM ?_ | refine zB ?_ | refine zA ?_ | refine zS ?_ | refine zL ?_)
      repeat (first | refine zR ?_ | refine zK ?_ | refine zM ?_ | refine zB ?_ | refine zA ?_ | refine zS ?_ | refine zL ?_)
      refine qc ?_
      refine SW.wk ((wk_nilq 3 900 30 4 rfl rfl).trans (wk_nilq 6 901 30 4 rfl rfl)) ?_
      (repeat refine qb ?_); refine qa ?_
      repeat (first | refine zR ?_ | refine zK ?_ | refine zM ?_ | refine zB ?_ | refine zA ?_ | refine zS ?_ | refine zL ?_)
      refine qi rfl (qd rfl rfl rfl rfl (sameTok_h [] (by simp)) rfl rfl ?_)
      repeat (first | refine zR ?_ | refine zK ?_ | refine zM ?_ | refine zB ?_ | refine zA ?_ | refine zS ?_ | refine zL ?_)
      repeat (first | refine zR ?_ | refine zK ?_ | refine zM ?_ | refine zB ?_ | refine zA ?_ | refine zS ?_ | refine zL ?_)
      rw [show ((e : Int) == (e : Int)) = true by simp]
      repeat (first | refine zR ?_ | refine zK ?_ | refine zM ?_ | refine zB ?_ | refine zA ?_ | refine zS ?_ | refine zL ?_)
      refine qi rfl (qd rfl rfl rfl rfl (zW) rfl rfl ?_)
      repeat (first | refine zR ?_ | refine zK ?_ | refine zM ?_ | refine zB ?_ | refine zA ?_ | refine zS ?_ | refine zL ?_)
      repeat (first | refine zR ?_ | refine zK ?_ | refine zM ?_ | refine zB ?_ | refine zA ?_ | refine zS ?_ | refine zL ?_)
      refine qc ?_
      (repeat refine qb ?_); refine qj ?_
      exact jf rfl rfl
    | ok a =>
      have hal := all_len hx
      rw [hx] at hA hB
      (repeat refine qb ?_); refine qa ?_
      repeat (first | refine zR ?_ | refine zK ?_ | refine zM ?_ | refine zB ?_ | refine zA ?_ | refine zS ?_ | refine zL ?_)
      refine qi rfl (zT rfl rfl rfl rfl (hA) rfl rfl rfl ?_)
      repeat (first | refine zR ?_ | refine zK ?_ | refine zM ?_ | refine zB ?_ | refine zA ?_ | refine zS ?_ | refine zL ?_)
      repeat (first | refine zR ?_ | refine zK ?_ | refine zM ?_ | refine zB ?_ | refine zA ?_ | refine zS ?_ | refine zL ?_)
      refine qc ?_
      refine SW.wk (wk_frz (k := 22000) rfl) ?_
      (repeat refine qb ?_); refine qa ?_
      repeat (first | refine zR ?_ | refine zK ?_ | refine zM ?_ | refine zB ?_ | refine zA ?_ | refine zS ?_ | refine zL ?_)
      refine qi rfl (zT rfl rfl rfl rfl (hB) rfl rfl rfl ?_)
      repeat (first | refine zR ?_ | refine zK ?_ | refine zM ?_ | refine zB ?_ | refine zA ?_ | refine zS ?_ | refine zL ?_)
      repeat (first | refine zR ?_ | refine zK ?_ | refine zM ?_ | refine zB ?_ | refine zA ?_ | refine zS ?_ | refine zL ?_)
      refine qc ?_
      refine SW.wk (wk_frz (k := 28000) rfl) ?_
      (repeat refine qb ?_); refine qa ?_
      repeat (first | refine zR ?_ | refine zK ?_ | refine zM ?_ | refine zB ?_ | refine zA ?_ | refine zS ?_ | refine zL ?_)
      refine qi rfl (qd rfl rfl rfl rfl (sameTok_h a (by omega)) rfl rfl ?_)
      repeat (first | refine zR ?_ | refine zK ?_ | refine zM ?_ | refine zB ?_ | refine zA ?_ | refine zS ?_ | refine zL ?_)
      repeat (first | refine zR ?_ | refine zK ?_ | refine zM ?_ | refine zB ?_ | refine zA ?_ | refine zS ?_ | refine zL ?_)
      refine qi rfl (qd rfl rfl rfl rfl (zW) rfl rfl ?_)
      repeat (first | refine zR ?_ | refine zK ?_ | refine zM ?_ | refine zB ?_ | refine zA ?_ | refine zS ?_ | refine zL ?_)
      repeat (first | refine zR ?_ | refine zK ?_ | refine zM ?_ | refine zB ?_ | refine zA ?_ | refine zS ?_ | refine zL ?_)
      refine qc ?_
      (repeat refine qb ?_); refine qj ?_
      exact jf rfl rfl
end Go.Proofs.YtnojoaneboppnaaDoor
namespace Go.Proofs.YtnojoaneboppnaaDoor
set_option linter.unusedVariables false
set_option linter.unusedSimpArgs false
open Go.RowKit
inductive RelsP (w : World) : List PV → List Value → Prop
  | nil : RelsP w [] []
  | cons {x : PV} {u : Value} {xs : List PV} {us : List Value} (h : RelP (fun _ => True) w x u) (r : RelsP w xs us) : RelsP w (x :: xs) (u :: us)
theorem RelsP.get {w : World} {xs : List PV} {us : List Value} (h : RelsP w xs us) : us.length = xs.length ∧ ∀ (i : Nat) (s : PV) (u : Value), xs[i]? = some s → us[i]? = some u → RelP (fun _ => True) w s u := by
  induction h with
  | nil => exact ⟨rfl, fun i s u h => by simp at h⟩
  | cons h r ih =>
    refine ⟨by simp [ih.1], fun i s u hs hu => ?_⟩
    cases i with
    | zero => simp at hs hu; subst hs; subst hu; exact h
    | succ i => exact ih.2 i s u (by simpa using hs) (by simpa using hu)
theorem law_callsG {P : Program} {f : FuncId} {args : List PV} {us : List Value} {W : World} (hg : GlOk (entry W) fun _ => False) (H : Holds P f args (.p (.v (.bool true))) []) (hr : RelsP W args us) : Calls P f us.toArray W fun e w' => e = .returned (.bool true) ∧ Below W.heap.size W w' := by
  obtain ⟨h1, h2⟩ := hr.get
  refine (H.2 W (fun _ => False) us ⟨fun _ h => h.elim, hg⟩ h1 fun i s u hs hu => (h2 i s u hs hu).weak fun _ _ _ => fun h => h).mono fun e w' ⟨v, γ, he, hb, _, hv⟩ => ?_
  have := hv.v_inv
  subst this
  exact ⟨he, hb⟩
theorem rel_str {w : World} (n : ByteArray) : RelP (fun _ => True) w (.v (.string n)) (.string n) := .v rfl
end Go.Proofs.YtnojoaneboppnaaDoor
namespace Go.Proofs.YtnojoaneboppnaaDoor
set_option linter.unusedSimpArgs false
open Go.ChangeShapes Go.WideShapes Go.ChangeAt Go.RowKit
set_option linter.unusedVariables false
theorem law_liftL {H : Type} {enc : TypeId × Value → H} {C : Checked} {os : Os} {f : FuncId} {fn : Func} {s : ChangeSpec} {bt : TypeId} {laid : List (String × DataW Unit)}
    (own : ownKnob C.prog.godebug = none) (started : os.Started) (noInit : C.prog.inits.idxOf? f = none) (hfn : C.prog.funcs[f]? = some fn)
    (witness : ∃ (w : World) (tape : Tape) (i : Input), w.os = os ∧ (w.forCall tape i).Shaped C.prog ∧ i.vars = [] ∧ Input.okWide C.prog (w.forCall tape i) .any w.heap.size f i ∧
      ((s.pre enc C.prog fn [] false (w.forCall tape i).memory i.args ∧ laidMetH C.prog laid (w.forCall tape i).memory) ∧ sizedMet enc C.prog fn (OpenSpec.ofChange s) false (w.forCall tape i).memory i.args) ∧ ({} : Assume).holds C.prog (lone (Frame.enter C.prog f i.args .normal) [] (w.forCall tape i)))
    (hl : laidOutB C.prog = true) (hts : ∀ t ∈ fn.params.toList, C.prog.readableRec t = true ∧ t < C.prog.types.size) (hvars : s.vars = []) (hvt : s.plain.varTypes C.prog = [])
    (hspec : ∀ (W : World) (args : Array Value) (ds : List (DataW H)) (ps : List MemPlace), DataW.TrodAll enc C.prog W 0 (fun _ => true) true fn.params.toList args.toList ds ps → s.fn H ds = { results := [.lit (.bool true)], args := ds })
    (hres : fn.resultTypes = #[bt]) (hbt : C.prog.underlying bt = some .bool)
    (walk : ∀ (W : World) (base : Nat) (args : Array Value) (ds : List (DataW H)) (ps : List MemPlace), laidMetH C.prog laid W →
      (∀ (j : Nat) t v, fn.params[j]? = some t → args[j]? = some v → Value.okWide C.prog W .any base t v) →
      DataW.TrodAll enc C.prog W 0 (fun _ => true) true fn.params.toList args.toList ds ps →
      (∀ n ∈ DataW.weightsEach C.prog fn.params.toList ds, n ≤ reachBytes) →
      Calls C.prog f args W fun e W' => e = .returned (.bool true) ∧ Below W.heap.size W W') :
    ReturnsInHanded {} C os f .any (fun w args => (s.pre enc C.prog fn [] false w args ∧ laidMetH C.prog laid w) ∧ sizedMet enc C.prog fn (OpenSpec.ofChange s) false w args) (s.post enc C.prog fn false true false false) := by
  refine returnsInHanded_of_change_and (X := fun w _ => laidMetH C.prog laid w) (fun _ _ _ hh h => h.of_heap hh) own started noInit hfn witness ?_
  intro W base args ds gs before hval hW _ hsz hL _
  have hlt : ∀ p ∈ before, p.block < W.heap.size := fun p hp => hW.lt p hp
  have hW0 := hW
  obtain ⟨p, q, hA, hV, rfl, hz, hn⟩ := hW0
  rw [hvars] at hV
  obtain ⟨rfl, rfl⟩ := trodVars_none hV
  have hsp := hspec W args ds p hA
  refine (walk W base args ds p hL hval hA ?_).mono fun e W' ⟨he, hb⟩ => ?_
  · intro n hn
    rw [hvt, List.append_nil, List.append_nil] at hsz
    exact of_decide_eq_true (List.all_eq_true.1 hsz n hn)
  · subst he
    refine ⟨_, rfl, ds, [], p ++ [], [], p, [], hW, ?_, ?_, ?_, World.keptBut_mono (fun x hx => ⟨hx, Or.inr (Or.inl (by simpa using hx))⟩) (hb.frame (· ∈ p ++ [])), fun h => by cases h⟩
    · rw [List.append_nil, hsp, hres]
      exact trodAll_mk1 (shut_bool hbt _)
    · rw [List.append_nil, hsp]
      exact trodAll_below hl hb hts (fun x hx => hlt x (by simpa using hx)) (fun x hx => by simpa using hlt x (by simpa using hx)) hA
    · rw [List.append_nil, hsp, hvars]
      rfl
theorem qN {P : Program} {x : String × DataW Unit} {l : List (String × DataW Unit)} {W : World} (h : laidMet P (x :: l) W) : laidMet P l W := by
  obtain ⟨ps, ⟨g, t, cs, fuel, p, q, h1, h2, h3, h4, h5, h6⟩, hn, hb⟩ := h
  subst h6
  exact ⟨q, h5, (List.nodup_append.1 hn).2.1, fun b off hm => hb b off (List.mem_append_right _ hm)⟩
theorem block_of_tab {P : Program} {W : World} {name : String} {k : IntKind} {zs : List Int} {g : Nat} (h : Lib.TabIs P W name k zs) (hg : P.globalNamed name = some g) {us : List Value} (hu : us = zs.map fun z => Value.int k z) : g < W.heap.size ∧ ∃ ty m, W.heap[g]? = some (.cells us.toArray ty m) := by
  unfold Lib.TabIs World.var? at h
  rw [hg] at h
  simp only [Option.bind_some] at h
  split at h
  · rename_i cs ty m hb
    cases h
    exact ⟨(Array.getElem?_eq_some_iff.1 hb).1, ty, m, by rw [hb, hu]⟩
  · cases h
theorem err_of_reads {P : Program} {W : World} {name nm : String} {g t : Nat} {ms : Array (String × TypeId)} {d : DataW Unit} (hg : P.globalNamed name = some g) (ht : (P.globals[g]?).map (·.type) = some t) (hu : P.underlying t = some (.interface ms)) (h : Lib.VarReads P W name (.iface nm d)) :
    g < W.heap.size ∧ ∃ ev ty m, W.heap[g]? = some (.cells #[ev] ty m) ∧ errV ev = true := by
  obtain ⟨g', t', cs, fuel, p, h1, h2, h3, h4⟩ := h
  rw [hg] at h1
  cases h1
  rw [ht] at h2
  cases h2
  have hc : ∃ u v, cs.toList = [.iface u v] := by
    cases fuel with
    | zero => cases h4
    | succ fuel =>
      unfold DataW.trod at h4
      rw [hu] at h4
      generalize cs.toList = l at h4
      match l, h4 with
      | [.iface u v], _ => exact ⟨u, v, rfl⟩
      | [.nilIface], h4 => simp at h4
      | [], h4 => simp at h4
      | _ :: _ :: _, h4 => simp at h4
  obtain ⟨u, v, hc⟩ := hc
  have hc' : cs = #[.iface u v] := Array.toList_inj.1 hc
  subst hc'
  unfold World.var? at h3
  rw [hg] at h3
  simp only [Option.bind_some] at h3
  split at h3
  · rename_i cs ty m hb
    cases h3
    exact ⟨(Array.getElem?_eq_some_iff.1 hb).1, _, ty, m, hb, rfl⟩
  · cases h3
end Go.Proofs.YtnojoaneboppnaaDoor
namespace Go.Proofs.YtnojoaneboppnaaDoor
open Go.RowKit
theorem own_none : ownKnob Tryd.prog.godebug = none := by kernel_rfl
theorem gl_of_laid {rest : List (String × DataW Unit)} {W : World} (h : laidMet Tryd.prog (("math/bits.deBruijn32tab", Rows.laid_math_bits_deBruijn32tab) :: ("math/bits.deBruijn64tab", Rows.laid_math_bits_deBruijn64tab) :: ("internal/strconv.uint64pow10", Rows.laid_internal_strconv_uint64pow10) :: ("strconv.ErrRange", Rows.laid_strconv_ErrRange) :: rest) W) : GlOk (entry W) fun _ => False := by
  have b0 := block_of_tab (g := 4) (us := [.int .u8 0, .int .u8 1, .int .u8 28, .int .u8 2, .int .u8 29, .int .u8 14, .int .u8 24, .int .u8 3, .int .u8 30, .int .u8 22, .int .u8 20, .int .u8 15, .int .u8 25, .int .u8 17, .int .u8 4, .int .u8 8, .int .u8 31, .int .u8 27, .int .u8 13, .int .u8 23, .int .u8 21, .int .u8 19, .int .u8 16, .int .u8 7, .int .u8 26, .int .u8 12, .int .u8 18, .int .u8 6, .int .u8 11, .int .u8 5, .int .u8 10, .int .u8 9]) (Lib.tabIs_of_head (k := .u8) (zs := [0, 1, 28, 2, 29, 14, 24, 3, 30, 22, 20, 15, 25, 17, 4, 8, 31, 27, 13, 23, 21, 19, 16, 7, 26, 12, 18, 6, 11, 5, 10, 9]) (g := 4) (t := 109) (e := 5) (n := 32) (by kernel_rfl) (by kernel_rfl) Tryd.underlying109 Tryd.underlying5 (by kernel_rfl) (by kernel_rfl) h) (by kernel_rfl) rfl
  have b1 := block_of_tab (g := 5) (us := [.int .u8 0, .int .u8 1, .int .u8 56, .int .u8 2, .int .u8 57, .int .u8 49, .int .u8 28, .int .u8 3, .int .u8 61, .int .u8 58, .int .u8 42, .int .u8 50, .int .u8 38, .int .u8 29, .int .u8 17, .int .u8 4, .int .u8 62, .int .u8 47, .int .u8 59, .int .u8 36, .int .u8 45, .int .u8 43, .int .u8 51, .int .u8 22, .int .u8 53, .int .u8 39, .int .u8 33, .int .u8 30, .int .u8 24, .int .u8 18, .int .u8 12, .int .u8 5, .int .u8 63, .int .u8 55, .int .u8 48, .int .u8 27, .int .u8 60, .int .u8 41, .int .u8 37, .int .u8 16, .int .u8 46, .int .u8 35, .int .u8 44, .int .u8 21, .int .u8 52, .int .u8 32, .int .u8 23, .int .u8 11, .int .u8 54, .int .u8 26, .int .u8 40, .int .u8 15, .int .u8 34, .int .u8 20, .int .u8 31, .int .u8 10, .int .u8 25, .int .u8 14, .int .u8 19, .int .u8 9, .int .u8 13, .int .u8 8, .int .u8 7, .int .u8 6]) (Lib.tabIs_of_head (k := .u8) (zs := [0, 1, 56, 2, 57, 49, 28, 3, 61, 58, 42, 50, 38, 29, 17, 4, 62, 47, 59, 36, 45, 43, 51, 22, 53, 39, 33, 30, 24, 18, 12, 5, 63, 55, 48, 27, 60, 41, 37, 16, 46, 35, 44, 21, 52, 32, 23, 11, 54, 26, 40, 15, 34, 20, 31, 10, 25, 14, 19, 9, 13, 8, 7, 6]) (g := 5) (t := 110) (e := 5) (n := 64) (by kernel_rfl) (by kernel_rfl) Tryd.underlying110 Tryd.underlying5 (by kernel_rfl) (by kernel_rfl) (qN h)) (by kernel_rfl) rfl
  have b2 := block_of_tab (g := 1) (us := [.int .u64 1, .int .u64 10, .int .u64 100, .int .u64 1000, .int .u64 10000, .int .u64 100000, .int .u64 1000000, .int .u64 10000000, .int .u64 100000000, .int .u64 1000000000, .int .u64 10000000000, .int .u64 100000000000, .int .u64 1000000000000, .int .u64 10000000000000, .int .u64 100000000000000, .int .u64 1000000000000000, .int .u64 10000000000000000, .int .u64 100000000000000000, .int .u64 1000000000000000000, .int .u64 10000000000000000000]) (Lib.tabIs_of_head (k := .u64) (zs := [1, 10, 100, 1000, 10000, 100000, 1000000, 10000000, 100000000, 1000000000, 10000000000, 100000000000, 1000000000000, 10000000000000, 100000000000000, 1000000000000000, 10000000000000000, 100000000000000000, 1000000000000000000, 10000000000000000000]) (g := 1) (t := 95) (e := 49) (n := 20) (by kernel_rfl) (by kernel_rfl) Tryd.underlying95 Tryd.underlying49 (by kernel_rfl) (by kernel_rfl) (qN (qN h))) (by kernel_rfl) rfl
  have bE := err_of_reads (g := 3) (t := 69) (by kernel_rfl) (by kernel_rfl) Tryd.underlying69 (Lib.laidMet.reads (qN (qN (qN h))) (List.mem_cons_self ..))
  refine ⟨?_, fun g hg => ?_⟩
  rotate_left
  · have e : g = 3 := by simpa [ETab] using hg
    subst e
    exact ⟨bE.1, fun h => h, bE.2⟩
  intro g us hg
  simp only [GTab, qk] at hg
  repeat' split at hg
  all_goals first | cases hg; done | skip
  all_goals (subst_vars; cases hg)
  all_goals first | exact ⟨b0.1, fun h => h, b0.2⟩ | exact ⟨b1.1, fun h => h, b1.2⟩ | exact ⟨b2.1, fun h => h, b2.2⟩
noncomputable def lowB : Nat := (World.holding Tryd.prog default ⟨#[], #[], []⟩).heap.size
noncomputable def worldB (os : Os) : World :=
  let w0 := World.holding Tryd.prog os ⟨#[.cells #[.string ⟨#[118, 97, 108, 117, 101, 32, 111, 117, 116, 32, 111, 102, 32, 114, 97, 110, 103, 101]⟩] 108, .cells #[.string ⟨#[105, 110, 118, 97, 108, 105, 100, 32, 115, 121, 110, 116, 97, 120]⟩] 108], #[], []⟩
  { w0 with heap := ((((((((((w0.heap).modify 4 fun | .cells _ t frozen => .cells #[.int .u8 0, .int .u8 1, .int .u8 28, .int .u8 2, .int .u8 29, .int .u8 14, .int .u8 24, .int .u8 3, .int .u8 30, .int .u8 22, .int .u8 20, .int .u8 15, .int .u8 25, .int .u8 17, .int .u8 4, .int .u8 8, .int .u8 31, .int .u8 27, .int .u8 13, .int .u8 23, .int .u8 21, .int .u8 19, .int .u8 16, .int .u8 7, .int .u8 26, .int .u8 12, .int .u8 18, .int .u8 6, .int .u8 11, .int .u8 5, .int .u8 10, .int .u8 9] t frozen | o => o)).modify 5 fun | .cells _ t frozen => .cells #[.int .u8 0, .int .u8 1, .int .u8 56, .int .u8 2, .int .u8 57, .int .u8 49, .int .u8 28, .int .u8 3, .int .u8 61, .int .u8 58, .int .u8 42, .int .u8 50, .int .u8 38, .int .u8 29, .int .u8 17, .int .u8 4, .int .u8 62, .int .u8 47, .int .u8 59, .int .u8 36, .int .u8 45, .int .u8 43, .int .u8 51, .int .u8 22, .int .u8 53, .int .u8 39, .int .u8 33, .int .u8 30, .int .u8 24, .int .u8 18, .int .u8 12, .int .u8 5, .int .u8 63, .int .u8 55, .int .u8 48, .int .u8 27, .int .u8 60, .int .u8 41, .int .u8 37, .int .u8 16, .int .u8 46, .int .u8 35, .int .u8 44, .int .u8 21, .int .u8 52, .int .u8 32, .int .u8 23, .int .u8 11, .int .u8 54, .int .u8 26, .int .u8 40, .int .u8 15, .int .u8 34, .int .u8 20, .int .u8 31, .int .u8 10, .int .u8 25, .int .u8 14, .int .u8 19, .int .u8 9, .int .u8 13, .int .u8 8, .int .u8 7, .int .u8 6] t frozen | o => o)).modify 1 fun | .cells _ t frozen => .cells #[.int .u64 1, .int .u64 10, .int .u64 100, .int .u64 1000, .int .u64 10000, .int .u64 100000, .int .u64 1000000, .int .u64 10000000, .int .u64 100000000, .int .u64 1000000000, .int .u64 10000000000, .int .u64 100000000000, .int .u64 1000000000000, .int .u64 10000000000000, .int .u64 100000000000000, .int .u64 1000000000000000, .int .u64 10000000000000000, .int .u64 100000000000000000, .int .u64 1000000000000000000, .int .u64 10000000000000000000] t frozen | o => o)).modify 3 fun | .cells _ t frozen => .cells #[.iface 106 (.pointer (some ⟨lowB + 0, 0, none⟩))] t frozen | o => o)).modify 2 fun | .cells _ t frozen => .cells #[.iface 106 (.pointer (some ⟨lowB + 1, 0, none⟩))] t frozen | o => o) }
theorem worldB_met (os : Os) (args : Array Value) : laidMet Tryd.prog [("math/bits.deBruijn32tab", Rows.laid_math_bits_deBruijn32tab), ("math/bits.deBruijn64tab", Rows.laid_math_bits_deBruijn64tab), ("internal/strconv.uint64pow10", Rows.laid_internal_strconv_uint64pow10), ("strconv.ErrRange", Rows.laid_strconv_ErrRange), ("strconv.ErrSyntax", Rows.laid_strconv_ErrSyntax)] ((worldB os).forCall (fun _ _ => 0) ⟨#[], args, []⟩).memory :=
  laidMet_of_run' 100 (by kernel_rfl) (by kernel_rfl)
end Go.Proofs.YtnojoaneboppnaaDoor
