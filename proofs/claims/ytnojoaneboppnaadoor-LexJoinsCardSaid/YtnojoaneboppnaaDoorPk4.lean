/-
  What the statement leans on, part 4: LexD, LexP, FnsD, LexRuns, Within, LexLong, LexJoins, LawKit0, LawL, Laid.
-/
import Derived.Test.YtnojoaneboppnaaDoorRows
import Derived.Lib.LaidTab
import Derived.Lib.LaidU8
import Derived.LaidLaws
import Derived.LaidHandle
import Derived.Stop.Joined
import Derived.ChangeSame
import Derived.ChangeVars
import Derived.JoinedOf
import Derived.RowKitTokens
import Derived.Test.YtnojoaneboppnaaDoorPk1
import Derived.Test.YtnojoaneboppnaaDoorPk2
import Derived.Test.YtnojoaneboppnaaDoorPk3
namespace Go.Proofs.YtnojoaneboppnaaDoor
set_option linter.unusedVariables false
set_option linter.unusedSimpArgs false
open Go.RowKit
set_option maxHeartbeats 4000000
set_option maxRecDepth 100000
def Tok.pv (t : Tok) : List PV := [pI t.kind, pI (t.at_ : Int), pI t.n, pL t.s]
abbrev toksP (l : List Tok) : PV := .sl 4 (l.map Tok.pv)
def allR : Except Nat (List Tok) → SV
  | .ok _ => .tup [.row 0, .p (pI 0), .p (pI 0)]
  | .error e => .tup [.p nilV, .p (pI 5), .p (pI e)]
def allO : Except Nat (List Tok) → List (Nat × Box)
  | .ok a => [(0, .row 30 4 (a.map Tok.pv))]
  | .error _ => []
def joinE (o : List Tok) : Except Nat (List Tok) → Except Nat (List Tok)
  | .ok b => .ok (o ++ b)
  | .error e => .error e
def stA (l : Bs) (k : Int) (n : Int) (o : List Tok) (a b c : Int) (d : Bs) : St := ⟨52, [(0, .p (pL l)), (5, .row 0), (6, .ptr 6 0), (7, .p (pI k)), (8, .p (pI n))], [(6, .cells [.p (pI a), .p (pI b), .p (pI c), .p (pL d)]), (0, .row 30 4 (o.map Tok.pv))]⟩
def invA (l : Bs) (k : Nat) (o : List Tok) : Prop := k ≤ l.length ∧ o.length ≤ k ∧ lexL l = joinE o (lexF (l.length - k + 1) k (l.drop k))
theorem all_l (l : Bs) (hl : l.length ≤ 4096) : Holds Tryd.prog 9 [pL l] (allR (lexL l)) (allO (lexL l)) := by
  have ls : (⟨⟨l⟩⟩ : ByteArray).size = l.length := rfl
  refine qF (ts := [2,3,4]) Tryd.func9 (by kernel_rfl) rfl rfl rfl ?_
  (repeat refine qb ?_); refine qa ?_
  repeat (first | refine zR ?_ | refine zK ?_ | refine zM ?_ | refine zB ?_ | refine zA ?_ | refine zS ?_ | refine zL ?_)
  refine qc ?_
  (repeat refine qb ?_); refine sw_scope 0 (fun m s => ∃ (k : Nat) (o : List Tok) (n a b c : Int) (d : Bs), m = l.length - k ∧ invA l k o ∧ s = stA l k n o a b c d) rfl ?_ ?_
  · (repeat refine qb ?_); refine qa ?_
    repeat (first | refine zR ?_ | refine zK ?_ | refine zM ?_ | refine zB ?_ | refine zA ?_ | refine zS ?_ | refine zL ?_)
    rw [ls, show decide ((l.length : Int) > 4096) = false by simp; omega]
    refine qc ?_
    (repeat refine qb ?_); refine qe rfl (fun hc => ?_) (fun hc => ?_)
    · cases hc
    refine qq ?_
    (repeat refine qb ?_); refine qa ?_
    repeat (first | refine zR ?_ | refine zK ?_ | refine zM ?_ | refine zB ?_ | refine zA ?_ | refine zS ?_ | refine zL ?_)
    refine qc ?_
    (repeat refine qb ?_); refine qa ?_
    repeat (first | refine zR ?_ | refine zK ?_ | refine zM ?_ | refine zB ?_ | refine zA ?_ | refine zS ?_ | refine zL ?_)
    refine qc ?_
    (repeat refine qb ?_); refine qa ?_
    repeat (first | refine zR ?_ | refine zK ?_ | refine zM ?_ | refine zB ?_ | refine zA ?_ | refine zS ?_ | refine zL ?_)
    refine qc ?_
    refine SW.wk (wk_nil 5 900 30 4 rfl rfl) ?_
    refine SW.wk (qv [0, 5, 6, 7, 8] [(6, 6), (900, 0)] rfl rfl) ?_
    (repeat refine qb ?_); refine sw_label ?_
    change SW _ _ _ (stA l ((0 : Nat) : Int) 0 [] 0 0 0 [])
    obtain ⟨S, hS⟩ : ∃ S, S = stA l ((0 : Nat) : Int) 0 [] 0 0 0 [] := ⟨_, rfl⟩
    rw [← hS]
    obtain ⟨k, o, n, a, b, c, d, hi, hS2⟩ : ∃ (k : Nat) (o : List Tok) (n a b c : Int) (d : Bs), invA l k o ∧ S = stA l k n o a b c d := ⟨0, [], 0, 0, 0, 0, [], ⟨Nat.zero_le _, Nat.zero_le _, by unfold lexL; simp only [Nat.sub_zero, List.drop_zero]; cases lexF (l.length + 1) 0 l <;> rfl⟩, hS⟩
    clear hS
    subst hS2
    unfold stA
    have hE := hi.2.2
    have ho := hi.2.1
    have hk := hi.1
    (repeat refine qb ?_); refine qa ?_
    repeat (first | refine zR ?_ | refine zK ?_ | refine zM ?_ | refine zB ?_ | refine zA ?_ | refine zS ?_ | refine zL ?_)
    rw [ls]
    by_cases hend : k = l.length
    · have hfin : lexL l = .ok (o ++ [⟨7, k, 0, []⟩]) := by
        rw [hE, hend, List.drop_of_length_le (Nat.le_refl _)]; rfl
      rw [show ((k : Int) == (l.length : Int)) = true by rw [beq_iff_eq]; omega]
      refine qc ?_
      (repeat refine qb ?_); refine qe rfl (fun hc => ?_) (fun hc => ?_)
      rotate_left
      · cases hc
      (repeat refine qb ?_); refine qa ?_
      repeat (first | refine zR ?_ | refine zK ?_ | refine zM ?_ | refine zB ?_ | refine zA ?_ | refine zS ?_ | refine zL ?_)
      refine qi rfl (qy qg rfl rfl rfl rfl rfl rfl rfl rfl rfl rfl rfl rfl rfl rfl rfl rfl (by simp only [List.length_append, List.length_map, List.length_take, List.length_cons, List.length_nil]; unfold reachBytes; omega) (by simp only [List.length_append, List.length_map, List.length_take, List.length_cons, List.length_nil]; omega) ?_)
      repeat (first | refine zR ?_ | refine zK ?_ | refine zM ?_ | refine zB ?_ | refine zA ?_ | refine zS ?_ | refine zL ?_)
      refine qc ?_
      (repeat refine qb ?_); refine qj ?_
      rw [hfin, show allO (.ok (o ++ [⟨7, k, 0, []⟩])) = [(0, .row 30 4 (o.map Tok.pv ++ [[pI 7, pI (k : Int), pI 0, pL []]]))] by show [(0, Box.row 30 4 ((o ++ [_]).map Tok.pv))] = _; rw [List.map_append]; rfl]
      exact ⟨Or.inr rfl, _, _, [(20, 0)], Wk.refl _, rfl, rfl, rfl, rfl⟩
    have hlt : k < l.length := by omega
    rw [show ((k : Int) == (l.length : Int)) = false by rw [beq_eq_false_iff_ne]; omega]
    refine qc ?_
    (repeat refine qb ?_); refine qe rfl (fun hc => ?_) (fun hc => ?_)
    · cases hc
    refine qq ?_
    obtain ⟨ch, hch⟩ : ∃ ch, ch = l[k] := ⟨_, rfl⟩
    have hdr : l.drop k = ch :: l.drop (k + 1) := by rw [hch]; exact List.drop_eq_getElem_cons hlt
    have hst : lexF (l.length - k + 1) k (l.drop k) = if zu ch then lexF (l.length - k) (k + 1) (l.drop (k + 1)) else match tokL (ch :: l.drop (k + 1)) with
      | none => .error k
      | some t => match lexF (l.length - k) (k + t.len) ((ch :: l.drop (k + 1)).drop t.len) with
        | .ok b => .ok (t.at_ k :: b)
        | .error e => .error e := by rw [hdr]; rfl
    have hbl : zu ch = (decide (ch.toNat = 32) || decide (ch.toNat = 10)) := rfl
    (repeat refine qb ?_); refine qa ?_
    repeat (first | refine zR ?_ | refine zK ?_ | refine zM ?_ | refine zB ?_ | refine zA ?_ | refine zS ?_ | refine zL ?_)
    refine ql qg rfl rfl (by rw [ls]; omega) rfl ?_
    rw [qX hlt, ← hch]
    repeat (first | refine zR ?_ | refine zK ?_ | refine zM ?_ | refine zB ?_ | refine zA ?_ | refine zS ?_ | refine zL ?_)
    cases hb : zu ch with
    | true =>
      rw [hb, if_pos rfl] at hst
      have hi2 : invA l (k + 1) o := ⟨hlt, by omega, by rw [hE, hst, show l.length - k = l.length - (k + 1) + 1 by omega]⟩
      by_cases h32 : ch.toNat = 32
      · rw [show ((ch.toNat : Int) == 32) = true by rw [beq_iff_eq]; omega]
        repeat (first | refine zR ?_ | refine zK ?_ | refine zM ?_ | refine zB ?_ | refine zA ?_ | refine zS ?_ | refine zL ?_)
        refine qc ?_
        (repeat refine qb ?_); refine qe rfl (fun hq => ?_) (fun hq => ?_)
        rotate_left
        · cases hq
        (repeat refine qb ?_); refine qa ?_
        repeat (first | refine zR ?_ | refine zK ?_ | refine zM ?_ | refine zB ?_ | refine zA ?_ | refine zS ?_ | refine zL ?_)
        refine qc ?_
        rw [zk hlt (by omega)]
        (repeat refine qb ?_); refine sw_goto ?_
        first
          | exact ⟨rfl, _, _, qv [0, 5, 6, 7, 8] [(6, 6), (0, 0)] rfl rfl, k + 1, o, n, _, _, _, _, rfl, hi2, rfl⟩
          | exact ⟨rfl, _, _, (by omega), qv [0, 5, 6, 7, 8] [(6, 6), (0, 0)] rfl rfl, k + 1, o, n, _, _, _, _, rfl, hi2, rfl⟩
      · have h10 : ch.toNat = 10 := by rw [hb] at hbl; simp [h32] at hbl; exact hbl
        rw [show ((ch.toNat : Int) == 32) = false by rw [beq_eq_false_iff_ne]; omega]
        repeat (first | refine zR ?_ | refine zK ?_ | refine zM ?_ | refine zB ?_ | refine zA ?_ | refine zS ?_ | refine zL ?_)
        refine ql qg rfl rfl (by rw [ls]; omega) rfl ?_
        rw [qX hlt, ← hch]
        repeat (first | refine zR ?_ | refine zK ?_ | refine zM ?_ | refine zB ?_ | refine zA ?_ | refine zS ?_ | refine zL ?_)
        rw [show ((ch.toNat : Int) == 10) = true by rw [beq_iff_eq]; omega]
        repeat (first | refine zR ?_ | refine zK ?_ | refine zM ?_ | refine zB ?_ | refine zA ?_ | refine zS ?_ | refine zL ?_)
        refine qc ?_
        (repeat refine qb ?_); refine qe rfl (fun hq => ?_) (fun hq => ?_)
        rotate_left
        · cases hq
        (repeat refine qb ?_); refine qa ?_
        repeat (first | refine zR ?_ | refine zK ?_ | refine zM ?_ | refine zB ?_ | refine zA ?_ | refine zS ?_ | refine zL ?_)
        refine qc ?_
        rw [zk hlt (by omega)]
        (repeat refine qb ?_); refine sw_goto ?_
        first
          | exact ⟨rfl, _, _, qv [0, 5, 6, 7, 8] [(6, 6), (0, 0)] rfl rfl, k + 1, o, n, _, _, _, _, rfl, hi2, rfl⟩
          | exact ⟨rfl, _, _, (by omega), qv [0, 5, 6, 7, 8] [(6, 6), (0, 0)] rfl rfl, k + 1, o, n, _, _, _, _, rfl, hi2, rfl⟩
    | false =>
      rw [hb, if_neg (by simp)] at hst
      rw [hb] at hbl
      have hn2 : ch.toNat ≠ 32 ∧ ch.toNat ≠ 10 := by
        have := hbl.symm
        simp at this; exact this
      rw [show ((ch.toNat : Int) == 32) = false by rw [beq_eq_false_iff_ne]; omega]
      repeat (first | refine zR ?_ | refine zK ?_ | refine zM ?_ | refine zB ?_ | refine zA ?_ | refine zS ?_ | refine zL ?_)
      refine ql qg rfl rfl (by rw [ls]; omega) rfl ?_
      rw [qX hlt, ← hch]
      repeat (first | refine zR ?_ | refine zK ?_ | refine zM ?_ | refine zB ?_ | refine zA ?_ | refine zS ?_ | refine zL ?_)
      rw [show ((ch.toNat : Int) == 10) = false by rw [beq_eq_false_iff_ne]; omega]
      repeat (first | refine zR ?_ | refine zK ?_ | refine zM ?_ | refine zB ?_ | refine zA ?_ | refine zS ?_ | refine zL ?_)
      refine qc ?_
      (repeat refine qb ?_); refine qe rfl (fun hq => ?_) (fun hq => ?_)
      · cases hq
      refine qq ?_
      have HB := begins_l ch (l.drop (k + 1)) (by simp; omega)
      have hBT := beg_tok (ch :: l.drop (k + 1))
      generalize begR (ch :: l.drop (k + 1)) = B at HB hBT
      obtain ⟨bk, bv, bs, bn⟩ := B
      simp only at hBT
      (repeat refine qb ?_); refine qa ?_
      repeat (first | refine zR ?_ | refine zK ?_ | refine zM ?_ | refine zB ?_ | refine zA ?_ | refine zS ?_ | refine zL ?_)
      refine ql qg rfl rfl (by rw [ls]; omega) rfl ?_
      rw [ext_l, show (l.drop (Int.toNat (k : Int))).take (Int.toNat ((⟨⟨l⟩⟩ : ByteArray).size : Int) - Int.toNat (k : Int)) = ch :: l.drop (k + 1) from (List.take_of_length_le (by simp [ls])).trans hdr]
      repeat (first | refine zR ?_ | refine zK ?_ | refine zM ?_ | refine zB ?_ | refine zA ?_ | refine zS ?_ | refine zL ?_)
      refine qi rfl (qd rfl rfl rfl rfl (HB) rfl rfl ?_)
      repeat (first | refine zR ?_ | refine zK ?_ | refine zM ?_ | refine zB ?_ | refine zA ?_ | refine zS ?_ | refine zL ?_)
      repeat (first | refine zR ?_ | refine zK ?_ | refine zM ?_ | refine zB ?_ | refine zA ?_ | refine zS ?_ | refine zL ?_)
      refine qc ?_
      (repeat refine qb ?_); refine qa ?_
      repeat (first | refine zR ?_ | refine zK ?_ | refine zM ?_ | refine zB ?_ | refine zA ?_ | refine zS ?_ | refine zL ?_)
      by_cases h0 : bn = 0
      · rw [if_pos h0] at hBT
        rw [hBT] at hst
        have hfin : lexL l = .error k := by rw [hE, hst]; rfl
        rw [show ((bn : Int) == 0) = true by rw [beq_iff_eq]; omega]
        refine qc ?_
        (repeat refine qb ?_); refine qe rfl (fun hz => ?_) (fun hz => ?_)
        · (repeat refine qb ?_); refine qa ?_
          repeat (first | refine zR ?_ | refine zK ?_ | refine zM ?_ | refine zB ?_ | refine zA ?_ | refine zS ?_ | refine zL ?_)
          refine qc ?_
          (repeat refine qb ?_); refine qj ?_
          rw [hfin]
          exact ⟨Or.inr rfl, _, _, [], Wk.refl _, rfl, rfl, rfl, rfl⟩
        · cases hz
      rw [if_neg h0] at hBT
      have hlen := zX hBT
      simp only [List.length_cons, List.length_drop] at hlen
      rw [hBT] at hst
      simp only at hst
      have hi2 : invA l (k + bn) (o ++ [⟨bk, k, bv, bs⟩]) := by
        refine ⟨by omega, by simp; omega, ?_⟩
        rw [hE, hst, ← hdr, List.drop_drop]
        rw [lexF_fuel (f := l.length - k) (g := l.length - (k + bn) + 1) (by simp only [List.length_drop]; omega) (by simp only [List.length_drop]; omega)]
        cases lexF (l.length - (k + bn) + 1) (k + bn) (l.drop (k + bn)) with
        | ok b => show Except.ok (o ++ (_ :: b)) = Except.ok ((o ++ [_]) ++ b); rw [List.append_assoc]; rfl
        | error e => rfl
      rw [show ((bn : Int) == 0) = false by rw [beq_eq_false_iff_ne]; omega]
      refine qc ?_
      (repeat refine qb ?_); refine qe rfl (fun hz => ?_) (fun hz => ?_)
      · cases hz
      refine qq ?_
      (repeat refine qb ?_); refine qa ?_
      repeat (first | refine zR ?_ | refine zK ?_ | refine zM ?_ | refine zB ?_ | refine zA ?_ | refine zS ?_ | refine zL ?_)
      refine qc ?_
      (repeat refine qb ?_); refine qa ?_
      repeat (first | refine zR ?_ | refine zK ?_ | refine zM ?_ | refine zB ?_ | refine zA ?_ | refine zS ?_ | refine zL ?_)
      refine qi rfl (qy qg rfl rfl rfl rfl rfl rfl rfl rfl rfl rfl rfl rfl rfl rfl rfl rfl (by simp only [List.length_append, List.length_map, List.length_take, List.length_cons, List.length_nil]; unfold reachBytes; omega) (by simp only [List.length_append, List.length_map, List.length_take, List.length_cons, List.length_nil]; omega) ?_)
      repeat (first | refine zR ?_ | refine zK ?_ | refine zM ?_ | refine zB ?_ | refine zA ?_ | refine zS ?_ | refine zL ?_)
      refine qc ?_
      (repeat refine qb ?_); refine qa ?_
      repeat (first | refine zR ?_ | refine zK ?_ | refine zM ?_ | refine zB ?_ | refine zA ?_ | refine zS ?_ | refine zL ?_)
      refine qc ?_
      rw [show IntKind.i64.wrap ((k : Int) + (bn : Int)) = ((k + bn : Nat) : Int) from IntWalk.i64_in _ (by omega)]
      refine SW.wk (qv [0, 5, 6, 7, 8] [(6, 6), (48, 0)] rfl rfl) ?_
      have eO : (o ++ [(⟨bk, k, bv, bs⟩ : Tok)]).map Tok.pv = o.map Tok.pv ++ [[pI bk, pI (k : Int), pI bv, pL bs]] := by rw [List.map_append]; rfl
      change SW _ _ _ ⟨52, [(0, .p (pL l)), (5, .row 0), (6, .ptr 6 0), (7, .p (pI ((k + bn : Nat) : Int))), (8, .p (pI (bn : Int)))], [(6, .cells [.p (pI bk), .p (pI (k : Int)), .p (pI bv), .p (pL bs)]), (0, .row 30 4 (o.map Tok.pv ++ [[pI bk, pI (k : Int), pI bv, pL bs]]))]⟩
      rw [← eO]
      (repeat refine qb ?_); refine sw_goto ?_
      first
        | exact ⟨rfl, _, _, qv [0, 5, 6, 7, 8] [(6, 6), (0, 0)] rfl rfl, k + bn, o ++ [⟨bk, k, bv, bs⟩], (bn : Int), _, _, _, _, rfl, hi2, rfl⟩
        | exact ⟨rfl, _, _, (by omega), qv [0, 5, 6, 7, 8] [(6, 6), (0, 0)] rfl rfl, k + bn, o ++ [⟨bk, k, bv, bs⟩], (bn : Int), _, _, _, _, rfl, hi2, rfl⟩
  · rintro m s ⟨k, o, n, a, b, c, d, rfl, hi, rfl⟩
    unfold stA
    refine qb ?_
    refine qq ?_
    have hE := hi.2.2
    have ho := hi.2.1
    have hk := hi.1
    (repeat refine qb ?_); refine qa ?_
    repeat (first | refine zR ?_ | refine zK ?_ | refine zM ?_ | refine zB ?_ | refine zA ?_ | refine zS ?_ | refine zL ?_)
    rw [ls]
    by_cases hend : k = l.length
    · have hfin : lexL l = .ok (o ++ [⟨7, k, 0, []⟩]) := by
        rw [hE, hend, List.drop_of_length_le (Nat.le_refl _)]; rfl
      rw [show ((k : Int) == (l.length : Int)) = true by rw [beq_iff_eq]; omega]
      refine qc ?_
      (repeat refine qb ?_); refine qe rfl (fun hc => ?_) (fun hc => ?_)
      rotate_left
      · cases hc
      (repeat refine qb ?_); refine qa ?_
      repeat (first | refine zR ?_ | refine zK ?_ | refine zM ?_ | refine zB ?_ | refine zA ?_ | refine zS ?_ | refine zL ?_)
      refine qi rfl (qy qg rfl rfl rfl rfl rfl rfl rfl rfl rfl rfl rfl rfl rfl rfl rfl rfl (by simp only [List.length_append, List.length_map, List.length_take, List.length_cons, List.length_nil]; unfold reachBytes; omega) (by simp only [List.length_append, List.length_map, List.length_take, List.length_cons, List.length_nil]; omega) ?_)
      repeat (first | refine zR ?_ | refine zK ?_ | refine zM ?_ | refine zB ?_ | refine zA ?_ | refine zS ?_ | refine zL ?_)
      refine qc ?_
      (repeat refine qb ?_); refine qj ?_
      rw [hfin, show allO (.ok (o ++ [⟨7, k, 0, []⟩])) = [(0, .row 30 4 (o.map Tok.pv ++ [[pI 7, pI (k : Int), pI 0, pL []]]))] by show [(0, Box.row 30 4 ((o ++ [_]).map Tok.pv))] = _; rw [List.map_append]; rfl]
      exact ⟨Or.inr rfl, _, _, [(20, 0)], Wk.refl _, rfl, rfl, rfl, rfl⟩
    have hlt : k < l.length := by omega
    rw [show ((k : Int) == (l.length : Int)) = false by rw [beq_eq_false_iff_ne]; omega]
    refine qc ?_
    (repeat refine qb ?_); refine qe rfl (fun hc => ?_) (fun hc => ?_)
    · cases hc
    refine qq ?_
    obtain ⟨ch, hch⟩ : ∃ ch, ch = l[k] := ⟨_, rfl⟩
    have hdr : l.drop k = ch :: l.drop (k + 1) := by rw [hch]; exact List.drop_eq_getElem_cons hlt
    have hst : lexF (l.length - k + 1) k (l.drop k) = if zu ch then lexF (l.length - k) (k + 1) (l.drop (k + 1)) else match tokL (ch :: l.drop (k + 1)) with
      | none => .error k
      | some t => match lexF (l.length - k) (k + t.len) ((ch :: l.drop (k + 1)).drop t.len) with
        | .ok b => .ok (t.at_ k :: b)
        | .error e => .error e := by rw [hdr]; rfl
    have hbl : zu ch = (decide (ch.toNat = 32) || decide (ch.toNat = 10)) := rfl
    (repeat refine qb ?_); refine qa ?_
    repeat (first | refine zR ?_ | refine zK ?_ | refine zM ?_ | refine zB ?_ | refine zA ?_ | refine zS ?_ | refine zL ?_)
    refine ql qg rfl rfl (by rw [ls]; omega) rfl ?_
    rw [qX hlt, ← hch]
    repeat (first | refine zR ?_ | refine zK ?_ | refine zM ?_ | refine zB ?_ | refine zA ?_ | refine zS ?_ | refine zL ?_)
    cases hb : zu ch with
    | true =>
      rw [hb, if_pos rfl] at hst
      have hi2 : invA l (k + 1) o := ⟨hlt, by omega, by rw [hE, hst, show l.length - k = l.length - (k + 1) + 1 by omega]⟩
      by_cases h32 : ch.toNat = 32
      · rw [show ((ch.toNat : Int) == 32) = true by rw [beq_iff_eq]; omega]
        repeat (first | refine zR ?_ | refine zK ?_ | refine zM ?_ | refine zB ?_ | refine zA ?_ | refine zS ?_ | refine zL ?_)
        refine qc ?_
        (repeat refine qb ?_); refine qe rfl (fun hq => ?_) (fun hq => ?_)
        rotate_left
        · cases hq
        (repeat refine qb ?_); refine qa ?_
        repeat (first | refine zR ?_ | refine zK ?_ | refine zM ?_ | refine zB ?_ | refine zA ?_ | refine zS ?_ | refine zL ?_)
        refine qc ?_
        rw [zk hlt (by omega)]
        (repeat refine qb ?_); refine sw_goto ?_
        first
          | exact ⟨rfl, _, _, qv [0, 5, 6, 7, 8] [(6, 6), (0, 0)] rfl rfl, k + 1, o, n, _, _, _, _, rfl, hi2, rfl⟩
          | exact ⟨rfl, _, _, (by omega), qv [0, 5, 6, 7, 8] [(6, 6), (0, 0)] rfl rfl, k + 1, o, n, _, _, _, _, rfl, hi2, rfl⟩
      · have h10 : ch.toNat = 10 := by rw [hb] at hbl; simp [h32] at hbl; exact hbl
        rw [show ((ch.toNat : Int) == 32) = false by rw [beq_eq_false_iff_ne]; omega]
        repeat (first | refine zR ?_ | refine zK ?_ | refine zM ?_ | refine zB ?_ | refine zA ?_ | refine zS ?_ | refine zL ?_)
        refine ql qg rfl rfl (by rw [ls]; omega) rfl ?_
        rw [qX hlt, ← hch]
        repeat (first | refine zR ?_ | refine zK ?_ | refine zM ?_ | refine zB ?_ | refine zA ?_ | refine zS ?_ | refine zL ?_)
        rw [show ((ch.toNat : Int) == 10) = true by rw [beq_iff_eq]; omega]
        repeat (first | refine zR ?_ | refine zK ?_ | refine zM ?_ | refine zB ?_ | refine zA ?_ | refine zS ?_ | refine zL ?_)
        refine qc ?_
        (repeat refine qb ?_); refine qe rfl (fun hq => ?_) (fun hq => ?_)
        rotate_left
        · cases hq
        (repeat refine qb ?_); refine qa ?_
        repeat (first | refine zR ?_ | refine zK ?_ | refine zM ?_ | refine zB ?_ | refine zA ?_ | refine zS ?_ | refine zL ?_)
        refine qc ?_
        rw [zk hlt (by omega)]
        (repeat refine qb ?_); refine sw_goto ?_
        first
          | exact ⟨rfl, _, _, qv [0, 5, 6, 7, 8] [(6, 6), (0, 0)] rfl rfl, k + 1, o, n, _, _, _, _, rfl, hi2, rfl⟩
          | exact ⟨rfl, _, _, (by omega), qv [0, 5, 6, 7, 8] [(6, 6), (0, 0)] rfl rfl, k + 1, o, n, _, _, _, _, rfl, hi2, rfl⟩
    | false =>
      rw [hb, if_neg (by simp)] at hst
      rw [hb] at hbl
      have hn2 : ch.toNat ≠ 32 ∧ ch.toNat ≠ 10 := by
        have := hbl.symm
        simp at this; exact this
      rw [show ((ch.toNat : Int) == 32) = false by rw [beq_eq_false_iff_ne]; omega]
      repeat (first | refine zR ?_ | refine zK ?_ | refine zM ?_ | refine zB ?_ | refine zA ?_ | refine zS ?_ | refine zL ?_)
      refine ql qg rfl rfl (by rw [ls]; omega) rfl ?_
      rw [qX hlt, ← hch]
      repeat (first | refine zR ?_ | refine zK ?_ | refine zM ?_ | refine zB ?_ | refine zA ?_ | refine zS ?_ | refine zL ?_)
      rw [show ((ch.toNat : Int) == 10) = false by rw [beq_eq_false_iff_ne]; omega]
      repeat (first | refine zR ?_ | refine zK ?_ | refine zM ?_ | refine zB ?_ | refine zA ?_ | refine zS ?_ | refine zL ?_)
      refine qc ?_
      (repeat refine qb ?_); refine qe rfl (fun hq => ?_) (fun hq => ?_)
      · cases hq
      refine qq ?_
      have HB := begins_l ch (l.drop (k + 1)) (by simp; omega)
      have hBT := beg_tok (ch :: l.drop (k + 1))
      generalize begR (ch :: l.drop (k + 1)) = B at HB hBT
      obtain ⟨bk, bv, bs, bn⟩ := B
      simp only at hBT
      (repeat refine qb ?_); refine qa ?_
      repeat (first | refine zR ?_ | refine zK ?_ | refine zM ?_ | refine zB ?_ | refine zA ?_ | refine zS ?_ | refine zL ?_)
      refine ql qg rfl rfl (by rw [ls]; omega) rfl ?_
      rw [ext_l, show (l.drop (Int.toNat (k : Int))).take (Int.toNat ((⟨⟨l⟩⟩ : ByteArray).size : Int) - Int.toNat (k : Int)) = ch :: l.drop (k + 1) from (List.take_of_length_le (by simp [ls])).trans hdr]
      repeat (first | refine zR ?_ | refine zK ?_ | refine zM ?_ | refine zB ?_ | refine zA ?_ | refine zS ?_ | refine zL ?_)
      refine qi rfl (qd rfl rfl rfl rfl (HB) rfl rfl ?_)
      repeat (first | refine zR ?_ | refine zK ?_ | refine zM ?_ | refine zB ?_ | refine zA ?_ | refine zS ?_ | refine zL ?_)
      repeat (first | refine zR ?_ | refine zK ?_ | refine zM ?_ | refine zB ?_ | refine zA ?_ | refine zS ?_ | refine zL ?_)
      refine qc ?_
      (repeat refine qb ?_); refine qa ?_
      repeat (first | refine zR ?_ | refine zK ?_ | refine zM ?_ | refine zB ?_ | refine zA ?_ | refine zS ?_ | refine zL ?_)
      by_cases h0 : bn = 0
      · rw [if_pos h0] at hBT
        rw [hBT] at hst
        have hfin : lexL l = .error k := by rw [hE, hst]; rfl
        rw [show ((bn : Int) == 0) = true by rw [beq_iff_eq]; omega]
        refine qc ?_
        (repeat refine qb ?_); refine qe rfl (fun hz => ?_) (fun hz => ?_)
        · (repeat refine qb ?_); refine qa ?_
          repeat (first | refine zR ?_ | refine zK ?_ | refine zM ?_ | refine zB ?_ | refine zA ?_ | refine zS ?_ | refine zL ?_)
          refine qc ?_
          (repeat refine qb ?_); refine qj ?_
          rw [hfin]
          exact ⟨Or.inr rfl, _, _, [], Wk.refl _, rfl, rfl, rfl, rfl⟩
        · cases hz
      rw [if_neg h0] at hBT
      have hlen := zX hBT
      simp only [List.length_cons, List.length_drop] at hlen
      rw [hBT] at hst
      simp only at hst
      have hi2 : invA l (k + bn) (o ++ [⟨bk, k, bv, bs⟩]) := by
        refine ⟨by omega, by simp; omega, ?_⟩
        rw [hE, hst, ← hdr, List.drop_drop]
        rw [lexF_fuel (f := l.length - k) (g := l.length - (k + bn) + 1) (by simp only [List.length_drop]; omega) (by simp only [List.length_drop]; omega)]
        cases lexF (l.length - (k + bn) + 1) (k + bn) (l.drop (k + bn)) with
        | ok b => show Except.ok (o ++ (_ :: b)) = Except.ok ((o ++ [_]) ++ b); rw [List.append_assoc]; rfl
        | error e => rfl
      rw [show ((bn : Int) == 0) = false by rw [beq_eq_false_iff_ne]; omega]
      refine qc ?_
      (repeat refine qb ?_); refine qe rfl (fun hz => ?_) (fun hz => ?_)
      · cases hz
      refine qq ?_
      (repeat refine qb ?_); refine qa ?_
      repeat (first | refine zR ?_ | refine zK ?_ | refine zM ?_ | refine zB ?_ | refine zA ?_ | refine zS ?_ | refine zL ?_)
      refine qc ?_
      (repeat refine qb ?_); refine qa ?_
      repeat (first | refine zR ?_ | refine zK ?_ | refine zM ?_ | refine zB ?_ | refine zA ?_ | refine zS ?_ | refine zL ?_)
      refine qi rfl (qy qg rfl rfl rfl rfl rfl rfl rfl rfl rfl rfl rfl rfl rfl rfl rfl rfl (by simp only [List.length_append, List.length_map, List.length_take, List.length_cons, List.length_nil]; unfold reachBytes; omega) (by simp only [List.length_append, List.length_map, List.length_take, List.length_cons, List.length_nil]; omega) ?_)
      repeat (first | refine zR ?_ | refine zK ?_ | refine zM ?_ | refine zB ?_ | refine zA ?_ | refine zS ?_ | refine zL ?_)
      refine qc ?_
      (repeat refine qb ?_); refine qa ?_
      repeat (first | refine zR ?_ | refine zK ?_ | refine zM ?_ | refine zB ?_ | refine zA ?_ | refine zS ?_ | refine zL ?_)
      refine qc ?_
      rw [show IntKind.i64.wrap ((k : Int) + (bn : Int)) = ((k + bn : Nat) : Int) from IntWalk.i64_in _ (by omega)]
      refine SW.wk (qv [0, 5, 6, 7, 8] [(6, 6), (48, 0)] rfl rfl) ?_
      have eO : (o ++ [(⟨bk, k, bv, bs⟩ : Tok)]).map Tok.pv = o.map Tok.pv ++ [[pI bk, pI (k : Int), pI bv, pL bs]] := by rw [List.map_append]; rfl
      change SW _ _ _ ⟨52, [(0, .p (pL l)), (5, .row 0), (6, .ptr 6 0), (7, .p (pI ((k + bn : Nat) : Int))), (8, .p (pI (bn : Int)))], [(6, .cells [.p (pI bk), .p (pI (k : Int)), .p (pI bv), .p (pL bs)]), (0, .row 30 4 (o.map Tok.pv ++ [[pI bk, pI (k : Int), pI bv, pL bs]]))]⟩
      rw [← eO]
      (repeat refine qb ?_); refine sw_goto ?_
      first
        | exact ⟨rfl, _, _, qv [0, 5, 6, 7, 8] [(6, 6), (0, 0)] rfl rfl, k + bn, o ++ [⟨bk, k, bv, bs⟩], (bn : Int), _, _, _, _, rfl, hi2, rfl⟩
        | exact ⟨rfl, _, _, (by omega), qv [0, 5, 6, 7, 8] [(6, 6), (0, 0)] rfl rfl, k + bn, o ++ [⟨bk, k, bv, bs⟩], (bn : Int), _, _, _, _, rfl, hi2, rfl⟩
end Go.Proofs.YtnojoaneboppnaaDoor
namespace Go.Proofs.YtnojoaneboppnaaDoor
set_option linter.unusedVariables false
set_option linter.unusedSimpArgs false
set_option maxRecDepth 100000
end Go.Proofs.YtnojoaneboppnaaDoor
namespace Go.Proofs.YtnojoaneboppnaaDoor
open Go.RowKit
noncomputable def fnsd12 : FnI := ⟨74, Tryd.f12.body.getD .skip, [.tmp 0], []⟩
theorem fnsd12_ok : FnOk Tryd.prog 12 fnsd12 := ⟨_, Tryd.func12, by kernel_rfl, by kernel_rfl, by kernel_rfl, by kernel_rfl, by kernel_rfl, by kernel_rfl⟩
noncomputable def fnsd11 : FnI := ⟨26, Tryd.f11.body.getD .skip, [.tmp 4], [(6, [(0, true), (1, true), (2, true), (3, true), (4, true), (5, false), (6, false), (7, false), (8, false)])]⟩
theorem fnsd11_ok : FnOk Tryd.prog 11 fnsd11 := ⟨_, Tryd.func11, by kernel_rfl, by kernel_rfl, by kernel_rfl, by kernel_rfl, by kernel_rfl, by kernel_rfl⟩
noncomputable def fnsd9 : FnI := ⟨52, Tryd.f9.body.getD .skip, [.tmp 2, .tmp 3, .tmp 4], []⟩
theorem fnsd9_ok : FnOk Tryd.prog 9 fnsd9 := ⟨_, Tryd.func9, by kernel_rfl, by kernel_rfl, by kernel_rfl, by kernel_rfl, by kernel_rfl, by kernel_rfl⟩
noncomputable def fnsd17 : FnI := ⟨106, Tryd.f17.body.getD .skip, [.cell 2 30, .tmp 3], [(30, [(0, true), (1, true), (2, false), (3, false), (4, false), (5, false), (6, false)])]⟩
theorem fnsd17_ok : FnOk Tryd.prog 17 fnsd17 := ⟨_, Tryd.func17, by kernel_rfl, by kernel_rfl, by kernel_rfl, by kernel_rfl, by kernel_rfl, by kernel_rfl⟩
noncomputable def fnsd31 : FnI := ⟨50, Tryd.f31.body.getD .skip, [.tmp 2, .tmp 3], []⟩
theorem fnsd31_ok : FnOk Tryd.prog 31 fnsd31 := ⟨_, Tryd.func31, by kernel_rfl, by kernel_rfl, by kernel_rfl, by kernel_rfl, by kernel_rfl, by kernel_rfl⟩
noncomputable def fnsd43 : FnI := ⟨38, Tryd.f43.body.getD .skip, [.tmp 2, .tmp 3], [(3, [(0, true), (1, true), (4, true), (5, true), (2, false), (3, true), (6, false), (7, false), (8, false), (9, false)])]⟩
theorem fnsd43_ok : FnOk Tryd.prog 43 fnsd43 := ⟨_, Tryd.func43, by kernel_rfl, by kernel_rfl, by kernel_rfl, by kernel_rfl, by kernel_rfl, by kernel_rfl⟩
noncomputable def fnsd42 : FnI := ⟨17, Tryd.f42.body.getD .skip, [.tmp 2], []⟩
theorem fnsd42_ok : FnOk Tryd.prog 42 fnsd42 := ⟨_, Tryd.func42, by kernel_rfl, by kernel_rfl, by kernel_rfl, by kernel_rfl, by kernel_rfl, by kernel_rfl⟩
noncomputable def fnsd49 : FnI := ⟨20, Tryd.f49.body.getD .skip, [.tmp 2], []⟩
theorem fnsd49_ok : FnOk Tryd.prog 49 fnsd49 := ⟨_, Tryd.func49, by kernel_rfl, by kernel_rfl, by kernel_rfl, by kernel_rfl, by kernel_rfl, by kernel_rfl⟩
noncomputable def fnsd29 : FnI := ⟨9, Tryd.f29.body.getD .skip, [.tmp 2], []⟩
theorem fnsd29_ok : FnOk Tryd.prog 29 fnsd29 := ⟨_, Tryd.func29, by kernel_rfl, by kernel_rfl, by kernel_rfl, by kernel_rfl, by kernel_rfl, by kernel_rfl⟩
noncomputable def fnsd30 : FnI := ⟨35, Tryd.f30.body.getD .skip, [.tmp 4, .tmp 5], []⟩
theorem fnsd30_ok : FnOk Tryd.prog 30 fnsd30 := ⟨_, Tryd.func30, by kernel_rfl, by kernel_rfl, by kernel_rfl, by kernel_rfl, by kernel_rfl, by kernel_rfl⟩
noncomputable def fnsd39 : FnI := ⟨20, Tryd.f39.body.getD .skip, [.tmp 4], []⟩
theorem fnsd39_ok : FnOk Tryd.prog 39 fnsd39 := ⟨_, Tryd.func39, by kernel_rfl, by kernel_rfl, by kernel_rfl, by kernel_rfl, by kernel_rfl, by kernel_rfl⟩
noncomputable def fnsd28 : FnI := ⟨12, Tryd.f28.body.getD .skip, [.tmp 2], []⟩
theorem fnsd28_ok : FnOk Tryd.prog 28 fnsd28 := ⟨_, Tryd.func28, by kernel_rfl, by kernel_rfl, by kernel_rfl, by kernel_rfl, by kernel_rfl, by kernel_rfl⟩
noncomputable def fnsd24 : FnI := ⟨49, Tryd.f24.body.getD .skip, [.tmp 2], []⟩
theorem fnsd24_ok : FnOk Tryd.prog 24 fnsd24 := ⟨_, Tryd.func24, by kernel_rfl, by kernel_rfl, by kernel_rfl, by kernel_rfl, by kernel_rfl, by kernel_rfl⟩
noncomputable def fnsd40 : FnI := ⟨17, Tryd.f40.body.getD .skip, [.tmp 2], []⟩
theorem fnsd40_ok : FnOk Tryd.prog 40 fnsd40 := ⟨_, Tryd.func40, by kernel_rfl, by kernel_rfl, by kernel_rfl, by kernel_rfl, by kernel_rfl, by kernel_rfl⟩
noncomputable def FnsDF : List (FuncId × FnI) := [(12, fnsd12),
  (11, fnsd11),
  (9, fnsd9),
  (17, fnsd17),
  (31, fnsd31),
  (43, fnsd43),
  (42, fnsd42),
  (49, fnsd49),
  (29, fnsd29),
  (30, fnsd30),
  (39, fnsd39),
  (28, fnsd28),
  (24, fnsd24),
  (40, fnsd40)]
theorem FnsDF_ok (C : FuncId → List PV → Option SV) : FOk Tryd.prog ⟨TTab, FnsDF, C⟩ := qE fnsd12_ok <|
  qE fnsd11_ok <|
  qE fnsd9_ok <|
  qE fnsd17_ok <|
  qE fnsd31_ok <|
  qE fnsd43_ok <|
  qE fnsd42_ok <|
  qE fnsd49_ok <|
  qE fnsd29_ok <|
  qE fnsd30_ok <|
  qE fnsd39_ok <|
  qE fnsd28_ok <|
  qE fnsd24_ok <|
  qE fnsd40_ok <| fok_nil
end Go.Proofs.YtnojoaneboppnaaDoor
namespace Go.Proofs.YtnojoaneboppnaaDoor
set_option linter.unusedVariables false
set_option linter.unusedSimpArgs false
open Go.RowKit
theorem zW : Holds Tryd.prog 12 [] (.p (.v (.bool true))) [] :=
  .ofW (evF1_ok (n := 5000) qg (ctab_ok _) (FnsDF_ok ctab) (by kernel_rfl) (by kernel_rfl))
end Go.Proofs.YtnojoaneboppnaaDoor
namespace Go.Proofs.YtnojoaneboppnaaDoor
set_option linter.unusedVariables false
set_option linter.unusedSimpArgs false
open Go.RowKit
set_option maxHeartbeats 1000000
end Go.Proofs.YtnojoaneboppnaaDoor
namespace Go.Proofs.YtnojoaneboppnaaDoor
set_option linter.unusedVariables false
set_option linter.unusedSimpArgs false
open Go.RowKit
set_option maxHeartbeats 4000000
set_option maxRecDepth 100000
theorem cat_ok {a b : Bs} (ha : a.length ≤ 100000) (hb : b.length ≤ 100000) : (((⟨⟨a⟩⟩ : ByteArray).size + (⟨⟨b⟩⟩ : ByteArray).size : Nat) : Int) ≤ IntKind.i64.max := by
  have h1 : (IntKind.i64.max : Int) = 9223372036854775807 := rfl
  have h2 : (⟨⟨a⟩⟩ : ByteArray).size = a.length := rfl
  have h3 : (⟨⟨b⟩⟩ : ByteArray).size = b.length := rfl
  rw [h1, h2, h3]; omega
end Go.Proofs.YtnojoaneboppnaaDoor
namespace Go.Proofs.YtnojoaneboppnaaDoor
set_option linter.unusedVariables false
set_option linter.unusedSimpArgs false
open Go.RowKit
set_option maxHeartbeats 4000000
set_option maxRecDepth 100000
theorem eqL_tok (t : Tok) : eqL t.pv t.pv = some true := by
  have h : eqL t.pv t.pv = some ((t.kind == t.kind) && (((t.at_ : Int) == (t.at_ : Int)) && ((t.n == t.n) && (((⟨⟨t.s⟩⟩ : ByteArray).toList == (⟨⟨t.s⟩⟩ : ByteArray).toList) && true)))) := rfl
  rw [h]; simp
theorem opR_neT {T : TT} {K : List Nat} {st : St} {o : Op} {t t' : TypeId} {a b : Operand} (x : Tok) (ho : o = .binOp .neq t a b t') {n m : Nat} {d : Ty} {z : List Value} (ht : lk t T = some ⟨n, m, d, z, true⟩) (ha : evS st a = some (.p (.agg x.pv))) (hb : evS st b = some (.p (.agg x.pv))) : opR T K st o = some (qD x.pv z = true, .p (pB false)) := by
  subst ho
  show rBin T .neq t (evS st a) (evS st b) = _
  rw [ha, hb]
  unfold rBin
  simp only [ht, eqL_tok]
  rfl
theorem all_len {l : Bs} {a : List Tok} (h : lexL l = .ok a) : 1 ≤ a.length ∧ a.length ≤ l.length + 1 := by
  have h1 := lexF_ok_ne h
  refine ⟨List.length_pos_iff.2 h1, ?_⟩
  have : ∀ {f k : Nat} {l : Bs} {a : List Tok}, lexF f k l = .ok a → a.length ≤ l.length + 1 := by
    intro f
    induction f with
    | zero => intro k l a h; cases h
    | succ f ih =>
      intro k l a h
      cases l with
      | nil => cases h; simp
      | cons c r =>
        rw [lexF] at h
        split at h
        · have := ih h; simp; omega
        · cases ht : tokL (c :: r) with
          | none => rw [ht] at h; cases h
          | some t =>
            have hl := zX ht
            rw [ht] at h
            simp only at h
            cases hr : lexF f (k + t.len) ((c :: r).drop t.len) with
            | error e => rw [hr] at h; cases h
            | ok a' =>
              rw [hr] at h
              cases h
              have := ih hr
              rw [List.length_drop] at this
              simp only [List.length_cons] at this hl ⊢
              omega
  exact this h
theorem at_le : ∀ {f k : Nat} {l : Bs} {a : List Tok}, lexF f k l = .ok a → ∀ t ∈ a, t.at_ ≤ k + l.length
  | f + 1, k, [], a, h => by cases h; intro t ht; rw [List.mem_singleton.1 ht]; exact Nat.le_refl _
  | f + 1, k, c :: r, a, h => by
    rw [lexF] at h
    split at h
    · intro t ht
      have := at_le h t ht
      rw [List.length_cons]; omega
    · cases ht : tokL (c :: r) with
      | none => rw [ht] at h; cases h
      | some t =>
        have hl := zX ht
        rw [ht] at h
        simp only at h
        cases hr : lexF f (k + t.len) ((c :: r).drop t.len) with
        | error e => rw [hr] at h; cases h
        | ok a' =>
          rw [hr] at h
          cases h
          intro x hx
          rcases List.mem_cons.1 hx with rfl | hx
          · show k ≤ _; omega
          · have := at_le hr x hx
            rw [List.length_drop] at this
            omega
theorem err_le : ∀ {f k : Nat} {l : Bs} {e : Nat}, lexF f k l = .error e → e ≤ k + l.length
  | 0, k, l, e, h => by cases h; omega
  | f + 1, k, [], e, h => by cases h
  | f + 1, k, c :: r, e, h => by
    rw [lexF] at h
    split at h
    · have := err_le h
      rw [List.length_cons]; omega
    · cases ht : tokL (c :: r) with
      | none => rw [ht] at h; cases h; omega
      | some t =>
        have hl := zX ht
        rw [ht] at h
        simp only at h
        cases hr : lexF f (k + t.len) ((c :: r).drop t.len) with
        | error e' =>
          rw [hr] at h
          cases h
          have := err_le hr
          rw [List.length_drop] at this
          omega
        | ok a' => rw [hr] at h; cases h
theorem min_ok (c : Nat) (N : Int) (hN : 0 ≤ N) : 0 ≤ (0 : Int) ∧ (0 : Int) ≤ (if N < (c : Int) then N else (c : Int)) ∧ (if N < (c : Int) then N else (c : Int)) ≤ (c : Int) := by
  split <;> omega
theorem ext_min (l : Bs) (N : Int) (n : Nat) (hN : N = n) : (⟨⟨l⟩⟩ : ByteArray).extract (Int.toNat 0) (Int.toNat (if N < ((⟨⟨l⟩⟩ : ByteArray).size : Int) then N else ((⟨⟨l⟩⟩ : ByteArray).size : Int))) = ⟨⟨l.take n⟩⟩ := by
  subst hN
  have ls : (⟨⟨l⟩⟩ : ByteArray).size = l.length := rfl
  rw [ext_l, ls]
  congr 2
  show l.take _ = l.take n
  split
  · rfl
  · rw [List.take_of_length_le (by simp), List.take_of_length_le (by omega)]
theorem lexJoins_h (a b : Bs) : Holds Tryd.prog 6 [pL a, pL b] (.p (pB true)) [] := by
  refine qF (ts := [4]) Tryd.func6 (by kernel_rfl) rfl rfl rfl ?_
  (repeat refine qb ?_); refine qa ?_
  repeat (first | refine zR ?_ | refine zK ?_ | refine zM ?_ | refine zB ?_ | refine zA ?_ | refine zS ?_ | refine zL ?_)
  refine qc ?_
  (repeat refine qb ?_); refine zU [] [(0, true), (1, true), (2, true), (3, true), (4, true), (5, true), (6, true), (7, true), (8, true), (9, true), (10, true), (11, true)] (by kernel_rfl) (by kernel_rfl) (by kernel_rfl) ?_
  repeat (first | refine yR ?_ | refine yK ?_ | refine yM ?_ | refine yB ?_ | refine yA ?_ | refine yS ?_ | refine yL ?_)
  refine zV qg rfl rfl rfl (min_ok _ 200 (by omega)) rfl ?_
  rw [ext_min a 200 200 rfl]
  repeat (first | refine yR ?_ | refine yK ?_ | refine yM ?_ | refine yB ?_ | refine yA ?_ | refine yS ?_ | refine yL ?_)
  refine zV qg rfl rfl rfl (min_ok _ 200 (by omega)) rfl ?_
  rw [ext_min b 200 200 rfl]
  repeat (first | refine yR ?_ | refine yK ?_ | refine yM ?_ | refine yB ?_ | refine yA ?_ | refine yS ?_ | refine yL ?_)
  refine swm_nil ?_
  refine SW.wk (qv [0, 1] [] rfl rfl) ?_
  have hal : (a.take 200).length ≤ 200 := by simp; omega
  have hbl : (b.take 200).length ≤ 200 := by simp; omega
  generalize a.take 200 = a at *
  generalize b.take 200 = b at *
  have la : (⟨⟨a⟩⟩ : ByteArray).size = a.length := rfl
  have HX := all_l a (by omega)
  have HY := all_l b (by omega)
  have HZ := all_l (a ++ 32 :: b) (by rw [List.length_append, List.length_cons]; omega)
  cases hx : lexL a with
  | error ea =>
    rw [hx] at HX
    (repeat refine qb ?_); refine qa ?_
    repeat (first | refine zR ?_ | refine zK ?_ | refine zM ?_ | refine zB ?_ | refine zA ?_ | refine zS ?_ | refine zL ?_)
    refine qi rfl (zT rfl rfl rfl rfl (HX) rfl rfl rfl ?_)
    repeat (first | refine zR ?_ | refine zK ?_ | refine zM ?_ | refine zB ?_ | refine zA ?_ | refine zS ?_ | refine zL ?_)
    repeat (first | refine zR ?_ | refine zK ?_ | refine zM ?_ | refine zB ?_ | refine zA ?_ | refine zS ?_ | refine zL ?_)
    refine qc ?_
    cases hy : lexL b with
    | error eb =>
      rw [hy] at HY
      (repeat refine qb ?_); refine qa ?_
      repeat (first | refine zR ?_ | refine zK ?_ | refine zM ?_ | refine zB ?_ | refine zA ?_ | refine zS ?_ | refine zL ?_)
      refine qi rfl (zT rfl rfl rfl rfl (HY) rfl rfl rfl ?_)
      repeat (first | refine zR ?_ | refine zK ?_ | refine zM ?_ | refine zB ?_ | refine zA ?_ | refine zS ?_ | refine zL ?_)
      repeat (first | refine zR ?_ | refine zK ?_ | refine zM ?_ | refine zB ?_ | refine zA ?_ | refine zS ?_ | refine zL ?_)
      refine qc ?_
      cases hz : lexL (a ++ 32 :: b) with
      | error ez =>
        rw [hz] at HZ
        (repeat refine qb ?_); refine qa ?_
        repeat (first | refine zR ?_ | refine zK ?_ | refine zM ?_ | refine zB ?_ | refine zA ?_ | refine zS ?_ | refine zL ?_)
        refine ql qg rfl rfl (cat_ok (a := a) (b := [32]) (by omega) (by simp)) rfl ?_
        rw [show (⟨⟨a⟩⟩ : ByteArray) ++ ⟨#[32]⟩ = ⟨⟨a ++ [32]⟩⟩ from app_l a [32]]
        repeat (first | refine zR ?_ | refine zK ?_ | refine zM ?_ | refine zB ?_ | refine zA ?_ | refine zS ?_ | refine zL ?_)
        refine ql qg rfl rfl (cat_ok (a := a ++ [32]) (b := b) (by rw [List.length_append]; simp; omega) (by omega)) rfl ?_
        rw [app_l, show a ++ [32] ++ b = a ++ 32 :: b by simp]
        repeat (first | refine zR ?_ | refine zK ?_ | refine zM ?_ | refine zB ?_ | refine zA ?_ | refine zS ?_ | refine zL ?_)
        refine qi rfl (zT rfl rfl rfl rfl (HZ) rfl rfl rfl ?_)
        repeat (first | refine zR ?_ | refine zK ?_ | refine zM ?_ | refine zB ?_ | refine zA ?_ | refine zS ?_ | refine zL ?_)
        repeat (first | refine zR ?_ | refine zK ?_ | refine zM ?_ | refine zB ?_ | refine zA ?_ | refine zS ?_ | refine zL ?_)
        refine qc ?_
        (repeat refine qb ?_); refine qa ?_
        repeat (first | refine zR ?_ | refine zK ?_ | refine zM ?_ | refine zB ?_ | refine zA ?_ | refine zS ?_ | refine zL ?_)
        refine qc ?_
        (repeat refine qb ?_); refine qe rfl (fun hc => ?_) (fun hc => ?_)
        · (repeat refine qb ?_); refine qa ?_
          repeat (first | refine zR ?_ | refine zK ?_ | refine zM ?_ | refine zB ?_ | refine zA ?_ | refine zS ?_ | refine zL ?_)
          refine qi rfl (qd rfl rfl rfl rfl (zW) rfl rfl ?_)
          repeat (first | refine zR ?_ | refine zK ?_ | refine zM ?_ | refine zB ?_ | refine zA ?_ | refine zS ?_ | refine zL ?_)
          refine qc ?_
          (repeat refine qb ?_); refine qj ?_
          exact fin_b rfl rfl
        · cases hc
      | ok z =>
        rw [hz] at HZ
        (repeat refine qb ?_); refine qa ?_
        repeat (first | refine zR ?_ | refine zK ?_ | refine zM ?_ | refine zB ?_ | refine zA ?_ | refine zS ?_ | refine zL ?_)
        refine ql qg rfl rfl (cat_ok (a := a) (b := [32]) (by omega) (by simp)) rfl ?_
        rw [show (⟨⟨a⟩⟩ : ByteArray) ++ ⟨#[32]⟩ = ⟨⟨a ++ [32]⟩⟩ from app_l a [32]]
        repeat (first | refine zR ?_ | refine zK ?_ | refine zM ?_ | refine zB ?_ | refine zA ?_ | refine zS ?_ | refine zL ?_)
        refine ql qg rfl rfl (cat_ok (a := a ++ [32]) (b := b) (by rw [List.length_append]; simp; omega) (by omega)) rfl ?_
        rw [app_l, show a ++ [32] ++ b = a ++ 32 :: b by simp]
        repeat (first | refine zR ?_ | refine zK ?_ | refine zM ?_ | refine zB ?_ | refine zA ?_ | refine zS ?_ | refine zL ?_)
        refine qi rfl (zT rfl rfl rfl rfl (HZ) rfl rfl rfl ?_)
        repeat (first | refine zR ?_ | refine zK ?_ | refine zM ?_ | refine zB ?_ | refine zA ?_ | refine zS ?_ | refine zL ?_)
        repeat (first | refine zR ?_ | refine zK ?_ | refine zM ?_ | refine zB ?_ | refine zA ?_ | refine zS ?_ | refine zL ?_)
        refine qc ?_
        (repeat refine qb ?_); refine qa ?_
        repeat (first | refine zR ?_ | refine zK ?_ | refine zM ?_ | refine zB ?_ | refine zA ?_ | refine zS ?_ | refine zL ?_)
        refine qc ?_
        (repeat refine qb ?_); refine qe rfl (fun hc => ?_) (fun hc => ?_)
        · (repeat refine qb ?_); refine qa ?_
          repeat (first | refine zR ?_ | refine zK ?_ | refine zM ?_ | refine zB ?_ | refine zA ?_ | refine zS ?_ | refine zL ?_)
          refine qi rfl (qd rfl rfl rfl rfl (zW) rfl rfl ?_)
          repeat (first | refine zR ?_ | refine zK ?_ | refine zM ?_ | refine zB ?_ | refine zA ?_ | refine zS ?_ | refine zL ?_)
          refine qc ?_
          (repeat refine qb ?_); refine qj ?_
          exact fin_b rfl rfl
        · cases hc
    | ok y =>
      rw [hy] at HY
      (repeat refine qb ?_); refine qa ?_
      repeat (first | refine zR ?_ | refine zK ?_ | refine zM ?_ | refine zB ?_ | refine zA ?_ | refine zS ?_ | refine zL ?_)
      refine qi rfl (zT rfl rfl rfl rfl (HY) rfl rfl rfl ?_)
      repeat (first | refine zR ?_ | refine zK ?_ | refine zM ?_ | refine zB ?_ | refine zA ?_ | refine zS ?_ | refine zL ?_)
      repeat (first | refine zR ?_ | refine zK ?_ | refine zM ?_ | refine zB ?_ | refine zA ?_ | refine zS ?_ | refine zL ?_)
      refine qc ?_
      cases hz : lexL (a ++ 32 :: b) with
      | error ez =>
        rw [hz] at HZ
        (repeat refine qb ?_); refine qa ?_
        repeat (first | refine zR ?_ | refine zK ?_ | refine zM ?_ | refine zB ?_ | refine zA ?_ | refine zS ?_ | refine zL ?_)
        refine ql qg rfl rfl (cat_ok (a := a) (b := [32]) (by omega) (by simp)) rfl ?_
        rw [show (⟨⟨a⟩⟩ : ByteArray) ++ ⟨#[32]⟩ = ⟨⟨a ++ [32]⟩⟩ from app_l a [32]]
        repeat (first | refine zR ?_ | refine zK ?_ | refine zM ?_ | refine zB ?_ | refine zA ?_ | refine zS ?_ | refine zL ?_)
        refine ql qg rfl rfl (cat_ok (a := a ++ [32]) (b := b) (by rw [List.length_append]; simp; omega) (by omega)) rfl ?_
        rw [app_l, show a ++ [32] ++ b = a ++ 32 :: b by simp]
        repeat (first | refine zR ?_ | refine zK ?_ | refine zM ?_ | refine zB ?_ | refine zA ?_ | refine zS ?_ | refine zL ?_)
        refine qi rfl (zT rfl rfl rfl rfl (HZ) rfl rfl rfl ?_)
        repeat (first | refine zR ?_ | refine zK ?_ | refine zM ?_ | refine zB ?_ | refine zA ?_ | refine zS ?_ | refine zL ?_)
        repeat (first | refine zR ?_ | refine zK ?_ | refine zM ?_ | refine zB ?_ | refine zA ?_ | refine zS ?_ | refine zL ?_)
        refine qc ?_
        (repeat refine qb ?_); refine qa ?_
        repeat (first | refine zR ?_ | refine zK ?_ | refine zM ?_ | refine zB ?_ | refine zA ?_ | refine zS ?_ | refine zL ?_)
        refine qc ?_
        (repeat refine qb ?_); refine qe rfl (fun hc => ?_) (fun hc => ?_)
        · (repeat refine qb ?_); refine qa ?_
          repeat (first | refine zR ?_ | refine zK ?_ | refine zM ?_ | refine zB ?_ | refine zA ?_ | refine zS ?_ | refine zL ?_)
          refine qi rfl (qd rfl rfl rfl rfl (zW) rfl rfl ?_)
          repeat (first | refine zR ?_ | refine zK ?_ | refine zM ?_ | refine zB ?_ | refine zA ?_ | refine zS ?_ | refine zL ?_)
          refine qc ?_
          (repeat refine qb ?_); refine qj ?_
          exact fin_b rfl rfl
        · cases hc
      | ok z =>
        rw [hz] at HZ
        (repeat refine qb ?_); refine qa ?_
        repeat (first | refine zR ?_ | refine zK ?_ | refine zM ?_ | refine zB ?_ | refine zA ?_ | refine zS ?_ | refine zL ?_)
        refine ql qg rfl rfl (cat_ok (a := a) (b := [32]) (by omega) (by simp)) rfl ?_
        rw [show (⟨⟨a⟩⟩ : ByteArray) ++ ⟨#[32]⟩ = ⟨⟨a ++ [32]⟩⟩ from app_l a [32]]
        repeat (first | refine zR ?_ | refine zK ?_ | refine zM ?_ | refine zB ?_ | refine zA ?_ | refine zS ?_ | refine zL ?_)
        refine ql qg rfl rfl (cat_ok (a := a ++ [32]) (b := b) (by rw [List.length_append]; simp; omega) (by omega)) rfl ?_
        rw [app_l, show a ++ [32] ++ b = a ++ 32 :: b by simp]
        repeat (first | refine zR ?_ | refine zK ?_ | refine zM ?_ | refine zB ?_ | refine zA ?_ | refine zS ?_ | refine zL ?_)
        refine qi rfl (zT rfl rfl rfl rfl (HZ) rfl rfl rfl ?_)
        repeat (first | refine zR ?_ | refine zK ?_ | refine zM ?_ | refine zB ?_ | refine zA ?_ | refine zS ?_ | refine zL ?_)
        repeat (first | refine zR ?_ | refine zK ?_ | refine zM ?_ | refine zB ?_ | refine zA ?_ | refine zS ?_ | refine zL ?_)
        refine qc ?_
        (repeat refine qb ?_); refine qa ?_
        repeat (first | refine zR ?_ | refine zK ?_ | refine zM ?_ | refine zB ?_ | refine zA ?_ | refine zS ?_ | refine zL ?_)
        refine qc ?_
        (repeat refine qb ?_); refine qe rfl (fun hc => ?_) (fun hc => ?_)
        · (repeat refine qb ?_); refine qa ?_
          repeat (first | refine zR ?_ | refine zK ?_ | refine zM ?_ | refine zB ?_ | refine zA ?_ | refine zS ?_ | refine zL ?_)
          refine qi rfl (qd rfl rfl rfl rfl (zW) rfl rfl ?_)
          repeat (first | refine zR ?_ | refine zK ?_ | refine zM ?_ | refine zB ?_ | refine zA ?_ | refine zS ?_ | refine zL ?_)
          refine qc ?_
          (repeat refine qb ?_); refine qj ?_
          exact fin_b rfl rfl
        · cases hc
  | ok x =>
    have hj := lexL_join (c := 32) (by decide) b hx
    rw [hx] at HX
    (repeat refine qb ?_); refine qa ?_
    repeat (first | refine zR ?_ | refine zK ?_ | refine zM ?_ | refine zB ?_ | refine zA ?_ | refine zS ?_ | refine zL ?_)
    refine qi rfl (zT rfl rfl rfl rfl (HX) rfl rfl rfl ?_)
    repeat (first | refine zR ?_ | refine zK ?_ | refine zM ?_ | refine zB ?_ | refine zA ?_ | refine zS ?_ | refine zL ?_)
    repeat (first | refine zR ?_ | refine zK ?_ | refine zM ?_ | refine zB ?_ | refine zA ?_ | refine zS ?_ | refine zL ?_)
    refine qc ?_
    refine SW.wk (wk_frz (k := 29000) rfl) ?_
    cases hy : lexL b with
    | error eb =>
      rw [hy] at HY hj
      rw [show lexL (a ++ 32 :: b) = .error (eb + (a.length + 1)) from hj] at HZ
      have heb := err_le hy
      (repeat refine qb ?_); refine qa ?_
      repeat (first | refine zR ?_ | refine zK ?_ | refine zM ?_ | refine zB ?_ | refine zA ?_ | refine zS ?_ | refine zL ?_)
      refine qi rfl (zT rfl rfl rfl rfl (HY) rfl rfl rfl ?_)
      repeat (first | refine zR ?_ | refine zK ?_ | refine zM ?_ | refine zB ?_ | refine zA ?_ | refine zS ?_ | refine zL ?_)
      repeat (first | refine zR ?_ | refine zK ?_ | refine zM ?_ | refine zB ?_ | refine zA ?_ | refine zS ?_ | refine zL ?_)
      refine qc ?_
      (repeat refine qb ?_); refine qa ?_
      repeat (first | refine zR ?_ | refine zK ?_ | refine zM ?_ | refine zB ?_ | refine zA ?_ | refine zS ?_ | refine zL ?_)
      refine ql qg rfl rfl (cat_ok (a := a) (b := [32]) (by omega) (by simp)) rfl ?_
      rw [show (⟨⟨a⟩⟩ : ByteArray) ++ ⟨#[32]⟩ = ⟨⟨a ++ [32]⟩⟩ from app_l a [32]]
      repeat (first | refine zR ?_ | refine zK ?_ | refine zM ?_ | refine zB ?_ | refine zA ?_ | refine zS ?_ | refine zL ?_)
      refine ql qg rfl rfl (cat_ok (a := a ++ [32]) (b := b) (by rw [List.length_append]; simp; omega) (by omega)) rfl ?_
      rw [app_l, show a ++ [32] ++ b = a ++ 32 :: b by simp]
      repeat (first | refine zR ?_ | refine zK ?_ | refine zM ?_ | refine zB ?_ | refine zA ?_ | refine zS ?_ | refine zL ?_)
      refine qi rfl (zT rfl rfl rfl rfl (HZ) rfl rfl rfl ?_)
      repeat (first | refine zR ?_ | refine zK ?_ | refine zM ?_ | refine zB ?_ | refine zA ?_ | refine zS ?_ | refine zL ?_)
      repeat (first | refine zR ?_ | refine zK ?_ | refine zM ?_ | refine zB ?_ | refine zA ?_ | refine zS ?_ | refine zL ?_)
      refine qc ?_
      (repeat refine qb ?_); refine qa ?_
      repeat (first | refine zR ?_ | refine zK ?_ | refine zM ?_ | refine zB ?_ | refine zA ?_ | refine zS ?_ | refine zL ?_)
      refine qc ?_
      (repeat refine qb ?_); refine qe rfl (fun hc => ?_) (fun hc => ?_)
      · cases hc
      refine qq ?_
      (repeat refine qb ?_); refine qa ?_
      repeat (first | refine zR ?_ | refine zK ?_ | refine zM ?_ | refine zB ?_ | refine zA ?_ | refine zS ?_ | refine zL ?_)
      refine qc ?_
      (repeat refine qb ?_); refine qe rfl (fun hd => ?_) (fun hd => ?_)
      rotate_left
      · cases hd
      (repeat refine qb ?_); refine qa ?_
      repeat (first | refine zR ?_ | refine zK ?_ | refine zM ?_ | refine zB ?_ | refine zA ?_ | refine zS ?_ | refine zL ?_)
      rw [la]
      repeat (first | refine zR ?_ | refine zK ?_ | refine zM ?_ | refine zB ?_ | refine zA ?_ | refine zS ?_ | refine zL ?_)
      rw [show IntKind.i64.wrap ((eb : Int) + (a.length : Int)) = (eb : Int) + (a.length : Int) from IntWalk.i64_in _ (by omega), show IntKind.i64.wrap ((eb : Int) + (a.length : Int) + 1) = ((eb + (a.length + 1) : Nat) : Int) by rw [IntWalk.i64_in _ (by omega)]; omega]
      rw [show (((eb + (a.length + 1) : Nat) : Int) == ((eb + (a.length + 1) : Nat) : Int)) = true by simp]
      repeat (first | refine zR ?_ | refine zK ?_ | refine zM ?_ | refine zB ?_ | refine zA ?_ | refine zS ?_ | refine zL ?_)
      refine qi rfl (qd rfl rfl rfl rfl (zW) rfl rfl ?_)
      repeat (first | refine zR ?_ | refine zK ?_ | refine zM ?_ | refine zB ?_ | refine zA ?_ | refine zS ?_ | refine zL ?_)
      repeat (first | refine zR ?_ | refine zK ?_ | refine zM ?_ | refine zB ?_ | refine zA ?_ | refine zS ?_ | refine zL ?_)
      refine qc ?_
      (repeat refine qb ?_); refine qj ?_
      exact fin_b rfl rfl
    | ok y =>
      rw [hy] at HY hj
      rw [show lexL (a ++ 32 :: b) = .ok (x.dropLast ++ y.map (Tok.shift (a.length + 1))) from hj] at HZ
      (repeat refine qb ?_); refine qa ?_
      repeat (first | refine zR ?_ | refine zK ?_ | refine zM ?_ | refine zB ?_ | refine zA ?_ | refine zS ?_ | refine zL ?_)
      refine qi rfl (zT rfl rfl rfl rfl (HY) rfl rfl rfl ?_)
      repeat (first | refine zR ?_ | refine zK ?_ | refine zM ?_ | refine zB ?_ | refine zA ?_ | refine zS ?_ | refine zL ?_)
      repeat (first | refine zR ?_ | refine zK ?_ | refine zM ?_ | refine zB ?_ | refine zA ?_ | refine zS ?_ | refine zL ?_)
      refine qc ?_
      refine SW.wk (wk_frz (k := 35000) rfl) ?_
      (repeat refine qb ?_); refine qa ?_
      repeat (first | refine zR ?_ | refine zK ?_ | refine zM ?_ | refine zB ?_ | refine zA ?_ | refine zS ?_ | refine zL ?_)
      refine ql qg rfl rfl (cat_ok (a := a) (b := [32]) (by omega) (by simp)) rfl ?_
      rw [show (⟨⟨a⟩⟩ : ByteArray) ++ ⟨#[32]⟩ = ⟨⟨a ++ [32]⟩⟩ from app_l a [32]]
      repeat (first | refine zR ?_ | refine zK ?_ | refine zM ?_ | refine zB ?_ | refine zA ?_ | refine zS ?_ | refine zL ?_)
      refine ql qg rfl rfl (cat_ok (a := a ++ [32]) (b := b) (by rw [List.length_append]; simp; omega) (by omega)) rfl ?_
      rw [app_l, show a ++ [32] ++ b = a ++ 32 :: b by simp]
      repeat (first | refine zR ?_ | refine zK ?_ | refine zM ?_ | refine zB ?_ | refine zA ?_ | refine zS ?_ | refine zL ?_)
      refine qi rfl (zT rfl rfl rfl rfl (HZ) rfl rfl rfl ?_)
      repeat (first | refine zR ?_ | refine zK ?_ | refine zM ?_ | refine zB ?_ | refine zA ?_ | refine zS ?_ | refine zL ?_)
      repeat (first | refine zR ?_ | refine zK ?_ | refine zM ?_ | refine zB ?_ | refine zA ?_ | refine zS ?_ | refine zL ?_)
      refine qc ?_
      refine SW.wk (wk_frz (k := 44000) rfl) ?_
      (repeat refine qb ?_); refine qa ?_
      repeat (first | refine zR ?_ | refine zK ?_ | refine zM ?_ | refine zB ?_ | refine zA ?_ | refine zS ?_ | refine zL ?_)
      refine qc ?_
      (repeat refine qb ?_); refine qe rfl (fun hc => ?_) (fun hc => ?_)
      · cases hc
      refine qq ?_
      (repeat refine qb ?_); refine qa ?_
      repeat (first | refine zR ?_ | refine zK ?_ | refine zM ?_ | refine zB ?_ | refine zA ?_ | refine zS ?_ | refine zL ?_)
      refine qc ?_
      (repeat refine qb ?_); refine qe rfl (fun hd => ?_) (fun hd => ?_)
      · cases hd
      refine qq ?_
      have hxl := all_len hx
      have hyl := all_len hy
      have hat := at_le hy
      have hdl : x.dropLast.length = x.length - 1 := List.length_dropLast
      obtain ⟨z, hz⟩ : ∃ z, z = x.dropLast ++ y.map (Tok.shift (a.length + 1)) := ⟨_, rfl⟩
      have hzl : z.length = x.length - 1 + y.length := by rw [hz, List.length_append, hdl, List.length_map]
      have hz1 : ∀ (k : Nat) (h : k < z.length) (h1 : k < x.length - 1), z[k] = x[k]'(by omega) := fun k h h1 => by
        subst hz
        rw [List.getElem_append_left (by omega), List.getElem_dropLast]
      have hz2 : ∀ (k : Nat) (h : k < z.length) (h1 : ¬ k < x.length - 1), z[k] = Tok.shift (a.length + 1) (y[k - (x.length - 1)]'(by omega)) := fun k h h1 => by
        subst hz
        rw [List.getElem_append_right (by omega), List.getElem_map]
        simp only [hdl]
      rw [← hz]
      clear hz
      have lx : (x.map Tok.pv).length = x.length := by simp
      have ly : (y.map Tok.pv).length = y.length := by simp
      have lz : (z.map Tok.pv).length = z.length := by simp
      (repeat refine qb ?_); refine qa ?_
      repeat (first | refine zR ?_ | refine zK ?_ | refine zM ?_ | refine zB ?_ | refine zA ?_ | refine zS ?_ | refine zL ?_)
      rw [lx, ly, lz]
      repeat (first | refine zR ?_ | refine zK ?_ | refine zM ?_ | refine zB ?_ | refine zA ?_ | refine zS ?_ | refine zL ?_)
      rw [show IntKind.i64.wrap ((x.length : Int) + (y.length : Int)) = (x.length : Int) + (y.length : Int) from IntWalk.i64_in _ (by omega), show IntKind.i64.wrap ((x.length : Int) + (y.length : Int) - 1) = (z.length : Int) by rw [IntWalk.i64_in _ (by omega)]; omega]
      rw [show ((z.length : Int) != (z.length : Int)) = false by simp]
      repeat (first | refine zR ?_ | refine zK ?_ | refine zM ?_ | refine zB ?_ | refine zA ?_ | refine zS ?_ | refine zL ?_)
      refine qc ?_
      (repeat refine qb ?_); refine qe rfl (fun hq => ?_) (fun hq => ?_)
      · cases hq
      refine qq ?_
      (repeat refine qb ?_); refine qa ?_
      repeat (first | refine zR ?_ | refine zK ?_ | refine zM ?_ | refine zB ?_ | refine zA ?_ | refine zS ?_ | refine zL ?_)
      refine qc ?_
      (repeat refine qb ?_); refine zf ?_
      refine SW.wk (qv [0, 5, 8, 11, 80, 81, 82] [] rfl rfl) ?_
      refine sw_loop (fun m s => ∃ (k : Nat) (kk : Int), k ≤ z.length ∧ m = z.length - k ∧ kk = k ∧ s = ⟨118, [(0, .p (pL a)), (5, .p (toksP x)), (8, .p (toksP y)), (11, .p (toksP z)), (80, .p (toksP z)), (81, .p (pI (z.map Tok.pv).length)), (82, .p (pI kk))], []⟩) z.length ⟨0, 0, Nat.zero_le _, rfl, rfl, rfl⟩ ?_
      rintro m s ⟨k, _, hk, rfl, rfl, rfl⟩
      (repeat refine qb ?_); refine qa ?_
      repeat (first | refine zR ?_ | refine zK ?_ | refine zM ?_ | refine zB ?_ | refine zA ?_ | refine zS ?_ | refine zL ?_)
      refine qc ?_
      (repeat refine qb ?_); refine qe rfl (fun hlt => ?_) (fun hlt => ?_)
      · refine qq ?_
        rw [lz] at hlt
        simp only [decide_eq_true_eq] at hlt
        have hlt' : k < z.length := by omega
        (repeat refine qb ?_); refine zf ?_
        (repeat refine qb ?_); refine qa ?_
        repeat (first | refine zR ?_ | refine zK ?_ | refine zM ?_ | refine zB ?_ | refine zA ?_ | refine zS ?_ | refine zL ?_)
        refine qc ?_
        (repeat refine qb ?_); refine qa ?_
        repeat (first | refine zR ?_ | refine zK ?_ | refine zM ?_ | refine zB ?_ | refine zA ?_ | refine zS ?_ | refine zL ?_)
        refine qc ?_
        (repeat refine qb ?_); refine qa ?_
        repeat (first | refine zR ?_ | refine zK ?_ | refine zM ?_ | refine zB ?_ | refine zA ?_ | refine zS ?_ | refine zL ?_)
        rw [lx]
        repeat (first | refine zR ?_ | refine zK ?_ | refine zM ?_ | refine zB ?_ | refine zA ?_ | refine zS ?_ | refine zL ?_)
        rw [show IntKind.i64.wrap ((x.length : Int) - 1) = (x.length : Int) - 1 from IntWalk.i64_in _ (by omega)]
        by_cases h1 : k < x.length - 1
        · have hzk := hz1 k hlt' h1
          have hkx : k < x.length := by omega
          obtain ⟨t, ht⟩ : ∃ t, t = x[k] := ⟨_, rfl⟩
          rw [← ht] at hzk
          rw [show decide ((k : Int) < (x.length : Int) - 1) = true by simp; omega]
          refine qc ?_
          (repeat refine qb ?_); refine qe rfl (fun he => ?_) (fun he => ?_)
          rotate_left
          · cases he
          (repeat refine qb ?_); refine qa ?_
          repeat (first | refine zR ?_ | refine zK ?_ | refine zM ?_ | refine zB ?_ | refine zA ?_ | refine zS ?_ | refine zL ?_)
          refine ql qg rfl rfl (by rw [lx]; omega) rfl ?_
          rw [getD_map hkx, ← ht]
          repeat (first | refine zR ?_ | refine zK ?_ | refine zM ?_ | refine zB ?_ | refine zA ?_ | refine zS ?_ | refine zL ?_)
          refine qc ?_
          (repeat refine qb ?_); refine zU [] [(0, true), (1, true), (2, true), (3, true), (4, true), (5, true)] (by kernel_rfl) (by kernel_rfl) (by kernel_rfl) ?_
          repeat (first | refine yR ?_ | refine yK ?_ | refine yM ?_ | refine yB ?_ | refine yA ?_ | refine yS ?_ | refine yL ?_)
          refine zV qg rfl rfl rfl (by rw [lz]; omega) rfl ?_
          rw [getD_map hlt', hzk]
          repeat (first | refine yR ?_ | refine yK ?_ | refine yM ?_ | refine yB ?_ | refine yA ?_ | refine yS ?_ | refine yL ?_)
          refine zV qg rfl rfl (opR_neT t rfl rfl rfl rfl) rfl rfl ?_
          refine swm_nil ?_
          (repeat refine qb ?_); refine qe rfl (fun hf => ?_) (fun hf => ?_)
          · cases hf
          refine qq ?_
          (repeat refine qb ?_); refine qa ?_
          repeat (first | refine zR ?_ | refine zK ?_ | refine zM ?_ | refine zB ?_ | refine zA ?_ | refine zS ?_ | refine zL ?_)
          refine qc ?_
          refine ⟨_, _, ?_, qv [0, 5, 8, 11, 80, 81, 82] [] rfl rfl, k + 1, _, hlt', rfl, zk hlt' (by omega), rfl⟩
          omega
        · have hzk := hz2 k hlt' h1
          have hky : k - (x.length - 1) < y.length := by omega
          have hat2 := hat _ (List.getElem_mem hky)
          obtain ⟨t, ht⟩ : ∃ t, t = y[k - (x.length - 1)] := ⟨_, rfl⟩
          rw [← ht] at hzk hat2
          rw [show decide ((k : Int) < (x.length : Int) - 1) = false by simp; omega]
          refine qc ?_
          (repeat refine qb ?_); refine qe rfl (fun he => ?_) (fun he => ?_)
          · cases he
          (repeat refine qb ?_); refine qa ?_
          repeat (first | refine zR ?_ | refine zK ?_ | refine zM ?_ | refine zB ?_ | refine zA ?_ | refine zS ?_ | refine zL ?_)
          rw [lx]
          repeat (first | refine zR ?_ | refine zK ?_ | refine zM ?_ | refine zB ?_ | refine zA ?_ | refine zS ?_ | refine zL ?_)
          rw [show IntKind.i64.wrap ((k : Int) - (x.length : Int)) = (k : Int) - (x.length : Int) from IntWalk.i64_in _ (by omega), show IntKind.i64.wrap ((k : Int) - (x.length : Int) + 1) = ((k - (x.length - 1) : Nat) : Int) by rw [IntWalk.i64_in _ (by omega)]; omega]
          refine ql qg rfl rfl (by rw [ly]; omega) rfl ?_
          rw [getD_map hky, ← ht]
          repeat (first | refine zR ?_ | refine zK ?_ | refine zM ?_ | refine zB ?_ | refine zA ?_ | refine zS ?_ | refine zL ?_)
          refine qc ?_
          (repeat refine qb ?_); refine qa ?_
          repeat (first | refine zR ?_ | refine zK ?_ | refine zM ?_ | refine zB ?_ | refine zA ?_ | refine zS ?_ | refine zL ?_)
          rw [la]
          repeat (first | refine zR ?_ | refine zK ?_ | refine zM ?_ | refine zB ?_ | refine zA ?_ | refine zS ?_ | refine zL ?_)
          rw [show IntKind.i64.wrap ((t.at_ : Int) + (a.length : Int)) = (t.at_ : Int) + (a.length : Int) from IntWalk.i64_in _ (by omega), show IntKind.i64.wrap ((t.at_ : Int) + (a.length : Int) + 1) = ((t.at_ + (a.length + 1) : Nat) : Int) by rw [IntWalk.i64_in _ (by omega)]; omega]
          repeat (first | refine zR ?_ | refine zK ?_ | refine zM ?_ | refine zB ?_ | refine zA ?_ | refine zS ?_ | refine zL ?_)
          refine qc ?_
          (repeat refine qb ?_); refine zU [] [(0, true), (1, true), (2, true), (3, true), (4, true), (5, true)] (by kernel_rfl) (by kernel_rfl) (by kernel_rfl) ?_
          repeat (first | refine yR ?_ | refine yK ?_ | refine yM ?_ | refine yB ?_ | refine yA ?_ | refine yS ?_ | refine yL ?_)
          refine zV qg rfl rfl rfl (by rw [lz]; omega) rfl ?_
          rw [getD_map hlt', hzk]
          repeat (first | refine yR ?_ | refine yK ?_ | refine yM ?_ | refine yB ?_ | refine yA ?_ | refine yS ?_ | refine yL ?_)
          refine zV qg rfl rfl (opR_neT (Tok.shift (a.length + 1) t) rfl rfl rfl rfl) rfl rfl ?_
          refine swm_nil ?_
          (repeat refine qb ?_); refine qe rfl (fun hf => ?_) (fun hf => ?_)
          · cases hf
          refine qq ?_
          (repeat refine qb ?_); refine qa ?_
          repeat (first | refine zR ?_ | refine zK ?_ | refine zM ?_ | refine zB ?_ | refine zA ?_ | refine zS ?_ | refine zL ?_)
          refine qc ?_
          refine ⟨_, _, ?_, qv [0, 5, 8, 11, 80, 81, 82] [] rfl rfl, k + 1, _, hlt', rfl, zk hlt' (by omega), rfl⟩
          omega
      · refine sw_exit ?_
        (repeat refine qb ?_); refine qa ?_
        repeat (first | refine zR ?_ | refine zK ?_ | refine zM ?_ | refine zB ?_ | refine zA ?_ | refine zS ?_ | refine zL ?_)
        refine qi rfl (qd rfl rfl rfl rfl (zW) rfl rfl ?_)
        repeat (first | refine zR ?_ | refine zK ?_ | refine zM ?_ | refine zB ?_ | refine zA ?_ | refine zS ?_ | refine zL ?_)
        refine qc ?_
        (repeat refine qb ?_); refine qj ?_
        exact fin_b rfl rfl
end Go.Proofs.YtnojoaneboppnaaDoor
namespace Go.Proofs.YtnojoaneboppnaaDoor
set_option linter.unusedVariables false
set_option linter.unusedSimpArgs false
open Go.RowKit
inductive RelsP (w : World) : List PV → List Value → Prop
  | nil : RelsP w [] []
  | cons {x : PV} {u : Value} {xs : List PV} {us : List Value} (h : RelP (fun _ => True) w x u) (r : RelsP w xs us) : RelsP w (x :: xs) (u :: us)
theorem RelsP.get {w : World} {xs : List PV} {us : List Value} (h : RelsP w xs us) : us.length = xs.length ∧ ∀ (i : Nat) (s : PV) (u : Value), xs[i]? = some s → us[i]? = some u → RelP (fun _ => True) w s u := by
  induction h with
  | nil => exact ⟨rfl, fun i s u h => by simp at h⟩
  | cons h r ih =>
    refine ⟨by simp [ih.1], fun i s u hs hu => ?_⟩
    cases i with
    | zero => simp at hs hu; subst hs; subst hu; exact h
    | succ i => exact ih.2 i s u (by simpa using hs) (by simpa using hu)
theorem law_callsG {P : Program} {f : FuncId} {args : List PV} {us : List Value} {W : World} (hg : GlOk (entry W) fun _ => False) (H : Holds P f args (.p (.v (.bool true))) []) (hr : RelsP W args us) : Calls P f us.toArray W fun e w' => e = .returned (.bool true) ∧ Below W.heap.size W w' := by
  obtain ⟨h1, h2⟩ := hr.get
  refine (H.2 W (fun _ => False) us ⟨fun _ h => h.elim, hg⟩ h1 fun i s u hs hu => (h2 i s u hs hu).weak fun _ _ _ => fun h => h).mono fun e w' ⟨v, γ, he, hb, _, hv⟩ => ?_
  have := hv.v_inv
  subst this
  exact ⟨he, hb⟩
theorem rel_str {w : World} (n : ByteArray) : RelP (fun _ => True) w (.v (.string n)) (.string n) := .v rfl
end Go.Proofs.YtnojoaneboppnaaDoor
namespace Go.Proofs.YtnojoaneboppnaaDoor
set_option linter.unusedSimpArgs false
open Go.ChangeShapes Go.WideShapes Go.ChangeAt Go.RowKit
set_option linter.unusedVariables false
theorem law_liftL {H : Type} {enc : TypeId × Value → H} {C : Checked} {os : Os} {f : FuncId} {fn : Func} {s : ChangeSpec} {bt : TypeId} {laid : List (String × DataW Unit)}
    (own : ownKnob C.prog.godebug = none) (started : os.Started) (noInit : C.prog.inits.idxOf? f = none) (hfn : C.prog.funcs[f]? = some fn)
    (witness : ∃ (w : World) (tape : Tape) (i : Input), w.os = os ∧ (w.forCall tape i).Shaped C.prog ∧ i.vars = [] ∧ Input.okWide C.prog (w.forCall tape i) .any w.heap.size f i ∧
      ((s.pre enc C.prog fn [] false (w.forCall tape i).memory i.args ∧ laidMetH C.prog laid (w.forCall tape i).memory) ∧ sizedMet enc C.prog fn (OpenSpec.ofChange s) false (w.forCall tape i).memory i.args) ∧ ({} : Assume).holds C.prog (lone (Frame.enter C.prog f i.args .normal) [] (w.forCall tape i)))
    (hl : laidOutB C.prog = true) (hts : ∀ t ∈ fn.params.toList, C.prog.readableRec t = true ∧ t < C.prog.types.size) (hvars : s.vars = []) (hvt : s.plain.varTypes C.prog = [])
    (hspec : ∀ (W : World) (args : Array Value) (ds : List (DataW H)) (ps : List MemPlace), DataW.TrodAll enc C.prog W 0 (fun _ => true) true fn.params.toList args.toList ds ps → s.fn H ds = { results := [.lit (.bool true)], args := ds })
    (hres : fn.resultTypes = #[bt]) (hbt : C.prog.underlying bt = some .bool)
    (walk : ∀ (W : World) (base : Nat) (args : Array Value) (ds : List (DataW H)) (ps : List MemPlace), laidMetH C.prog laid W →
      (∀ (j : Nat) t v, fn.params[j]? = some t → args[j]? = some v → Value.okWide C.prog W .any base t v) →
      DataW.TrodAll enc C.prog W 0 (fun _ => true) true fn.params.toList args.toList ds ps →
      (∀ n ∈ DataW.weightsEach C.prog fn.params.toList ds, n ≤ reachBytes) →
      Calls C.prog f args W fun e W' => e = .returned (.bool true) ∧ Below W.heap.size W W') :
    ReturnsInHanded {} C os f .any (fun w args => (s.pre enc C.prog fn [] false w args ∧ laidMetH C.prog laid w) ∧ sizedMet enc C.prog fn (OpenSpec.ofChange s) false w args) (s.post enc C.prog fn false true false false) := by
  refine returnsInHanded_of_change_and (X := fun w _ => laidMetH C.prog laid w) (fun _ _ _ hh h => h.of_heap hh) own started noInit hfn witness ?_
  intro W base args ds gs before hval hW _ hsz hL _
  have hlt : ∀ p ∈ before, p.block < W.heap.size := fun p hp => hW.lt p hp
  have hW0 := hW
  obtain ⟨p, q, hA, hV, rfl, hz, hn⟩ := hW0
  rw [hvars] at hV
  obtain ⟨rfl, rfl⟩ := trodVars_none hV
  have hsp := hspec W args ds p hA
  refine (walk W base args ds p hL hval hA ?_).mono fun e W' ⟨he, hb⟩ => ?_
  · intro n hn
    rw [hvt, List.append_nil, List.append_nil] at hsz
    exact of_decide_eq_true (List.all_eq_true.1 hsz n hn)
  · subst he
    refine ⟨_, rfl, ds, [], p ++ [], [], p, [], hW, ?_, ?_, ?_, World.keptBut_mono (fun x hx => ⟨hx, Or.inr (Or.inl (by simpa using hx))⟩) (hb.frame (· ∈ p ++ [])), fun h => by cases h⟩
    · rw [List.append_nil, hsp, hres]
      exact trodAll_mk1 (shut_bool hbt _)
    · rw [List.append_nil, hsp]
      exact trodAll_below hl hb hts (fun x hx => hlt x (by simpa using hx)) (fun x hx => by simpa using hlt x (by simpa using hx)) hA
    · rw [List.append_nil, hsp, hvars]
      rfl
theorem qN {P : Program} {x : String × DataW Unit} {l : List (String × DataW Unit)} {W : World} (h : laidMet P (x :: l) W) : laidMet P l W := by
  obtain ⟨ps, ⟨g, t, cs, fuel, p, q, h1, h2, h3, h4, h5, h6⟩, hn, hb⟩ := h
  subst h6
  exact ⟨q, h5, (List.nodup_append.1 hn).2.1, fun b off hm => hb b off (List.mem_append_right _ hm)⟩
theorem block_of_tab {P : Program} {W : World} {name : String} {k : IntKind} {zs : List Int} {g : Nat} (h : Lib.TabIs P W name k zs) (hg : P.globalNamed name = some g) {us : List Value} (hu : us = zs.map fun z => Value.int k z) : g < W.heap.size ∧ ∃ ty m, W.heap[g]? = some (.cells us.toArray ty m) := by
  unfold Lib.TabIs World.var? at h
  rw [hg] at h
  simp only [Option.bind_some] at h
  split at h
  · rename_i cs ty m hb
    cases h
    exact ⟨(Array.getElem?_eq_some_iff.1 hb).1, ty, m, by rw [hb, hu]⟩
  · cases h
theorem err_of_reads {P : Program} {W : World} {name nm : String} {g t : Nat} {ms : Array (String × TypeId)} {d : DataW Unit} (hg : P.globalNamed name = some g) (ht : (P.globals[g]?).map (·.type) = some t) (hu : P.underlying t = some (.interface ms)) (h : Lib.VarReads P W name (.iface nm d)) :
    g < W.heap.size ∧ ∃ ev ty m, W.heap[g]? = some (.cells #[ev] ty m) ∧ errV ev = true := by
  obtain ⟨g', t', cs, fuel, p, h1, h2, h3, h4⟩ := h
  rw [hg] at h1
  cases h1
  rw [ht] at h2
  cases h2
  have hc : ∃ u v, cs.toList = [.iface u v] := by
    cases fuel with
    | zero => cases h4
    | succ fuel =>
      unfold DataW.trod at h4
      rw [hu] at h4
      generalize cs.toList = l at h4
      match l, h4 with
      | [.iface u v], _ => exact ⟨u, v, rfl⟩
      | [.nilIface], h4 => simp at h4
      | [], h4 => simp at h4
      | _ :: _ :: _, h4 => simp at h4
  obtain ⟨u, v, hc⟩ := hc
  have hc' : cs = #[.iface u v] := Array.toList_inj.1 hc
  subst hc'
  unfold World.var? at h3
  rw [hg] at h3
  simp only [Option.bind_some] at h3
  split at h3
  · rename_i cs ty m hb
    cases h3
    exact ⟨(Array.getElem?_eq_some_iff.1 hb).1, _, ty, m, hb, rfl⟩
  · cases h3
end Go.Proofs.YtnojoaneboppnaaDoor
namespace Go.Proofs.YtnojoaneboppnaaDoor
open Go.RowKit
theorem own_none : ownKnob Tryd.prog.godebug = none := by kernel_rfl
theorem gl_of_laid {rest : List (String × DataW Unit)} {W : World} (h : laidMet Tryd.prog (("math/bits.deBruijn32tab", Rows.laid_math_bits_deBruijn32tab) :: ("math/bits.deBruijn64tab", Rows.laid_math_bits_deBruijn64tab) :: ("internal/strconv.uint64pow10", Rows.laid_internal_strconv_uint64pow10) :: ("strconv.ErrRange", Rows.laid_strconv_ErrRange) :: rest) W) : GlOk (entry W) fun _ => False := by
  have b0 := block_of_tab (g := 4) (us := [.int .u8 0, .int .u8 1, .int .u8 28, .int .u8 2, .int .u8 29, .int .u8 14, .int .u8 24, .int .u8 3, .int .u8 30, .int .u8 22, .int .u8 20, .int .u8 15, .int .u8 25, .int .u8 17, .int .u8 4, .int .u8 8, .int .u8 31, .int .u8 27, .int .u8 13, .int .u8 23, .int .u8 21, .int .u8 19, .int .u8 16, .int .u8 7, .int .u8 26, .int .u8 12, .int .u8 18, .int .u8 6, .int .u8 11, .int .u8 5, .int .u8 10, .int .u8 9]) (Lib.tabIs_of_head (k := .u8) (zs := [0, 1, 28, 2, 29, 14, 24, 3, 30, 22, 20, 15, 25, 17, 4, 8, 31, 27, 13, 23, 21, 19, 16, 7, 26, 12, 18, 6, 11, 5, 10, 9]) (g := 4) (t := 109) (e := 5) (n := 32) (by kernel_rfl) (by kernel_rfl) Tryd.underlying109 Tryd.underlying5 (by kernel_rfl) (by kernel_rfl) h) (by kernel_rfl) rfl
  have b1 := block_of_tab (g := 5) (us := [.int .u8 0, .int .u8 1, .int .u8 56, .int .u8 2, .int .u8 57, .int .u8 49, .int .u8 28, .int .u8 3, .int .u8 61, .int .u8 58, .int .u8 42, .int .u8 50, .int .u8 38, .int .u8 29, .int .u8 17, .int .u8 4, .int .u8 62, .int .u8 47, .int .u8 59, .int .u8 36, .int .u8 45, .int .u8 43, .int .u8 51, .int .u8 22, .int .u8 53, .int .u8 39, .int .u8 33, .int .u8 30, .int .u8 24, .int .u8 18, .int .u8 12, .int .u8 5, .int .u8 63, .int .u8 55, .int .u8 48, .int .u8 27, .int .u8 60, .int .u8 41, .int .u8 37, .int .u8 16, .int .u8 46, .int .u8 35, .int .u8 44, .int .u8 21, .int .u8 52, .int .u8 32, .int .u8 23, .int .u8 11, .int .u8 54, .int .u8 26, .int .u8 40, .int .u8 15, .int .u8 34, .int .u8 20, .int .u8 31, .int .u8 10, .int .u8 25, .int .u8 14, .int .u8 19, .int .u8 9, .int .u8 13, .int .u8 8, .int .u8 7, .int .u8 6]) (Lib.tabIs_of_head (k := .u8) (zs := [0, 1, 56, 2, 57, 49, 28, 3, 61, 58, 42, 50, 38, 29, 17, 4, 62, 47, 59, 36, 45, 43, 51, 22, 53, 39, 33, 30, 24, 18, 12, 5, 63, 55, 48, 27, 60, 41, 37, 16, 46, 35, 44, 21, 52, 32, 23, 11, 54, 26, 40, 15, 34, 20, 31, 10, 25, 14, 19, 9, 13, 8, 7, 6]) (g := 5) (t := 110) (e := 5) (n := 64) (by kernel_rfl) (by kernel_rfl) Tryd.underlying110 Tryd.underlying5 (by kernel_rfl) (by kernel_rfl) (qN h)) (by kernel_rfl) rfl
  have b2 := block_of_tab (g := 1) (us := [.int .u64 1, .int .u64 10, .int .u64 100, .int .u64 1000, .int .u64 10000, .int .u64 100000, .int .u64 1000000, .int .u64 10000000, .int .u64 100000000, .int .u64 1000000000, .int .u64 10000000000, .int .u64 100000000000, .int .u64 1000000000000, .int .u64 10000000000000, .int .u64 100000000000000, .int .u64 1000000000000000, .int .u64 10000000000000000, .int .u64 100000000000000000, .int .u64 1000000000000000000, .int .u64 10000000000000000000]) (Lib.tabIs_of_head (k := .u64) (zs := [1, 10, 100, 1000, 10000, 100000, 1000000, 10000000, 100000000, 1000000000, 10000000000, 100000000000, 1000000000000, 10000000000000, 100000000000000, 1000000000000000, 10000000000000000, 100000000000000000, 1000000000000000000, 10000000000000000000]) (g := 1) (t := 95) (e := 49) (n := 20) (by kernel_rfl) (by kernel_rfl) Tryd.underlying95 Tryd.underlying49 (by kernel_rfl) (by kernel_rfl) (qN (qN h))) (by kernel_rfl) rfl
  have bE := err_of_reads (g := 3) (t := 69) (by kernel_rfl) (by kernel_rfl) Tryd.underlying69 (Lib.laidMet.reads (qN (qN (qN h))) (List.mem_cons_self ..))
  refine ⟨?_, fun g hg => ?_⟩
  rotate_left
  · have e : g = 3 := by simpa [ETab] using hg
    subst e
    exact ⟨bE.1, fun h => h, bE.2⟩
  intro g us hg
  simp only [GTab, qk] at hg
  repeat' split at hg
  all_goals first | cases hg; done | skip
  all_goals (subst_vars; cases hg)
  all_goals first | exact ⟨b0.1, fun h => h, b0.2⟩ | exact ⟨b1.1, fun h => h, b1.2⟩ | exact ⟨b2.1, fun h => h, b2.2⟩
noncomputable def lowB : Nat := (World.holding Tryd.prog default ⟨#[], #[], []⟩).heap.size
noncomputable def worldB (os : Os) : World :=
  let w0 := World.holding Tryd.prog os ⟨#[.cells #[.string ⟨#[118, 97, 108, 117, 101, 32, 111, 117, 116, 32, 111, 102, 32, 114, 97, 110, 103, 101]⟩] 108, .cells #[.string ⟨#[105, 110, 118, 97, 108, 105, 100, 32, 115, 121, 110, 116, 97, 120]⟩] 108], #[], []⟩
  { w0 with heap := ((((((((((w0.heap).modify 4 fun | .cells _ t frozen => .cells #[.int .u8 0, .int .u8 1, .int .u8 28, .int .u8 2, .int .u8 29, .int .u8 14, .int .u8 24, .int .u8 3, .int .u8 30, .int .u8 22, .int .u8 20, .int .u8 15, .int .u8 25, .int .u8 17, .int .u8 4, .int .u8 8, .int .u8 31, .int .u8 27, .int .u8 13, .int .u8 23, .int .u8 21, .int .u8 19, .int .u8 16, .int .u8 7, .int .u8 26, .int .u8 12, .int .u8 18, .int .u8 6, .int .u8 11, .int .u8 5, .int .u8 10, .int .u8 9] t frozen | o => o)).modify 5 fun | .cells _ t frozen => .cells #[.int .u8 0, .int .u8 1, .int .u8 56, .int .u8 2, .int .u8 57, .int .u8 49, .int .u8 28, .int .u8 3, .int .u8 61, .int .u8 58, .int .u8 42, .int .u8 50, .int .u8 38, .int .u8 29, .int .u8 17, .int .u8 4, .int .u8 62, .int .u8 47, .int .u8 59, .int .u8 36, .int .u8 45, .int .u8 43, .int .u8 51, .int .u8 22, .int .u8 53, .int .u8 39, .int .u8 33, .int .u8 30, .int .u8 24, .int .u8 18, .int .u8 12, .int .u8 5, .int .u8 63, .int .u8 55, .int .u8 48, .int .u8 27, .int .u8 60, .int .u8 41, .int .u8 37, .int .u8 16, .int .u8 46, .int .u8 35, .int .u8 44, .int .u8 21, .int .u8 52, .int .u8 32, .int .u8 23, .int .u8 11, .int .u8 54, .int .u8 26, .int .u8 40, .int .u8 15, .int .u8 34, .int .u8 20, .int .u8 31, .int .u8 10, .int .u8 25, .int .u8 14, .int .u8 19, .int .u8 9, .int .u8 13, .int .u8 8, .int .u8 7, .int .u8 6] t frozen | o => o)).modify 1 fun | .cells _ t frozen => .cells #[.int .u64 1, .int .u64 10, .int .u64 100, .int .u64 1000, .int .u64 10000, .int .u64 100000, .int .u64 1000000, .int .u64 10000000, .int .u64 100000000, .int .u64 1000000000, .int .u64 10000000000, .int .u64 100000000000, .int .u64 1000000000000, .int .u64 10000000000000, .int .u64 100000000000000, .int .u64 1000000000000000, .int .u64 10000000000000000, .int .u64 100000000000000000, .int .u64 1000000000000000000, .int .u64 10000000000000000000] t frozen | o => o)).modify 3 fun | .cells _ t frozen => .cells #[.iface 106 (.pointer (some ⟨lowB + 0, 0, none⟩))] t frozen | o => o)).modify 2 fun | .cells _ t frozen => .cells #[.iface 106 (.pointer (some ⟨lowB + 1, 0, none⟩))] t frozen | o => o) }
theorem worldB_met (os : Os) (args : Array Value) : laidMet Tryd.prog [("math/bits.deBruijn32tab", Rows.laid_math_bits_deBruijn32tab), ("math/bits.deBruijn64tab", Rows.laid_math_bits_deBruijn64tab), ("internal/strconv.uint64pow10", Rows.laid_internal_strconv_uint64pow10), ("strconv.ErrRange", Rows.laid_strconv_ErrRange), ("strconv.ErrSyntax", Rows.laid_strconv_ErrSyntax)] ((worldB os).forCall (fun _ _ => 0) ⟨#[], args, []⟩).memory :=
  laidMet_of_run' 100 (by kernel_rfl) (by kernel_rfl)
end Go.Proofs.YtnojoaneboppnaaDoor
