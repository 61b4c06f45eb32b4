/-
  What the statement leans on, part 4: LexD, LexP, FnsD, LexRuns, Within, LexLong, LexJoins, Bld, Quo, TextH, LexValues, LawKit0, LawL, Laid, Data0, ConvV.
-/
import Derived.Shelf.Strings.Builder1
import Derived.Test.YtnojoaneboppnaaDoorRows
import Derived.Lib.LaidTab
import Derived.Lib.LaidU8
import Derived.LaidLaws
import Derived.LaidHandle
import Derived.Stop.Joined
import Derived.ChangeSame
import Derived.ChangeVars
import Derived.JoinedOf
import Derived.RowKitTokens
import Derived.Test.YtnojoaneboppnaaDoorPk1
import Derived.Test.YtnojoaneboppnaaDoorPk2
import Derived.Test.YtnojoaneboppnaaDoorPk3
namespace Go.Proofs.YtnojoaneboppnaaDoor
set_option linter.unusedVariables false
set_option linter.unusedSimpArgs false
open Go.RowKit
set_option maxHeartbeats 4000000
set_option maxRecDepth 100000
def Tok.pv (t : Tok) : List PV := [pI t.kind, pI (t.at_ : Int), pI t.n, pL t.s]
def allR : Except Nat (List Tok) → SV
  | .ok _ => .tup [.row 0, .p (pI 0), .p (pI 0)]
  | .error e => .tup [.p nilV, .p (pI 5), .p (pI e)]
def allO : Except Nat (List Tok) → List (Nat × Box)
  | .ok a => [(0, .row 30 4 (a.map Tok.pv))]
  | .error _ => []
def joinE (o : List Tok) : Except Nat (List Tok) → Except Nat (List Tok)
  | .ok b => .ok (o ++ b)
  | .error e => .error e
def stA (l : Bs) (k : Int) (n : Int) (o : List Tok) (a b c : Int) (d : Bs) : St := ⟨52, [(0, .p (pL l)), (5, .row 0), (6, .ptr 6 0), (7, .p (pI k)), (8, .p (pI n))], [(6, .cells [.p (pI a), .p (pI b), .p (pI c), .p (pL d)]), (0, .row 30 4 (o.map Tok.pv))]⟩
def invA (l : Bs) (k : Nat) (o : List Tok) : Prop := k ≤ l.length ∧ o.length ≤ k ∧ lexL l = joinE o (lexF (l.length - k + 1) k (l.drop k))
theorem all_l (l : Bs) (hl : l.length ≤ 4096) : Holds Tryd.prog 9 [pL l] (allR (lexL l)) (allO (lexL l)) := by
  have ls : (⟨⟨l⟩⟩ : ByteArray).size = l.length := rfl
  refine qF (ts := [2,3,4]) Tryd.func9 (by kernel_rfl) rfl rfl rfl ?_
  (repeat refine qb ?_); refine qa ?_
  repeat (first | refine zR ?_ | refine zK ?_ | refine zM ?_ | refine zB ?_ | refine zA ?_ | refine zS ?_ | refine zL ?_)
  refine qc ?_
  (repeat refine qb ?_); refine sw_scope 0 (fun m s => ∃ (k : Nat) (o : List Tok) (n a b c : Int) (d : Bs), m = l.length - k ∧ invA l k o ∧ s = stA l k n o a b c d) rfl ?_ ?_
  · (repeat refine qb ?_); refine qa ?_
    repeat (first | refine zR ?_ | refine zK ?_ | refine zM ?_ | refine zB ?_ | refine zA ?_ | refine zS ?_ | refine zL ?_)
    rw [ls, show decide ((l.length : Int) > 4096) = false by simp; omega]
    refine qc ?_
    (repeat refine qb ?_); refine qe rfl (fun hc => ?_) (fun hc => ?_)
    · cases hc
    refine qq ?_
    (repeat refine qb ?_); refine qa ?_
    repeat (first | refine zR ?_ | refine zK ?_ | refine zM ?_ | refine zB ?_ | refine zA ?_ | refine zS ?_ | refine zL ?_)
    refine qc ?_
    (repeat refine qb ?_); refine qa ?_
    repeat (first | refine zR ?_ | refine zK ?_ | refine zM ?_ | refine zB ?_ | refine zA ?_ | refine zS ?_ | refine zL ?_)
    refine qc ?_
    (repeat refine qb ?_); refine qa ?_
    repeat (first | refine zR ?_ | refine zK ?_ | refine zM ?_ | refine zB ?_ | refine zA ?_ | refine zS ?_ | refine zL ?_)
    refine qc ?_
    refine SW.wk (wk_nil 5 900 30 4 rfl rfl) ?_
    refine SW.wk (qv [0, 5, 6, 7, 8] [(6, 6), (900, 0)] rfl rfl) ?_
    (repeat refine qb ?_); refine sw_label ?_
    change SW _ _ _ (stA l ((0 : Nat) : Int) 0 [] 0 0 0 [])
    obtain ⟨S, hS⟩ : ∃ S, S = stA l ((0 : Nat) : Int) 0 [] 0 0 0 [] := ⟨_, rfl⟩
    rw [← hS]
    obtain ⟨k, o, n, a, b, c, d, hi, hS2⟩ : ∃ (k : Nat) (o : List Tok) (n a b c : Int) (d : Bs), invA l k o ∧ S = stA l k n o a b c d := ⟨0, [], 0, 0, 0, 0, [], ⟨Nat.zero_le _, Nat.zero_le _, by unfold lexL; simp only [Nat.sub_zero, List.drop_zero]; cases lexF (l.length + 1) 0 l <;> rfl⟩, hS⟩
    clear hS
    subst hS2
    unfold stA
    have hE := hi.2.2
    have ho := hi.2.1
    have hk := hi.1
    (repeat refine qb ?_); refine qa ?_
    repeat (first | refine zR ?_ | refine zK ?_ | refine zM ?_ | refine zB ?_ | refine zA ?_ | refine zS ?_ | refine zL ?_)
    rw [ls]
    by_cases hend : k = l.length
    · have hfin : lexL l = .ok (o ++ [⟨7, k, 0, []⟩]) := by
        rw [hE, hend, List.drop_of_length_le (Nat.le_refl _)]; rfl
      rw [show ((k : Int) == (l.length : Int)) = true by rw [beq_iff_eq]; omega]
      refine qc ?_
      (repeat refine qb ?_); refine qe rfl (fun hc => ?_) (fun hc => ?_)
      rotate_left
      · cases hc
      (repeat refine qb ?_); refine qa ?_
      repeat (first | refine zR ?_ | refine zK ?_ | refine zM ?_ | refine zB ?_ | refine zA ?_ | refine zS ?_ | refine zL ?_)
      refine qi rfl (qy qg rfl rfl rfl rfl rfl rfl rfl rfl rfl rfl rfl rfl rfl rfl rfl rfl (by simp only [List.length_append, List.length_map, List.length_take, List.length_cons, List.length_nil]; unfold reachBytes; omega) (by simp only [List.length_append, List.length_map, List.length_take, List.length_cons, List.length_nil]; omega) ?_)
      repeat (first | refine zR ?_ | refine zK ?_ | refine zM ?_ | refine zB ?_ | refine zA ?_ | refine zS ?_ | refine zL ?_)
      refine qc ?_
      (repeat refine qb ?_); refine qj ?_
      rw [hfin, show allO (.ok (o ++ [⟨7, k, 0, []⟩])) = [(0, .row 30 4 (o.map Tok.pv ++ [[pI 7, pI (k : Int), pI 0, pL []]]))] by show [(0, Box.row 30 4 ((o ++ [_]).map Tok.pv))] = _; rw [List.map_append]; rfl]
      exact ⟨Or.inr rfl, _, _, [(20, 0)], Wk.refl _, rfl, rfl, rfl, rfl⟩
    have hlt : k < l.length := by omega
    rw [show ((k : Int) == (l.length : Int)) = false by rw [beq_eq_false_iff_ne]; omega]
    refine qc ?_
    (repeat refine qb ?_); refine qe rfl (fun hc => ?_) (fun hc => ?_)
    · cases hc
    refine qq ?_
    obtain ⟨ch, hch⟩ : ∃ ch, ch = l[k] := ⟨_, rfl⟩
    have hdr : l.drop k = ch :: l.drop (k + 1) := by rw [hch]; exact List.drop_eq_getElem_cons hlt
    have hst : lexF (l.length - k + 1) k (l.drop k) = if zu ch then lexF (l.length - k) (k + 1) (l.drop (k + 1)) else match tokL (ch :: l.drop (k + 1)) with
      | none => .error k
      | some t => match lexF (l.length - k) (k + t.len) ((ch :: l.drop (k + 1)).drop t.len) with
        | .ok b => .ok (t.at_ k :: b)
        | .error e => .error e := by rw [hdr]; rfl
    have hbl : zu ch = (decide (ch.toNat = 32) || decide (ch.toNat = 10)) := rfl
    (repeat refine qb ?_); refine qa ?_
    repeat (first | refine zR ?_ | refine zK ?_ | refine zM ?_ | refine zB ?_ | refine zA ?_ | refine zS ?_ | refine zL ?_)
    refine ql qg rfl rfl (by rw [ls]; omega) rfl ?_
    rw [qX hlt, ← hch]
    repeat (first | refine zR ?_ | refine zK ?_ | refine zM ?_ | refine zB ?_ | refine zA ?_ | refine zS ?_ | refine zL ?_)
    cases hb : zu ch with
    | true =>
      rw [hb, if_pos rfl] at hst
      have hi2 : invA l (k + 1) o := ⟨hlt, by omega, by rw [hE, hst, show l.length - k = l.length - (k + 1) + 1 by omega]⟩
      by_cases h32 : ch.toNat = 32
      · rw [show ((ch.toNat : Int) == 32) = true by rw [beq_iff_eq]; omega]
        repeat (first | refine zR ?_ | refine zK ?_ | refine zM ?_ | refine zB ?_ | refine zA ?_ | refine zS ?_ | refine zL ?_)
        refine qc ?_
        (repeat refine qb ?_); refine qe rfl (fun hq => ?_) (fun hq => ?_)
        rotate_left
        · cases hq
        (repeat refine qb ?_); refine qa ?_
        repeat (first | refine zR ?_ | refine zK ?_ | refine zM ?_ | refine zB ?_ | refine zA ?_ | refine zS ?_ | refine zL ?_)
        refine qc ?_
        rw [zk hlt (by omega)]
        (repeat refine qb ?_); refine sw_goto ?_
        first
          | exact ⟨rfl, _, _, qv [0, 5, 6, 7, 8] [(6, 6), (0, 0)] rfl rfl, k + 1, o, n, _, _, _, _, rfl, hi2, rfl⟩
          | exact ⟨rfl, _, _, (by omega), qv [0, 5, 6, 7, 8] [(6, 6), (0, 0)] rfl rfl, k + 1, o, n, _, _, _, _, rfl, hi2, rfl⟩
      · have h10 : ch.toNat = 10 := by rw [hb] at hbl; simp [h32] at hbl; exact hbl
        rw [show ((ch.toNat : Int) == 32) = false by rw [beq_eq_false_iff_ne]; omega]
        repeat (first | refine zR ?_ | refine zK ?_ | refine zM ?_ | refine zB ?_ | refine zA ?_ | refine zS ?_ | refine zL ?_)
        refine ql qg rfl rfl (by rw [ls]; omega) rfl ?_
        rw [qX hlt, ← hch]
        repeat (first | refine zR ?_ | refine zK ?_ | refine zM ?_ | refine zB ?_ | refine zA ?_ | refine zS ?_ | refine zL ?_)
        rw [show ((ch.toNat : Int) == 10) = true by rw [beq_iff_eq]; omega]
        repeat (first | refine zR ?_ | refine zK ?_ | refine zM ?_ | refine zB ?_ | refine zA ?_ | refine zS ?_ | refine zL ?_)
        refine qc ?_
        (repeat refine qb ?_); refine qe rfl (fun hq => ?_) (fun hq => ?_)
        rotate_left
        · cases hq
        (repeat refine qb ?_); refine qa ?_
        repeat (first | refine zR ?_ | refine zK ?_ | refine zM ?_ | refine zB ?_ | refine zA ?_ | refine zS ?_ | refine zL ?_)
        refine qc ?_
        rw [zk hlt (by omega)]
        (repeat refine qb ?_); refine sw_goto ?_
        first
          | exact ⟨rfl, _, _, qv [0, 5, 6, 7, 8] [(6, 6), (0, 0)] rfl rfl, k + 1, o, n, _, _, _, _, rfl, hi2, rfl⟩
          | exact ⟨rfl, _, _, (by omega), qv [0, 5, 6, 7, 8] [(6, 6), (0, 0)] rfl rfl, k + 1, o, n, _, _, _, _, rfl, hi2, rfl⟩
    | false =>
      rw [hb, if_neg (by simp)] at hst
      rw [hb] at hbl
      have hn2 : ch.toNat ≠ 32 ∧ ch.toNat ≠ 10 := by
        have := hbl.symm
        simp at this; exact this
      rw [show ((ch.toNat : Int) == 32) = false by rw [beq_eq_false_iff_ne]; omega]
      repeat (first | refine zR ?_ | refine zK ?_ | refine zM ?_ | refine zB ?_ | refine zA ?_ | refine zS ?_ | refine zL ?_)
      refine ql qg rfl rfl (by rw [ls]; omega) rfl ?_
      rw [qX hlt, ← hch]
      repeat (first | refine zR ?_ | refine zK ?_ | refine zM ?_ | refine zB ?_ | refine zA ?_ | refine zS ?_ | refine zL ?_)
      rw [show ((ch.toNat : Int) == 10) = false by rw [beq_eq_false_iff_ne]; omega]
      repeat (first | refine zR ?_ | refine zK ?_ | refine zM ?_ | refine zB ?_ | refine zA ?_ | refine zS ?_ | refine zL ?_)
      refine qc ?_
      (repeat refine qb ?_); refine qe rfl (fun hq => ?_) (fun hq => ?_)
      · cases hq
      refine qq ?_
      have HB := begins_l ch (l.drop (k + 1)) (by simp; omega)
      have hBT := beg_tok (ch :: l.drop (k + 1))
      generalize begR (ch :: l.drop (k + 1)) = B at HB hBT
      obtain ⟨bk, bv, bs, bn⟩ := B
      simp only at hBT
      (repeat refine qb ?_); refine qa ?_
      repeat (first | refine zR ?_ | refine zK ?_ | refine zM ?_ | refine zB ?_ | refine zA ?_ | refine zS ?_ | refine zL ?_)
      refine ql qg rfl rfl (by rw [ls]; omega) rfl ?_
      rw [ext_l, show (l.drop (Int.toNat (k : Int))).take (Int.toNat ((⟨⟨l⟩⟩ : ByteArray).size : Int) - Int.toNat (k : Int)) = ch :: l.drop (k + 1) from (List.take_of_length_le (by simp [ls])).trans hdr]
      repeat (first | refine zR ?_ | refine zK ?_ | refine zM ?_ | refine zB ?_ | refine zA ?_ | refine zS ?_ | refine zL ?_)
      refine qi rfl (qd rfl rfl rfl rfl (HB) rfl rfl ?_)
      repeat (first | refine zR ?_ | refine zK ?_ | refine zM ?_ | refine zB ?_ | refine zA ?_ | refine zS ?_ | refine zL ?_)
      repeat (first | refine zR ?_ | refine zK ?_ | refine zM ?_ | refine zB ?_ | refine zA ?_ | refine zS ?_ | refine zL ?_)
      refine qc ?_
      (repeat refine qb ?_); refine qa ?_
      repeat (first | refine zR ?_ | refine zK ?_ | refine zM ?_ | refine zB ?_ | refine zA ?_ | refine zS ?_ | refine zL ?_)
      by_cases h0 : bn = 0
      · rw [if_pos h0] at hBT
        rw [hBT] at hst
        have hfin : lexL l = .error k := by rw [hE, hst]; rfl
        rw [show ((bn : Int) == 0) = true by rw [beq_iff_eq]; omega]
        refine qc ?_
        (repeat refine qb ?_); refine qe rfl (fun hz => ?_) (fun hz => ?_)
        · (repeat refine qb ?_); refine qa ?_
          repeat (first | refine zR ?_ | refine zK ?_ | refine zM ?_ | refine zB ?_ | refine zA ?_ | refine zS ?_ | refine zL ?_)
          refine qc ?_
          (repeat refine qb ?_); refine qj ?_
          rw [hfin]
          exact ⟨Or.inr rfl, _, _, [], Wk.refl _, rfl, rfl, rfl, rfl⟩
        · cases hz
      rw [if_neg h0] at hBT
      have hlen := zX hBT
      simp only [List.length_cons, List.length_drop] at hlen
      rw [hBT] at hst
      simp only at hst
      have hi2 : invA l (k + bn) (o ++ [⟨bk, k, bv, bs⟩]) := by
        refine ⟨by omega, by simp; omega, ?_⟩
        rw [hE, hst, ← hdr, List.drop_drop]
        rw [lexF_fuel (f := l.length - k) (g := l.length - (k + bn) + 1) (by simp only [List.length_drop]; omega) (by simp only [List.length_drop]; omega)]
        cases lexF (l.length - (k + bn) + 1) (k + bn) (l.drop (k + bn)) with
        | ok b => show Except.ok (o ++ (_ :: b)) = Except.ok ((o ++ [_]) ++ b); rw [List.append_assoc]; rfl
        | error e => rfl
      rw [show ((bn : Int) == 0) = false by rw [beq_eq_false_iff_ne]; omega]
      refine qc ?_
      (repeat refine qb ?_); refine qe rfl (fun hz => ?_) (fun hz => ?_)
      · cases hz
      refine qq ?_
      (repeat refine qb ?_); refine qa ?_
      repeat (first | refine zR ?_ | refine zK ?_ | refine zM ?_ | refine zB ?_ | refine zA ?_ | refine zS ?_ | refine zL ?_)
      refine qc ?_
      (repeat refine qb ?_); refine qa ?_
      repeat (first | refine zR ?_ | refine zK ?_ | refine zM ?_ | refine zB ?_ | refine zA ?_ | refine zS ?_ | refine zL ?_)
      refine qi rfl (qy qg rfl rfl rfl rfl rfl rfl rfl rfl rfl rfl rfl rfl rfl rfl rfl rfl (by simp only [List.length_append, List.length_map, List.length_take, List.length_cons, List.length_nil]; unfold reachBytes; omega) (by simp only [List.length_append, List.length_map, List.length_take, List.length_cons, List.length_nil]; omega) ?_)
      repeat (first | refine zR ?_ | refine zK ?_ | refine zM ?_ | refine zB ?_ | refine zA ?_ | refine zS ?_ | refine zL ?_)
      refine qc ?_
      (repeat refine qb ?_); refine qa ?_
      repeat (first | refine zR ?_ | refine zK ?_ | refine zM ?_ | refine zB ?_ | refine zA ?_ | refine zS ?_ | refine zL ?_)
      refine qc ?_
      rw [show IntKind.i64.wrap ((k : Int) + (bn : Int)) = ((k + bn : Nat) : Int) from IntWalk.i64_in _ (by omega)]
      refine SW.wk (qv [0, 5, 6, 7, 8] [(6, 6), (48, 0)] rfl rfl) ?_
      have eO : (o ++ [(⟨bk, k, bv, bs⟩ : Tok)]).map Tok.pv = o.map Tok.pv ++ [[pI bk, pI (k : Int), pI bv, pL bs]] := by rw [List.map_append]; rfl
      change SW _ _ _ ⟨52, [(0, .p (pL l)), (5, .row 0), (6, .ptr 6 0), (7, .p (pI ((k + bn : Nat) : Int))), (8, .p (pI (bn : Int)))], [(6, .cells [.p (pI bk), .p (pI (k : Int)), .p (pI bv), .p (pL bs)]), (0, .row 30 4 (o.map Tok.pv ++ [[pI bk, pI (k : Int), pI bv, pL bs]]))]⟩
      rw [← eO]
      (repeat refine qb ?_); refine sw_goto ?_
      first
        | exact ⟨rfl, _, _, qv [0, 5, 6, 7, 8] [(6, 6), (0, 0)] rfl rfl, k + bn, o ++ [⟨bk, k, bv, bs⟩], (bn : Int), _, _, _, _, rfl, hi2, rfl⟩
        | exact ⟨rfl, _, _, (by omega), qv [0, 5, 6, 7, 8] [(6, 6), (0, 0)] rfl rfl, k + bn, o ++ [⟨bk, k, bv, bs⟩], (bn : Int), _, _, _, _, rfl, hi2, rfl⟩
  · rintro m s ⟨k, o, n, a, b, c, d, rfl, hi, rfl⟩
    unfold stA
    refine qb ?_
    refine qq ?_
    have hE := hi.2.2
    have ho := hi.2.1
    have hk := hi.1
    (repeat refine qb ?_); refine qa ?_
    repeat (first | refine zR ?_ | refine zK ?_ | refine zM ?_ | refine zB ?_ | refine zA ?_ | refine zS ?_ | refine zL ?_)
    rw [ls]
    by_cases hend : k = l.length
    · have hfin : lexL l = .ok (o ++ [⟨7, k, 0, []⟩]) := by
        rw [hE, hend, List.drop_of_length_le (Nat.le_refl _)]; rfl
      rw [show ((k : Int) == (l.length : Int)) = true by rw [beq_iff_eq]; omega]
      refine qc ?_
      (repeat refine qb ?_); refine qe rfl (fun hc => ?_) (fun hc => ?_)
      rotate_left
      · cases hc
      (repeat refine qb ?_); refine qa ?_
      repeat (first | refine zR ?_ | refine zK ?_ | refine zM ?_ | refine zB ?_ | refine zA ?_ | refine zS ?_ | refine zL ?_)
      refine qi rfl (qy qg rfl rfl rfl rfl rfl rfl rfl rfl rfl rfl rfl rfl rfl rfl rfl rfl (by simp only [List.length_append, List.length_map, List.length_take, List.length_cons, List.length_nil]; unfold reachBytes; omega) (by simp only [List.length_append, List.length_map, List.length_take, List.length_cons, List.length_nil]; omega) ?_)
      repeat (first | refine zR ?_ | refine zK ?_ | refine zM ?_ | refine zB ?_ | refine zA ?_ | refine zS ?_ | refine zL ?_)
      refine qc ?_
      (repeat refine qb ?_); refine qj ?_
      rw [hfin, show allO (.ok (o ++ [⟨7, k, 0, []⟩])) = [(0, .row 30 4 (o.map Tok.pv ++ [[pI 7, pI (k : Int), pI 0, pL []]]))] by show [(0, Box.row 30 4 ((o ++ [_]).map Tok.pv))] = _; rw [List.map_append]; rfl]
      exact ⟨Or.inr rfl, _, _, [(20, 0)], Wk.refl _, rfl, rfl, rfl, rfl⟩
    have hlt : k < l.length := by omega
    rw [show ((k : Int) == (l.length : Int)) = false by rw [beq_eq_false_iff_ne]; omega]
    refine qc ?_
    (repeat refine qb ?_); refine qe rfl (fun hc => ?_) (fun hc => ?_)
    · cases hc
    refine qq ?_
    obtain ⟨ch, hch⟩ : ∃ ch, ch = l[k] := ⟨_, rfl⟩
    have hdr : l.drop k = ch :: l.drop (k + 1) := by rw [hch]; exact List.drop_eq_getElem_cons hlt
    have hst : lexF (l.length - k + 1) k (l.drop k) = if zu ch then lexF (l.length - k) (k + 1) (l.drop (k + 1)) else match tokL (ch :: l.drop (k + 1)) with
      | none => .error k
      | some t => match lexF (l.length - k) (k + t.len) ((ch :: l.drop (k + 1)).drop t.len) with
        | .ok b => .ok (t.at_ k :: b)
        | .error e => .error e := by rw [hdr]; rfl
    have hbl : zu ch = (decide (ch.toNat = 32) || decide (ch.toNat = 10)) := rfl
    (repeat refine qb ?_); refine qa ?_
    repeat (first | refine zR ?_ | refine zK ?_ | refine zM ?_ | refine zB ?_ | refine zA ?_ | refine zS ?_ | refine zL ?_)
    refine ql qg rfl rfl (by rw [ls]; omega) rfl ?_
    rw [qX hlt, ← hch]
    repeat (first | refine zR ?_ | refine zK ?_ | refine zM ?_ | refine zB ?_ | refine zA ?_ | refine zS ?_ | refine zL ?_)
    cases hb : zu ch with
    | true =>
      rw [hb, if_pos rfl] at hst
      have hi2 : invA l (k + 1) o := ⟨hlt, by omega, by rw [hE, hst, show l.length - k = l.length - (k + 1) + 1 by omega]⟩
      by_cases h32 : ch.toNat = 32
      · rw [show ((ch.toNat : Int) == 32) = true by rw [beq_iff_eq]; omega]
        repeat (first | refine zR ?_ | refine zK ?_ | refine zM ?_ | refine zB ?_ | refine zA ?_ | refine zS ?_ | refine zL ?_)
        refine qc ?_
        (repeat refine qb ?_); refine qe rfl (fun hq => ?_) (fun hq => ?_)
        rotate_left
        · cases hq
        (repeat refine qb ?_); refine qa ?_
        repeat (first | refine zR ?_ | refine zK ?_ | refine zM ?_ | refine zB ?_ | refine zA ?_ | refine zS ?_ | refine zL ?_)
        refine qc ?_
        rw [zk hlt (by omega)]
        (repeat refine qb ?_); refine sw_goto ?_
        first
          | exact ⟨rfl, _, _, qv [0, 5, 6, 7, 8] [(6, 6), (0, 0)] rfl rfl, k + 1, o, n, _, _, _, _, rfl, hi2, rfl⟩
          | exact ⟨rfl, _, _, (by omega), qv [0, 5, 6, 7, 8] [(6, 6), (0, 0)] rfl rfl, k + 1, o, n, _, _, _, _, rfl, hi2, rfl⟩
      · have h10 : ch.toNat = 10 := by rw [hb] at hbl; simp [h32] at hbl; exact hbl
        rw [show ((ch.toNat : Int) == 32) = false by rw [beq_eq_false_iff_ne]; omega]
        repeat (first | refine zR ?_ | refine zK ?_ | refine zM ?_ | refine zB ?_ | refine zA ?_ | refine zS ?_ | refine zL ?_)
        refine ql qg rfl rfl (by rw [ls]; omega) rfl ?_
        rw [qX hlt, ← hch]
        repeat (first | refine zR ?_ | refine zK ?_ | refine zM ?_ | refine zB ?_ | refine zA ?_ | refine zS ?_ | refine zL ?_)
        rw [show ((ch.toNat : Int) == 10) = true by rw [beq_iff_eq]; omega]
        repeat (first | refine zR ?_ | refine zK ?_ | refine zM ?_ | refine zB ?_ | refine zA ?_ | refine zS ?_ | refine zL ?_)
        refine qc ?_
        (repeat refine qb ?_); refine qe rfl (fun hq => ?_) (fun hq => ?_)
        rotate_left
        · cases hq
        (repeat refine qb ?_); refine qa ?_
        repeat (first | refine zR ?_ | refine zK ?_ | refine zM ?_ | refine zB ?_ | refine zA ?_ | refine zS ?_ | refine zL ?_)
        refine qc ?_
        rw [zk hlt (by omega)]
        (repeat refine qb ?_); refine sw_goto ?_
        first
          | exact ⟨rfl, _, _, qv [0, 5, 6, 7, 8] [(6, 6), (0, 0)] rfl rfl, k + 1, o, n, _, _, _, _, rfl, hi2, rfl⟩
          | exact ⟨rfl, _, _, (by omega), qv [0, 5, 6, 7, 8] [(6, 6), (0, 0)] rfl rfl, k + 1, o, n, _, _, _, _, rfl, hi2, rfl⟩
    | false =>
      rw [hb, if_neg (by simp)] at hst
      rw [hb] at hbl
      have hn2 : ch.toNat ≠ 32 ∧ ch.toNat ≠ 10 := by
        have := hbl.symm
        simp at this; exact this
      rw [show ((ch.toNat : Int) == 32) = false by rw [beq_eq_false_iff_ne]; omega]
      repeat (first | refine zR ?_ | refine zK ?_ | refine zM ?_ | refine zB ?_ | refine zA ?_ | refine zS ?_ | refine zL ?_)
      refine ql qg rfl rfl (by rw [ls]; omega) rfl ?_
      rw [qX hlt, ← hch]
      repeat (first | refine zR ?_ | refine zK ?_ | refine zM ?_ | refine zB ?_ | refine zA ?_ | refine zS ?_ | refine zL ?_)
      rw [show ((ch.toNat : Int) == 10) = false by rw [beq_eq_false_iff_ne]; omega]
      repeat (first | refine zR ?_ | refine zK ?_ | refine zM ?_ | refine zB ?_ | refine zA ?_ | refine zS ?_ | refine zL ?_)
      refine qc ?_
      (repeat refine qb ?_); refine qe rfl (fun hq => ?_) (fun hq => ?_)
      · cases hq
      refine qq ?_
      have HB := begins_l ch (l.drop (k + 1)) (by simp; omega)
      have hBT := beg_tok (ch :: l.drop (k + 1))
      generalize begR (ch :: l.drop (k + 1)) = B at HB hBT
      obtain ⟨bk, bv, bs, bn⟩ := B
      simp only at hBT
      (repeat refine qb ?_); refine qa ?_
      repeat (first | refine zR ?_ | refine zK ?_ | refine zM ?_ | refine zB ?_ | refine zA ?_ | refine zS ?_ | refine zL ?_)
      refine ql qg rfl rfl (by rw [ls]; omega) rfl ?_
      rw [ext_l, show (l.drop (Int.toNat (k : Int))).take (Int.toNat ((⟨⟨l⟩⟩ : ByteArray).size : Int) - Int.toNat (k : Int)) = ch :: l.drop (k + 1) from (List.take_of_length_le (by simp [ls])).trans hdr]
      repeat (first | refine zR ?_ | refine zK ?_ | refine zM ?_ | refine zB ?_ | refine zA ?_ | refine zS ?_ | refine zL ?_)
      refine qi rfl (qd rfl rfl rfl rfl (HB) rfl rfl ?_)
      repeat (first | refine zR ?_ | refine zK ?_ | refine zM ?_ | refine zB ?_ | refine zA ?_ | refine zS ?_ | refine zL ?_)
      repeat (first | refine zR ?_ | refine zK ?_ | refine zM ?_ | refine zB ?_ | refine zA ?_ | refine zS ?_ | refine zL ?_)
      refine qc ?_
      (repeat refine qb ?_); refine qa ?_
      repeat (first | refine zR ?_ | refine zK ?_ | refine zM ?_ | refine zB ?_ | refine zA ?_ | refine zS ?_ | refine zL ?_)
      by_cases h0 : bn = 0
      · rw [if_pos h0] at hBT
        rw [hBT] at hst
        have hfin : lexL l = .error k := by rw [hE, hst]; rfl
        rw [show ((bn : Int) == 0) = true by rw [beq_iff_eq]; omega]
        refine qc ?_
        (repeat refine qb ?_); refine qe rfl (fun hz => ?_) (fun hz => ?_)
        · (repeat refine qb ?_); refine qa ?_
          repeat (first | refine zR ?_ | refine zK ?_ | refine zM ?_ | refine zB ?_ | refine zA ?_ | refine zS ?_ | refine zL ?_)
          refine qc ?_
          (repeat refine qb ?_); refine qj ?_
          rw [hfin]
          exact ⟨Or.inr rfl, _, _, [], Wk.refl _, rfl, rfl, rfl, rfl⟩
        · cases hz
      rw [if_neg h0] at hBT
      have hlen := zX hBT
      simp only [List.length_cons, List.length_drop] at hlen
      rw [hBT] at hst
      simp only at hst
      have hi2 : invA l (k + bn) (o ++ [⟨bk, k, bv, bs⟩]) := by
        refine ⟨by omega, by simp; omega, ?_⟩
        rw [hE, hst, ← hdr, List.drop_drop]
        rw [lexF_fuel (f := l.length - k) (g := l.length - (k + bn) + 1) (by simp only [List.length_drop]; omega) (by simp only [List.length_drop]; omega)]
        cases lexF (l.length - (k + bn) + 1) (k + bn) (l.drop (k + bn)) with
        | ok b => show Except.ok (o ++ (_ :: b)) = Except.ok ((o ++ [_]) ++ b); rw [List.append_assoc]; rfl
        | error e => rfl
      rw [show ((bn : Int) == 0) = false by rw [beq_eq_false_iff_ne]; omega]
      refine qc ?_
      (repeat refine qb ?_); refine qe rfl (fun hz => ?_) (fun hz => ?_)
      · cases hz
      refine qq ?_
      (repeat refine qb ?_); refine qa ?_
      repeat (first | refine zR ?_ | refine zK ?_ | refine zM ?_ | refine zB ?_ | refine zA ?_ | refine zS ?_ | refine zL ?_)
      refine qc ?_
      (repeat refine qb ?_); refine qa ?_
      repeat (first | refine zR ?_ | refine zK ?_ | refine zM ?_ | refine zB ?_ | refine zA ?_ | refine zS ?_ | refine zL ?_)
      refine qi rfl (qy qg rfl rfl rfl rfl rfl rfl rfl rfl rfl rfl rfl rfl rfl rfl rfl rfl (by simp only [List.length_append, List.length_map, List.length_take, List.length_cons, List.length_nil]; unfold reachBytes; omega) (by simp only [List.length_append, List.length_map, List.length_take, List.length_cons, List.length_nil]; omega) ?_)
      repeat (first | refine zR ?_ | refine zK ?_ | refine zM ?_ | refine zB ?_ | refine zA ?_ | refine zS ?_ | refine zL ?_)
      refine qc ?_
      (repeat refine qb ?_); refine qa ?_
      repeat (first | refine zR ?_ | refine zK ?_ | refine zM ?_ | refine zB ?_ | refine zA ?_ | refine zS ?_ | refine zL ?_)
      refine qc ?_
      rw [show IntKind.i64.wrap ((k : Int) + (bn : Int)) = ((k + bn : Nat) : Int) from IntWalk.i64_in _ (by omega)]
      refine SW.wk (qv [0, 5, 6, 7, 8] [(6, 6), (48, 0)] rfl rfl) ?_
      have eO : (o ++ [(⟨bk, k, bv, bs⟩ : Tok)]).map Tok.pv = o.map Tok.pv ++ [[pI bk, pI (k : Int), pI bv, pL bs]] := by rw [List.map_append]; rfl
      change SW _ _ _ ⟨52, [(0, .p (pL l)), (5, .row 0), (6, .ptr 6 0), (7, .p (pI ((k + bn : Nat) : Int))), (8, .p (pI (bn : Int)))], [(6, .cells [.p (pI bk), .p (pI (k : Int)), .p (pI bv), .p (pL bs)]), (0, .row 30 4 (o.map Tok.pv ++ [[pI bk, pI (k : Int), pI bv, pL bs]]))]⟩
      rw [← eO]
      (repeat refine qb ?_); refine sw_goto ?_
      first
        | exact ⟨rfl, _, _, qv [0, 5, 6, 7, 8] [(6, 6), (0, 0)] rfl rfl, k + bn, o ++ [⟨bk, k, bv, bs⟩], (bn : Int), _, _, _, _, rfl, hi2, rfl⟩
        | exact ⟨rfl, _, _, (by omega), qv [0, 5, 6, 7, 8] [(6, 6), (0, 0)] rfl rfl, k + bn, o ++ [⟨bk, k, bv, bs⟩], (bn : Int), _, _, _, _, rfl, hi2, rfl⟩
end Go.Proofs.YtnojoaneboppnaaDoor
namespace Go.Proofs.YtnojoaneboppnaaDoor
set_option linter.unusedVariables false
set_option linter.unusedSimpArgs false
set_option maxRecDepth 100000
theorem lex_one {t : TokP} (h : goodT t) : lexL (jl t.kind t.n t.s) = .ok [⟨t.kind, 0, t.n, t.s⟩, ⟨7, (jl t.kind t.n t.s).length, 0, []⟩] := by
  have ht := h [] (.inl rfl)
  have hl := good_len h
  rw [List.append_nil] at ht
  generalize jl t.kind t.n t.s = w at ht hl ⊢
  match w, hl with
  | c :: r, _ =>
    have hb := blank_tok (l := c :: r) rfl ht
    show lexF ((c :: r).length + 1) 0 (c :: r) = _
    rw [lexF, hb, if_neg (by simp), ht]
    simp only [List.drop_length, TokP.at_, Nat.zero_add]
    rfl
end Go.Proofs.YtnojoaneboppnaaDoor
namespace Go.Proofs.YtnojoaneboppnaaDoor
open Go.RowKit
noncomputable def fnsd12 : FnI := ⟨74, Tryd.f12.body.getD .skip, [.tmp 0], []⟩
theorem fnsd12_ok : FnOk Tryd.prog 12 fnsd12 := ⟨_, Tryd.func12, by kernel_rfl, by kernel_rfl, by kernel_rfl, by kernel_rfl, by kernel_rfl, by kernel_rfl⟩
noncomputable def fnsd11 : FnI := ⟨26, Tryd.f11.body.getD .skip, [.tmp 4], [(6, [(0, true), (1, true), (2, true), (3, true), (4, true), (5, false), (6, false), (7, false), (8, false)])]⟩
theorem fnsd11_ok : FnOk Tryd.prog 11 fnsd11 := ⟨_, Tryd.func11, by kernel_rfl, by kernel_rfl, by kernel_rfl, by kernel_rfl, by kernel_rfl, by kernel_rfl⟩
noncomputable def fnsd9 : FnI := ⟨52, Tryd.f9.body.getD .skip, [.tmp 2, .tmp 3, .tmp 4], []⟩
theorem fnsd9_ok : FnOk Tryd.prog 9 fnsd9 := ⟨_, Tryd.func9, by kernel_rfl, by kernel_rfl, by kernel_rfl, by kernel_rfl, by kernel_rfl, by kernel_rfl⟩
noncomputable def fnsd17 : FnI := ⟨106, Tryd.f17.body.getD .skip, [.cell 2 30, .tmp 3], [(30, [(0, true), (1, true), (2, false), (3, false), (4, false), (5, false), (6, false)])]⟩
theorem fnsd17_ok : FnOk Tryd.prog 17 fnsd17 := ⟨_, Tryd.func17, by kernel_rfl, by kernel_rfl, by kernel_rfl, by kernel_rfl, by kernel_rfl, by kernel_rfl⟩
noncomputable def fnsd31 : FnI := ⟨50, Tryd.f31.body.getD .skip, [.tmp 2, .tmp 3], []⟩
theorem fnsd31_ok : FnOk Tryd.prog 31 fnsd31 := ⟨_, Tryd.func31, by kernel_rfl, by kernel_rfl, by kernel_rfl, by kernel_rfl, by kernel_rfl, by kernel_rfl⟩
noncomputable def fnsd43 : FnI := ⟨38, Tryd.f43.body.getD .skip, [.tmp 2, .tmp 3], [(3, [(0, true), (1, true), (4, true), (5, true), (2, false), (3, true), (6, false), (7, false), (8, false), (9, false)])]⟩
theorem fnsd43_ok : FnOk Tryd.prog 43 fnsd43 := ⟨_, Tryd.func43, by kernel_rfl, by kernel_rfl, by kernel_rfl, by kernel_rfl, by kernel_rfl, by kernel_rfl⟩
noncomputable def fnsd42 : FnI := ⟨17, Tryd.f42.body.getD .skip, [.tmp 2], []⟩
theorem fnsd42_ok : FnOk Tryd.prog 42 fnsd42 := ⟨_, Tryd.func42, by kernel_rfl, by kernel_rfl, by kernel_rfl, by kernel_rfl, by kernel_rfl, by kernel_rfl⟩
noncomputable def fnsd49 : FnI := ⟨20, Tryd.f49.body.getD .skip, [.tmp 2], []⟩
theorem fnsd49_ok : FnOk Tryd.prog 49 fnsd49 := ⟨_, Tryd.func49, by kernel_rfl, by kernel_rfl, by kernel_rfl, by kernel_rfl, by kernel_rfl, by kernel_rfl⟩
noncomputable def fnsd29 : FnI := ⟨9, Tryd.f29.body.getD .skip, [.tmp 2], []⟩
theorem fnsd29_ok : FnOk Tryd.prog 29 fnsd29 := ⟨_, Tryd.func29, by kernel_rfl, by kernel_rfl, by kernel_rfl, by kernel_rfl, by kernel_rfl, by kernel_rfl⟩
noncomputable def fnsd30 : FnI := ⟨35, Tryd.f30.body.getD .skip, [.tmp 4, .tmp 5], []⟩
theorem fnsd30_ok : FnOk Tryd.prog 30 fnsd30 := ⟨_, Tryd.func30, by kernel_rfl, by kernel_rfl, by kernel_rfl, by kernel_rfl, by kernel_rfl, by kernel_rfl⟩
noncomputable def fnsd39 : FnI := ⟨20, Tryd.f39.body.getD .skip, [.tmp 4], []⟩
theorem fnsd39_ok : FnOk Tryd.prog 39 fnsd39 := ⟨_, Tryd.func39, by kernel_rfl, by kernel_rfl, by kernel_rfl, by kernel_rfl, by kernel_rfl, by kernel_rfl⟩
noncomputable def fnsd28 : FnI := ⟨12, Tryd.f28.body.getD .skip, [.tmp 2], []⟩
theorem fnsd28_ok : FnOk Tryd.prog 28 fnsd28 := ⟨_, Tryd.func28, by kernel_rfl, by kernel_rfl, by kernel_rfl, by kernel_rfl, by kernel_rfl, by kernel_rfl⟩
noncomputable def fnsd24 : FnI := ⟨49, Tryd.f24.body.getD .skip, [.tmp 2], []⟩
theorem fnsd24_ok : FnOk Tryd.prog 24 fnsd24 := ⟨_, Tryd.func24, by kernel_rfl, by kernel_rfl, by kernel_rfl, by kernel_rfl, by kernel_rfl, by kernel_rfl⟩
noncomputable def fnsd40 : FnI := ⟨17, Tryd.f40.body.getD .skip, [.tmp 2], []⟩
theorem fnsd40_ok : FnOk Tryd.prog 40 fnsd40 := ⟨_, Tryd.func40, by kernel_rfl, by kernel_rfl, by kernel_rfl, by kernel_rfl, by kernel_rfl, by kernel_rfl⟩
noncomputable def FnsDF : List (FuncId × FnI) := [(12, fnsd12),
  (11, fnsd11),
  (9, fnsd9),
  (17, fnsd17),
  (31, fnsd31),
  (43, fnsd43),
  (42, fnsd42),
  (49, fnsd49),
  (29, fnsd29),
  (30, fnsd30),
  (39, fnsd39),
  (28, fnsd28),
  (24, fnsd24),
  (40, fnsd40)]
theorem FnsDF_ok (C : FuncId → List PV → Option SV) : FOk Tryd.prog ⟨TTab, FnsDF, C⟩ := qE fnsd12_ok <|
  qE fnsd11_ok <|
  qE fnsd9_ok <|
  qE fnsd17_ok <|
  qE fnsd31_ok <|
  qE fnsd43_ok <|
  qE fnsd42_ok <|
  qE fnsd49_ok <|
  qE fnsd29_ok <|
  qE fnsd30_ok <|
  qE fnsd39_ok <|
  qE fnsd28_ok <|
  qE fnsd24_ok <|
  qE fnsd40_ok <| fok_nil
end Go.Proofs.YtnojoaneboppnaaDoor
namespace Go.Proofs.YtnojoaneboppnaaDoor
set_option linter.unusedVariables false
set_option linter.unusedSimpArgs false
open Go.RowKit
theorem zW : Holds Tryd.prog 12 [] (.p (.v (.bool true))) [] :=
  .ofW (evF1_ok (n := 5000) qg (ctab_ok _) (FnsDF_ok ctab) (by kernel_rfl) (by kernel_rfl))
end Go.Proofs.YtnojoaneboppnaaDoor
namespace Go.Proofs.YtnojoaneboppnaaDoor
set_option linter.unusedVariables false
set_option linter.unusedSimpArgs false
open Go.RowKit
set_option maxHeartbeats 1000000
end Go.Proofs.YtnojoaneboppnaaDoor
namespace Go.Proofs.YtnojoaneboppnaaDoor
set_option linter.unusedVariables false
set_option linter.unusedSimpArgs false
open Go.RowKit
set_option maxHeartbeats 4000000
set_option maxRecDepth 100000
end Go.Proofs.YtnojoaneboppnaaDoor
namespace Go.Proofs.YtnojoaneboppnaaDoor
set_option linter.unusedVariables false
set_option linter.unusedSimpArgs false
open Go.RowKit
set_option maxHeartbeats 4000000
set_option maxRecDepth 100000
theorem min_ok (c : Nat) (N : Int) (hN : 0 ≤ N) : 0 ≤ (0 : Int) ∧ (0 : Int) ≤ (if N < (c : Int) then N else (c : Int)) ∧ (if N < (c : Int) then N else (c : Int)) ≤ (c : Int) := by
  split <;> omega
theorem ext_min (l : Bs) (N : Int) (n : Nat) (hN : N = n) : (⟨⟨l⟩⟩ : ByteArray).extract (Int.toNat 0) (Int.toNat (if N < ((⟨⟨l⟩⟩ : ByteArray).size : Int) then N else ((⟨⟨l⟩⟩ : ByteArray).size : Int))) = ⟨⟨l.take n⟩⟩ := by
  subst hN
  have ls : (⟨⟨l⟩⟩ : ByteArray).size = l.length := rfl
  rw [ext_l, ls]
  congr 2
  show l.take _ = l.take n
  split
  · rfl
  · rw [List.take_of_length_le (by simp), List.take_of_length_le (by omega)]
end Go.Proofs.YtnojoaneboppnaaDoor
namespace Go.Proofs.YtnojoaneboppnaaDoor
open Go.RowKit Go.Shelf
def laysWB_ren : Go.Shelf.Ren := ⟨fun | 167 => 36 | 240 => 46 | 276 => 55 | n => n, fun | 70 => 65 | 5 => 5 | 75 => 69 | 0 => 0 | 72 => 67 | 37 => 34 | 4 => 4 | 164 => 85 | 80 => 73 | 9 => 9 | n => n, fun | n => n⟩
theorem laysWB : Go.Proofs.Lays.n167 Tryd.prog laysWB_ren := {
  mixed := by kernel_rfl
  f167 := Tryd.func36.trans (congrArg some (by kernel_rfl))
  f240 := Tryd.func46.trans (congrArg some (by kernel_rfl))
  f276 := Tryd.func55.trans (congrArg some (by kernel_rfl))
  t0 := Tryd.underlying0
  a0 := Tryd.isAgg0
  z0 := Tryd.sizeOf0
  v0 := Tryd.zeroValue0
  t4 := Tryd.underlying4
  a4 := Tryd.isAgg4
  z4 := Tryd.sizeOf4
  v4 := Tryd.zeroValue4
  t5 := Tryd.underlying5
  a5 := Tryd.isAgg5
  z5 := Tryd.sizeOf5
  v5 := Tryd.zeroValue5
  t9 := Tryd.underlying9
  a9 := Tryd.isAgg9
  z9 := Tryd.sizeOf9
  v9 := Tryd.zeroValue9
  t20 := Tryd.underlying20
  a20 := Tryd.isAgg20
  z20 := Tryd.sizeOf20
  v20 := Tryd.zeroValue20
  t37 := Tryd.underlying34
  a37 := Tryd.isAgg34
  z37 := Tryd.sizeOf34
  v37 := Tryd.zeroValue34
  t70 := Tryd.underlying65
  a70 := Tryd.isAgg65
  z70 := Tryd.sizeOf65
  v70 := Tryd.zeroValue65
  t72 := Tryd.underlying67
  a72 := Tryd.isAgg67
  z72 := Tryd.sizeOf67
  v72 := Tryd.zeroValue67
  t75 := Tryd.underlying69
  a75 := Tryd.isAgg69
  z75 := Tryd.sizeOf69
  v75 := Tryd.zeroValue69
  t164 := Tryd.underlying85
  a164 := Tryd.isAgg85
  z164 := Tryd.sizeOf85
  v164 := Tryd.zeroValue85
}
theorem extWB : Builder.Extra Tryd.prog laysWB_ren := {
  sizeBuilder := by kernel_rfl
  liesBuilder := by kernel_rfl
  t5 := Tryd.underlying5
  a5 := Tryd.isAgg5
  z5 := Tryd.sizeOf5
  v5 := Tryd.zeroValue5
  infoByte := by kernel_rfl
  cellsByte := by kernel_rfl
  sizeByte := by kernel_rfl
  neB5 := by decide
}
def laysWS_ren : Go.Shelf.Ren := ⟨fun | 166 => 37 | 240 => 46 | 276 => 55 | n => n, fun | 70 => 65 | 9 => 9 | 3 => 3 | 75 => 69 | 0 => 0 | 72 => 67 | 37 => 34 | 4 => 4 | 164 => 85 | 80 => 73 | 5 => 5 | n => n, fun | n => n⟩
theorem laysWS : Go.Proofs.Lays.n166 Tryd.prog laysWS_ren := {
  mixed := by kernel_rfl
  f166 := Tryd.func37.trans (congrArg some (by kernel_rfl))
  f240 := Tryd.func46.trans (congrArg some (by kernel_rfl))
  f276 := Tryd.func55.trans (congrArg some (by kernel_rfl))
  t0 := Tryd.underlying0
  a0 := Tryd.isAgg0
  z0 := Tryd.sizeOf0
  v0 := Tryd.zeroValue0
  t3 := Tryd.underlying3
  a3 := Tryd.isAgg3
  z3 := Tryd.sizeOf3
  v3 := Tryd.zeroValue3
  t4 := Tryd.underlying4
  a4 := Tryd.isAgg4
  z4 := Tryd.sizeOf4
  v4 := Tryd.zeroValue4
  t9 := Tryd.underlying9
  a9 := Tryd.isAgg9
  z9 := Tryd.sizeOf9
  v9 := Tryd.zeroValue9
  t20 := Tryd.underlying20
  a20 := Tryd.isAgg20
  z20 := Tryd.sizeOf20
  v20 := Tryd.zeroValue20
  t37 := Tryd.underlying34
  a37 := Tryd.isAgg34
  z37 := Tryd.sizeOf34
  v37 := Tryd.zeroValue34
  t70 := Tryd.underlying65
  a70 := Tryd.isAgg65
  z70 := Tryd.sizeOf65
  v70 := Tryd.zeroValue65
  t72 := Tryd.underlying67
  a72 := Tryd.isAgg67
  z72 := Tryd.sizeOf67
  v72 := Tryd.zeroValue67
  t75 := Tryd.underlying69
  a75 := Tryd.isAgg69
  z75 := Tryd.sizeOf69
  v75 := Tryd.zeroValue69
  t164 := Tryd.underlying85
  a164 := Tryd.isAgg85
  z164 := Tryd.sizeOf85
  v164 := Tryd.zeroValue85
}
theorem extWS : Builder.Extra Tryd.prog laysWS_ren := {
  sizeBuilder := by kernel_rfl
  liesBuilder := by kernel_rfl
  t5 := Tryd.underlying5
  a5 := Tryd.isAgg5
  z5 := Tryd.sizeOf5
  v5 := Tryd.zeroValue5
  infoByte := by kernel_rfl
  cellsByte := by kernel_rfl
  sizeByte := by kernel_rfl
  neB5 := by decide
}
def laysBS_ren : Go.Shelf.Ren := ⟨fun | 169 => 38 | n => n, fun | 70 => 65 | 9 => 9 | 0 => 0 | 72 => 67 | 37 => 34 | 127 => 77 | 3 => 3 | 5 => 5 | n => n, fun | n => n⟩
theorem laysBS : Go.Proofs.Lays.n169 Tryd.prog laysBS_ren := {
  mixed := by kernel_rfl
  f169 := Tryd.func38.trans (congrArg some (by kernel_rfl))
  t0 := Tryd.underlying0
  a0 := Tryd.isAgg0
  z0 := Tryd.sizeOf0
  v0 := Tryd.zeroValue0
  t3 := Tryd.underlying3
  a3 := Tryd.isAgg3
  z3 := Tryd.sizeOf3
  v3 := Tryd.zeroValue3
  t9 := Tryd.underlying9
  a9 := Tryd.isAgg9
  z9 := Tryd.sizeOf9
  v9 := Tryd.zeroValue9
  t37 := Tryd.underlying34
  a37 := Tryd.isAgg34
  z37 := Tryd.sizeOf34
  v37 := Tryd.zeroValue34
  t70 := Tryd.underlying65
  a70 := Tryd.isAgg65
  z70 := Tryd.sizeOf65
  v70 := Tryd.zeroValue65
  t72 := Tryd.underlying67
  a72 := Tryd.isAgg67
  z72 := Tryd.sizeOf67
  v72 := Tryd.zeroValue67
  t127 := Tryd.underlying77
  a127 := Tryd.isAgg77
  z127 := Tryd.sizeOf77
  v127 := Tryd.zeroValue77
}
theorem extBS : Builder.Extra Tryd.prog laysBS_ren := {
  sizeBuilder := by kernel_rfl
  liesBuilder := by kernel_rfl
  t5 := Tryd.underlying5
  a5 := Tryd.isAgg5
  z5 := Tryd.sizeOf5
  v5 := Tryd.zeroValue5
  infoByte := by kernel_rfl
  cellsByte := by kernel_rfl
  sizeByte := by kernel_rfl
  neB5 := by decide
}
theorem ju (B b : Nat) (bs : List Value) (c : Int) (w : World) (h : Lib.IsBuilder 67 5 B b bs w) (hlen : bs.length + 1 ≤ 140737488355328) (hBw : B ≤ w.heap.size) :
    Calls Tryd.prog 36 #[.pointer (some ⟨b, 0, none⟩), .int .u8 c] w fun e w' => e = .returned .nilIface ∧ (Lib.BuilderAt 67 5 B b (.pointer (some ⟨b, 0, none⟩)) (bs ++ [.int .u8 c]) w' ∧ Below B w w') :=
  Any.Builder_WriteByte laysWB extWB B b bs c w h hlen hBw
theorem writeString_any (B b : Nat) (bs : List Value) (s : ByteArray) (w : World) (h : Lib.IsBuilder 67 5 B b bs w) (hlen : bs.length + s.size ≤ 140737488355328) (hBw : B ≤ w.heap.size) :
    Calls Tryd.prog 37 #[.pointer (some ⟨b, 0, none⟩), .string s] w fun e w' => e = .returned (.tuple #[.int .i64 s.size, .nilIface]) ∧ (Lib.BuilderAt 67 5 B b (.pointer (some ⟨b, 0, none⟩)) (bs ++ Lib.strCells s) w' ∧ Below B w w') :=
  Any.Builder_WriteString laysWS extWS B b bs s w h hlen hBw
theorem builderText_any (B b : Nat) (l : List UInt8) (w : World) (h : Lib.IsBuilder 67 5 B b (Lib.byteCells l) w) (hBw : B ≤ w.heap.size) :
    Calls Tryd.prog 38 #[.pointer (some ⟨b, 0, none⟩)] w fun e w' => e = .returned (.string ⟨l.toArray⟩) ∧ Below B w w' :=
  Any.Builder_String_any laysBS extBS B b l w h hBw
end Go.Proofs.YtnojoaneboppnaaDoor
namespace Go.Proofs.YtnojoaneboppnaaDoor
open Go.RowKit
set_option linter.unusedSimpArgs false
set_option linter.unusedVariables false
attribute [local go_sem] ext_cell ext_frozen
attribute [local go_sem low] alloc_cell alloc_frozen
theorem qB_len (c : UInt8) : (qB c).length ≤ 3 := by unfold qB; split <;> simp
theorem flat_qB : ∀ l : List UInt8, (l.flatMap qB).length ≤ 3 * l.length
  | [] => Nat.le_refl _
  | c :: l => by
    have h1 := flat_qB l
    have h2 := qB_len c
    simp only [List.flatMap_cons, List.length_append, List.length_cons]
    omega
theorem q_len (s : ByteArray) (k : Nat) (hs : s.size ≤ 1000000) : (Lib.byteCells (34 :: (s.data.toList.take k).flatMap qB)).length ≤ 3000001 := by
  have h1 := flat_qB (s.data.toList.take k)
  have h2 : (s.data.toList.take k).length ≤ s.size := by rw [List.length_take]; exact Nat.le_trans (Nat.min_le_right _ _) (by simp)
  simp only [Lib.byteCells_length, List.length_cons]
  omega
def hexS : ByteArray := ⟨#[48, 49, 50, 51, 52, 53, 54, 55, 56, 57, 97, 98, 99, 100, 101, 102]⟩
theorem hex_at : ∀ d : Nat, d < 16 → hexS.extract d (d + 1) = ⟨#[hexD d]⟩
  | 0, _ => by decide | 1, _ => by decide | 2, _ => by decide | 3, _ => by decide | 4, _ => by decide | 5, _ => by decide | 6, _ => by decide | 7, _ => by decide
  | 8, _ => by decide | 9, _ => by decide | 10, _ => by decide | 11, _ => by decide | 12, _ => by decide | 13, _ => by decide | 14, _ => by decide | 15, _ => by decide
  | n + 16, h => absurd h (by omega)
theorem oct_cells {d f : Nat} (hd : d < 16) (hf : f < 16) : Lib.strCells ((⟨#[92]⟩ ++ hexS.extract d (d + 1)) ++ hexS.extract f (f + 1)) = Lib.byteCells [92, hexD d, hexD f] := by
  rw [hex_at d hd, hex_at f hf]; rfl
theorem oct_size {d f : Nat} (hd : d < 16) (hf : f < 16) : ((⟨#[92]⟩ ++ hexS.extract d (d + 1)) ++ hexS.extract f (f + 1)).size = 3 := by
  rw [hex_at d hd, hex_at f hf]; rfl
theorem q_step (s : ByteArray) {k : Nat} (hk : k < s.size) : Lib.byteCells (34 :: (s.data.toList.take (k + 1)).flatMap qB) = Lib.byteCells (34 :: (s.data.toList.take k).flatMap qB) ++ Lib.byteCells (qB s[k]) := by
  have hk' : k < s.data.toList.length := by simpa using hk
  rw [List.take_succ_eq_append_getElem hk', List.flatMap_append]
  have e : s.data.toList[k] = s[k] := by rw [Array.getElem_toList]; rfl
  rw [e]
  simp [Lib.byteCells]
set_option maxHeartbeats 2000000 in
theorem quoted_any (s : ByteArray) (w : World) (hs : s.size ≤ 1000000) :
    Calls Tryd.prog 27 #[.string s] w fun e w' => e = .returned (.string ⟨(quoteL s).toArray⟩) ∧ Below w.heap.size w w' := by
  have hfr := Lib.fresh_isBuilder 67 5 w
  go_enter Tryd.func27, Tryd.ntmps27
  go_wp2_with (go_at_call 36; refine (ju w.heap.size w.heap.size [] 34 _ hfr (by simp) (by simp)).mono ?_; rintro e w1 ⟨rfl, hA, hB⟩)
  replace hA := hide (show Lib.BuilderAt 67 5 w.heap.size w.heap.size (.pointer (some ⟨w.heap.size, 0, none⟩)) (Lib.byteCells (34 :: (s.data.toList.take 0).flatMap qB)) w1 from hA)
  replace hB : Below w.heap.size w w1 := ((Below.refl _ _).alloc (Nat.le_refl _) _).trans hB
  clear hfr
  go_loopw [4, 5, 9] (fun _ _ i wr => ∃ k : Nat, k ≤ s.size ∧ i = .int .i64 k ∧ Below w.heap.size w wr ∧ Hid (Lib.BuilderAt 67 5 w.heap.size w.heap.size (.pointer (some ⟨w.heap.size, 0, none⟩)) (Lib.byteCells (34 :: (s.data.toList.take k).flatMap qB)) wr)) (fun _ _ i _ => s.size - (intOf i).toNat)
  case atStart => exact ⟨0, Nat.zero_le _, rfl, hB, hA⟩
  case round =>
    clear hA hB
    obtain ⟨k, hk, rfl, hB, hA⟩ := hrel
    by_cases hlt : k < s.size
    · skip
      go_upto_region 6 with (fail)
      refine wp_spec (by kernel_rfl) ?_
      repeat (refine js ?_; intro K hK; go_big_quiet_op; go_big_quiet_on)
      refine spec_nil ?_
      intro us
      simp only [junk, Act.put, List.setIfInBounds_toArray, List.set_cons_zero, List.set_cons_succ]
      go_upto_region 7 with (fail)
      refine wp_spec (by kernel_rfl) ?_
      repeat (refine js ?_; intro K hK; go_big_quiet_op; go_big_quiet_on)
      refine spec_nil ?_
      intro us
      simp only [junk, Act.put, List.setIfInBounds_toArray, List.set_cons_zero, List.set_cons_succ]
      have hl := q_len s k hs
      have hsz := hB.size
      go_upto_region 8 with (go_at_call 36; refine (ju _ _ _ _ _ (Or.inr hA.out) (by omega) hsz).mono ?_; rintro e w2 ⟨rfl, hA2, hB2⟩)
      · rename_i h
        have ho : oddB s[k].toNat = true := by revert h; unfold oddB; simp; omega
        replace ho := hide ho
        clear h
        obtain ⟨c, hc⟩ : ∃ c : Nat, c = s[k].toNat := ⟨_, rfl⟩
        rw [← hc]
        have hc2 : c < 256 := by rw [hc]; exact UInt8.toNat_lt _
        obtain ⟨d, hd⟩ : ∃ d : Nat, d = c / 16 := ⟨_, rfl⟩
        obtain ⟨f, hf⟩ : ∃ f : Nat, f = c % 16 := ⟨_, rfl⟩
        have e1 : (c : Int) / 16 = d := by omega
        have e2 : ((d : Int) + 1) % 256 = d + 1 := by omega
        have e3 : (d : Int) ≤ d + 1 := by omega
        have e4 : (d : Int) + 1 ≤ 16 := by omega
        have e5 : (0 : Int) ≤ d := by omega
        have e6 : (c : Int) % 16 = f := by omega
        have e7 : ((f : Int) + 1) % 256 = f + 1 := by omega
        have e8 : (f : Int) + 1 ≤ 16 := by omega
        replace hc := hide hc
        replace hd := hide hd
        replace hf := hide hf
        have hd2 : d < 16 := by have := hd.out; omega
        have hf2 : f < 16 := by have := hf.out; omega
        have hw : w.heap.size ≤ wr.drew.heap.size := by simp; omega
        refine wp_region_moveB (w.heap.size) [(0, true), (1, true), (2, true), (3, true), (4, true), (5, true), (6, true), (7, true), (8, true), (9, true), (10, true), (11, true), (12, true), (13, true), (14, false)] (by kernel_rfl) (by kernel_rfl) (by kernel_rfl) ?_
        repeat (first | (refine moveB_read (by rfl) (by rfl) (by rfl) ?_; intro K hK; go_big_quiet_op; go_big_quiet_on) | (refine moveB_skip (by rfl) (by rfl) ?_; simp only [Act.put, List.setIfInBounds_toArray, List.set_cons_zero, List.set_cons_succ]))
        refine moveB_act (by rfl) (by rfl) ?_; intro Q' hQ'
        go_wp2_with (fail)
        (refine (writeString_any _ _ _ _ _ (Or.inr hA.out.drew) (by have := oct_size hd2 hf2; unfold hexS at this; rw [this]; omega) hw).mono ?_; rintro e w2 ⟨rfl, hA2, hB2⟩)
        go_wp2
        refine hQ'.out _ _ ?_ ?_
        · exact (by repeat (first | exact Below.refl _ _ | assumption | refine Below.alloc ?_ (by first | omega | (simp; omega)) _ | refine Below.drew ?_ | refine below_drewl ?_ | exact Below.mono (by assumption) (by omega)))
        clear hQ' Q'
        repeat (first | (refine moveB_read (by rfl) (by rfl) (by rfl) ?_; intro K hK; go_big_quiet_op; go_big_quiet_on) | (refine moveB_skip (by rfl) (by rfl) ?_; simp only [Act.put, List.setIfInBounds_toArray, List.set_cons_zero, List.set_cons_succ]))
        refine moveB_done ?_
        go_wp2
        go_roundw
        case rel =>
          refine ⟨k + 1, by omega, by go_num, hB.drew.trans hB2, hide ?_⟩
          have e := oct_cells hd2 hf2
          unfold hexS at e
          rw [e] at hA2
          have e2 : qB s[k] = [92, hexD d, hexD f] := by unfold qB; rw [if_pos ho.out, hd.out, hf.out, hc.out]
          rw [q_step s hlt, e2]
          exact hA2
        case measure => simp [intOf]; omega
      · rename_i h
        have ho : oddB s[k].toNat = false := by revert h; unfold oddB; simp; omega
        clear h
        go_roundw
        case rel =>
          refine ⟨k + 1, by omega, by go_num, hB.trans hB2, hide ?_⟩
          have e2 : qB s[k] = [s[k]] := by unfold qB; rw [if_neg (by rw [ho]; simp)]
          rw [q_step s hlt, e2]
          exact hA2
        case measure => simp [intOf]; omega
    · obtain rfl : k = s.size := by omega
      have hl := q_len s s.size hs
      have hsz := hB.size
      have e3 : Lib.byteCells (34 :: (s.data.toList.take s.size).flatMap qB) ++ [Value.int .u8 34] = Lib.byteCells (quoteL s) := by
        rw [List.take_of_length_le (by simp)]
        simp [Lib.byteCells, quoteL]
      go_wp2_with (first | (go_at_call 36; refine (ju _ _ _ 34 _ (Or.inr hA.out) (by omega) hsz).mono ?_; rintro e w2 ⟨rfl, hA2, hB2⟩; rw [e3] at hA2; have hsz2 := hB2.size; replace hA2 := hide hA2) | (go_at_call 38; refine (builderText_any _ _ (quoteL s) _ (Or.inr hA2.out) (by omega)).mono ?_; rintro e w3 ⟨rfl, hB3⟩))
      go_ret
      exact ⟨rfl, (hB.trans hB2).trans hB3⟩
end Go.Proofs.YtnojoaneboppnaaDoor
namespace Go.Proofs.YtnojoaneboppnaaDoor
set_option linter.unusedVariables false
set_option linter.unusedSimpArgs false
open Go.RowKit
set_option maxHeartbeats 4000000
def quoteB (s : ByteArray) : ByteArray := ⟨(quoteL s).toArray⟩
def textS (v : Val) : ByteArray :=
  if !v.right then ⟨#[]⟩
  else if v.kind = 1 then (if v.n = 1 then ⟨#[116, 114, 117, 101]⟩ else ⟨#[102, 97, 108, 115, 101]⟩)
  else if v.kind = 4 then ⟨#[64]⟩ ++ ⟨⟨jq v.n⟩⟩
  else if v.kind = 5 then ⟨#[35]⟩ ++ v.s
  else if v.kind = 3 then quoteB v.s
  else ⟨⟨jq v.n⟩⟩
theorem decF_len : ∀ f u : Nat, (decF f u).length ≤ f
  | 0, _ => Nat.le_refl _
  | f + 1, u => by
    rw [decF]
    cases Nat.blt u 10 with
    | true => simp
    | false =>
      have := decF_len f (u / 10)
      simp
      omega
theorem itoaF_len (n : Int) : (jq n).length ≤ 21 := by
  unfold jq
  cases n with
  | ofNat u => exact Nat.le_trans (decF_len 20 u) (by omega)
  | negSucc u =>
    have := decF_len 20 (u + 1)
    simp only [List.length_cons]
    omega
theorem quoted_h (s : ByteArray) (hs : s.size ≤ 1000000) : Holds Tryd.prog 27 [pS s] (.p (pS (quoteB s))) [] :=
  .of_calls Tryd.func27 (by kernel_rfl) rfl (fun w vs hl hr => by
    obtain ⟨u, rfl⟩ := one_arg hl
    have h := jr (hr 0 _ u rfl rfl) rfl
    subst h
    exact quoted_any s w hs) rfl fun w => .p (.v rfl)
theorem fmtBool1_h (b : Bool) : Holds Tryd.prog 34 [pB b] (.p (pS (if b then ⟨#[116, 114, 117, 101]⟩ else ⟨#[102, 97, 108, 115, 101]⟩))) [] := by
  cases b with
  | true =>
    rw [if_pos rfl]
    refine qF (ts := [2]) Tryd.func34 (by kernel_rfl) rfl rfl rfl ?_
    (repeat refine qb ?_); refine qa ?_
    repeat (first | refine zR ?_ | refine zK ?_ | refine zM ?_ | refine zB ?_ | refine zA ?_ | refine zS ?_ | refine zL ?_)
    refine qc ?_
    (repeat refine qb ?_); refine qa ?_
    repeat (first | refine zR ?_ | refine zK ?_ | refine zM ?_ | refine zB ?_ | refine zA ?_ | refine zS ?_ | refine zL ?_)
    refine qc ?_
    (repeat refine qb ?_); refine qe rfl (fun h => ?_) (fun h => ?_)
    · (repeat refine qb ?_); refine qa ?_
      repeat (first | refine zR ?_ | refine zK ?_ | refine zM ?_ | refine zB ?_ | refine zA ?_ | refine zS ?_ | refine zL ?_)
      refine qc ?_
      (repeat refine qb ?_); refine qj ?_
      exact ⟨Or.inr rfl, _, _, [], Wk.refl _, rfl, rfl, rfl, rfl⟩
    · cases h
  | false =>
    rw [if_neg (by simp)]
    refine qF (ts := [2]) Tryd.func34 (by kernel_rfl) rfl rfl rfl ?_
    (repeat refine qb ?_); refine qa ?_
    repeat (first | refine zR ?_ | refine zK ?_ | refine zM ?_ | refine zB ?_ | refine zA ?_ | refine zS ?_ | refine zL ?_)
    refine qc ?_
    (repeat refine qb ?_); refine qa ?_
    repeat (first | refine zR ?_ | refine zK ?_ | refine zM ?_ | refine zB ?_ | refine zA ?_ | refine zS ?_ | refine zL ?_)
    refine qc ?_
    (repeat refine qb ?_); refine qe rfl (fun h => ?_) (fun h => ?_)
    · cases h
    · refine qq ?_
      (repeat refine qb ?_); refine qa ?_
      repeat (first | refine zR ?_ | refine zK ?_ | refine zM ?_ | refine zB ?_ | refine zA ?_ | refine zS ?_ | refine zL ?_)
      refine qc ?_
      (repeat refine qb ?_); refine qj ?_
      exact ⟨Or.inr rfl, _, _, [], Wk.refl _, rfl, rfl, rfl, rfl⟩
theorem fmtBool_h (b : Bool) : Holds Tryd.prog 25 [pB b] (.p (pS (if b then ⟨#[116, 114, 117, 101]⟩ else ⟨#[102, 97, 108, 115, 101]⟩))) [] := by
  refine qF (ts := [2]) Tryd.func25 (by kernel_rfl) rfl rfl rfl ?_
  (repeat refine qb ?_); refine qa ?_
  repeat (first | refine zR ?_ | refine zK ?_ | refine zM ?_ | refine zB ?_ | refine zA ?_ | refine zS ?_ | refine zL ?_)
  refine qc ?_
  (repeat refine qb ?_); refine qa ?_
  repeat (first | refine zR ?_ | refine zK ?_ | refine zM ?_ | refine zB ?_ | refine zA ?_ | refine zS ?_ | refine zL ?_)
  refine qi rfl (qd rfl rfl rfl rfl (fmtBool1_h b) rfl rfl ?_)
  repeat (first | refine zR ?_ | refine zK ?_ | refine zM ?_ | refine zB ?_ | refine zA ?_ | refine zS ?_ | refine zL ?_)
  refine qc ?_
  (repeat refine qb ?_); refine qj ?_
  exact ⟨Or.inr rfl, _, _, [], Wk.refl _, rfl, rfl, rfl, rfl⟩
theorem right_size {v : Val} (h : v.right = true) (hk : v.kind = 3) : v.s.size ≤ 64 := by
  unfold Val.right at h
  rw [if_neg (by omega), if_neg (by omega), if_pos hk] at h
  simp at h
  exact h.2
theorem text_h (v : Val) (hv : v.Fit) : Holds Tryd.prog 16 [.agg v.pv] (.p (pS (textS v))) [] := by
  have hvs := hv.s
  have hn := hv.n
  unfold reachBytes at hvs
  cases hr : v.right with
  | false =>
    have e : textS v = ⟨#[]⟩ := by unfold textS; rw [hr]; rfl
    rw [e]
    refine qF (ts := [2]) Tryd.func16 (by kernel_rfl) rfl rfl rfl ?_
    (repeat refine qb ?_); refine qa ?_
    repeat (first | refine zR ?_ | refine zK ?_ | refine zM ?_ | refine zB ?_ | refine zA ?_ | refine zS ?_ | refine zL ?_)
    refine qc ?_
    (repeat refine qb ?_); refine qa ?_
    repeat (first | refine zR ?_ | refine zK ?_ | refine zM ?_ | refine zB ?_ | refine zA ?_ | refine zS ?_ | refine zL ?_)
    refine qi rfl (qd rfl rfl rfl rfl (rightV_h v hv.s) rfl rfl ?_)
    repeat (first | refine zR ?_ | refine zK ?_ | refine zM ?_ | refine zB ?_ | refine zA ?_ | refine zS ?_ | refine zL ?_)
    rw [hr]
    repeat (first | refine zR ?_ | refine zK ?_ | refine zM ?_ | refine zB ?_ | refine zA ?_ | refine zS ?_ | refine zL ?_)
    refine qc ?_
    (repeat refine qb ?_); refine qe rfl (fun hc => ?_) (fun hc => ?_)
    · (repeat refine qb ?_); refine qa ?_
      repeat (first | refine zR ?_ | refine zK ?_ | refine zM ?_ | refine zB ?_ | refine zA ?_ | refine zS ?_ | refine zL ?_)
      refine qc ?_
      (repeat refine qb ?_); refine qj ?_
      exact ⟨Or.inr rfl, _, _, [], Wk.refl _, rfl, rfl, rfl, rfl⟩
    · cases hc
  | true =>
    unfold textS
    rw [hr]
    simp only [Bool.not_true, Bool.false_eq_true, if_false]
    refine qF (ts := [2]) Tryd.func16 (by kernel_rfl) rfl rfl rfl ?_
    (repeat refine qb ?_); refine qa ?_
    repeat (first | refine zR ?_ | refine zK ?_ | refine zM ?_ | refine zB ?_ | refine zA ?_ | refine zS ?_ | refine zL ?_)
    refine qc ?_
    (repeat refine qb ?_); refine qa ?_
    repeat (first | refine zR ?_ | refine zK ?_ | refine zM ?_ | refine zB ?_ | refine zA ?_ | refine zS ?_ | refine zL ?_)
    refine qi rfl (qd rfl rfl rfl rfl (rightV_h v hv.s) rfl rfl ?_)
    repeat (first | refine zR ?_ | refine zK ?_ | refine zM ?_ | refine zB ?_ | refine zA ?_ | refine zS ?_ | refine zL ?_)
    rw [hr]
    repeat (first | refine zR ?_ | refine zK ?_ | refine zM ?_ | refine zB ?_ | refine zA ?_ | refine zS ?_ | refine zL ?_)
    refine qc ?_
    (repeat refine qb ?_); refine qe rfl (fun hc => ?_) (fun hc => ?_)
    · cases hc
    refine qq ?_
    (repeat refine qb ?_); refine qa ?_
    repeat (first | refine zR ?_ | refine zK ?_ | refine zM ?_ | refine zB ?_ | refine zA ?_ | refine zS ?_ | refine zL ?_)
    refine qc ?_
    (repeat refine qb ?_); refine zf ?_
    (repeat refine qb ?_); refine qa ?_
    repeat (first | refine zR ?_ | refine zK ?_ | refine zM ?_ | refine zB ?_ | refine zA ?_ | refine zS ?_ | refine zL ?_)
    refine qc ?_
    (repeat refine qb ?_); refine qe rfl (fun h1 => ?_) (fun h1 => ?_)
    · have e1 : v.kind = 1 := by simpa using h1
      rw [if_pos e1]
      (repeat refine qb ?_); refine qa ?_
      repeat (first | refine zR ?_ | refine zK ?_ | refine zM ?_ | refine zB ?_ | refine zA ?_ | refine zS ?_ | refine zL ?_)
      refine qi rfl (qd rfl rfl rfl rfl (fmtBool_h (v.n == 1)) rfl rfl ?_)
      repeat (first | refine zR ?_ | refine zK ?_ | refine zM ?_ | refine zB ?_ | refine zA ?_ | refine zS ?_ | refine zL ?_)
      refine qc ?_
      (repeat refine qb ?_); refine qj ?_
      have e2 : (if (v.n == 1) = true then (⟨#[116, 114, 117, 101]⟩ : ByteArray) else ⟨#[102, 97, 108, 115, 101]⟩) = if v.n = 1 then ⟨#[116, 114, 117, 101]⟩ else ⟨#[102, 97, 108, 115, 101]⟩ := by
        by_cases h : v.n = 1 <;> simp [h]
      rw [← e2]
      exact ⟨Or.inr rfl, _, _, [], Wk.refl _, rfl, rfl, rfl, rfl⟩
    · have n1 : ¬ v.kind = 1 := by simpa using h1
      rw [if_neg n1]
      (repeat refine qb ?_); refine qa ?_
      repeat (first | refine zR ?_ | refine zK ?_ | refine zM ?_ | refine zB ?_ | refine zA ?_ | refine zS ?_ | refine zL ?_)
      refine qc ?_
      (repeat refine qb ?_); refine qe rfl (fun h4 => ?_) (fun h4 => ?_)
      · have e1 : v.kind = 4 := by simpa using h4
        rw [if_pos e1]
        (repeat refine qb ?_); refine qa ?_
        repeat (first | refine zR ?_ | refine zK ?_ | refine zM ?_ | refine zB ?_ | refine zA ?_ | refine zS ?_ | refine zL ?_)
        refine qi rfl (qd rfl rfl rfl rfl (itoa_h v.n ⟨hn.1, hn.2⟩) rfl rfl ?_)
        repeat (first | refine zR ?_ | refine zK ?_ | refine zM ?_ | refine zB ?_ | refine zA ?_ | refine zS ?_ | refine zL ?_)
        have hl : ((⟨⟨jq v.n⟩⟩ : ByteArray)).size ≤ 21 := itoaF_len v.n
        refine ql qg rfl rfl (by rw [show (⟨#[64]⟩ : ByteArray).size = 1 from rfl]; unfold IntKind.max; simp [IntKind.signed, IntKind.bits]; omega) rfl ?_
        repeat (first | refine zR ?_ | refine zK ?_ | refine zM ?_ | refine zB ?_ | refine zA ?_ | refine zS ?_ | refine zL ?_)
        refine qc ?_
        (repeat refine qb ?_); refine qj ?_
        exact ⟨Or.inr rfl, _, _, [], Wk.refl _, rfl, rfl, rfl, rfl⟩
      · have n4 : ¬ v.kind = 4 := by simpa using h4
        rw [if_neg n4]
        (repeat refine qb ?_); refine qa ?_
        repeat (first | refine zR ?_ | refine zK ?_ | refine zM ?_ | refine zB ?_ | refine zA ?_ | refine zS ?_ | refine zL ?_)
        refine qc ?_
        (repeat refine qb ?_); refine qe rfl (fun h5 => ?_) (fun h5 => ?_)
        · have e1 : v.kind = 5 := by simpa using h5
          rw [if_pos e1]
          (repeat refine qb ?_); refine qa ?_
          repeat (first | refine zR ?_ | refine zK ?_ | refine zM ?_ | refine zB ?_ | refine zA ?_ | refine zS ?_ | refine zL ?_)
          refine ql qg rfl rfl (by rw [show (⟨#[35]⟩ : ByteArray).size = 1 from rfl]; unfold IntKind.max; simp [IntKind.signed, IntKind.bits]; omega) rfl ?_
          repeat (first | refine zR ?_ | refine zK ?_ | refine zM ?_ | refine zB ?_ | refine zA ?_ | refine zS ?_ | refine zL ?_)
          refine qc ?_
          (repeat refine qb ?_); refine qj ?_
          exact ⟨Or.inr rfl, _, _, [], Wk.refl _, rfl, rfl, rfl, rfl⟩
        · have n5 : ¬ v.kind = 5 := by simpa using h5
          rw [if_neg n5]
          (repeat refine qb ?_); refine qa ?_
          repeat (first | refine zR ?_ | refine zK ?_ | refine zM ?_ | refine zB ?_ | refine zA ?_ | refine zS ?_ | refine zL ?_)
          refine qc ?_
          (repeat refine qb ?_); refine qe rfl (fun h3 => ?_) (fun h3 => ?_)
          · have e1 : v.kind = 3 := by simpa using h3
            rw [if_pos e1]
            have hq := right_size hr e1
            (repeat refine qb ?_); refine qa ?_
            repeat (first | refine zR ?_ | refine zK ?_ | refine zM ?_ | refine zB ?_ | refine zA ?_ | refine zS ?_ | refine zL ?_)
            refine qi rfl (qd rfl rfl rfl rfl (quoted_h v.s (by omega)) rfl rfl ?_)
            repeat (first | refine zR ?_ | refine zK ?_ | refine zM ?_ | refine zB ?_ | refine zA ?_ | refine zS ?_ | refine zL ?_)
            refine qc ?_
            (repeat refine qb ?_); refine qj ?_
            exact ⟨Or.inr rfl, _, _, [], Wk.refl _, rfl, rfl, rfl, rfl⟩
          · have n3 : ¬ v.kind = 3 := by simpa using h3
            rw [if_neg n3]
            refine qq ?_
            (repeat refine qb ?_); refine qa ?_
            repeat (first | refine zR ?_ | refine zK ?_ | refine zM ?_ | refine zB ?_ | refine zA ?_ | refine zS ?_ | refine zL ?_)
            refine qi rfl (qd rfl rfl rfl rfl (itoa_h v.n ⟨hn.1, hn.2⟩) rfl rfl ?_)
            repeat (first | refine zR ?_ | refine zK ?_ | refine zM ?_ | refine zB ?_ | refine zA ?_ | refine zS ?_ | refine zL ?_)
            refine qc ?_
            (repeat refine qb ?_); refine qj ?_
            exact ⟨Or.inr rfl, _, _, [], Wk.refl _, rfl, rfl, rfl, rfl⟩
end Go.Proofs.YtnojoaneboppnaaDoor
namespace Go.Proofs.YtnojoaneboppnaaDoor
set_option linter.unusedVariables false
set_option linter.unusedSimpArgs false
open Go.RowKit
set_option maxHeartbeats 4000000
set_option maxRecDepth 100000
def trueL : Bs := [116, 114, 117, 101]
def falseL : Bs := [102, 97, 108, 115, 101]
theorem flat_le : ∀ s : Bs, (s.flatMap qB).length ≤ 3 * s.length
  | [] => Nat.le_refl _
  | c :: s => by
    have ih := flat_le s
    have h1 : (qB c).length ≤ 3 := by unfold qB; split <;> simp
    rw [List.flatMap_cons, List.length_append, List.length_cons]; omega
theorem valTok (k n : Int) (sl : Bs) (hn : R64 n) (hr : Val.right ⟨k, n, ⟨⟨sl⟩⟩⟩ = true) : ∃ (tk tn : Int) (ts w : Bs), textS ⟨k, n, ⟨⟨sl⟩⟩⟩ = ⟨⟨w⟩⟩ ∧ w.length ≤ 300 ∧ lexL w = .ok [⟨tk, 0, tn, ts⟩, ⟨7, w.length, 0, []⟩] ∧
    ((k = 1 ∧ n = 1 ∧ tk = 1 ∧ ts = trueL) ∨ (k = 1 ∧ n = 0 ∧ tk = 1 ∧ ts = falseL) ∨ (k = 2 ∧ tk = 2 ∧ tn = n) ∨ (k = 4 ∧ tk = 3 ∧ tn = n) ∨ (k = 5 ∧ tk = 4 ∧ ts = sl) ∨ (k = 3 ∧ tk = 5 ∧ ts = sl)) := by
  have hs : (⟨⟨sl⟩⟩ : ByteArray).size = sl.length := rfl
  have hT : textS ⟨k, n, ⟨⟨sl⟩⟩⟩ = if k = 1 then (if n = 1 then ⟨#[116, 114, 117, 101]⟩ else ⟨#[102, 97, 108, 115, 101]⟩) else if k = 4 then ⟨#[64]⟩ ++ ⟨⟨jq n⟩⟩ else if k = 5 then ⟨#[35]⟩ ++ ⟨⟨sl⟩⟩ else if k = 3 then quoteB ⟨⟨sl⟩⟩ else ⟨⟨jq n⟩⟩ := by
    unfold textS
    rw [hr]; rfl
  have hi := itoaF_len n
  have hint : lexL (jq n) = .ok [⟨2, 0, n, []⟩, ⟨7, (jq n).length, 0, []⟩] := by
    by_cases h0 : 0 ≤ n
    · obtain ⟨m, rfl⟩ : ∃ m : Nat, n = m := ⟨n.toNat, by omega⟩
      exact lex_one (good_int (by have := hn.2; omega) 0)
    · obtain ⟨m, rfl⟩ : ∃ m : Nat, n = -(m : Int) := ⟨(-n).toNat, by omega⟩
      exact lex_one (good_neg (by omega) (by have := hn.1; omega) 0)
  rw [hT]
  unfold Val.right at hr
  simp only at hr
  split at hr
  · rename_i h1
    simp only [Bool.and_eq_true, Bool.or_eq_true, decide_eq_true_eq] at hr
    rw [if_pos h1]
    rcases hr.1 with h | h
    · rw [if_neg (by omega)]
      exact ⟨1, 0, falseL, falseL, rfl, by decide, rfl, .inr (.inl ⟨h1, h, rfl, rfl⟩)⟩
    · rw [if_pos h]
      exact ⟨1, 0, trueL, trueL, rfl, by decide, rfl, .inl ⟨h1, h, rfl, rfl⟩⟩
  · rename_i h1
    rw [if_neg h1]
    split at hr
    · rename_i h2
      rw [if_neg (by omega), if_neg (by omega), if_neg (by omega)]
      exact ⟨2, n, [], jq n, rfl, by omega, hint, .inr (.inr (.inl ⟨h2, rfl, rfl⟩))⟩
    · split at hr
      · rename_i h3
        simp only [Bool.and_eq_true, decide_eq_true_eq] at hr
        rw [hs] at hr
        rw [if_neg (by omega), if_neg (by omega), if_pos h3]
        have hf := flat_le sl
        refine ⟨5, 0, sl, jl 5 0 sl, rfl, ?_, lex_one (good_text hr.2 0), .inr (.inr (.inr (.inr (.inr ⟨h3, rfl, rfl⟩))))⟩
        show (34 :: sl.flatMap qB ++ [34]).length ≤ 300
        simp only [List.length_append, List.length_cons, List.length_nil]; omega
      · split at hr
        · rename_i h4
          simp only [Bool.and_eq_true, decide_eq_true_eq] at hr
          obtain ⟨m, hm⟩ : ∃ m : Nat, n = m := ⟨n.toNat, by omega⟩
          rw [if_pos h4]
          refine ⟨3, n, [], jl 3 n [], jd [64] (jq n), ?_, ?_, .inr (.inr (.inr (.inl ⟨h4, rfl, rfl⟩)))⟩
          · show (64 :: jq n).length ≤ 300
            simp only [List.length_cons]; omega
          · rw [hm]
            exact lex_one (good_tick (m := m) (by omega) 0)
        · split at hr
          · rename_i h5
            simp only [Bool.and_eq_true, decide_eq_true_eq] at hr
            rw [nameS_l] at hr
            have hl : sl.length ≤ 16 := by
              have := hr.2
              unfold nameL at this
              simp only [Bool.and_eq_true, decide_eq_true_eq] at this
              exact this.2
            rw [if_neg (by omega), if_pos h5]
            refine ⟨4, 0, sl, jl 4 0 sl, jd [35] sl, ?_, lex_one (good_id hr.2 0), .inr (.inr (.inr (.inr (.inl ⟨h5, rfl, rfl⟩))))⟩
            show (35 :: sl).length ≤ 300
            simp only [List.length_cons]; omega
          · cases hr
theorem lexValues_h (v : Val) (hv : v.Fit) : Holds Tryd.prog 8 [.agg v.pv] (.p (pB true)) [] := by
  obtain ⟨k, n, ⟨⟨sl⟩⟩⟩ := v
  have hn : R64 n := hv.n
  have hk : R64 k := hv.kind
  refine qF (ts := [2]) Tryd.func8 (by kernel_rfl) rfl rfl rfl ?_
  (repeat refine qb ?_); refine qa ?_
  repeat (first | refine zR ?_ | refine zK ?_ | refine zM ?_ | refine zB ?_ | refine zA ?_ | refine zS ?_ | refine zL ?_)
  refine qc ?_
  (repeat refine qb ?_); refine qa ?_
  repeat (first | refine zR ?_ | refine zK ?_ | refine zM ?_ | refine zB ?_ | refine zA ?_ | refine zS ?_ | refine zL ?_)
  refine ql qg rfl rfl (min_ok _ 70 (by omega)) rfl ?_
  rw [ext_min sl 70 70 rfl]
  repeat (first | refine zR ?_ | refine zK ?_ | refine zM ?_ | refine zB ?_ | refine zA ?_ | refine zS ?_ | refine zL ?_)
  refine qc ?_
  have hl : (sl.take 70).length ≤ 70 := by simp; omega
  generalize sl.take 70 = sl at *
  have hf : (⟨k, n, ⟨⟨sl⟩⟩⟩ : Val).Fit := ⟨hk, hn, by show sl.length ≤ reachBytes; unfold reachBytes; omega⟩
  have HR := rightV_h ⟨k, n, ⟨⟨sl⟩⟩⟩ hf.s
  have HT := text_h ⟨k, n, ⟨⟨sl⟩⟩⟩ hf
  (repeat refine qb ?_); refine qa ?_
  repeat (first | refine zR ?_ | refine zK ?_ | refine zM ?_ | refine zB ?_ | refine zA ?_ | refine zS ?_ | refine zL ?_)
  refine qi rfl (qd rfl rfl rfl rfl (HR) rfl rfl ?_)
  repeat (first | refine zR ?_ | refine zK ?_ | refine zM ?_ | refine zB ?_ | refine zA ?_ | refine zS ?_ | refine zL ?_)
  cases hr : Val.right ⟨k, n, ⟨⟨sl⟩⟩⟩ with
  | false =>
    repeat (first | refine zR ?_ | refine zK ?_ | refine zM ?_ | refine zB ?_ | refine zA ?_ | refine zS ?_ | refine zL ?_)
    refine qc ?_
    (repeat refine qb ?_); refine qe rfl (fun hc => ?_) (fun hc => ?_)
    · (repeat refine qb ?_); refine qa ?_
      repeat (first | refine zR ?_ | refine zK ?_ | refine zM ?_ | refine zB ?_ | refine zA ?_ | refine zS ?_ | refine zL ?_)
      refine qi rfl (qd rfl rfl rfl rfl (zW) rfl rfl ?_)
      repeat (first | refine zR ?_ | refine zK ?_ | refine zM ?_ | refine zB ?_ | refine zA ?_ | refine zS ?_ | refine zL ?_)
      refine qc ?_
      (repeat refine qb ?_); refine qj ?_
      exact jf rfl rfl
    · cases hc
  | true =>
    obtain ⟨tk, tn, ts, w, hw, hwl, hlex, hcs⟩ := valTok k n sl hn hr
    rw [hw] at HT
    have HA := all_l w (by omega)
    rw [hlex] at HA
    repeat (first | refine zR ?_ | refine zK ?_ | refine zM ?_ | refine zB ?_ | refine zA ?_ | refine zS ?_ | refine zL ?_)
    refine qc ?_
    (repeat refine qb ?_); refine qe rfl (fun hc => ?_) (fun hc => ?_)
    · cases hc
    refine qq ?_
    (repeat refine qb ?_); refine qa ?_
    repeat (first | refine zR ?_ | refine zK ?_ | refine zM ?_ | refine zB ?_ | refine zA ?_ | refine zS ?_ | refine zL ?_)
    refine qi rfl (qd rfl rfl rfl rfl (HT) rfl rfl ?_)
    repeat (first | refine zR ?_ | refine zK ?_ | refine zM ?_ | refine zB ?_ | refine zA ?_ | refine zS ?_ | refine zL ?_)
    refine qi rfl (zT rfl rfl rfl rfl (HA) rfl rfl rfl ?_)
    repeat (first | refine zR ?_ | refine zK ?_ | refine zM ?_ | refine zB ?_ | refine zA ?_ | refine zS ?_ | refine zL ?_)
    repeat (first | refine zR ?_ | refine zK ?_ | refine zM ?_ | refine zB ?_ | refine zA ?_ | refine zS ?_ | refine zL ?_)
    refine qc ?_
    refine SW.wk (wk_frz (k := 23000) rfl) ?_
    (repeat refine qb ?_); refine qa ?_
    repeat (first | refine zR ?_ | refine zK ?_ | refine zM ?_ | refine zB ?_ | refine zA ?_ | refine zS ?_ | refine zL ?_)
    refine qc ?_
    (repeat refine qb ?_); refine qe rfl (fun hd => ?_) (fun hd => ?_)
    · cases hd
    refine qq ?_
    (repeat refine qb ?_); refine qa ?_
    repeat (first | refine zR ?_ | refine zK ?_ | refine zM ?_ | refine zB ?_ | refine zA ?_ | refine zS ?_ | refine zL ?_)
    refine ql qg rfl rfl (⟨by decide, by show (0 : Int) < 2; decide⟩) rfl ?_
    repeat (first | refine zR ?_ | refine zK ?_ | refine zM ?_ | refine zB ?_ | refine zA ?_ | refine zS ?_ | refine zL ?_)
    refine qc ?_
    (repeat refine qb ?_); refine qa ?_
    repeat (first | refine zR ?_ | refine zK ?_ | refine zM ?_ | refine zB ?_ | refine zA ?_ | refine zS ?_ | refine zL ?_)
    refine qc ?_
    (repeat refine qb ?_); refine zf ?_
    (repeat refine qb ?_); refine qa ?_
    repeat (first | refine zR ?_ | refine zK ?_ | refine zM ?_ | refine zB ?_ | refine zA ?_ | refine zS ?_ | refine zL ?_)
    rcases hcs with ⟨rfl, rfl, rfl, rfl⟩ | ⟨rfl, rfl, rfl, rfl⟩ | ⟨rfl, rfl, rfl⟩ | ⟨rfl, rfl, rfl⟩ | ⟨rfl, rfl, rfl⟩ | ⟨rfl, rfl, rfl⟩
    · refine qc ?_
      (repeat refine qb ?_); refine qe rfl (fun h1 => ?_) (fun h1 => ?_)
      rotate_left
      · cases h1
      (repeat refine qb ?_); refine qa ?_
      repeat (first | refine zR ?_ | refine zK ?_ | refine zM ?_ | refine zB ?_ | refine zA ?_ | refine zS ?_ | refine zL ?_)
      rw [show ((⟨⟨trueL⟩⟩ : ByteArray).toList == (⟨#[116, 114, 117, 101]⟩ : ByteArray).toList) = true from beq_self_eq_true _]
      repeat (first | refine zR ?_ | refine zK ?_ | refine zM ?_ | refine zB ?_ | refine zA ?_ | refine zS ?_ | refine zL ?_)
      refine qi rfl (qd rfl rfl rfl rfl (zW) rfl rfl ?_)
      repeat (first | refine zR ?_ | refine zK ?_ | refine zM ?_ | refine zB ?_ | refine zA ?_ | refine zS ?_ | refine zL ?_)
      repeat (first | refine zR ?_ | refine zK ?_ | refine zM ?_ | refine zB ?_ | refine zA ?_ | refine zS ?_ | refine zL ?_)
      refine qc ?_
      (repeat refine qb ?_); refine qj ?_
      exact jf rfl rfl
    · refine qc ?_
      (repeat refine qb ?_); refine qe rfl (fun h1 => ?_) (fun h1 => ?_)
      rotate_left
      · cases h1
      (repeat refine qb ?_); refine qa ?_
      repeat (first | refine zR ?_ | refine zK ?_ | refine zM ?_ | refine zB ?_ | refine zA ?_ | refine zS ?_ | refine zL ?_)
      rw [show ((⟨⟨falseL⟩⟩ : ByteArray).toList == (⟨#[116, 114, 117, 101]⟩ : ByteArray).toList) = false by rw [beq_bytes2]; decide]
      repeat (first | refine zR ?_ | refine zK ?_ | refine zM ?_ | refine zB ?_ | refine zA ?_ | refine zS ?_ | refine zL ?_)
      refine qi rfl (qd rfl rfl rfl rfl (zW) rfl rfl ?_)
      repeat (first | refine zR ?_ | refine zK ?_ | refine zM ?_ | refine zB ?_ | refine zA ?_ | refine zS ?_ | refine zL ?_)
      repeat (first | refine zR ?_ | refine zK ?_ | refine zM ?_ | refine zB ?_ | refine zA ?_ | refine zS ?_ | refine zL ?_)
      refine qc ?_
      (repeat refine qb ?_); refine qj ?_
      exact jf rfl rfl
    · refine qc ?_
      (repeat refine qb ?_); refine qe rfl (fun h1 => ?_) (fun h1 => ?_)
      · cases h1
      (repeat refine qb ?_); refine qa ?_
      repeat (first | refine zR ?_ | refine zK ?_ | refine zM ?_ | refine zB ?_ | refine zA ?_ | refine zS ?_ | refine zL ?_)
      refine qc ?_
      (repeat refine qb ?_); refine qe rfl (fun h2 => ?_) (fun h2 => ?_)
      rotate_left
      · cases h2
      (repeat refine qb ?_); refine qa ?_
      repeat (first | refine zR ?_ | refine zK ?_ | refine zM ?_ | refine zB ?_ | refine zA ?_ | refine zS ?_ | refine zL ?_)
      rw [show (tn == tn) = true from beq_self_eq_true _]
      repeat (first | refine zR ?_ | refine zK ?_ | refine zM ?_ | refine zB ?_ | refine zA ?_ | refine zS ?_ | refine zL ?_)
      refine qi rfl (qd rfl rfl rfl rfl (zW) rfl rfl ?_)
      repeat (first | refine zR ?_ | refine zK ?_ | refine zM ?_ | refine zB ?_ | refine zA ?_ | refine zS ?_ | refine zL ?_)
      repeat (first | refine zR ?_ | refine zK ?_ | refine zM ?_ | refine zB ?_ | refine zA ?_ | refine zS ?_ | refine zL ?_)
      refine qc ?_
      (repeat refine qb ?_); refine qj ?_
      exact jf rfl rfl
    · refine qc ?_
      (repeat refine qb ?_); refine qe rfl (fun h1 => ?_) (fun h1 => ?_)
      · cases h1
      (repeat refine qb ?_); refine qa ?_
      repeat (first | refine zR ?_ | refine zK ?_ | refine zM ?_ | refine zB ?_ | refine zA ?_ | refine zS ?_ | refine zL ?_)
      refine qc ?_
      (repeat refine qb ?_); refine qe rfl (fun h2 => ?_) (fun h2 => ?_)
      · cases h2
      (repeat refine qb ?_); refine qa ?_
      repeat (first | refine zR ?_ | refine zK ?_ | refine zM ?_ | refine zB ?_ | refine zA ?_ | refine zS ?_ | refine zL ?_)
      refine qc ?_
      (repeat refine qb ?_); refine qe rfl (fun h3 => ?_) (fun h3 => ?_)
      rotate_left
      · cases h3
      (repeat refine qb ?_); refine qa ?_
      repeat (first | refine zR ?_ | refine zK ?_ | refine zM ?_ | refine zB ?_ | refine zA ?_ | refine zS ?_ | refine zL ?_)
      rw [show (tn == tn) = true from beq_self_eq_true _]
      repeat (first | refine zR ?_ | refine zK ?_ | refine zM ?_ | refine zB ?_ | refine zA ?_ | refine zS ?_ | refine zL ?_)
      refine qi rfl (qd rfl rfl rfl rfl (zW) rfl rfl ?_)
      repeat (first | refine zR ?_ | refine zK ?_ | refine zM ?_ | refine zB ?_ | refine zA ?_ | refine zS ?_ | refine zL ?_)
      repeat (first | refine zR ?_ | refine zK ?_ | refine zM ?_ | refine zB ?_ | refine zA ?_ | refine zS ?_ | refine zL ?_)
      refine qc ?_
      (repeat refine qb ?_); refine qj ?_
      exact jf rfl rfl
    · refine qc ?_
      (repeat refine qb ?_); refine qe rfl (fun h1 => ?_) (fun h1 => ?_)
      · cases h1
      (repeat refine qb ?_); refine qa ?_
      repeat (first | refine zR ?_ | refine zK ?_ | refine zM ?_ | refine zB ?_ | refine zA ?_ | refine zS ?_ | refine zL ?_)
      refine qc ?_
      (repeat refine qb ?_); refine qe rfl (fun h2 => ?_) (fun h2 => ?_)
      · cases h2
      (repeat refine qb ?_); refine qa ?_
      repeat (first | refine zR ?_ | refine zK ?_ | refine zM ?_ | refine zB ?_ | refine zA ?_ | refine zS ?_ | refine zL ?_)
      refine qc ?_
      (repeat refine qb ?_); refine qe rfl (fun h3 => ?_) (fun h3 => ?_)
      · cases h3
      (repeat refine qb ?_); refine qa ?_
      repeat (first | refine zR ?_ | refine zK ?_ | refine zM ?_ | refine zB ?_ | refine zA ?_ | refine zS ?_ | refine zL ?_)
      refine qc ?_
      (repeat refine qb ?_); refine qe rfl (fun h4 => ?_) (fun h4 => ?_)
      rotate_left
      · cases h4
      (repeat refine qb ?_); refine qa ?_
      repeat (first | refine zR ?_ | refine zK ?_ | refine zM ?_ | refine zB ?_ | refine zA ?_ | refine zS ?_ | refine zL ?_)
      rw [show ((⟨⟨ts⟩⟩ : ByteArray).toList == (⟨⟨ts⟩⟩ : ByteArray).toList) = true from beq_self_eq_true _]
      repeat (first | refine zR ?_ | refine zK ?_ | refine zM ?_ | refine zB ?_ | refine zA ?_ | refine zS ?_ | refine zL ?_)
      refine qi rfl (qd rfl rfl rfl rfl (zW) rfl rfl ?_)
      repeat (first | refine zR ?_ | refine zK ?_ | refine zM ?_ | refine zB ?_ | refine zA ?_ | refine zS ?_ | refine zL ?_)
      repeat (first | refine zR ?_ | refine zK ?_ | refine zM ?_ | refine zB ?_ | refine zA ?_ | refine zS ?_ | refine zL ?_)
      refine qc ?_
      (repeat refine qb ?_); refine qj ?_
      exact jf rfl rfl
    · refine qc ?_
      (repeat refine qb ?_); refine qe rfl (fun h1 => ?_) (fun h1 => ?_)
      · cases h1
      (repeat refine qb ?_); refine qa ?_
      repeat (first | refine zR ?_ | refine zK ?_ | refine zM ?_ | refine zB ?_ | refine zA ?_ | refine zS ?_ | refine zL ?_)
      refine qc ?_
      (repeat refine qb ?_); refine qe rfl (fun h2 => ?_) (fun h2 => ?_)
      · cases h2
      (repeat refine qb ?_); refine qa ?_
      repeat (first | refine zR ?_ | refine zK ?_ | refine zM ?_ | refine zB ?_ | refine zA ?_ | refine zS ?_ | refine zL ?_)
      refine qc ?_
      (repeat refine qb ?_); refine qe rfl (fun h3 => ?_) (fun h3 => ?_)
      · cases h3
      (repeat refine qb ?_); refine qa ?_
      repeat (first | refine zR ?_ | refine zK ?_ | refine zM ?_ | refine zB ?_ | refine zA ?_ | refine zS ?_ | refine zL ?_)
      refine qc ?_
      (repeat refine qb ?_); refine qe rfl (fun h4 => ?_) (fun h4 => ?_)
      · cases h4
      refine qq ?_
      (repeat refine qb ?_); refine qa ?_
      repeat (first | refine zR ?_ | refine zK ?_ | refine zM ?_ | refine zB ?_ | refine zA ?_ | refine zS ?_ | refine zL ?_)
      rw [show ((⟨⟨ts⟩⟩ : ByteArray).toList == (⟨⟨ts⟩⟩ : ByteArray).toList) = true from beq_self_eq_true _]
      repeat (first | refine zR ?_ | refine zK ?_ | refine zM ?_ | refine zB ?_ | refine zA ?_ | refine zS ?_ | refine zL ?_)
      refine qi rfl (qd rfl rfl rfl rfl (zW) rfl rfl ?_)
      repeat (first | refine zR ?_ | refine zK ?_ | refine zM ?_ | refine zB ?_ | refine zA ?_ | refine zS ?_ | refine zL ?_)
      repeat (first | refine zR ?_ | refine zK ?_ | refine zM ?_ | refine zB ?_ | refine zA ?_ | refine zS ?_ | refine zL ?_)
      refine qc ?_
      (repeat refine qb ?_); refine qj ?_
      exact jf rfl rfl
end Go.Proofs.YtnojoaneboppnaaDoor
namespace Go.Proofs.YtnojoaneboppnaaDoor
set_option linter.unusedVariables false
set_option linter.unusedSimpArgs false
open Go.RowKit
inductive RelsP (w : World) : List PV → List Value → Prop
  | nil : RelsP w [] []
  | cons {x : PV} {u : Value} {xs : List PV} {us : List Value} (h : RelP (fun _ => True) w x u) (r : RelsP w xs us) : RelsP w (x :: xs) (u :: us)
theorem RelsP.get {w : World} {xs : List PV} {us : List Value} (h : RelsP w xs us) : us.length = xs.length ∧ ∀ (i : Nat) (s : PV) (u : Value), xs[i]? = some s → us[i]? = some u → RelP (fun _ => True) w s u := by
  induction h with
  | nil => exact ⟨rfl, fun i s u h => by simp at h⟩
  | cons h r ih =>
    refine ⟨by simp [ih.1], fun i s u hs hu => ?_⟩
    cases i with
    | zero => simp at hs hu; subst hs; subst hu; exact h
    | succ i => exact ih.2 i s u (by simpa using hs) (by simpa using hu)
theorem law_callsG {P : Program} {f : FuncId} {args : List PV} {us : List Value} {W : World} (hg : GlOk (entry W) fun _ => False) (H : Holds P f args (.p (.v (.bool true))) []) (hr : RelsP W args us) : Calls P f us.toArray W fun e w' => e = .returned (.bool true) ∧ Below W.heap.size W w' := by
  obtain ⟨h1, h2⟩ := hr.get
  refine (H.2 W (fun _ => False) us ⟨fun _ h => h.elim, hg⟩ h1 fun i s u hs hu => (h2 i s u hs hu).weak fun _ _ _ => fun h => h).mono fun e w' ⟨v, γ, he, hb, _, hv⟩ => ?_
  have := hv.v_inv
  subst this
  exact ⟨he, hb⟩
theorem rel_agg {w : World} {cs : List Value} {x : List PV} (h : rPV (fun _ => True) w cs x) : RelP (fun _ => True) w (.agg x) (.agg cs.toArray) := .agg h.1 h.2
end Go.Proofs.YtnojoaneboppnaaDoor
namespace Go.Proofs.YtnojoaneboppnaaDoor
set_option linter.unusedSimpArgs false
open Go.ChangeShapes Go.WideShapes Go.ChangeAt Go.RowKit
set_option linter.unusedVariables false
theorem law_liftL {H : Type} {enc : TypeId × Value → H} {C : Checked} {os : Os} {f : FuncId} {fn : Func} {s : ChangeSpec} {bt : TypeId} {laid : List (String × DataW Unit)}
    (own : ownKnob C.prog.godebug = none) (started : os.Started) (noInit : C.prog.inits.idxOf? f = none) (hfn : C.prog.funcs[f]? = some fn)
    (witness : ∃ (w : World) (tape : Tape) (i : Input), w.os = os ∧ (w.forCall tape i).Shaped C.prog ∧ i.vars = [] ∧ Input.okWide C.prog (w.forCall tape i) .any w.heap.size f i ∧
      ((s.pre enc C.prog fn [] false (w.forCall tape i).memory i.args ∧ laidMetH C.prog laid (w.forCall tape i).memory) ∧ sizedMet enc C.prog fn (OpenSpec.ofChange s) false (w.forCall tape i).memory i.args) ∧ ({} : Assume).holds C.prog (lone (Frame.enter C.prog f i.args .normal) [] (w.forCall tape i)))
    (hl : laidOutB C.prog = true) (hts : ∀ t ∈ fn.params.toList, C.prog.readableRec t = true ∧ t < C.prog.types.size) (hvars : s.vars = []) (hvt : s.plain.varTypes C.prog = [])
    (hspec : ∀ (W : World) (args : Array Value) (ds : List (DataW H)) (ps : List MemPlace), DataW.TrodAll enc C.prog W 0 (fun _ => true) true fn.params.toList args.toList ds ps → s.fn H ds = { results := [.lit (.bool true)], args := ds })
    (hres : fn.resultTypes = #[bt]) (hbt : C.prog.underlying bt = some .bool)
    (walk : ∀ (W : World) (base : Nat) (args : Array Value) (ds : List (DataW H)) (ps : List MemPlace), laidMetH C.prog laid W →
      (∀ (j : Nat) t v, fn.params[j]? = some t → args[j]? = some v → Value.okWide C.prog W .any base t v) →
      DataW.TrodAll enc C.prog W 0 (fun _ => true) true fn.params.toList args.toList ds ps →
      (∀ n ∈ DataW.weightsEach C.prog fn.params.toList ds, n ≤ reachBytes) →
      Calls C.prog f args W fun e W' => e = .returned (.bool true) ∧ Below W.heap.size W W') :
    ReturnsInHanded {} C os f .any (fun w args => (s.pre enc C.prog fn [] false w args ∧ laidMetH C.prog laid w) ∧ sizedMet enc C.prog fn (OpenSpec.ofChange s) false w args) (s.post enc C.prog fn false true false false) := by
  refine returnsInHanded_of_change_and (X := fun w _ => laidMetH C.prog laid w) (fun _ _ _ hh h => h.of_heap hh) own started noInit hfn witness ?_
  intro W base args ds gs before hval hW _ hsz hL _
  have hlt : ∀ p ∈ before, p.block < W.heap.size := fun p hp => hW.lt p hp
  have hW0 := hW
  obtain ⟨p, q, hA, hV, rfl, hz, hn⟩ := hW0
  rw [hvars] at hV
  obtain ⟨rfl, rfl⟩ := trodVars_none hV
  have hsp := hspec W args ds p hA
  refine (walk W base args ds p hL hval hA ?_).mono fun e W' ⟨he, hb⟩ => ?_
  · intro n hn
    rw [hvt, List.append_nil, List.append_nil] at hsz
    exact of_decide_eq_true (List.all_eq_true.1 hsz n hn)
  · subst he
    refine ⟨_, rfl, ds, [], p ++ [], [], p, [], hW, ?_, ?_, ?_, World.keptBut_mono (fun x hx => ⟨hx, Or.inr (Or.inl (by simpa using hx))⟩) (hb.frame (· ∈ p ++ [])), fun h => by cases h⟩
    · rw [List.append_nil, hsp, hres]
      exact trodAll_mk1 (shut_bool hbt _)
    · rw [List.append_nil, hsp]
      exact trodAll_below hl hb hts (fun x hx => hlt x (by simpa using hx)) (fun x hx => by simpa using hlt x (by simpa using hx)) hA
    · rw [List.append_nil, hsp, hvars]
      rfl
theorem qN {P : Program} {x : String × DataW Unit} {l : List (String × DataW Unit)} {W : World} (h : laidMet P (x :: l) W) : laidMet P l W := by
  obtain ⟨ps, ⟨g, t, cs, fuel, p, q, h1, h2, h3, h4, h5, h6⟩, hn, hb⟩ := h
  subst h6
  exact ⟨q, h5, (List.nodup_append.1 hn).2.1, fun b off hm => hb b off (List.mem_append_right _ hm)⟩
theorem block_of_tab {P : Program} {W : World} {name : String} {k : IntKind} {zs : List Int} {g : Nat} (h : Lib.TabIs P W name k zs) (hg : P.globalNamed name = some g) {us : List Value} (hu : us = zs.map fun z => Value.int k z) : g < W.heap.size ∧ ∃ ty m, W.heap[g]? = some (.cells us.toArray ty m) := by
  unfold Lib.TabIs World.var? at h
  rw [hg] at h
  simp only [Option.bind_some] at h
  split at h
  · rename_i cs ty m hb
    cases h
    exact ⟨(Array.getElem?_eq_some_iff.1 hb).1, ty, m, by rw [hb, hu]⟩
  · cases h
theorem err_of_reads {P : Program} {W : World} {name nm : String} {g t : Nat} {ms : Array (String × TypeId)} {d : DataW Unit} (hg : P.globalNamed name = some g) (ht : (P.globals[g]?).map (·.type) = some t) (hu : P.underlying t = some (.interface ms)) (h : Lib.VarReads P W name (.iface nm d)) :
    g < W.heap.size ∧ ∃ ev ty m, W.heap[g]? = some (.cells #[ev] ty m) ∧ errV ev = true := by
  obtain ⟨g', t', cs, fuel, p, h1, h2, h3, h4⟩ := h
  rw [hg] at h1
  cases h1
  rw [ht] at h2
  cases h2
  have hc : ∃ u v, cs.toList = [.iface u v] := by
    cases fuel with
    | zero => cases h4
    | succ fuel =>
      unfold DataW.trod at h4
      rw [hu] at h4
      generalize cs.toList = l at h4
      match l, h4 with
      | [.iface u v], _ => exact ⟨u, v, rfl⟩
      | [.nilIface], h4 => simp at h4
      | [], h4 => simp at h4
      | _ :: _ :: _, h4 => simp at h4
  obtain ⟨u, v, hc⟩ := hc
  have hc' : cs = #[.iface u v] := Array.toList_inj.1 hc
  subst hc'
  unfold World.var? at h3
  rw [hg] at h3
  simp only [Option.bind_some] at h3
  split at h3
  · rename_i cs ty m hb
    cases h3
    exact ⟨(Array.getElem?_eq_some_iff.1 hb).1, _, ty, m, hb, rfl⟩
  · cases h3
end Go.Proofs.YtnojoaneboppnaaDoor
namespace Go.Proofs.YtnojoaneboppnaaDoor
open Go.RowKit
theorem own_none : ownKnob Tryd.prog.godebug = none := by kernel_rfl
theorem gl_of_laid {rest : List (String × DataW Unit)} {W : World} (h : laidMet Tryd.prog (("math/bits.deBruijn32tab", Rows.laid_math_bits_deBruijn32tab) :: ("math/bits.deBruijn64tab", Rows.laid_math_bits_deBruijn64tab) :: ("internal/strconv.uint64pow10", Rows.laid_internal_strconv_uint64pow10) :: ("strconv.ErrRange", Rows.laid_strconv_ErrRange) :: rest) W) : GlOk (entry W) fun _ => False := by
  have b0 := block_of_tab (g := 4) (us := [.int .u8 0, .int .u8 1, .int .u8 28, .int .u8 2, .int .u8 29, .int .u8 14, .int .u8 24, .int .u8 3, .int .u8 30, .int .u8 22, .int .u8 20, .int .u8 15, .int .u8 25, .int .u8 17, .int .u8 4, .int .u8 8, .int .u8 31, .int .u8 27, .int .u8 13, .int .u8 23, .int .u8 21, .int .u8 19, .int .u8 16, .int .u8 7, .int .u8 26, .int .u8 12, .int .u8 18, .int .u8 6, .int .u8 11, .int .u8 5, .int .u8 10, .int .u8 9]) (Lib.tabIs_of_head (k := .u8) (zs := [0, 1, 28, 2, 29, 14, 24, 3, 30, 22, 20, 15, 25, 17, 4, 8, 31, 27, 13, 23, 21, 19, 16, 7, 26, 12, 18, 6, 11, 5, 10, 9]) (g := 4) (t := 109) (e := 5) (n := 32) (by kernel_rfl) (by kernel_rfl) Tryd.underlying109 Tryd.underlying5 (by kernel_rfl) (by kernel_rfl) h) (by kernel_rfl) rfl
  have b1 := block_of_tab (g := 5) (us := [.int .u8 0, .int .u8 1, .int .u8 56, .int .u8 2, .int .u8 57, .int .u8 49, .int .u8 28, .int .u8 3, .int .u8 61, .int .u8 58, .int .u8 42, .int .u8 50, .int .u8 38, .int .u8 29, .int .u8 17, .int .u8 4, .int .u8 62, .int .u8 47, .int .u8 59, .int .u8 36, .int .u8 45, .int .u8 43, .int .u8 51, .int .u8 22, .int .u8 53, .int .u8 39, .int .u8 33, .int .u8 30, .int .u8 24, .int .u8 18, .int .u8 12, .int .u8 5, .int .u8 63, .int .u8 55, .int .u8 48, .int .u8 27, .int .u8 60, .int .u8 41, .int .u8 37, .int .u8 16, .int .u8 46, .int .u8 35, .int .u8 44, .int .u8 21, .int .u8 52, .int .u8 32, .int .u8 23, .int .u8 11, .int .u8 54, .int .u8 26, .int .u8 40, .int .u8 15, .int .u8 34, .int .u8 20, .int .u8 31, .int .u8 10, .int .u8 25, .int .u8 14, .int .u8 19, .int .u8 9, .int .u8 13, .int .u8 8, .int .u8 7, .int .u8 6]) (Lib.tabIs_of_head (k := .u8) (zs := [0, 1, 56, 2, 57, 49, 28, 3, 61, 58, 42, 50, 38, 29, 17, 4, 62, 47, 59, 36, 45, 43, 51, 22, 53, 39, 33, 30, 24, 18, 12, 5, 63, 55, 48, 27, 60, 41, 37, 16, 46, 35, 44, 21, 52, 32, 23, 11, 54, 26, 40, 15, 34, 20, 31, 10, 25, 14, 19, 9, 13, 8, 7, 6]) (g := 5) (t := 110) (e := 5) (n := 64) (by kernel_rfl) (by kernel_rfl) Tryd.underlying110 Tryd.underlying5 (by kernel_rfl) (by kernel_rfl) (qN h)) (by kernel_rfl) rfl
  have b2 := block_of_tab (g := 1) (us := [.int .u64 1, .int .u64 10, .int .u64 100, .int .u64 1000, .int .u64 10000, .int .u64 100000, .int .u64 1000000, .int .u64 10000000, .int .u64 100000000, .int .u64 1000000000, .int .u64 10000000000, .int .u64 100000000000, .int .u64 1000000000000, .int .u64 10000000000000, .int .u64 100000000000000, .int .u64 1000000000000000, .int .u64 10000000000000000, .int .u64 100000000000000000, .int .u64 1000000000000000000, .int .u64 10000000000000000000]) (Lib.tabIs_of_head (k := .u64) (zs := [1, 10, 100, 1000, 10000, 100000, 1000000, 10000000, 100000000, 1000000000, 10000000000, 100000000000, 1000000000000, 10000000000000, 100000000000000, 1000000000000000, 10000000000000000, 100000000000000000, 1000000000000000000, 10000000000000000000]) (g := 1) (t := 95) (e := 49) (n := 20) (by kernel_rfl) (by kernel_rfl) Tryd.underlying95 Tryd.underlying49 (by kernel_rfl) (by kernel_rfl) (qN (qN h))) (by kernel_rfl) rfl
  have bE := err_of_reads (g := 3) (t := 69) (by kernel_rfl) (by kernel_rfl) Tryd.underlying69 (Lib.laidMet.reads (qN (qN (qN h))) (List.mem_cons_self ..))
  refine ⟨?_, fun g hg => ?_⟩
  rotate_left
  · have e : g = 3 := by simpa [ETab] using hg
    subst e
    exact ⟨bE.1, fun h => h, bE.2⟩
  intro g us hg
  simp only [GTab, qk] at hg
  repeat' split at hg
  all_goals first | cases hg; done | skip
  all_goals (subst_vars; cases hg)
  all_goals first | exact ⟨b0.1, fun h => h, b0.2⟩ | exact ⟨b1.1, fun h => h, b1.2⟩ | exact ⟨b2.1, fun h => h, b2.2⟩
noncomputable def lowB : Nat := (World.holding Tryd.prog default ⟨#[], #[], []⟩).heap.size
noncomputable def worldB (os : Os) : World :=
  let w0 := World.holding Tryd.prog os ⟨#[.cells #[.string ⟨#[118, 97, 108, 117, 101, 32, 111, 117, 116, 32, 111, 102, 32, 114, 97, 110, 103, 101]⟩] 108, .cells #[.string ⟨#[105, 110, 118, 97, 108, 105, 100, 32, 115, 121, 110, 116, 97, 120]⟩] 108], #[], []⟩
  { w0 with heap := ((((((((((w0.heap).modify 4 fun | .cells _ t frozen => .cells #[.int .u8 0, .int .u8 1, .int .u8 28, .int .u8 2, .int .u8 29, .int .u8 14, .int .u8 24, .int .u8 3, .int .u8 30, .int .u8 22, .int .u8 20, .int .u8 15, .int .u8 25, .int .u8 17, .int .u8 4, .int .u8 8, .int .u8 31, .int .u8 27, .int .u8 13, .int .u8 23, .int .u8 21, .int .u8 19, .int .u8 16, .int .u8 7, .int .u8 26, .int .u8 12, .int .u8 18, .int .u8 6, .int .u8 11, .int .u8 5, .int .u8 10, .int .u8 9] t frozen | o => o)).modify 5 fun | .cells _ t frozen => .cells #[.int .u8 0, .int .u8 1, .int .u8 56, .int .u8 2, .int .u8 57, .int .u8 49, .int .u8 28, .int .u8 3, .int .u8 61, .int .u8 58, .int .u8 42, .int .u8 50, .int .u8 38, .int .u8 29, .int .u8 17, .int .u8 4, .int .u8 62, .int .u8 47, .int .u8 59, .int .u8 36, .int .u8 45, .int .u8 43, .int .u8 51, .int .u8 22, .int .u8 53, .int .u8 39, .int .u8 33, .int .u8 30, .int .u8 24, .int .u8 18, .int .u8 12, .int .u8 5, .int .u8 63, .int .u8 55, .int .u8 48, .int .u8 27, .int .u8 60, .int .u8 41, .int .u8 37, .int .u8 16, .int .u8 46, .int .u8 35, .int .u8 44, .int .u8 21, .int .u8 52, .int .u8 32, .int .u8 23, .int .u8 11, .int .u8 54, .int .u8 26, .int .u8 40, .int .u8 15, .int .u8 34, .int .u8 20, .int .u8 31, .int .u8 10, .int .u8 25, .int .u8 14, .int .u8 19, .int .u8 9, .int .u8 13, .int .u8 8, .int .u8 7, .int .u8 6] t frozen | o => o)).modify 1 fun | .cells _ t frozen => .cells #[.int .u64 1, .int .u64 10, .int .u64 100, .int .u64 1000, .int .u64 10000, .int .u64 100000, .int .u64 1000000, .int .u64 10000000, .int .u64 100000000, .int .u64 1000000000, .int .u64 10000000000, .int .u64 100000000000, .int .u64 1000000000000, .int .u64 10000000000000, .int .u64 100000000000000, .int .u64 1000000000000000, .int .u64 10000000000000000, .int .u64 100000000000000000, .int .u64 1000000000000000000, .int .u64 10000000000000000000] t frozen | o => o)).modify 3 fun | .cells _ t frozen => .cells #[.iface 106 (.pointer (some ⟨lowB + 0, 0, none⟩))] t frozen | o => o)).modify 2 fun | .cells _ t frozen => .cells #[.iface 106 (.pointer (some ⟨lowB + 1, 0, none⟩))] t frozen | o => o) }
theorem worldB_met (os : Os) (args : Array Value) : laidMet Tryd.prog [("math/bits.deBruijn32tab", Rows.laid_math_bits_deBruijn32tab), ("math/bits.deBruijn64tab", Rows.laid_math_bits_deBruijn64tab), ("internal/strconv.uint64pow10", Rows.laid_internal_strconv_uint64pow10), ("strconv.ErrRange", Rows.laid_strconv_ErrRange), ("strconv.ErrSyntax", Rows.laid_strconv_ErrSyntax)] ((worldB os).forCall (fun _ _ => 0) ⟨#[], args, []⟩).memory :=
  laidMet_of_run' 100 (by kernel_rfl) (by kernel_rfl)
end Go.Proofs.YtnojoaneboppnaaDoor
namespace Go.Proofs.YtnojoaneboppnaaDoor
set_option linter.unusedVariables false
set_option linter.unusedSimpArgs false
open Go.RowKit
theorem opens_tint : Opens Tryd.prog 3 1 rInt := opens_int Tryd.underlying3 (by kernel_rfl)
theorem opens_tstr : Opens Tryd.prog 9 1 rStr := opens_str Tryd.underlying9 (by kernel_rfl)
set_option maxRecDepth 100000 in
theorem opens_val : Opens Tryd.prog 42 3 rVal := by
  refine ⟨by kernel_rfl, fun H enc w fuel cs x h hw => ?_⟩
  obtain ⟨hlen, m, _, hf⟩ := struct_open Tryd.underlying42 h hw
  have hc : Tryd.prog.cellsOf 42 = 3 := by kernel_rfl
  rw [hc] at hlen
  match cs, hlen with
  | [c0, c1, c2], _ =>
    obtain ⟨k, hk⟩ := opens_tint.field (off := 0) (hf 0 _ rfl)
    obtain ⟨n, hn⟩ := opens_tint.field (off := 1) (hf 1 _ rfl)
    obtain ⟨s, hs⟩ := opens_tstr.field (off := 2) (hf 2 _ rfl)
    simp only [rInt, rStr, List.drop_succ_cons, List.drop_zero, List.take_succ_cons, List.take_zero, List.cons.injEq, and_true] at hk hn hs
    obtain ⟨rfl, hk⟩ := hk
    obtain ⟨rfl, hn⟩ := hn
    obtain ⟨rfl, hs⟩ := hs
    exact ⟨⟨k, n, s⟩, rfl, hk, hn, hs⟩
end Go.Proofs.YtnojoaneboppnaaDoor
namespace Go.Proofs.YtnojoaneboppnaaDoor
set_option linter.unusedVariables false
set_option linter.unusedSimpArgs false
open Go.RowKit
theorem val_pv {w : World} {cs : List Value} {x : Val} (h : rVal w cs x) : rPV (fun _ => True) w cs x.pv := by
  obtain ⟨rfl, _⟩ := h
  exact plain_rPV (xs := x.cells) (fun v hv => by simp [Val.cells] at hv; rcases hv with rfl | rfl | rfl <;> rfl)
end Go.Proofs.YtnojoaneboppnaaDoor
