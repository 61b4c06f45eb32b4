/-
  What the statement leans on, part 3: ValRuns, ShMake, LexS, PackP, Bits, ByteH, PackV, PackH, ShStr, PackW, ValGet, SameH, LexT, LexP, LexA, ValTok, ValBack, LawKit0, LawL, Laid, Data0, Data.
-/
import Derived.Laws.MakeOwn
import Derived.Laws.CopyRow
import Derived.Lib.AppendStr
import Derived.Lib.AtoiAllCases
import Derived.Test.YtghjfficeglmoaaDoorRows
import Derived.Lib.LaidTab
import Derived.Lib.LaidU8
import Derived.LaidLaws
import Derived.LaidHandle
import Derived.Stop.Joined
import Derived.ChangeSame
import Derived.ChangeVars
import Derived.JoinedOf
import Derived.RowKitTokens
import Derived.Test.YtghjfficeglmoaaDoorPk1
import Derived.Test.YtghjfficeglmoaaDoorPk2
namespace Go.Proofs.YtghjfficeglmoaaDoor
set_option linter.unusedVariables false
set_option linter.unusedSimpArgs false
open Go.RowKit
set_option maxHeartbeats 4000000
def numV3 (k n : Int) : Val := ⟨k, n, ⟨#[]⟩⟩
theorem of_h (k n : Int) : Holds Tryd.prog 44 [pI k, pI n] (.p (.agg (numV3 k n).pv)) [] := by
  refine .ofW ?_
  refine holdsC_of (T := TTab) ql Tryd.func44 (by kernel_rfl) rfl rfl rfl ?_
  (repeat refine qb ?_); refine qa ?_
  repeat (first | refine zR ?_ | refine zK ?_ | refine zM ?_ | refine zB ?_ | refine zA ?_ | refine zS ?_ | refine zL ?_)
  refine qc ?_
  (repeat refine qb ?_); refine qa ?_
  repeat (first | refine zR ?_ | refine zK ?_ | refine zM ?_ | refine zB ?_ | refine zA ?_ | refine zS ?_ | refine zL ?_)
  refine qc ?_
  (repeat refine qb ?_); refine qk ?_
  exact ⟨Or.inr rfl, _, _, [], _, Wk.refl _, rfl, rfl, .refl _, rfl, rfl⟩
theorem fitV (k n : Int) (s : ByteArray) (h1 : -100 ≤ k ∧ k ≤ 100) (h2 : -100 ≤ n ∧ n ≤ 100) (h3 : s.size ≤ 100) : (⟨k, n, s⟩ : Val).Fit := ⟨⟨by show _ ≤ k; omega, by show k ≤ _; omega⟩, ⟨by show _ ≤ n; omega, by show n ≤ _; omega⟩, by show s.size ≤ _; unfold reachBytes; omega⟩
theorem valRuns_h : Holds Tryd.prog 24 [] (.p (pB true)) [] := by
  have L1 := (less_h (numV3 2 2) (numV3 2 10) (by decide) (by decide)).res (r' := .tup [.p (pB true), .p (pI 0)]) (by rw [show lessS (numV3 2 2) (numV3 2 10) = (true, 0) by kernel_rfl])
  have L2 := (less_h ⟨3, 0, ⟨#[50]⟩⟩ ⟨3, 0, ⟨#[49, 48]⟩⟩ (by decide) (by decide)).res (r' := .tup [.p (pB false), .p (pI 0)]) (by rw [show lessS ⟨3, 0, ⟨#[50]⟩⟩ ⟨3, 0, ⟨#[49, 48]⟩⟩ = (false, 0) by kernel_rfl])
  have L3 := (less_h (numV3 2 2) (numV3 4 10) (by decide) (by decide)).res (r' := .tup [.p (pB false), .p (pI 2)]) (by rw [show lessS (numV3 2 2) (numV3 4 10) = (false, 2) by kernel_rfl])
  have T1 := (text_h (numV3 2 (-7)) (fitV _ _ _ (by omega) (by omega) (by decide))).res (r' := .p (pS ⟨#[45, 55]⟩)) (by rw [show textS (numV3 2 (-7)) = ⟨#[45, 55]⟩ by kernel_rfl])
  have T2 := (text_h (numV3 4 5) (fitV _ _ _ (by omega) (by omega) (by decide))).res (r' := .p (pS ⟨#[64, 53]⟩)) (by rw [show textS (numV3 4 5) = ⟨#[64, 53]⟩ by kernel_rfl])
  have T3 := (text_h ⟨5, 0, ⟨#[97, 110, 110]⟩⟩ (fitV _ _ _ (by omega) (by omega) (by decide))).res (r' := .p (pS ⟨#[35, 97, 110, 110]⟩)) (by rw [show textS ⟨5, 0, ⟨#[97, 110, 110]⟩⟩ = ⟨#[35, 97, 110, 110]⟩ by kernel_rfl])
  have T4 := (text_h ⟨3, 0, ⟨#[97, 34, 98]⟩⟩ (fitV _ _ _ (by omega) (by omega) (by decide))).res (r' := .p (pS ⟨#[34, 97, 92, 50, 50, 98, 34]⟩)) (by rw [show textS ⟨3, 0, ⟨#[97, 34, 98]⟩⟩ = ⟨#[34, 97, 92, 50, 50, 98, 34]⟩ by kernel_rfl])
  refine qw (ts := [0]) Tryd.func24 (by kernel_rfl) rfl rfl rfl ?_
  (repeat refine qb ?_); refine qa ?_
  repeat (first | refine zR ?_ | refine zK ?_ | refine zM ?_ | refine zB ?_ | refine zA ?_ | refine zS ?_ | refine zL ?_)
  refine qc ?_
  (repeat refine qb ?_); refine qa ?_
  repeat (first | refine zR ?_ | refine zK ?_ | refine zM ?_ | refine zB ?_ | refine zA ?_ | refine zS ?_ | refine zL ?_)
  refine qf rfl (qd rfl rfl rfl rfl (of_h 2 2) rfl rfl ?_)
  repeat (first | refine zR ?_ | refine zK ?_ | refine zM ?_ | refine zB ?_ | refine zA ?_ | refine zS ?_ | refine zL ?_)
  refine qf rfl (qd rfl rfl rfl rfl (of_h 2 10) rfl rfl ?_)
  repeat (first | refine zR ?_ | refine zK ?_ | refine zM ?_ | refine zB ?_ | refine zA ?_ | refine zS ?_ | refine zL ?_)
  refine qf rfl (qd rfl rfl rfl rfl (L1) rfl rfl ?_)
  repeat (first | refine zR ?_ | refine zK ?_ | refine zM ?_ | refine zB ?_ | refine zA ?_ | refine zS ?_ | refine zL ?_)
  refine qc ?_
  (repeat refine qb ?_); refine qa ?_
  repeat (first | refine zR ?_ | refine zK ?_ | refine zM ?_ | refine zB ?_ | refine zA ?_ | refine zS ?_ | refine zL ?_)
  refine qf rfl (qd rfl rfl rfl rfl (L2) rfl rfl ?_)
  repeat (first | refine zR ?_ | refine zK ?_ | refine zM ?_ | refine zB ?_ | refine zA ?_ | refine zS ?_ | refine zL ?_)
  refine qc ?_
  (repeat refine qb ?_); refine qa ?_
  repeat (first | refine zR ?_ | refine zK ?_ | refine zM ?_ | refine zB ?_ | refine zA ?_ | refine zS ?_ | refine zL ?_)
  refine qf rfl (qd rfl rfl rfl rfl (of_h 2 2) rfl rfl ?_)
  repeat (first | refine zR ?_ | refine zK ?_ | refine zM ?_ | refine zB ?_ | refine zA ?_ | refine zS ?_ | refine zL ?_)
  refine qf rfl (qd rfl rfl rfl rfl (of_h 4 10) rfl rfl ?_)
  repeat (first | refine zR ?_ | refine zK ?_ | refine zM ?_ | refine zB ?_ | refine zA ?_ | refine zS ?_ | refine zL ?_)
  refine qf rfl (qd rfl rfl rfl rfl (L3) rfl rfl ?_)
  repeat (first | refine zR ?_ | refine zK ?_ | refine zM ?_ | refine zB ?_ | refine zA ?_ | refine zS ?_ | refine zL ?_)
  refine qc ?_
  (repeat refine qb ?_); refine qa ?_
  repeat (first | refine zR ?_ | refine zK ?_ | refine zM ?_ | refine zB ?_ | refine zA ?_ | refine zS ?_ | refine zL ?_)
  refine qf rfl (qd rfl rfl rfl rfl (of_h 2 (-7)) rfl rfl ?_)
  repeat (first | refine zR ?_ | refine zK ?_ | refine zM ?_ | refine zB ?_ | refine zA ?_ | refine zS ?_ | refine zL ?_)
  refine qf rfl (qd rfl rfl rfl rfl (T1) rfl rfl ?_)
  repeat (first | refine zR ?_ | refine zK ?_ | refine zM ?_ | refine zB ?_ | refine zA ?_ | refine zS ?_ | refine zL ?_)
  rw [show ((⟨#[45, 55]⟩ : ByteArray).toList == (⟨#[45, 55]⟩ : ByteArray).toList) = true from beq_self_eq_true _]
  repeat (first | refine zR ?_ | refine zK ?_ | refine zM ?_ | refine zB ?_ | refine zA ?_ | refine zS ?_ | refine zL ?_)
  refine qf rfl (qd rfl rfl rfl rfl (of_h 4 5) rfl rfl ?_)
  repeat (first | refine zR ?_ | refine zK ?_ | refine zM ?_ | refine zB ?_ | refine zA ?_ | refine zS ?_ | refine zL ?_)
  refine qf rfl (qd rfl rfl rfl rfl (T2) rfl rfl ?_)
  repeat (first | refine zR ?_ | refine zK ?_ | refine zM ?_ | refine zB ?_ | refine zA ?_ | refine zS ?_ | refine zL ?_)
  rw [show ((⟨#[64, 53]⟩ : ByteArray).toList == (⟨#[64, 53]⟩ : ByteArray).toList) = true from beq_self_eq_true _]
  repeat (first | refine zR ?_ | refine zK ?_ | refine zM ?_ | refine zB ?_ | refine zA ?_ | refine zS ?_ | refine zL ?_)
  refine qf rfl (qd rfl rfl rfl rfl (T3) rfl rfl ?_)
  repeat (first | refine zR ?_ | refine zK ?_ | refine zM ?_ | refine zB ?_ | refine zA ?_ | refine zS ?_ | refine zL ?_)
  rw [show ((⟨#[35, 97, 110, 110]⟩ : ByteArray).toList == (⟨#[35, 97, 110, 110]⟩ : ByteArray).toList) = true from beq_self_eq_true _]
  repeat (first | refine zR ?_ | refine zK ?_ | refine zM ?_ | refine zB ?_ | refine zA ?_ | refine zS ?_ | refine zL ?_)
  refine qf rfl (qd rfl rfl rfl rfl (T4) rfl rfl ?_)
  repeat (first | refine zR ?_ | refine zK ?_ | refine zM ?_ | refine zB ?_ | refine zA ?_ | refine zS ?_ | refine zL ?_)
  rw [show ((⟨#[34, 97, 92, 50, 50, 98, 34]⟩ : ByteArray).toList == (⟨#[34, 97, 92, 50, 50, 98, 34]⟩ : ByteArray).toList) = true from beq_self_eq_true _]
  repeat (first | refine zR ?_ | refine zK ?_ | refine zM ?_ | refine zB ?_ | refine zA ?_ | refine zS ?_ | refine zL ?_)
  refine qc ?_
  (repeat refine qb ?_); refine qk ?_
  exact fin_b rfl rfl
def fewV (v : Val) : Val := ⟨v.kind, v.n, v.s.extract 0 (Int.toNat (if (80 : Int) < v.s.size then 80 else v.s.size))⟩
theorem fewV_fit {v : Val} (h : v.Fit) : (fewV v).Fit := ⟨h.kind, h.n, Nat.le_trans (by show (v.s.extract 0 _).size ≤ v.s.size; simp [ByteArray.size_extract]; omega) h.s⟩
theorem fewV_h (v : Val) (hv : v.Fit) : Holds Tryd.prog 6 [.agg v.pv] (.p (.agg (fewV v).pv)) [] := by
  refine .ofW ?_
  obtain ⟨k, n, s⟩ := v
  refine holdsC_of (T := TTab) ql Tryd.func6 (by kernel_rfl) rfl rfl rfl ?_
  (repeat refine qb ?_); refine qa ?_
  repeat (first | refine zR ?_ | refine zK ?_ | refine zM ?_ | refine zB ?_ | refine zA ?_ | refine zS ?_ | refine zL ?_)
  refine qc ?_
  (repeat refine qb ?_); refine qa ?_
  repeat (first | refine zR ?_ | refine zK ?_ | refine zM ?_ | refine zB ?_ | refine zA ?_ | refine zS ?_ | refine zL ?_)
  refine zk ql rfl rfl (by simp only; split <;> omega) rfl ?_
  repeat (first | refine zR ?_ | refine zK ?_ | refine zM ?_ | refine zB ?_ | refine zA ?_ | refine zS ?_ | refine zL ?_)
  refine qc ?_
  (repeat refine qb ?_); refine qa ?_
  repeat (first | refine zR ?_ | refine zK ?_ | refine zM ?_ | refine zB ?_ | refine zA ?_ | refine zS ?_ | refine zL ?_)
  refine qc ?_
  (repeat refine qb ?_); refine qk ?_
  exact ⟨Or.inr rfl, _, _, [], _, Wk.refl _, rfl, rfl, .refl _, rfl, rfl⟩
end Go.Proofs.YtghjfficeglmoaaDoor
namespace Go.Proofs.YtghjfficeglmoaaDoor
set_option linter.unusedVariables false
set_option linter.unusedSimpArgs false
open Go.RowKit
section
variable {P : Program} {T : TT} (hT : qs P T) {st : St}
include hT
end
section
variable {P : Program} {T : TT} (hT : qs P T) {st : St}
include hT
end
end Go.Proofs.YtghjfficeglmoaaDoor
namespace Go.Proofs.YtghjfficeglmoaaDoor
set_option linter.unusedVariables false
set_option linter.unusedSimpArgs false
abbrev Bs := List UInt8
def qx (c : UInt8) : Bool := decide (48 ≤ c.toNat) && decide (c.toNat ≤ 57)
def qW (c : UInt8) : Bool := decide (97 ≤ c.toNat) && decide (c.toNat ≤ 122)
def qL (c : UInt8) : Bool := qW c || qx c || decide (c.toNat = 95)
def plainB (c : UInt8) : Bool := decide (32 ≤ c.toNat) && decide (c.toNat ≤ 126) && decide (c.toNat ≠ 34) && decide (c.toNat ≠ 92)
def hexB (c : UInt8) : Option Nat := if qx c then some (c.toNat - 48) else if 97 ≤ c.toNat ∧ c.toNat ≤ 102 then some (c.toNat - 87) else none
def markB (c : UInt8) : Bool := [123, 125, 40, 41, 46, 44, 59, 61, 60, 62, 33].contains c.toNat
def decV (l : Bs) : Nat := l.foldl (fun n c => 10 * n + (c.toNat - 48)) 0
def magL (l : Bs) : Option (Nat × Nat) :=
  if (l.takeWhile qx).length = 0 ∨ (1 < (l.takeWhile qx).length ∧ (l.head?.map (·.toNat)) = some 48) then none else some (decV (l.takeWhile qx), (l.takeWhile qx).length)
def textL : Bs → Option (Bs × Nat)
  | [] => none
  | c :: r =>
    if c.toNat = 34 then some ([], 1)
    else if plainB c then (textL r).map fun p => (c :: p.1, p.2 + 1)
    else if c.toNat = 92 then (match r with
      | h :: l :: r' => match hexB h, hexB l with
        | some a, some b => if plainB (UInt8.ofNat (16 * a + b)) then none else (textL r').map fun p => (UInt8.ofNat (16 * a + b) :: p.1, p.2 + 3)
        | _, _ => none
      | _ => none)
    else none
def oddT (r : Bs) : Option (Bs × Nat) := match r with
  | h :: l :: r' => (match hexB h, hexB l with
    | some a, some b => if plainB (UInt8.ofNat (16 * a + b)) then none else (textL r').map fun p => (UInt8.ofNat (16 * a + b) :: p.1, p.2 + 3)
    | _, _ => none)
  | _ => none
theorem textL_cons (c : UInt8) (r : Bs) : textL (c :: r) = if c.toNat = 34 then some ([], 1) else if plainB c then (textL r).map (fun p => (c :: p.1, p.2 + 1)) else if c.toNat = 92 then oddT r else none := by
  cases r with
  | nil => simp [textL, oddT]
  | cons x r => cases r with
    | nil => simp [textL, oddT]
    | cons y r => simp only [textL, oddT]
structure TokP where
  kind : Int
  n : Int
  s : Bs
  len : Nat
  deriving DecidableEq
def wordL (l : Bs) : Bs := l.takeWhile qL
def nameL (l : Bs) : Bool := (match l with | [] => false | c :: _ => qW c) && l.all qL && decide (l.length ≤ 16)
def tokL : Bs → Option TokP
  | [] => none
  | c :: r =>
    if qW c then (if (wordL (c :: r)).length ≤ 16 then some ⟨1, 0, wordL (c :: r), (wordL (c :: r)).length⟩ else none)
    else if qx c then (match magL (c :: r) with | some (m, k) => if m < 9223372036854775808 then some ⟨2, m, [], k⟩ else none | none => none)
    else if c.toNat = 45 then (match magL r with | some (m, k) => if m ≠ 0 ∧ m ≤ 9223372036854775808 then some ⟨2, -m, [], k + 1⟩ else none | none => none)
    else if c.toNat = 64 then (match magL r with | some (m, k) => if m ≤ 1099511627776 then some ⟨3, m, [], k + 1⟩ else none | none => none)
    else if c.toNat = 35 then (if nameL (wordL r) then some ⟨4, 0, wordL r, (wordL r).length + 1⟩ else none)
    else if c.toNat = 34 then (match textL r with | some (t, k) => if t.length ≤ 64 then some ⟨5, 0, t, k + 1⟩ else none | none => none)
    else if markB c then some ⟨6, 0, [c], 1⟩ else none
structure Tok where
  kind : Int
  at_ : Nat
  n : Int
  s : Bs
  deriving DecidableEq
def TokP.at_ (t : TokP) (k : Nat) : Tok := ⟨t.kind, k, t.n, t.s⟩
def blankB (c : UInt8) : Bool := decide (c.toNat = 32) || decide (c.toNat = 10)
def lexF : Nat → Nat → Bs → Except Nat (List Tok)
  | 0, k, _ => .error k
  | _ + 1, k, [] => .ok [⟨7, k, 0, []⟩]
  | f + 1, k, c :: r => if blankB c then lexF f (k + 1) r else match tokL (c :: r) with
    | none => .error k
    | some t => match lexF f (k + t.len) ((c :: r).drop t.len) with
      | .ok l => .ok (t.at_ k :: l)
      | .error e => .error e
def lexL (l : Bs) : Except Nat (List Tok) := lexF (l.length + 1) 0 l
theorem za {α : Type} (p : α → Bool) : ∀ l : List α, (l.takeWhile p).length ≤ l.length
  | [] => Nat.le_refl _
  | x :: l => by
    rw [List.takeWhile_cons]
    split
    · have := za p l; simp; omega
    · simp
theorem magL_len {l : Bs} {m k : Nat} (h : magL l = some (m, k)) : 1 ≤ k ∧ k ≤ l.length := by
  unfold magL at h
  split at h
  · cases h
  · rename_i hc
    cases h
    have := za qx l
    refine ⟨?_, this⟩
    have : ¬ (l.takeWhile qx).length = 0 := fun h => hc (.inl h)
    omega
theorem textL_len : ∀ {l : Bs} {t : Bs} {k : Nat}, textL l = some (t, k) → 1 ≤ k ∧ k ≤ l.length
  | [], t, k, h => by cases h
  | c :: r, t, k, h => by
    rw [textL_cons] at h
    split at h
    · cases h; simp
    · split at h
      · cases hr : textL r with
        | none => rw [hr] at h; cases h
        | some p =>
          rw [hr] at h
          cases h
          have := textL_len (t := p.1) (k := p.2) hr
          simp; omega
      · split at h
        · match r, h with
          | x :: y :: r', h =>
            rw [oddT] at h
            split at h
            · split at h
              · cases h
              · cases hr : textL r' with
                | none => rw [hr] at h; cases h
                | some p =>
                  rw [hr] at h
                  cases h
                  have := textL_len (t := p.1) (k := p.2) hr
                  simp; omega
            · cases h
        · cases h
theorem tokL_len : ∀ {l : Bs} {t : TokP}, tokL l = some t → 1 ≤ t.len ∧ t.len ≤ l.length
  | c :: r, t, h => by
    rw [tokL] at h
    split at h
    · rename_i hc
      split at h
      · cases h
        refine ⟨?_, za _ _⟩
        have : qL c = true := by simp [qL, hc]
        simp [wordL, List.takeWhile_cons, this]
      · cases h
    · split at h
      · split at h
        · rename_i m k hm
          split at h
          · cases h; exact magL_len hm
          · cases h
        · cases h
      · split at h
        · split at h
          · rename_i m k hm
            split at h
            · cases h
              have := magL_len hm
              simp; omega
            · cases h
          · cases h
        · split at h
          · split at h
            · rename_i m k hm
              split at h
              · cases h
                have := magL_len hm
                simp; omega
              · cases h
            · cases h
          · split at h
            · split at h
              · cases h
                have := za qL r
                simp [wordL]; omega
              · cases h
            · split at h
              · split at h
                · rename_i m k hm
                  split at h
                  · cases h
                    have := textL_len hm
                    simp; omega
                  · cases h
                · cases h
              · split at h
                · cases h; simp
                · cases h
def Tok.shift (d : Nat) (t : Tok) : Tok := ⟨t.kind, t.at_ + d, t.n, t.s⟩
theorem blank_word {c : UInt8} (h : blankB c = true) : qL c = false ∧ qx c = false := by
  simp only [blankB, Bool.or_eq_true, decide_eq_true_eq] at h
  simp only [qL, qW, qx]
  rcases h with h | h <;> rw [h] <;> decide
end Go.Proofs.YtghjfficeglmoaaDoor
namespace Go.Proofs.YtghjfficeglmoaaDoor
set_option linter.unusedVariables false
set_option linter.unusedSimpArgs false
def zig (n : Int) : Nat := if n < 0 then (-2 * n - 1).toNat else (2 * n).toNat
def zag (u : Nat) : Int := if u % 2 = 1 then -((u / 2 : Nat) : Int) - 1 else ((u / 2 : Nat) : Int)
theorem zag_zig (n : Int) : zag (zig n) = n := by
  unfold zig zag
  split <;> split <;> omega
theorem zig_lt {n : Int} (h : R64 n) : zig n < 18446744073709551616 := by
  have h1 := h.1
  have h2 := h.2
  unfold zig
  split <;> omega
def putU : Nat → Nat → Bs
  | 0, _ => []
  | f + 1, u => if u < 128 then [UInt8.ofNat u] else UInt8.ofNat (u % 128 + 128) :: putU f (u / 128)
def putN (n : Int) : Bs := putU 10 (zig n)
def getU : Nat → Nat → Bs → Option (Nat × Nat)
  | 0, _, _ => none
  | _ + 1, _, [] => none
  | f + 1, i, c :: r =>
    if (i = 9 ∧ 1 < c.toNat) ∨ (0 < i ∧ c.toNat = 0) then none
    else if c.toNat < 128 then some (c.toNat, 1)
    else (getU f (i + 1) r).map fun p => (c.toNat - 128 + 128 * p.1, p.2 + 1)
def getN (l : Bs) : Option (Int × Nat) := (getU 10 0 l).map fun p => (zag p.1, p.2)
theorem putU_len : ∀ (f u : Nat), (putU f u).length ≤ f
  | 0, _ => Nat.le_refl _
  | f + 1, u => by
    rw [putU]
    split
    · simp
    · have := putU_len f (u / 128)
      simp; omega
theorem getU_len : ∀ {f i : Nat} {l : Bs} {u k : Nat}, getU f i l = some (u, k) → 1 ≤ k ∧ k ≤ l.length
  | f + 1, i, c :: r, u, k, h => by
    rw [getU] at h
    split at h
    · cases h
    · split at h
      · cases h; simp
      · cases hr : getU f (i + 1) r with
        | none => rw [hr] at h; cases h
        | some p =>
          rw [hr] at h
          cases h
          have := getU_len (u := p.1) (k := p.2) hr
          simp; omega
theorem getU_putU : ∀ (f i u : Nat) (r : Bs), i + f = 10 → 0 < f → (0 < i → 0 < u) → u * 128 ^ i < 18446744073709551616 → getU f i (putU f u ++ r) = some (u, (putU f u).length)
  | f + 1, i, u, r, hi, _, h0, hu => by
    rw [putU]
    by_cases h : u < 128
    · rw [if_pos h]
      have e : (UInt8.ofNat u).toNat = u := by rw [UInt8.toNat_ofNat']; omega
      show getU (f + 1) i (UInt8.ofNat u :: r) = _
      rw [getU, e, if_neg, if_pos h]
      · simp
      · rintro (⟨h9, h1⟩ | ⟨h9, h1⟩)
        · subst h9
          have : (128 : Nat) ^ 9 = 9223372036854775808 := by decide
          rw [this] at hu
          omega
        · have := h0 h9; omega
    · rw [if_neg h]
      have e : (UInt8.ofNat (u % 128 + 128)).toNat = u % 128 + 128 := by rw [UInt8.toNat_ofNat']; omega
      have hf : 0 < f := by
        rcases Nat.eq_zero_or_pos f with hf | hf
        · subst hf
          have : i = 9 := by omega
          subst this
          have : (128 : Nat) ^ 9 = 9223372036854775808 := by decide
          rw [this] at hu
          omega
        · exact hf
      have hp : u / 128 * 128 ^ (i + 1) < 18446744073709551616 := by
        have h1 : u / 128 * 128 ^ (i + 1) = (u / 128 * 128) * 128 ^ i := by
          rw [Nat.pow_succ, Nat.mul_comm (128 ^ i) 128, ← Nat.mul_assoc]
        have h2 : u / 128 * 128 ≤ u := Nat.div_mul_le_self u 128
        rw [h1]
        exact Nat.lt_of_le_of_lt (Nat.mul_le_mul_right _ h2) hu
      show getU (f + 1) i (UInt8.ofNat (u % 128 + 128) :: (putU f (u / 128) ++ r)) = _
      rw [getU, e, if_neg (by omega), if_neg (by omega), getU_putU f (i + 1) (u / 128) r (by omega) hf (by omega) hp]
      simp only [Option.map_some, List.length_cons]
      rw [show u % 128 + 128 - 128 + 128 * (u / 128) = u by omega]
theorem getN_putN {n : Int} (h : R64 n) (r : Bs) : getN (putN n ++ r) = some (n, (putN n).length) := by
  unfold getN putN
  rw [getU_putU 10 0 (zig n) r rfl (by omega) (fun h => absurd h (by omega)) (by have := zig_lt h; omega)]
  simp only [Option.map_some, zag_zig]
theorem getU_lt : ∀ {f i : Nat} {l : Bs} {u k : Nat}, i + f = 10 → getU f i l = some (u, k) → u * 128 ^ i < 18446744073709551616
  | f + 1, i, c :: r, u, k, hi, h => by
    have hc := UInt8.toNat_lt c
    rw [getU] at h
    split at h
    · cases h
    · rename_i hn
      split at h
      · rename_i h7
        cases h
        by_cases h9 : i = 9
        · subst h9
          have : (128 : Nat) ^ 9 = 9223372036854775808 := by decide
          rw [this]
          omega
        · have h1 : (128 : Nat) ^ i ≤ 128 ^ 8 := Nat.pow_le_pow_right (by omega) (by omega)
          have h2 : (128 : Nat) ^ 8 = 72057594037927936 := by decide
          calc c.toNat * 128 ^ i ≤ 127 * 128 ^ 8 := Nat.mul_le_mul (by omega) h1
            _ < _ := by rw [h2]; decide
      · cases hr : getU f (i + 1) r with
        | none => rw [hr] at h; cases h
        | some p =>
          rw [hr] at h
          cases h
          have ih := getU_lt (u := p.1) (k := p.2) (by omega) hr
          have e : (c.toNat - 128 + 128 * p.1) * 128 ^ i = (c.toNat - 128) * 128 ^ i + p.1 * 128 ^ (i + 1) := by
            rw [Nat.add_mul, Nat.pow_succ, Nat.mul_comm (128 ^ i) 128, Nat.mul_comm 128 p.1, Nat.mul_assoc]
          rw [e]
          have h3 : (c.toNat - 128) * 128 ^ i < 128 ^ (i + 1) := by
            rw [Nat.pow_succ, Nat.mul_comm (128 ^ i) 128]
            exact Nat.mul_lt_mul_of_pos_right (by omega) (Nat.pow_pos (by omega))
          have hi8 : i + 1 ≤ 9 := by
            rcases Nat.eq_zero_or_pos f with hf | hf
            · subst hf; simp [getU] at hr
            · omega
          obtain ⟨d, hd⟩ : ∃ d, 18446744073709551616 = d * 128 ^ (i + 1) := by
            refine ⟨2 ^ (64 - 7 * (i + 1)), ?_⟩
            have h128 : (128 : Nat) = 2 ^ 7 := by decide
            rw [h128, ← Nat.pow_mul, ← Nat.pow_add, show 64 - 7 * (i + 1) + 7 * (i + 1) = 64 by omega]
          rw [hd] at ih ⊢
          have h4 : p.1 < d := Nat.lt_of_mul_lt_mul_right ih
          calc (c.toNat - 128) * 128 ^ i + p.1 * 128 ^ (i + 1) < 128 ^ (i + 1) + p.1 * 128 ^ (i + 1) := Nat.add_lt_add_right h3 _
            _ = (p.1 + 1) * 128 ^ (i + 1) := by rw [Nat.add_mul, Nat.one_mul, Nat.add_comm]
            _ ≤ d * 128 ^ (i + 1) := Nat.mul_le_mul_right _ h4
theorem zag_R64 {u : Nat} (h : u < 18446744073709551616) : R64 (zag u) := by
  unfold zag
  split <;> (constructor <;> omega)
theorem getN_R64 {l : Bs} {n : Int} {k : Nat} (h : getN l = some (n, k)) : R64 n := by
  unfold getN at h
  cases hu : getU 10 0 l with
  | none => rw [hu] at h; cases h
  | some p =>
    rw [hu] at h
    cases h
    have := getU_lt (u := p.1) (k := p.2) rfl hu
    exact zag_R64 (by omega)
end Go.Proofs.YtghjfficeglmoaaDoor
namespace Go.Proofs.YtghjfficeglmoaaDoor
set_option linter.unusedVariables false
set_option linter.unusedSimpArgs false
theorem ofNat64 (u : Nat) (h : u < 18446744073709551616) : (BitVec.ofInt IntKind.u64.bits (u : Int)).toNat = u := by
  show (BitVec.ofInt 64 (u : Int)).toNat = u
  rw [BitVec.toNat_ofInt]
  omega
theorem u64_nat {u : Nat} (h : u < 18446744073709551616) : IntKind.u64.wrap (u : Int) = (u : Int) := by
  simp [IntKind.wrap, IntKind.bits, IntKind.signed]; omega
theorem and127 {u : Nat} (h : u < 18446744073709551616) : IntKind.u64.wrap ((BitVec.ofInt IntKind.u64.bits (u : Int) &&& BitVec.ofInt IntKind.u64.bits 127).toNat : Int) = ((u % 128 : Nat) : Int) := by
  rw [BitVec.toNat_and, ofNat64 u h, show (BitVec.ofInt IntKind.u64.bits 127).toNat = 2 ^ 7 - 1 from by decide, Nat.and_two_pow_sub_one_eq_mod]
  exact u64_nat (by omega)
theorem and1 {u : Nat} (h : u < 18446744073709551616) : IntKind.u64.wrap ((BitVec.ofInt IntKind.u64.bits (u : Int) &&& BitVec.ofInt IntKind.u64.bits 1).toNat : Int) = ((u % 2 : Nat) : Int) := by
  rw [BitVec.toNat_and, ofNat64 u h, show (BitVec.ofInt IntKind.u64.bits 1).toNat = 2 ^ 1 - 1 from by decide, Nat.and_two_pow_sub_one_eq_mod]
  exact u64_nat (by omega)
theorem or128 {u : Nat} (h : u < 128) : IntKind.u64.wrap ((BitVec.ofInt IntKind.u64.bits (u : Int) ||| BitVec.ofInt IntKind.u64.bits 128).toNat : Int) = ((u + 128 : Nat) : Int) := by
  rw [BitVec.toNat_or, ofNat64 u (by omega), show (BitVec.ofInt IntKind.u64.bits 128).toNat = 1 <<< 7 from by decide, Nat.or_comm, ← Nat.shiftLeft_add_eq_or_of_lt (by omega)]
  rw [show 1 <<< 7 + u = u + 128 by simp [Nat.shiftLeft_eq]; omega]
  exact u64_nat (by omega)
theorem not64 {u : Nat} (h : u < 18446744073709551616) : IntKind.u64.wrap ((BitVec.ofInt IntKind.u64.bits (IntKind.u64.max) ^^^ BitVec.ofInt IntKind.u64.bits (u : Int)).toNat : Int) = ((18446744073709551615 - u : Nat) : Int) := by
  have e : (BitVec.ofInt 64 (IntKind.u64.max) ^^^ BitVec.ofInt 64 (u : Int)).toNat = 18446744073709551615 - u := by
    have e1 : BitVec.ofInt 64 (IntKind.u64.max) = BitVec.allOnes 64 := by decide
    rw [e1, BitVec.allOnes_xor, BitVec.toNat_not, show (BitVec.ofInt 64 (u : Int)).toNat = u from ofNat64 u h]
  show IntKind.u64.wrap ((BitVec.ofInt 64 (IntKind.u64.max) ^^^ BitVec.ofInt 64 (u : Int)).toNat : Int) = _
  rw [e]
  exact u64_nat (by omega)
theorem or_shift {u x i : Nat} (hu : u < 2 ^ (7 * i)) (hx : u + x * 2 ^ (7 * i) < 18446744073709551616) (h2 : x * 2 ^ (7 * i) < 18446744073709551616) :
    IntKind.u64.wrap ((BitVec.ofInt IntKind.u64.bits (u : Int) ||| BitVec.ofInt IntKind.u64.bits ((x * 2 ^ (7 * i) : Nat) : Int)).toNat : Int) = ((u + x * 2 ^ (7 * i) : Nat) : Int) := by
  rw [BitVec.toNat_or, ofNat64 u (by omega), ofNat64 _ h2, Nat.or_comm, ← Nat.shiftLeft_eq, ← Nat.shiftLeft_add_eq_or_of_lt hu, Nat.shiftLeft_eq, Nat.add_comm]
  exact u64_nat hx
theorem zig_u {n : Int} (h : R64 n) : IntKind.u64.wrap (IntKind.u64.wrap n * 2 ^ (min (1 : Int).toNat IntKind.u64.bits)) = ((if n < 0 then 18446744073709551616 + 2 * n else 2 * n : Int)) := by
  have h1 := h.1
  have h2 := h.2
  have e : ((2 : Int) ^ (min (1 : Int).toNat IntKind.u64.bits)) = 2 := by decide
  rw [e]
  simp only [IntKind.wrap, IntKind.bits, IntKind.signed, Bool.false_and, Bool.false_eq_true, if_false]
  split <;> omega
end Go.Proofs.YtghjfficeglmoaaDoor
namespace Go.Proofs.YtghjfficeglmoaaDoor
set_option linter.unusedVariables false
set_option linter.unusedSimpArgs false
open Go.RowKit
set_option maxHeartbeats 4000000
abbrev pU (c : UInt8) : PV := .v (.int .u8 (c.toNat : Int))
abbrev pL (l : Bs) : PV := pS ⟨⟨l⟩⟩
def bR (l : Bs) : List (List PV) := l.map fun c => [pU c]
def bP (l : Bs) : PV := .sl 1 (bR l)
theorem zg (l : Bs) : (bR l).length = l.length := by simp [bR]
theorem bR_app (a b : Bs) : bR (a ++ b) = bR a ++ bR b := by simp [bR]
theorem bR_drop (a : Bs) (n : Nat) : (bR a).drop n = bR (a.drop n) := by simp [bR]
theorem bR_take (a : Bs) (n : Nat) : (bR a).take n = bR (a.take n) := by simp [bR]
theorem bR_at {l : Bs} {k : Nat} (h : k < l.length) : (bR l).getD k [] = [pU l[k]] := getD_map h
theorem u8_in {n : Int} (h : 0 ≤ n ∧ n < 256) : IntKind.u8.wrap n = n := by
  simp [IntKind.wrap, IntKind.bits, IntKind.signed]; omega
theorem bytesOf_bR : ∀ b : Bs, zF (bR b) = some b
  | [] => rfl
  | c :: b => by
    have h : byteOf [pU c] = some c := by
      show some (UInt8.ofNat (c.toNat : Int).toNat) = some c
      rw [Int.toNat_natCast, UInt8.ofNat_toNat]
    show zF ([pU c] :: bR b) = _
    rw [zF, h, bytesOf_bR b]
section
variable {P : Program} {T : TT} (hT : qs P T) {st : St} {K : List Nat}
include hT
theorem rdO_textP {o : Oper} {sT dT e : TypeId} {x : Operand} {b : Bs} {s1 s2 d1 d2 e1 e2 : Nat} {s3 d3 e3 : List Value} {s4 d4 e4 : Bool} (ho : o.op = .convert sT dT x) (hx : evS st x = some (.p (.sl 1 (bR b))))
    (hs : lk sT T = some ⟨s1, s2, .sl e, s3, s4⟩) (hd : lk dT T = some ⟨d1, d2, .str, d3, d4⟩) (he : lk e T = some ⟨e1, e2, .int .u8, e3, e4⟩) : RdO P K st o (.p (pL b)) := by
  have hE : eConv T K st sT dT (evS st x) some = some (.p (pL b)) := by
    rw [hx]
    unfold eConv eText
    simp only [lkF_eq, hs, hd, he, bytesOf_bR, fList_eq]
  obtain ⟨s, h1, h2⟩ := eConv_ok hT ho hE
  cases h2
  exact h1
theorem act_ptrcmp {o : Oper} {t t' : TypeId} {x : Operand} (ho : o.op = .binOp .eql t x (.const (.pointer none)) t') {ti : TyI} (ht : lk t T = some ti) (hte : ti.d = .ptr) {j off : Nat} (hx : evS st x = some (.ptr j off)) (hd : qX st o.dst = true) {Q : St → Prop} (h : Q (st.put o.dst (.p (.v (.bool false))))) : ActOk P [] o st Q := by
  intro w0 Sx γ a w QQ hI
  have hv : ∃ A : Addr, a.eval x = .pointer (some A) := by
    have := qg hI hx
    generalize a.eval x = u at this ⊢
    cases this with
    | ptr h hb => exact ⟨_, rfl⟩
  obtain ⟨A, hv⟩ := hv
  have hyv : a.eval (.const (.pointer none)) = .pointer none := rfl
  have hrun : (execOp a.eval o).run P w = .ok (.value (.bool false)) w := by
    simp only [execOp, ho, hv, hyv]
    refine run_v ?_
    have hu := (hT t ti ht).und
    rw [hte] at hu
    obtain ⟨el, hu⟩ := hu
    have h1 : (eqGuard .eql t x (.const (.pointer none)) (.pointer (some A)) (.pointer none)).run P w = .ok () w := by simp [eqGuard]
    rw [Sem.run_bind, h1]
    simp only [Result.andThen_ok]
    have hq : ∀ d, (Op.equalIn (d + 1) t (.pointer (some A)) (.pointer none)).run P w = .ok false w := fun d => by simp [Op.equalIn, run_underlying hu]
    simp [binOp, Op.equal, Op.maxDepth, hq 9999]
  unfold Oper.wp
  rw [hrun, Oper.upon_value]
  exact ⟨γ, _, h, hI.put hd (.p (.v rfl)), ⟨Nat.le_refl _, fun _ _ _ => rfl⟩, fun K _ b _ hb => by rw [put_own]; exact hb⟩
end
theorem and127b {c : Nat} (h : c < 256) : IntKind.u8.wrap ((BitVec.ofInt IntKind.u8.bits (c : Int) &&& BitVec.ofInt IntKind.u8.bits 127).toNat : Int) = ((c % 128 : Nat) : Int) := by
  have e : (BitVec.ofInt 8 (c : Int)).toNat = c := by rw [BitVec.toNat_ofInt]; omega
  show IntKind.u8.wrap ((BitVec.ofInt 8 (c : Int) &&& BitVec.ofInt 8 127).toNat : Int) = _
  rw [BitVec.toNat_and, e, show (BitVec.ofInt 8 127).toNat = 2 ^ 7 - 1 from by decide, Nat.and_two_pow_sub_one_eq_mod]
  exact u8_in (by omega)
theorem not_i64 {u : Nat} (h : u < 9223372036854775808) : IntKind.i64.wrap ((BitVec.ofInt IntKind.i64.bits (-1) ^^^ BitVec.ofInt IntKind.i64.bits (u : Int)).toNat : Int) = -(u : Int) - 1 := by
  have e : (BitVec.ofInt 64 (-1) ^^^ BitVec.ofInt 64 (u : Int)).toNat = 18446744073709551615 - u := by
    have e1 : BitVec.ofInt 64 (-1) = BitVec.allOnes 64 := by decide
    rw [e1, BitVec.allOnes_xor, BitVec.toNat_not, show (BitVec.ofInt 64 (u : Int)).toNat = u from ofNat64 u (by omega)]
  show IntKind.i64.wrap ((BitVec.ofInt 64 (-1) ^^^ BitVec.ofInt 64 (u : Int)).toNat : Int) = _
  rw [e, IntKind.wrap_i64]
  omega
theorem shl_u64 {x k : Nat} (hk : k ≤ 63) (hx : x * 2 ^ k < 18446744073709551616) : IntKind.u64.wrap ((x : Int) * 2 ^ (min ((k : Int).toNat) IntKind.u64.bits)) = ((x * 2 ^ k : Nat) : Int) := by
  rw [Int.toNat_natCast, show min k IntKind.u64.bits = k from Nat.min_eq_left (show k ≤ 64 by omega), show (x : Int) * 2 ^ k = ((x * 2 ^ k : Nat) : Int) by rw [Int.natCast_mul, Int.natCast_pow]; rfl]
  exact u64_nat hx
theorem shr_1 (x : Nat) : (x : Int).fdiv (2 ^ (min (1 : Int).toNat IntKind.u64.bits)) = ((x / 2 : Nat) : Int) := by
  rw [show ((2 : Int) ^ (min (1 : Int).toNat IntKind.u64.bits)) = 2 from by decide, Int.fdiv_eq_ediv_of_nonneg _ (by omega)]
  omega
theorem shr_7 (x : Nat) : (x : Int).fdiv (2 ^ (min (7 : Int).toNat IntKind.u64.bits)) = ((x / 128 : Nat) : Int) := by
  rw [show ((2 : Int) ^ (min (7 : Int).toNat IntKind.u64.bits)) = 128 from by decide, Int.fdiv_eq_ediv_of_nonneg _ (by omega)]
  omega
theorem not_i64s {u : Nat} (h : u < 9223372036854775808) : IntKind.i64.wrap ((BitVec.ofInt IntKind.i64.bits (if IntKind.i64.signed = true then -1 else IntKind.i64.max) ^^^ BitVec.ofInt IntKind.i64.bits (u : Int)).toNat : Int) = -(u : Int) - 1 := not_i64 h
theorem not_u64s {u : Nat} (h : u < 18446744073709551616) : IntKind.u64.wrap ((BitVec.ofInt IntKind.u64.bits (if IntKind.u64.signed = true then -1 else IntKind.u64.max) ^^^ BitVec.ofInt IntKind.u64.bits (u : Int)).toNat : Int) = ((18446744073709551615 - u : Nat) : Int) := not64 h
theorem swm_rdO {P : Program} {ops : List Oper} {K : List Nat} {st : St} {Q : St → Prop} {i : Nat} {r : List (Nat × Bool)} {o : Oper} {s : SV} (hi : nthO ops i = some o) (hw : qP ops st o = some true) (hr : RdO P K st o s) (hd : qX st o.dst = true) (h : SWM P ops K r Q (st.put o.dst s)) : SWM P ops K ((i, true) :: r) Q st := fun w0 Sx γ a w QQ hI hQ => by
  have hrest := fun v (hv : RelS (okO Sx γ st.own) (hp γ st.own) w s v) => h w0 Sx γ _ w QQ (hI.put (dst := o.dst) hd hv) hQ
  simp only [put_own] at hrest
  obtain ⟨v, h1, h2⟩ := hr w0 Sx γ a w hI
  exact ⟨SameOn.refl _ _, o, v, (qC ops i).trans hi, Or.inl ⟨qJ hI hw, h2⟩, hrest v h1⟩
theorem swt_wk {P : Program} {ops l : List Oper} {Q : St → Prop} {st st' : St} (h : Wk st st') (h' : SWT P ops l Q st') : SWT P ops l Q st := fun w0 Sx γ a w QQ hI hQ => by
  obtain ⟨γ', hI'⟩ := h w0 Sx γ a w hI
  exact h' w0 Sx γ' a w QQ hI' hQ
theorem SWT.mono {P : Program} {ops l : List Oper} {Q Q' : St → Prop} {st : St} (h : SWT P ops l Q' st) (hm : ∀ s, Q' s → Q s) : SWT P ops l Q st := fun w0 Sx γ a w QQ hI hQ =>
  h w0 Sx γ a w QQ hI fun st' γ' a' w' hI' hq => hQ st' γ' a' w' hI' (hm st' hq)
end Go.Proofs.YtghjfficeglmoaaDoor
namespace Go.Proofs.YtghjfficeglmoaaDoor
set_option linter.unusedVariables false
set_option linter.unusedSimpArgs false
abbrev Rdr := Nat × Bool
def inP (l : Bs) (st : Rdr) (lo hi : Int) : Int × Rdr :=
  if st.2 then (0, st) else match getN (l.drop st.1) with
    | none => (0, st.1, true)
    | some (n, k) => if n < lo ∨ hi < n then (0, st.1, true) else (n, st.1 + k, false)
def textP (l : Bs) (st : Rdr) (most : Int) : Bs × Rdr :=
  if (inP l st 0 most).2.2 then ([], (inP l st 0 most).2)
  else if ((l.length - (inP l st 0 most).2.1 : Nat) : Int) < (inP l st 0 most).1 then ([], st.1, true)
  else ((l.drop (inP l st 0 most).2.1).take (inP l st 0 most).1.toNat, (inP l st 0 most).2.1 + (inP l st 0 most).1.toNat, false)
def lo64 : Int := -9223372036854775808
def hi64 : Int := 9223372036854775807
def noneV : Val := ⟨0, 0, ⟨⟨[]⟩⟩⟩
def qN (l : Bs) (st : Rdr) : Val × Rdr :=
  if (inP l st 1 5).1 = 3 ∨ (inP l st 1 5).1 = 5 then (⟨(inP l st 1 5).1, 0, ⟨⟨(textP l (inP l st 1 5).2 64).1⟩⟩⟩, (textP l (inP l st 1 5).2 64).2)
  else (⟨(inP l st 1 5).1, (inP l (inP l st 1 5).2 lo64 hi64).1, ⟨⟨[]⟩⟩⟩, (inP l (inP l st 1 5).2 lo64 hi64).2)
def getP (l : Bs) (st : Rdr) : Val × Rdr :=
  if (qN l st).2.2 then (noneV, (qN l st).2)
  else if (qN l st).1.right then qN l st
  else (noneV, st.1, true)
def putV (v : Val) : Bs := putN v.kind ++ (if v.kind = 3 ∨ v.kind = 5 then putN (v.s.size : Int) ++ v.s.data.toList else putN v.n)
theorem inP_put {l p r : Bs} {n lo hi : Int} {a : Nat} (hd : l.drop a = p ++ r) (hp : p = putN n) (hn : R64 n) (h : lo ≤ n ∧ n ≤ hi) : inP l (a, false) lo hi = (n, a + p.length, false) := by
  subst hp
  unfold inP
  simp only [Bool.false_eq_true, if_false]
  rw [hd, getN_putN hn]
  simp only
  rw [if_neg (by omega)]
theorem drop_app {l p r : Bs} {a : Nat} (hd : l.drop a = p ++ r) : l.drop (a + p.length) = r := by
  rw [← List.drop_drop, hd, List.drop_left]
theorem right_kind {v : Val} (h : v.right = true) : 1 ≤ v.kind ∧ v.kind ≤ 5 := by
  unfold Val.right at h
  repeat' split at h
  all_goals first | omega | cases h
theorem nameS_size {s : ByteArray} (h : nameS s = true) : s.size ≤ 16 := by
  unfold nameS at h
  simp only [Bool.and_eq_true, decide_eq_true_eq] at h
  exact h.2
theorem right_text {v : Val} (h : v.right = true) (hk : v.kind = 3 ∨ v.kind = 5) : v.n = 0 ∧ v.s.size ≤ 64 := by
  unfold Val.right at h
  rcases hk with hk | hk
  · rw [if_neg (by omega), if_neg (by omega), if_pos hk] at h
    simp only [Bool.and_eq_true, decide_eq_true_eq] at h
    exact h
  · rw [if_neg (by omega), if_neg (by omega), if_neg (by omega), if_neg (by omega), if_pos hk] at h
    simp only [Bool.and_eq_true, decide_eq_true_eq] at h
    have := nameS_size h.2
    exact ⟨h.1, by omega⟩
theorem right_num {v : Val} (h : v.right = true) (hk : ¬ (v.kind = 3 ∨ v.kind = 5)) : v.s.size = 0 := by
  unfold Val.right at h
  repeat' split at h
  · simp only [Bool.and_eq_true, decide_eq_true_eq] at h
    exact h.2
  · simp only [decide_eq_true_eq] at h
    exact h
  · exact absurd (.inl ‹_›) hk
  · simp only [Bool.and_eq_true, decide_eq_true_eq] at h
    exact h.2
  · exact absurd (.inr ‹_›) hk
  · cases h
theorem bytes_nil {s : ByteArray} (h : s.size = 0) : s = ⟨⟨[]⟩⟩ := by
  obtain ⟨⟨l⟩⟩ := s
  have : l.length = 0 := h
  rw [List.length_eq_zero_iff.1 this]
theorem getP_put {v : Val} (hr : v.right = true) (hn : R64 v.n) : getP (putV v) (0, false) = (v, (putV v).length, false) := by
  have hk := right_kind hr
  have hkR : R64 v.kind := ⟨by omega, by omega⟩
  have h1 : inP (putV v) (0, false) 1 5 = (v.kind, (putN v.kind).length, false) := by
    have := inP_put (l := putV v) (a := 0) (lo := 1) (hi := 5) (by rw [List.drop_zero]; rfl) rfl hkR hk
    rw [Nat.zero_add] at this
    exact this
  by_cases ht : v.kind = 3 ∨ v.kind = 5
  · obtain ⟨h0, hs⟩ := right_text hr ht
    have hd : (putV v).drop (putN v.kind).length = putN (v.s.size : Int) ++ v.s.data.toList := by
      unfold putV; rw [if_pos ht, List.drop_left]
    have h2 : inP (putV v) ((putN v.kind).length, false) 0 64 = ((v.s.size : Int), (putN v.kind).length + (putN (v.s.size : Int)).length, false) := inP_put hd rfl ⟨by omega, by omega⟩ ⟨by omega, by omega⟩
    have hd2 := drop_app hd
    have hsz : v.s.data.toList.length = v.s.size := rfl
    have hlen : (putV v).length = (putN v.kind).length + (putN (v.s.size : Int)).length + v.s.size := by
      unfold putV; rw [if_pos ht]; simp only [List.length_append, hsz]; omega
    have h3 : textP (putV v) ((putN v.kind).length, false) 64 = (v.s.data.toList, (putV v).length, false) := by
      unfold textP
      rw [h2]
      simp only [Bool.false_eq_true, if_false]
      rw [hd2, if_neg (by rw [hlen]; omega), Int.toNat_natCast, List.take_of_length_le (by omega), hlen]
    have hp : qN (putV v) (0, false) = (v, (putV v).length, false) := by
      unfold qN
      rw [h1]
      simp only
      rw [if_pos ht, h3]
      obtain ⟨k, n, ⟨⟨s⟩⟩⟩ := v
      simp only at h0
      subst h0
      rfl
    unfold getP
    rw [hp]
    simp [hr]
  · have hs := right_num hr ht
    have hd : (putV v).drop (putN v.kind).length = putN v.n ++ [] := by
      unfold putV; rw [if_neg ht, List.drop_left, List.append_nil]
    have h2 : inP (putV v) ((putN v.kind).length, false) lo64 hi64 = (v.n, (putN v.kind).length + (putN v.n).length, false) := inP_put hd rfl hn ⟨hn.1, hn.2⟩
    have hlen : (putV v).length = (putN v.kind).length + (putN v.n).length := by
      unfold putV; rw [if_neg ht, List.length_append]
    have hp : qN (putV v) (0, false) = (v, (putV v).length, false) := by
      unfold qN
      rw [h1]
      simp only
      rw [if_neg ht, h2, hlen]
      obtain ⟨k, n, s⟩ := v
      have := bytes_nil hs
      simp only at this
      subst this
      rfl
    unfold getP
    rw [hp]
    simp [hr]
theorem putV_inj {a b : Val} (ha : a.right = true) (hb : b.right = true) (hna : R64 a.n) (hnb : R64 b.n) (h : putV a = putV b) : a = b := by
  have h1 := getP_put ha hna
  rw [h, getP_put hb hnb] at h1
  exact (Prod.mk.inj h1).1.symm
end Go.Proofs.YtghjfficeglmoaaDoor
namespace Go.Proofs.YtghjfficeglmoaaDoor
set_option linter.unusedVariables false
set_option linter.unusedSimpArgs false
open Go.RowKit
set_option maxHeartbeats 4000000
abbrev rdO (i : Nat) (l : Bs) (st : Rdr) : List (Nat × Box) := [(i, .cells [.p (bP l), .p (pI (st.1 : Int)), .p (pB st.2)])]
def numPk (r : Bs) : Int × Nat := match getN r with
  | some p => p
  | none => (0, 0)
theorem getU_step {i : Nat} {c : UInt8} {r : Bs} (hi : i < 10) (h1 : ¬ ((i = 9 ∧ 1 < c.toNat) ∨ (0 < i ∧ c.toNat = 0))) : getU (10 - i) i (c :: r) = if c.toNat < 128 then some (c.toNat, 1) else (getU (10 - (i + 1)) (i + 1) r).map fun p => (c.toNat - 128 + 128 * p.1, p.2 + 1) := by
  have e : 10 - i = (10 - (i + 1)) + 1 := by omega
  rw [e, getU, if_neg h1]
theorem getU_bad {i : Nat} {c : UInt8} {r : Bs} (hi : i < 10) (h1 : (i = 9 ∧ 1 < c.toNat) ∨ (0 < i ∧ c.toNat = 0)) : getU (10 - i) i (c :: r) = none := by
  have e : 10 - i = (10 - (i + 1)) + 1 := by omega
  rw [e, getU, if_pos h1]
theorem getU_nil {f i : Nat} : getU f i [] = none := by cases f <;> rfl
def onU (u i : Nat) (r : Bs) : Option (Nat × Nat) := (getU (10 - i) i r).map fun p => (u + p.1 * 2 ^ (7 * i), p.2 + i)
theorem onU_0 (r : Bs) : onU 0 0 r = getU 10 0 r := by
  unfold onU
  cases getU 10 0 r <;> simp
theorem onU_last {u i : Nat} {c : UInt8} {r : Bs} (hi : i < 10) (h1 : ¬ ((i = 9 ∧ 1 < c.toNat) ∨ (0 < i ∧ c.toNat = 0))) (h : c.toNat < 128) : onU u i (c :: r) = some (u + c.toNat * 2 ^ (7 * i), i + 1) := by
  unfold onU
  rw [getU_step hi h1, if_pos h]
  simp [Nat.add_comm]
theorem onU_more {u i : Nat} {c : UInt8} {r : Bs} (hi : i < 10) (h1 : ¬ ((i = 9 ∧ 1 < c.toNat) ∨ (0 < i ∧ c.toNat = 0))) (h : ¬ c.toNat < 128) : onU u i (c :: r) = onU (u + c.toNat % 128 * 2 ^ (7 * i)) (i + 1) r := by
  unfold onU
  rw [getU_step hi h1, if_neg h]
  have hc := UInt8.toNat_lt c
  cases getU (10 - (i + 1)) (i + 1) r with
  | none => rfl
  | some p =>
    simp only [Option.map_some, Option.some.injEq, Prod.mk.injEq]
    refine ⟨?_, by omega⟩
    have e : 2 ^ (7 * (i + 1)) = 128 * 2 ^ (7 * i) := by rw [show 7 * (i + 1) = 7 + 7 * i by omega, Nat.pow_add]
    rw [e, show c.toNat - 128 = c.toNat % 128 by omega, Nat.add_mul, Nat.mul_comm 128 p.1, Nat.mul_assoc, Nat.add_assoc]
theorem onU_bad {u i : Nat} {c : UInt8} {r : Bs} (hi : i < 10) (h1 : (i = 9 ∧ 1 < c.toNat) ∨ (0 < i ∧ c.toNat = 0)) : onU u i (c :: r) = none := by
  unfold onU
  rw [getU_bad hi h1]; rfl
theorem onU_nil {u i : Nat} : onU u i [] = none := by unfold onU; rw [getU_nil]; rfl
theorem onU_end {u i : Nat} {r : Bs} (h : 10 ≤ i) : onU u i r = none := by unfold onU; rw [show 10 - i = 0 by omega, getU]; rfl
theorem numPk_none {r : Bs} (h : getU 10 0 r = none) : numPk r = (0, 0) := by unfold numPk getN; rw [h]; rfl
theorem numPk_some {r : Bs} {u k : Nat} (h : getU 10 0 r = some (u, k)) : numPk r = (zag u, k) := by unfold numPk getN; rw [h]; rfl
theorem or_byte {u i c : Nat} (hu : u < 2 ^ (7 * i)) (hi : i < 10) (hc : c < 256) (h9 : i = 9 → c ≤ 1) :
    u + c % 128 * 2 ^ (7 * i) < 18446744073709551616 ∧ (i < 9 → u + c % 128 * 2 ^ (7 * i) < 2 ^ (7 * (i + 1))) := by
  have e : 2 ^ (7 * (i + 1)) = 128 * 2 ^ (7 * i) := by rw [show 7 * (i + 1) = 7 + 7 * i by omega, Nat.pow_add]
  have h1 : i < 9 → u + c % 128 * 2 ^ (7 * i) < 2 ^ (7 * (i + 1)) := fun hi9 => by
    rw [e]
    have : c % 128 * 2 ^ (7 * i) ≤ 127 * 2 ^ (7 * i) := Nat.mul_le_mul_right _ (by omega)
    omega
  refine ⟨?_, h1⟩
  by_cases hi9 : i = 9
  · have := h9 hi9
    subst hi9
    have h2 : (2 : Nat) ^ (7 * 9) = 9223372036854775808 := by decide
    rw [h2] at hu ⊢
    omega
  · have h3 := h1 (by omega)
    have h4 : (2 : Nat) ^ (7 * (i + 1)) ≤ 2 ^ 63 := Nat.pow_le_pow_right (by omega) (by omega)
    have h5 : (2 : Nat) ^ 63 = 9223372036854775808 := by decide
    omega
theorem number_h (l : Bs) (hl : l.length ≤ 1000) (a : Nat) (ha : a ≤ l.length) (b : Bool) : zh Tryd.prog 61 [.ptr 1000000 0] (rdO 1000000 l (a, b)) (.tup [.p (pI (numPk (l.drop a)).1), .p (pI ((numPk (l.drop a)).2 : Int))]) (rdO 1000000 l (a, b)) := by
  have ll := zg l
  refine qz (ts := [2,3]) Tryd.func61 (by kernel_rfl) rfl rfl rfl ?_
  (repeat refine qb ?_); refine qa ?_
  repeat (first | refine zR ?_ | refine zK ?_ | refine zM ?_ | refine zB ?_ | refine zA ?_ | refine zS ?_ | refine zL ?_)
  refine qc ?_
  (repeat refine qb ?_); refine qa ?_
  repeat (first | refine zR ?_ | refine zK ?_ | refine zM ?_ | refine zB ?_ | refine zA ?_ | refine zS ?_ | refine zL ?_)
  refine qc ?_
  (repeat refine qb ?_); refine qa ?_
  repeat (first | refine zR ?_ | refine zK ?_ | refine zM ?_ | refine zB ?_ | refine zA ?_ | refine zS ?_ | refine zL ?_)
  refine qc ?_
  (repeat refine qb ?_); refine qS ?_
  refine SW.wk (qy [0, 4, 5] [(1000000, 1000000)] rfl rfl) ?_
  refine sw_loop (fun m s => ∃ (i u : Nat) (ii uu : Int), i ≤ 10 ∧ m = 10 - i ∧ ii = i ∧ uu = u ∧ (i < 10 → u < 2 ^ (7 * i)) ∧ onU u i (l.drop (a + i)) = getU 10 0 (l.drop a) ∧ s = ⟨74, [(0, .ptr 1000000 0), (4, .p (.v (.int .u64 uu))), (5, .p (pI ii))], rdO 1000000 l (a, b)⟩) 10 ⟨0, 0, 0, 0, by omega, rfl, rfl, rfl, fun _ => by omega, by rw [Nat.add_zero]; exact onU_0 _, rfl⟩ ?_
  rintro m s ⟨i, u, _, _, hi, rfl, rfl, rfl, hu, hO, rfl⟩
  (repeat refine qb ?_); refine qv [] [(0, true), (1, true), (2, true), (3, true), (4, true), (5, true), (6, true), (7, true), (8, true), (9, true), (10, true), (11, true), (12, true), (13, true), (14, true), (15, true)] (by kernel_rfl) (by kernel_rfl) (by kernel_rfl) ?_
  repeat (first | refine yR ?_ | refine yK ?_ | refine yM ?_ | refine yB ?_ | refine yA ?_ | refine yS ?_ | refine yL ?_)
  by_cases hi10 : i < 10
  rotate_left
  · rw [show decide ((i : Int) < 10) = false by simp; omega]
    repeat (first | refine yR ?_ | refine yK ?_ | refine yM ?_ | refine yB ?_ | refine yA ?_ | refine yS ?_ | refine yL ?_)
    refine qF ?_
    (repeat refine qb ?_); refine qh rfl (fun hc => ?_) (fun hc => ?_)
    · cases hc
    refine sw_exit ?_
    (repeat refine qb ?_); refine qa ?_
    repeat (first | refine zR ?_ | refine zK ?_ | refine zM ?_ | refine zB ?_ | refine zA ?_ | refine zS ?_ | refine zL ?_)
    refine qc ?_
    (repeat refine qb ?_); refine qk ?_
    rw [numPk_none (by rw [← hO]; exact onU_end (by omega))]
    exact ⟨Or.inr rfl, _, _, [(1000000, 1000000)], Wk.refl _, rfl, rfl, rfl, rfl⟩
  rw [show decide ((i : Int) < 10) = true by simp; omega]
  repeat (first | refine yR ?_ | refine yK ?_ | refine yM ?_ | refine yB ?_ | refine yA ?_ | refine yS ?_ | refine yL ?_)
  rw [ll, show IntKind.i64.wrap ((a : Int) + (i : Int)) = ((a + i : Nat) : Int) from IntWalk.i64_in _ (by omega)]
  by_cases hlt : a + i < l.length
  rotate_left
  · rw [show decide (((a + i : Nat) : Int) < (l.length : Int)) = false by simp; omega]
    repeat (first | refine yR ?_ | refine yK ?_ | refine yM ?_ | refine yB ?_ | refine yA ?_ | refine yS ?_ | refine yL ?_)
    refine qF ?_
    (repeat refine qb ?_); refine qh rfl (fun hc => ?_) (fun hc => ?_)
    · cases hc
    refine sw_exit ?_
    (repeat refine qb ?_); refine qa ?_
    repeat (first | refine zR ?_ | refine zK ?_ | refine zM ?_ | refine zB ?_ | refine zA ?_ | refine zS ?_ | refine zL ?_)
    refine qc ?_
    (repeat refine qb ?_); refine qk ?_
    rw [numPk_none (by rw [← hO, List.drop_of_length_le (by omega)]; exact onU_nil)]
    exact ⟨Or.inr rfl, _, _, [(1000000, 1000000)], Wk.refl _, rfl, rfl, rfl, rfl⟩
  rw [show decide (((a + i : Nat) : Int) < (l.length : Int)) = true by simp; omega]
  repeat (first | refine yR ?_ | refine yK ?_ | refine yM ?_ | refine yB ?_ | refine yA ?_ | refine yS ?_ | refine yL ?_)
  refine qF ?_
  (repeat refine qb ?_); refine qh rfl (fun hc => ?_) (fun hc => ?_)
  rotate_left
  · cases hc
  refine qu ?_
  obtain ⟨c, hcc⟩ : ∃ c, c = l[a + i] := ⟨_, rfl⟩
  have hdr : l.drop (a + i) = c :: l.drop (a + (i + 1)) := by rw [hcc]; exact List.drop_eq_getElem_cons hlt
  rw [hdr] at hO
  have hcl := UInt8.toNat_lt c
  (repeat refine qb ?_); refine qS ?_
  (repeat refine qb ?_); refine qv [] [(0, true), (1, true), (2, true), (3, true), (4, true), (5, true), (6, true), (7, true), (8, true), (9, true), (10, true), (11, true), (12, true)] (by kernel_rfl) (by kernel_rfl) (by kernel_rfl) ?_
  repeat (first | refine yR ?_ | refine yK ?_ | refine yM ?_ | refine yB ?_ | refine yA ?_ | refine yS ?_ | refine yL ?_)
  rw [show IntKind.i64.wrap ((a : Int) + (i : Int)) = ((a + i : Nat) : Int) from IntWalk.i64_in _ (by omega)]
  refine qY ql rfl rfl rfl (by rw [ll]; omega) rfl ?_
  rw [Int.toNat_natCast, bR_at hlt, ← hcc]
  repeat (first | refine yR ?_ | refine yK ?_ | refine yM ?_ | refine yB ?_ | refine yA ?_ | refine yS ?_ | refine yL ?_)
  refine qF ?_
  refine SW.wk (qy [0, 4, 5, 6] [(1000000, 1000000)] rfl rfl) ?_
  (repeat refine qb ?_); refine qa ?_
  refine SWT.mono (Q' := fun st => Wk st ⟨74, [(0, .ptr 1000000 0), (4, .p (.v (.int .u64 (u : Int)))), (5, .p (pI (i : Int))), (6, .p (pU c)), (51, .p (pB (decide ((i = 9 ∧ 1 < c.toNat) ∨ (0 < i ∧ c.toNat = 0)))))], rdO 1000000 l (a, b)⟩) ?_ fun st hst => SW.wk hst ?_
  · repeat (first | refine zR ?_ | refine zK ?_)
    have bd : ∀ x : Bool, decide ((i = 9 ∧ 1 < c.toNat) ∨ (0 < i ∧ c.toNat = 0)) = x → x = decide ((i = 9 ∧ 1 < c.toNat) ∨ (0 < i ∧ c.toNat = 0)) := fun _ h => h.symm
    by_cases h9 : i = 9
    · rw [show ((i : Int) == 9) = true by simp [h9]]
      repeat (first | refine zR ?_ | refine zK ?_ | refine zM ?_ | refine zB ?_ | refine zA ?_ | refine zS ?_ | refine zL ?_)
      by_cases h1 : 1 < c.toNat
      · rw [show decide ((c.toNat : Int) > 1) = true by simp; omega]
        rw [show decide ((i = 9 ∧ 1 < c.toNat) ∨ (0 < i ∧ c.toNat = 0)) = true from decide_eq_true (by omega)]
        repeat (first | refine zR ?_ | refine zK ?_ | refine zM ?_ | refine zB ?_ | refine zA ?_ | refine zS ?_ | refine zL ?_)
        refine qc ?_
        exact qy [0, 4, 5, 6, 51] [(1000000, 1000000)] rfl rfl
      · rw [show decide ((c.toNat : Int) > 1) = false by simp; omega]
        repeat (first | refine zR ?_ | refine zK ?_ | refine zM ?_ | refine zB ?_ | refine zA ?_ | refine zS ?_ | refine zL ?_)
        rw [show decide ((i : Int) > 0) = true by simp; omega]
        repeat (first | refine zR ?_ | refine zK ?_ | refine zM ?_ | refine zB ?_ | refine zA ?_ | refine zS ?_ | refine zL ?_)
        by_cases hz : c.toNat = 0
        · rw [show ((c.toNat : Int) == 0) = true by simp [hz]]
          rw [show decide ((i = 9 ∧ 1 < c.toNat) ∨ (0 < i ∧ c.toNat = 0)) = true from decide_eq_true (by omega)]
          repeat (first | refine zR ?_ | refine zK ?_ | refine zM ?_ | refine zB ?_ | refine zA ?_ | refine zS ?_ | refine zL ?_)
          refine qc ?_
          exact qy [0, 4, 5, 6, 51] [(1000000, 1000000)] rfl rfl
        · rw [show ((c.toNat : Int) == 0) = false by simp; omega]
          rw [show decide ((i = 9 ∧ 1 < c.toNat) ∨ (0 < i ∧ c.toNat = 0)) = false from decide_eq_false (by omega)]
          repeat (first | refine zR ?_ | refine zK ?_ | refine zM ?_ | refine zB ?_ | refine zA ?_ | refine zS ?_ | refine zL ?_)
          refine qc ?_
          exact qy [0, 4, 5, 6, 51] [(1000000, 1000000)] rfl rfl
    · rw [show ((i : Int) == 9) = false by simp; omega]
      repeat (first | refine zR ?_ | refine zK ?_ | refine zM ?_ | refine zB ?_ | refine zA ?_ | refine zS ?_ | refine zL ?_)
      by_cases h0 : 0 < i
      · rw [show decide ((i : Int) > 0) = true by simp; omega]
        repeat (first | refine zR ?_ | refine zK ?_ | refine zM ?_ | refine zB ?_ | refine zA ?_ | refine zS ?_ | refine zL ?_)
        by_cases hz : c.toNat = 0
        · rw [show ((c.toNat : Int) == 0) = true by simp [hz]]
          rw [show decide ((i = 9 ∧ 1 < c.toNat) ∨ (0 < i ∧ c.toNat = 0)) = true from decide_eq_true (by omega)]
          repeat (first | refine zR ?_ | refine zK ?_ | refine zM ?_ | refine zB ?_ | refine zA ?_ | refine zS ?_ | refine zL ?_)
          refine qc ?_
          exact qy [0, 4, 5, 6, 51] [(1000000, 1000000)] rfl rfl
        · rw [show ((c.toNat : Int) == 0) = false by simp; omega]
          rw [show decide ((i = 9 ∧ 1 < c.toNat) ∨ (0 < i ∧ c.toNat = 0)) = false from decide_eq_false (by omega)]
          repeat (first | refine zR ?_ | refine zK ?_ | refine zM ?_ | refine zB ?_ | refine zA ?_ | refine zS ?_ | refine zL ?_)
          refine qc ?_
          exact qy [0, 4, 5, 6, 51] [(1000000, 1000000)] rfl rfl
      · rw [show decide ((i : Int) > 0) = false by simp; omega]
        rw [show decide ((i = 9 ∧ 1 < c.toNat) ∨ (0 < i ∧ c.toNat = 0)) = false from decide_eq_false (by omega)]
        repeat (first | refine zR ?_ | refine zK ?_ | refine zM ?_ | refine zB ?_ | refine zA ?_ | refine zS ?_ | refine zL ?_)
        refine qc ?_
        exact qy [0, 4, 5, 6, 51] [(1000000, 1000000)] rfl rfl
  (repeat refine qb ?_); refine qh rfl (fun hz => ?_) (fun hz => ?_)
  · have hz' := of_decide_eq_true hz
    (repeat refine qb ?_); refine qa ?_
    repeat (first | refine zR ?_ | refine zK ?_ | refine zM ?_ | refine zB ?_ | refine zA ?_ | refine zS ?_ | refine zL ?_)
    refine qc ?_
    (repeat refine qb ?_); refine qk ?_
    rw [numPk_none (by rw [← hO]; exact onU_bad hi10 hz')]
    exact ⟨Or.inr rfl, _, _, [(1000000, 1000000)], Wk.refl _, rfl, rfl, rfl, rfl⟩
  have hz' := of_decide_eq_false hz
  clear hz
  refine qu ?_
  obtain ⟨hU1, hU2⟩ := or_byte (hu hi10) hi10 hcl (fun e => by omega)
  have hS : c.toNat % 128 * 2 ^ (7 * i) < 18446744073709551616 := by omega
  (repeat refine qb ?_); refine qa ?_
  repeat (first | refine zR ?_ | refine zK ?_ | refine zM ?_ | refine zB ?_ | refine zA ?_ | refine zS ?_ | refine zL ?_)
  rw [and127b hcl, u64_nat (show c.toNat % 128 < 18446744073709551616 by omega), show IntKind.i64.wrap (7 * (i : Int)) = ((7 * i : Nat) : Int) from IntWalk.i64_in _ (by omega), u64_nat (show 7 * i < 18446744073709551616 by omega)]
  refine zk ql rfl rfl (by omega) rfl ?_
  rw [shl_u64 (by omega) hS]
  repeat (first | refine zR ?_ | refine zK ?_ | refine zM ?_ | refine zB ?_ | refine zA ?_ | refine zS ?_ | refine zL ?_)
  rw [or_shift (hu hi10) hU1 hS]
  repeat (first | refine zR ?_ | refine zK ?_ | refine zM ?_ | refine zB ?_ | refine zA ?_ | refine zS ?_ | refine zL ?_)
  refine qc ?_
  (repeat refine qb ?_); refine qa ?_
  repeat (first | refine zR ?_ | refine zK ?_ | refine zM ?_ | refine zB ?_ | refine zA ?_ | refine zS ?_ | refine zL ?_)
  refine qc ?_
  by_cases h7 : c.toNat < 128
  · rw [show decide ((c.toNat : Int) < 128) = true by simp; omega]
    have hO2 := hO
    rw [onU_last hi10 hz' h7] at hO2
    rw [Nat.mod_eq_of_lt h7]
    rw [Nat.mod_eq_of_lt h7] at hU1
    have hR := numPk_some hO2.symm
    (repeat refine qb ?_); refine qh rfl (fun hq => ?_) (fun hq => ?_)
    rotate_left
    · cases hq
    obtain ⟨x, hx⟩ : ∃ x, x = u + c.toNat * 2 ^ (7 * i) := ⟨_, rfl⟩
    rw [← hx] at hR hU1 ⊢
    (repeat refine qb ?_); refine qa ?_
    repeat (first | refine zR ?_ | refine zK ?_ | refine zM ?_ | refine zB ?_ | refine zA ?_ | refine zS ?_ | refine zL ?_)
    refine zk ql rfl rfl (by omega) rfl ?_
    rw [shr_1]
    repeat (first | refine zR ?_ | refine zK ?_ | refine zM ?_ | refine zB ?_ | refine zA ?_ | refine zS ?_ | refine zL ?_)
    rw [show IntKind.i64.wrap ((x / 2 : Nat) : Int) = ((x / 2 : Nat) : Int) from IntWalk.i64_in _ (by omega)]
    refine qc ?_
    (repeat refine qb ?_); refine qa ?_
    repeat (first | refine zR ?_ | refine zK ?_ | refine zM ?_ | refine zB ?_ | refine zA ?_ | refine zS ?_ | refine zL ?_)
    rw [and1 hU1]
    repeat (first | refine zR ?_ | refine zK ?_ | refine zM ?_ | refine zB ?_ | refine zA ?_ | refine zS ?_ | refine zL ?_)
    refine qc ?_
    rw [hR]
    by_cases hodd : x % 2 = 1
    · rw [show (((x % 2 : Nat) : Int) == 1) = true by simp [hodd]]
      rw [show zag x = -((x / 2 : Nat) : Int) - 1 by unfold zag; rw [if_pos hodd]]
      (repeat refine qb ?_); refine qh rfl (fun hw => ?_) (fun hw => ?_)
      rotate_left
      · cases hw
      (repeat refine qb ?_); refine qa ?_
      repeat (first | refine zR ?_ | refine zK ?_ | refine zM ?_ | refine zB ?_ | refine zA ?_ | refine zS ?_ | refine zL ?_)
      rw [not_i64s (show x / 2 < 9223372036854775808 by omega)]
      refine qc ?_
      (repeat refine qb ?_); refine qa ?_
      repeat (first | refine zR ?_ | refine zK ?_ | refine zM ?_ | refine zB ?_ | refine zA ?_ | refine zS ?_ | refine zL ?_)
      rw [wrap_succ (n := 10) hi10 (by omega)]
      repeat (first | refine zR ?_ | refine zK ?_ | refine zM ?_ | refine zB ?_ | refine zA ?_ | refine zS ?_ | refine zL ?_)
      refine qc ?_
      (repeat refine qb ?_); refine qk ?_
      exact ⟨Or.inr rfl, _, _, [(1000000, 1000000)], Wk.refl _, rfl, rfl, rfl, rfl⟩
    · rw [show (((x % 2 : Nat) : Int) == 1) = false by simp; omega]
      rw [show zag x = ((x / 2 : Nat) : Int) by unfold zag; rw [if_neg hodd]]
      (repeat refine qb ?_); refine qh rfl (fun hw => ?_) (fun hw => ?_)
      · cases hw
      refine qu ?_
      (repeat refine qb ?_); refine qa ?_
      repeat (first | refine zR ?_ | refine zK ?_ | refine zM ?_ | refine zB ?_ | refine zA ?_ | refine zS ?_ | refine zL ?_)
      rw [wrap_succ (n := 10) hi10 (by omega)]
      repeat (first | refine zR ?_ | refine zK ?_ | refine zM ?_ | refine zB ?_ | refine zA ?_ | refine zS ?_ | refine zL ?_)
      refine qc ?_
      (repeat refine qb ?_); refine qk ?_
      exact ⟨Or.inr rfl, _, _, [(1000000, 1000000)], Wk.refl _, rfl, rfl, rfl, rfl⟩
  · rw [show decide ((c.toNat : Int) < 128) = false by simp; omega]
    (repeat refine qb ?_); refine qh rfl (fun hq => ?_) (fun hq => ?_)
    · cases hq
    refine qu ?_
    (repeat refine qb ?_); refine qa ?_
    repeat (first | refine zR ?_ | refine zK ?_ | refine zM ?_ | refine zB ?_ | refine zA ?_ | refine zS ?_ | refine zL ?_)
    refine qc ?_
    refine ⟨_, _, ?_, qy [0, 4, 5] [(1000000, 1000000)] rfl rfl, i + 1, _, _, _, by omega, rfl, wrap_succ (n := 10) hi10 (by omega), rfl, fun hh => hU2 (by omega), by rw [← onU_more hi10 hz' h7]; exact hO, rfl⟩
    omega
theorem fail_h (l : Bs) (a : Nat) (b : Bool) (x : Nat) (hx : x ≤ a) : zh Tryd.prog 49 [.ptr 1000000 0, .p (pI (x : Int))] (rdO 1000000 l (a, b)) (.tup []) (rdO 1000000 l (if b then (a, b) else (x, true))) := by
  cases b with
  | true =>
    rw [if_pos rfl]
    refine qz (ts := []) Tryd.func49 (by kernel_rfl) rfl rfl rfl ?_
    (repeat refine qb ?_); refine qa ?_
    repeat (first | refine zR ?_ | refine zK ?_ | refine zM ?_ | refine zB ?_ | refine zA ?_ | refine zS ?_ | refine zL ?_)
    refine qc ?_
    (repeat refine qb ?_); refine qh rfl (fun hc => ?_) (fun hc => ?_)
    · cases hc
    refine qu ?_
    exact ⟨Or.inl rfl, _, _, [(1000000, 1000000)], Wk.refl _, rfl, rfl, rfl, rfl⟩
  | false =>
    rw [if_neg (by simp)]
    refine qz (ts := []) Tryd.func49 (by kernel_rfl) rfl rfl rfl ?_
    (repeat refine qb ?_); refine qa ?_
    repeat (first | refine zR ?_ | refine zK ?_ | refine zM ?_ | refine zB ?_ | refine zA ?_ | refine zS ?_ | refine zL ?_)
    rw [show decide ((x : Int) ≥ 0) = true by simp]
    repeat (first | refine zR ?_ | refine zK ?_ | refine zM ?_ | refine zB ?_ | refine zA ?_ | refine zS ?_ | refine zL ?_)
    rw [show decide ((x : Int) ≤ (a : Int)) = true by simp; omega]
    repeat (first | refine zR ?_ | refine zK ?_ | refine zM ?_ | refine zB ?_ | refine zA ?_ | refine zS ?_ | refine zL ?_)
    refine qc ?_
    (repeat refine qb ?_); refine qh rfl (fun hc => ?_) (fun hc => ?_)
    · (repeat refine qb ?_); refine qa ?_
      repeat (first | refine zR ?_ | refine zK ?_ | refine zM ?_ | refine zB ?_ | refine zA ?_ | refine zS ?_ | refine zL ?_)
      refine qc ?_
      exact ⟨Or.inl rfl, _, _, [(1000000, 1000000)], Wk.refl _, rfl, rfl, rfl, rfl⟩
    · cases hc
theorem numPk_len {r : Bs} {n : Int} {k : Nat} (h : getN r = some (n, k)) : 1 ≤ k ∧ k ≤ r.length := by
  unfold getN at h
  cases hu : getU 10 0 r with
  | none => rw [hu] at h; cases h
  | some p =>
    rw [hu] at h
    cases h
    exact getU_len (u := p.1) (k := p.2) hu
theorem inP_le {l : Bs} {st : Rdr} {lo hi : Int} (h : st.1 ≤ l.length) : (inP l st lo hi).2.1 ≤ l.length := by
  unfold inP
  split
  · exact h
  · split
    · exact h
    · rename_i n k hg
      have := numPk_len hg
      rw [List.length_drop] at this
      split
      · exact h
      · simp only; omega
theorem in_h (l : Bs) (hl : l.length ≤ 1000) (st : Rdr) (ha : st.1 ≤ l.length) (lo hi : Int) : zh Tryd.prog 46 [.ptr 1000000 0, .p (pI lo), .p (pI hi)] (rdO 1000000 l st) (.p (pI (inP l st lo hi).1)) (rdO 1000000 l (inP l st lo hi).2) := by
  obtain ⟨a, b⟩ := st
  cases b with
  | true =>
    rw [show inP l (a, true) lo hi = (0, a, true) from rfl]
    refine qz (ts := [6]) Tryd.func46 (by kernel_rfl) rfl rfl rfl ?_
    (repeat refine qb ?_); refine qa ?_
    repeat (first | refine zR ?_ | refine zK ?_ | refine zM ?_ | refine zB ?_ | refine zA ?_ | refine zS ?_ | refine zL ?_)
    refine qc ?_
    (repeat refine qb ?_); refine qa ?_
    repeat (first | refine zR ?_ | refine zK ?_ | refine zM ?_ | refine zB ?_ | refine zA ?_ | refine zS ?_ | refine zL ?_)
    refine qc ?_
    (repeat refine qb ?_); refine qh rfl (fun hc => ?_) (fun hc => ?_)
    · (repeat refine qb ?_); refine qa ?_
      repeat (first | refine zR ?_ | refine zK ?_ | refine zM ?_ | refine zB ?_ | refine zA ?_ | refine zS ?_ | refine zL ?_)
      refine qc ?_
      (repeat refine qb ?_); refine qk ?_
      exact ⟨Or.inr rfl, _, _, [(1000000, 1000000)], Wk.refl _, rfl, rfl, rfl, rfl⟩
    · cases hc
  | false =>
    have HN := number_h l hl a ha false
    have eI : inP l (a, false) lo hi = match getN (l.drop a) with
      | none => (0, a, true)
      | some (n, k) => if n < lo ∨ hi < n then (0, a, true) else (n, a + k, false) := rfl
    cases hg : getN (l.drop a) with
    | none =>
      rw [hg] at eI
      simp only at eI
      rw [eI]
      rw [show numPk (l.drop a) = (0, 0) by unfold numPk; rw [hg]] at HN
      refine qz (ts := [6]) Tryd.func46 (by kernel_rfl) rfl rfl rfl ?_
      (repeat refine qb ?_); refine qa ?_
      repeat (first | refine zR ?_ | refine zK ?_ | refine zM ?_ | refine zB ?_ | refine zA ?_ | refine zS ?_ | refine zL ?_)
      refine qc ?_
      (repeat refine qb ?_); refine qa ?_
      repeat (first | refine zR ?_ | refine zK ?_ | refine zM ?_ | refine zB ?_ | refine zA ?_ | refine zS ?_ | refine zL ?_)
      refine qc ?_
      (repeat refine qb ?_); refine qh rfl (fun hc => ?_) (fun hc => ?_)
      · cases hc
      refine qu ?_
      (repeat refine qb ?_); refine qa ?_
      repeat (first | refine zR ?_ | refine zK ?_ | refine zM ?_ | refine zB ?_ | refine zA ?_ | refine zS ?_ | refine zL ?_)
      refine qf rfl (qo [(1000000, 1000000)] rfl rfl rfl rfl rfl rfl (HN) rfl rfl rfl ?_)
      repeat (first | refine zR ?_ | refine zK ?_ | refine zM ?_ | refine zB ?_ | refine zA ?_ | refine zS ?_ | refine zL ?_)
      repeat (first | refine zR ?_ | refine zK ?_ | refine zM ?_ | refine zB ?_ | refine zA ?_ | refine zS ?_ | refine zL ?_)
      refine qc ?_
      (repeat refine qb ?_); refine qa ?_
      repeat (first | refine zR ?_ | refine zK ?_ | refine zM ?_ | refine zB ?_ | refine zA ?_ | refine zS ?_ | refine zL ?_)
      refine qc ?_
      (repeat refine qb ?_); refine qh rfl (fun hz => ?_) (fun hz => ?_)
      rotate_left
      · cases hz
      (repeat refine qb ?_); refine qa ?_
      repeat (first | refine zR ?_ | refine zK ?_ | refine zM ?_ | refine zB ?_ | refine zA ?_ | refine zS ?_ | refine zL ?_)
      refine qf rfl (qo [(1000000, 1000000)] rfl rfl rfl rfl rfl rfl (fail_h l a false a (Nat.le_refl _)) rfl rfl rfl ?_)
      repeat (first | refine zR ?_ | refine zK ?_ | refine zM ?_ | refine zB ?_ | refine zA ?_ | refine zS ?_ | refine zL ?_)
      refine qc ?_
      (repeat refine qb ?_); refine qa ?_
      repeat (first | refine zR ?_ | refine zK ?_ | refine zM ?_ | refine zB ?_ | refine zA ?_ | refine zS ?_ | refine zL ?_)
      refine qc ?_
      (repeat refine qb ?_); refine qk ?_
      exact ⟨Or.inr rfl, _, _, [(1000000, 1000000)], Wk.refl _, rfl, rfl, rfl, rfl⟩
    | some p =>
      obtain ⟨n, k⟩ := p
      have hk := numPk_len hg
      rw [List.length_drop] at hk
      rw [hg] at eI
      simp only at eI
      rw [eI]
      rw [show numPk (l.drop a) = (n, k) by unfold numPk; rw [hg]] at HN
      refine qz (ts := [6]) Tryd.func46 (by kernel_rfl) rfl rfl rfl ?_
      (repeat refine qb ?_); refine qa ?_
      repeat (first | refine zR ?_ | refine zK ?_ | refine zM ?_ | refine zB ?_ | refine zA ?_ | refine zS ?_ | refine zL ?_)
      refine qc ?_
      (repeat refine qb ?_); refine qa ?_
      repeat (first | refine zR ?_ | refine zK ?_ | refine zM ?_ | refine zB ?_ | refine zA ?_ | refine zS ?_ | refine zL ?_)
      refine qc ?_
      (repeat refine qb ?_); refine qh rfl (fun hc => ?_) (fun hc => ?_)
      · cases hc
      refine qu ?_
      (repeat refine qb ?_); refine qa ?_
      repeat (first | refine zR ?_ | refine zK ?_ | refine zM ?_ | refine zB ?_ | refine zA ?_ | refine zS ?_ | refine zL ?_)
      refine qf rfl (qo [(1000000, 1000000)] rfl rfl rfl rfl rfl rfl (HN) rfl rfl rfl ?_)
      repeat (first | refine zR ?_ | refine zK ?_ | refine zM ?_ | refine zB ?_ | refine zA ?_ | refine zS ?_ | refine zL ?_)
      repeat (first | refine zR ?_ | refine zK ?_ | refine zM ?_ | refine zB ?_ | refine zA ?_ | refine zS ?_ | refine zL ?_)
      refine qc ?_
      (repeat refine qb ?_); refine qa ?_
      repeat (first | refine zR ?_ | refine zK ?_ | refine zM ?_ | refine zB ?_ | refine zA ?_ | refine zS ?_ | refine zL ?_)
      rw [show ((k : Int) == 0) = false by simp; omega]
      repeat (first | refine zR ?_ | refine zK ?_ | refine zM ?_ | refine zB ?_ | refine zA ?_ | refine zS ?_ | refine zL ?_)
      by_cases h1 : n < lo
      · rw [decide_eq_true h1, if_pos (Or.inl h1)]
        repeat (first | refine zR ?_ | refine zK ?_ | refine zM ?_ | refine zB ?_ | refine zA ?_ | refine zS ?_ | refine zL ?_)
        refine qc ?_
        (repeat refine qb ?_); refine qh rfl (fun hz => ?_) (fun hz => ?_)
        rotate_left
        · cases hz
        (repeat refine qb ?_); refine qa ?_
        repeat (first | refine zR ?_ | refine zK ?_ | refine zM ?_ | refine zB ?_ | refine zA ?_ | refine zS ?_ | refine zL ?_)
        refine qf rfl (qo [(1000000, 1000000)] rfl rfl rfl rfl rfl rfl (fail_h l a false a (Nat.le_refl _)) rfl rfl rfl ?_)
        repeat (first | refine zR ?_ | refine zK ?_ | refine zM ?_ | refine zB ?_ | refine zA ?_ | refine zS ?_ | refine zL ?_)
        refine qc ?_
        (repeat refine qb ?_); refine qa ?_
        repeat (first | refine zR ?_ | refine zK ?_ | refine zM ?_ | refine zB ?_ | refine zA ?_ | refine zS ?_ | refine zL ?_)
        refine qc ?_
        (repeat refine qb ?_); refine qk ?_
        exact ⟨Or.inr rfl, _, _, [(1000000, 1000000)], Wk.refl _, rfl, rfl, rfl, rfl⟩
      rw [decide_eq_false h1]
      repeat (first | refine zR ?_ | refine zK ?_ | refine zM ?_ | refine zB ?_ | refine zA ?_ | refine zS ?_ | refine zL ?_)
      by_cases h2 : hi < n
      · rw [show decide (n > hi) = true from decide_eq_true h2, if_pos (Or.inr h2)]
        repeat (first | refine zR ?_ | refine zK ?_ | refine zM ?_ | refine zB ?_ | refine zA ?_ | refine zS ?_ | refine zL ?_)
        refine qc ?_
        (repeat refine qb ?_); refine qh rfl (fun hz => ?_) (fun hz => ?_)
        rotate_left
        · cases hz
        (repeat refine qb ?_); refine qa ?_
        repeat (first | refine zR ?_ | refine zK ?_ | refine zM ?_ | refine zB ?_ | refine zA ?_ | refine zS ?_ | refine zL ?_)
        refine qf rfl (qo [(1000000, 1000000)] rfl rfl rfl rfl rfl rfl (fail_h l a false a (Nat.le_refl _)) rfl rfl rfl ?_)
        repeat (first | refine zR ?_ | refine zK ?_ | refine zM ?_ | refine zB ?_ | refine zA ?_ | refine zS ?_ | refine zL ?_)
        refine qc ?_
        (repeat refine qb ?_); refine qa ?_
        repeat (first | refine zR ?_ | refine zK ?_ | refine zM ?_ | refine zB ?_ | refine zA ?_ | refine zS ?_ | refine zL ?_)
        refine qc ?_
        (repeat refine qb ?_); refine qk ?_
        exact ⟨Or.inr rfl, _, _, [(1000000, 1000000)], Wk.refl _, rfl, rfl, rfl, rfl⟩
      rw [show decide (n > hi) = false from decide_eq_false h2, if_neg (by omega)]
      repeat (first | refine zR ?_ | refine zK ?_ | refine zM ?_ | refine zB ?_ | refine zA ?_ | refine zS ?_ | refine zL ?_)
      refine qc ?_
      (repeat refine qb ?_); refine qh rfl (fun hz => ?_) (fun hz => ?_)
      · cases hz
      refine qu ?_
      (repeat refine qb ?_); refine qa ?_
      repeat (first | refine zR ?_ | refine zK ?_ | refine zM ?_ | refine zB ?_ | refine zA ?_ | refine zS ?_ | refine zL ?_)
      rw [show IntKind.i64.wrap ((a : Int) + (k : Int)) = ((a + k : Nat) : Int) from IntWalk.i64_in _ (by omega)]
      refine qc ?_
      (repeat refine qb ?_); refine qa ?_
      repeat (first | refine zR ?_ | refine zK ?_ | refine zM ?_ | refine zB ?_ | refine zA ?_ | refine zS ?_ | refine zL ?_)
      refine qc ?_
      (repeat refine qb ?_); refine qk ?_
      exact ⟨Or.inr rfl, _, _, [(1000000, 1000000)], Wk.refl _, rfl, rfl, rfl, rfl⟩
theorem inP_ge {l : Bs} {st : Rdr} {lo hi : Int} : st.1 ≤ (inP l st lo hi).2.1 := by
  unfold inP
  split
  · exact Nat.le_refl _
  · split
    · exact Nat.le_refl _
    · split
      · exact Nat.le_refl _
      · exact Nat.le_add_right _ _
theorem inP_in {l : Bs} {st : Rdr} {lo hi : Int} (h : (inP l st lo hi).2.2 = false) : lo ≤ (inP l st lo hi).1 ∧ (inP l st lo hi).1 ≤ hi := by
  unfold inP at h ⊢
  split at h
  · rename_i hb; simp only at h; rw [hb] at h; cases h
  · rename_i hb
    rw [if_neg hb]
    split at h
    · cases h
    · split at h
      · cases h
      · rename_i hn
        rw [if_neg hn]
        simp only
        omega
theorem num_h (l : Bs) (hl : l.length ≤ 1000) (st : Rdr) (ha : st.1 ≤ l.length) : zh Tryd.prog 48 [.ptr 1000000 0] (rdO 1000000 l st) (.p (pI (inP l st lo64 hi64).1)) (rdO 1000000 l (inP l st lo64 hi64).2) := by
  have H := in_h l hl st ha lo64 hi64
  refine qz (ts := [2]) Tryd.func48 (by kernel_rfl) rfl rfl rfl ?_
  (repeat refine qb ?_); refine qa ?_
  repeat (first | refine zR ?_ | refine zK ?_ | refine zM ?_ | refine zB ?_ | refine zA ?_ | refine zS ?_ | refine zL ?_)
  refine qc ?_
  (repeat refine qb ?_); refine qa ?_
  repeat (first | refine zR ?_ | refine zK ?_ | refine zM ?_ | refine zB ?_ | refine zA ?_ | refine zS ?_ | refine zL ?_)
  refine qf rfl (qo [(1000000, 1000000)] rfl rfl rfl rfl rfl rfl (H) rfl rfl rfl ?_)
  repeat (first | refine zR ?_ | refine zK ?_ | refine zM ?_ | refine zB ?_ | refine zA ?_ | refine zS ?_ | refine zL ?_)
  repeat (first | refine zR ?_ | refine zK ?_ | refine zM ?_ | refine zB ?_ | refine zA ?_ | refine zS ?_ | refine zL ?_)
  refine qc ?_
  (repeat refine qb ?_); refine qk ?_
  exact ⟨Or.inr rfl, _, _, [(1000000, 1000000)], Wk.refl _, rfl, rfl, rfl, rfl⟩
theorem rtext_h (l : Bs) (hl : l.length ≤ 1000) (st : Rdr) (ha : st.1 ≤ l.length) (most : Int) : zh Tryd.prog 47 [.ptr 1000000 0, .p (pI most)] (rdO 1000000 l st) (.p (pL (textP l st most).1)) (rdO 1000000 l (textP l st most).2) := by
  have H := in_h l hl st ha 0 most
  have h1 := inP_le (lo := 0) (hi := most) ha
  have h2 := inP_ge (l := l) (st := st) (lo := 0) (hi := most)
  have h3 := inP_in (l := l) (st := st) (lo := 0) (hi := most)
  have ll := zg l
  unfold textP
  generalize inP l st 0 most = q at *
  obtain ⟨n, a, b⟩ := q
  simp only at h1 h2 h3 ⊢
  refine qz (ts := [4]) Tryd.func47 (by kernel_rfl) rfl rfl rfl ?_
  (repeat refine qb ?_); refine qa ?_
  repeat (first | refine zR ?_ | refine zK ?_ | refine zM ?_ | refine zB ?_ | refine zA ?_ | refine zS ?_ | refine zL ?_)
  refine qc ?_
  (repeat refine qb ?_); refine qa ?_
  repeat (first | refine zR ?_ | refine zK ?_ | refine zM ?_ | refine zB ?_ | refine zA ?_ | refine zS ?_ | refine zL ?_)
  refine qc ?_
  (repeat refine qb ?_); refine qa ?_
  repeat (first | refine zR ?_ | refine zK ?_ | refine zM ?_ | refine zB ?_ | refine zA ?_ | refine zS ?_ | refine zL ?_)
  refine qf rfl (qo [(1000000, 1000000)] rfl rfl rfl rfl rfl rfl (H) rfl rfl rfl ?_)
  repeat (first | refine zR ?_ | refine zK ?_ | refine zM ?_ | refine zB ?_ | refine zA ?_ | refine zS ?_ | refine zL ?_)
  repeat (first | refine zR ?_ | refine zK ?_ | refine zM ?_ | refine zB ?_ | refine zA ?_ | refine zS ?_ | refine zL ?_)
  refine qc ?_
  (repeat refine qb ?_); refine qv [] [(0, true), (1, true), (2, true), (3, true), (4, true), (5, true), (6, true), (7, true), (8, true), (9, true), (10, true), (11, true), (12, true), (13, true), (14, true), (15, true), (16, true), (17, true)] (by kernel_rfl) (by kernel_rfl) (by kernel_rfl) ?_
  repeat (first | refine yR ?_ | refine yK ?_ | refine yM ?_ | refine yB ?_ | refine yA ?_ | refine yS ?_ | refine yL ?_)
  cases b with
  | true =>
    rw [if_pos rfl]
    repeat (first | refine yR ?_ | refine yK ?_ | refine yM ?_ | refine yB ?_ | refine yA ?_ | refine yS ?_ | refine yL ?_)
    refine qF ?_
    (repeat refine qb ?_); refine qh rfl (fun hc => ?_) (fun hc => ?_)
    rotate_left
    · cases hc
    (repeat refine qb ?_); refine qa ?_
    repeat (first | refine zR ?_ | refine zK ?_ | refine zM ?_ | refine zB ?_ | refine zA ?_ | refine zS ?_ | refine zL ?_)
    refine qf rfl (qo [(1000000, 1000000)] rfl rfl rfl rfl rfl rfl (fail_h l a true st.1 h2) rfl rfl rfl ?_)
    repeat (first | refine zR ?_ | refine zK ?_ | refine zM ?_ | refine zB ?_ | refine zA ?_ | refine zS ?_ | refine zL ?_)
    refine qc ?_
    (repeat refine qb ?_); refine qa ?_
    repeat (first | refine zR ?_ | refine zK ?_ | refine zM ?_ | refine zB ?_ | refine zA ?_ | refine zS ?_ | refine zL ?_)
    refine qc ?_
    (repeat refine qb ?_); refine qk ?_
    exact ⟨Or.inr rfl, _, _, [(1000000, 1000000)], Wk.refl _, rfl, rfl, rfl, rfl⟩
  | false =>
    obtain ⟨h4, h5⟩ := h3 rfl
    rw [if_neg (by simp)]
    repeat (first | refine yR ?_ | refine yK ?_ | refine yM ?_ | refine yB ?_ | refine yA ?_ | refine yS ?_ | refine yL ?_)
    rw [ll, show IntKind.i64.wrap ((l.length : Int) - (a : Int)) = ((l.length - a : Nat) : Int) by rw [show (l.length : Int) - (a : Int) = ((l.length - a : Nat) : Int) by omega]; exact IntWalk.i64_in _ (by omega)]
    by_cases hlt : ((l.length - a : Nat) : Int) < n
    · rw [if_pos hlt, show decide (n > ((l.length - a : Nat) : Int)) = true from decide_eq_true hlt]
      repeat (first | refine yR ?_ | refine yK ?_ | refine yM ?_ | refine yB ?_ | refine yA ?_ | refine yS ?_ | refine yL ?_)
      refine qF ?_
      (repeat refine qb ?_); refine qh rfl (fun hc => ?_) (fun hc => ?_)
      rotate_left
      · cases hc
      (repeat refine qb ?_); refine qa ?_
      repeat (first | refine zR ?_ | refine zK ?_ | refine zM ?_ | refine zB ?_ | refine zA ?_ | refine zS ?_ | refine zL ?_)
      refine qf rfl (qo [(1000000, 1000000)] rfl rfl rfl rfl rfl rfl (fail_h l a false st.1 h2) rfl rfl rfl ?_)
      repeat (first | refine zR ?_ | refine zK ?_ | refine zM ?_ | refine zB ?_ | refine zA ?_ | refine zS ?_ | refine zL ?_)
      refine qc ?_
      (repeat refine qb ?_); refine qa ?_
      repeat (first | refine zR ?_ | refine zK ?_ | refine zM ?_ | refine zB ?_ | refine zA ?_ | refine zS ?_ | refine zL ?_)
      refine qc ?_
      (repeat refine qb ?_); refine qk ?_
      exact ⟨Or.inr rfl, _, _, [(1000000, 1000000)], Wk.refl _, rfl, rfl, rfl, rfl⟩
    · rw [if_neg hlt, show decide (n > ((l.length - a : Nat) : Int)) = false from decide_eq_false hlt]
      obtain ⟨m, rfl⟩ : ∃ m : Nat, n = m := ⟨n.toNat, by omega⟩
      repeat (first | refine yR ?_ | refine yK ?_ | refine yM ?_ | refine yB ?_ | refine yA ?_ | refine yS ?_ | refine yL ?_)
      refine qF ?_
      (repeat refine qb ?_); refine qh rfl (fun hc => ?_) (fun hc => ?_)
      · cases hc
      refine qu ?_
      (repeat refine qb ?_); refine qa ?_
      repeat (first | refine zR ?_ | refine zK ?_ | refine zM ?_ | refine zB ?_ | refine zA ?_ | refine zS ?_ | refine zL ?_)
      rw [show IntKind.i64.wrap ((a : Int) + (m : Int)) = ((a + m : Nat) : Int) from IntWalk.i64_in _ (by omega)]
      refine qc ?_
      (repeat refine qb ?_); refine qv [] [(0, true), (1, true), (2, true), (3, true), (4, true), (5, true), (6, true), (7, true), (8, true), (9, true), (10, true), (11, true), (12, true), (13, true), (14, true), (15, true), (16, true)] (by kernel_rfl) (by kernel_rfl) (by kernel_rfl) ?_
      repeat (first | refine yR ?_ | refine yK ?_ | refine yM ?_ | refine yB ?_ | refine yA ?_ | refine yS ?_ | refine yL ?_)
      rw [show IntKind.i64.wrap (((a + m : Nat) : Int) - (m : Int)) = (a : Int) by rw [show ((a + m : Nat) : Int) - (m : Int) = (a : Int) by omega]; exact IntWalk.i64_in _ (by omega)]
      refine qY ql rfl rfl rfl (by rw [ll]; omega) rfl ?_
      rw [show Int.toNat ((a + m : Nat) : Int) - Int.toNat (a : Int) = m by omega, Int.toNat_natCast, bR_drop, bR_take]
      refine swm_rdO rfl rfl (rdO_textP ql (b := (l.drop a).take m) rfl rfl rfl rfl rfl) rfl ?_
      repeat (first | refine yR ?_ | refine yK ?_ | refine yM ?_ | refine yB ?_ | refine yA ?_ | refine yS ?_ | refine yL ?_)
      refine qF ?_
      (repeat refine qb ?_); refine qk ?_
      rw [Int.toNat_natCast]
      exact ⟨Or.inr rfl, _, _, [(1000000, 1000000)], Wk.refl _, rfl, rfl, rfl, rfl⟩
theorem at_h (l : Bs) (st : Rdr) : zh Tryd.prog 30 [.ptr 1000000 0] (rdO 1000000 l st) (.p (pI (st.1 : Int))) (rdO 1000000 l st) := by
  refine qz (ts := [2]) Tryd.func30 (by kernel_rfl) rfl rfl rfl ?_
  (repeat refine qb ?_); refine qa ?_
  repeat (first | refine zR ?_ | refine zK ?_ | refine zM ?_ | refine zB ?_ | refine zA ?_ | refine zS ?_ | refine zL ?_)
  refine qc ?_
  (repeat refine qb ?_); refine qa ?_
  repeat (first | refine zR ?_ | refine zK ?_ | refine zM ?_ | refine zB ?_ | refine zA ?_ | refine zS ?_ | refine zL ?_)
  refine qc ?_
  (repeat refine qb ?_); refine qk ?_
  exact ⟨Or.inr rfl, _, _, [(1000000, 1000000)], Wk.refl _, rfl, rfl, rfl, rfl⟩
theorem wrong_h (l : Bs) (st : Rdr) : zh Tryd.prog 29 [.ptr 1000000 0] (rdO 1000000 l st) (.p (pI (if st.2 then 7 else 0))) (rdO 1000000 l st) := by
  obtain ⟨a, b⟩ := st
  refine qz (ts := [2]) Tryd.func29 (by kernel_rfl) rfl rfl rfl ?_
  (repeat refine qb ?_); refine qa ?_
  repeat (first | refine zR ?_ | refine zK ?_ | refine zM ?_ | refine zB ?_ | refine zA ?_ | refine zS ?_ | refine zL ?_)
  refine qc ?_
  (repeat refine qb ?_); refine qa ?_
  repeat (first | refine zR ?_ | refine zK ?_ | refine zM ?_ | refine zB ?_ | refine zA ?_ | refine zS ?_ | refine zL ?_)
  refine qc ?_
  cases b with
  | true =>
    (repeat refine qb ?_); refine qh rfl (fun hc => ?_) (fun hc => ?_)
    · (repeat refine qb ?_); refine qa ?_
      repeat (first | refine zR ?_ | refine zK ?_ | refine zM ?_ | refine zB ?_ | refine zA ?_ | refine zS ?_ | refine zL ?_)
      refine qc ?_
      (repeat refine qb ?_); refine qk ?_
      exact ⟨Or.inr rfl, _, _, [(1000000, 1000000)], Wk.refl _, rfl, rfl, rfl, rfl⟩
    · cases hc
  | false =>
    (repeat refine qb ?_); refine qh rfl (fun hc => ?_) (fun hc => ?_)
    · cases hc
    · refine qu ?_
      (repeat refine qb ?_); refine qa ?_
      repeat (first | refine zR ?_ | refine zK ?_ | refine zM ?_ | refine zB ?_ | refine zA ?_ | refine zS ?_ | refine zL ?_)
      refine qc ?_
      (repeat refine qb ?_); refine qk ?_
      exact ⟨Or.inr rfl, _, _, [(1000000, 1000000)], Wk.refl _, rfl, rfl, rfl, rfl⟩
theorem end_h (l : Bs) (st : Rdr) (hl : l.length ≤ 1000000) : zh Tryd.prog 31 [.ptr 1000000 0] (rdO 1000000 l st) (.p (pI (if st.1 < l.length then 7 else if st.2 then 7 else 0))) (rdO 1000000 l st) := by
  have H := wrong_h l st
  obtain ⟨a, b⟩ := st
  have ll := zg l
  refine qz (ts := [2]) Tryd.func31 (by kernel_rfl) rfl rfl rfl ?_
  (repeat refine qb ?_); refine qa ?_
  repeat (first | refine zR ?_ | refine zK ?_ | refine zM ?_ | refine zB ?_ | refine zA ?_ | refine zS ?_ | refine zL ?_)
  refine qc ?_
  (repeat refine qb ?_); refine qv [] [(0, true), (1, true), (2, true), (3, true), (4, true), (5, true), (6, true), (7, true), (8, true), (9, true)] (by kernel_rfl) (by kernel_rfl) (by kernel_rfl) ?_
  repeat (first | refine yR ?_ | refine yK ?_ | refine yM ?_ | refine yB ?_ | refine yA ?_ | refine yS ?_ | refine yL ?_)
  rw [ll]
  by_cases h : a < l.length
  · rw [show decide ((a : Int) < (l.length : Int)) = true by simp; omega, if_pos h]
    refine qF ?_
    (repeat refine qb ?_); refine qh rfl (fun hc => ?_) (fun hc => ?_)
    · (repeat refine qb ?_); refine qa ?_
      repeat (first | refine zR ?_ | refine zK ?_ | refine zM ?_ | refine zB ?_ | refine zA ?_ | refine zS ?_ | refine zL ?_)
      refine qc ?_
      (repeat refine qb ?_); refine qk ?_
      exact ⟨Or.inr rfl, _, _, [(1000000, 1000000)], Wk.refl _, rfl, rfl, rfl, rfl⟩
    · cases hc
  · rw [show decide ((a : Int) < (l.length : Int)) = false by simp; omega, if_neg h]
    refine qF ?_
    (repeat refine qb ?_); refine qh rfl (fun hc => ?_) (fun hc => ?_)
    · cases hc
    refine qu ?_
    (repeat refine qb ?_); refine qa ?_
    repeat (first | refine zR ?_ | refine zK ?_ | refine zM ?_ | refine zB ?_ | refine zA ?_ | refine zS ?_ | refine zL ?_)
    refine qf rfl (qo [(1000000, 1000000)] rfl rfl rfl rfl rfl rfl (H) rfl rfl rfl ?_)
    repeat (first | refine zR ?_ | refine zK ?_ | refine zM ?_ | refine zB ?_ | refine zA ?_ | refine zS ?_ | refine zL ?_)
    repeat (first | refine zR ?_ | refine zK ?_ | refine zM ?_ | refine zB ?_ | refine zA ?_ | refine zS ?_ | refine zL ?_)
    refine qc ?_
    (repeat refine qb ?_); refine qk ?_
    exact ⟨Or.inr rfl, _, _, [(1000000, 1000000)], Wk.refl _, rfl, rfl, rfl, rfl⟩
end Go.Proofs.YtghjfficeglmoaaDoor
namespace Go.Proofs.YtghjfficeglmoaaDoor
set_option linter.unusedVariables false
set_option linter.unusedSimpArgs false
open Go.RowKit
set_option maxHeartbeats 4000000
section
variable {P : Program} {T : TT} {st : St}
theorem act_grow {o : Oper} {d : Nat} (hdst : o.dst = some d) {j z : Nat} {e : TypeId} {l l2 : List (List PV)} (hj : lk j st.own = some (.row e z l)) (hd : lk d (killO j st.own) = none) (hn : Nat.blt d st.n = true) (hr : l.length + l2.length ≤ reachBytes) (g3 : ∀ x ∈ l2, x.length = z ∧ ∀ s ∈ x, oneP s = true)
    (hR : ∀ (w0 : Base) (Sx : Nat → Prop) (γ : Nat → Value) (a : Act) (w : World), Sim w0 Sx γ st a w → RowO rPV z (okBut Sx γ st.own j) w 0 e (γ j) l → okBut Sx γ st.own j w.heap.size →
      ∃ v' w', (execOp a.eval o).run P w = .ok (.value v') w' ∧ RowO rPV z (okBut Sx γ st.own j) w' 0 e v' (l ++ l2) ∧ w.grownBy w' (γ j).ownBlock ∧ (v'.ownBlock = (γ j).ownBlock ∨ v'.ownBlock = some w.heap.size))
    {Q : St → Prop} (h : Q ⟨st.n, (d, .row d) :: killF j st.fr, (d, .row e z (l ++ l2)) :: killO j st.own⟩) : ActOk P [j] o st Q := by
  intro w0 Sx γ a w QQ hI
  have hlt : d < st.n := by simpa [Nat.blt, Nat.lt_iff_add_one_le] using hn
  cases hI.heap.box j _ hj with
  | row hrow hel hml hkj =>
  obtain ⟨v', w', hrun, k1, k2, k3⟩ := hR w0 Sx γ a w hI hrow ⟨fun hs => by have := hI.heap.sx.lt _ (hI.heap.sx.sub _ hs); omega, fun i bx hi _ hb => by have := (hI.heap.blk hi hb).2; omega⟩
  have hoj : (γ j).ownBlock = qq (γ j) := by obtain ⟨A', c', hv', _⟩ := hrow.shape; rw [hv', qD]
  have hov : v'.ownBlock = qq v' := by obtain ⟨A', c', hv', _⟩ := k1.shape; rw [hv', qD]
  have hvb : ∀ b, qq v' = some b → qq (γ j) = some b ∨ b = w.heap.size := fun b hb => by
    rw [← hov] at hb
    rcases k3 with k | k
    · rw [hb, hoj] at k; exact Or.inl k.symm
    · rw [hb] at k; cases k; exact Or.inr rfl
  generalize hown' : ((d, Box.row e z (l ++ l2)) :: killO j st.own) = own' at *
  have lk' : ∀ i, lk i own' = if i = d then some (.row e z (l ++ l2)) else if i = j then none else (lk i st.own).map (klB j) := fun i => by
    rw [← hown', qj, lk_killO]
  have old : ∀ {i bx}, lk i own' = some bx → i ≠ d → i ≠ j ∧ ∃ by_, lk i st.own = some by_ ∧ bx = klB j by_ := fun {i bx} hi hid => by
    rw [lk', if_neg hid] at hi
    by_cases e : i = j
    · rw [if_pos e] at hi; cases hi
    · rw [if_neg e] at hi
      cases h2 : lk i st.own with
      | none => rw [h2] at hi; cases hi
      | some by_ => rw [h2] at hi; cases hi; exact ⟨e, by_, rfl, rfl⟩
  have hud : upd γ d v' d = v' := if_pos rfl
  have huo : ∀ i, i ≠ d → upd γ d v' i = γ i := fun i hi => if_neg hi
  have same : ∀ b, b < w.heap.size → qq (γ j) ≠ some b → w'.heap[b]? = w.heap[b]? := fun b hb hne => k2.block b hb (by rw [hoj]; exact fun e => hne e.symm)
  have okn : ∀ b, b < w.heap.size → okO Sx γ st.own b → okO Sx (upd γ d v') own' b := fun b hb hok => ⟨hok.1, fun i bx hi hib => by
    by_cases e : i = d
    · subst e
      rw [hud] at hib
      rcases hvb b hib with h | h
      · exact hok.2 j _ hj h
      · omega
    · obtain ⟨_, by_, h2, _⟩ := old hi e
      rw [huo i e] at hib
      exact hok.2 i by_ h2 hib⟩
  have keepS : ∀ {s : SV} {u : Value}, RelS (okO Sx γ st.own) (hp γ st.own) w s u → RelS (okO Sx (upd γ d v') own') (hp (upd γ d v') own') w' (kl j s) u := fun {s u} h => by
    have h1 := h.kl j
    refine h1.keep2 k2.size (fun b hb hok => ⟨same b hb fun e => hok.2 j _ hj e, okn b hb hok⟩) fun i hi => ?_
    have hij : i ≠ j := fun e => by subst e; rw [noRef_kl] at hi; cases hi
    have hs := noRef_kl_other hi
    have hlive : (lk i st.own).isSome = true := by
      cases h2 : lk i st.own with
      | some _ => rfl
      | none => rw [h.live (zf h2)] at hs; cases hs.1
    obtain ⟨by_, h2⟩ := Option.isSome_iff_exists.1 hlive
    have hid : i ≠ d := fun e => by
      subst e
      rw [lk_killO, if_neg hij, h2] at hd; cases hd
    rw [qp h2, qp (bx := klB j by_) (by rw [lk', if_neg hid, if_neg hij, h2]; rfl), huo i hid]
  have hbel : BelowB w0 w' := hI.below.step ⟨k2.os, k2.tape, k2.output, k2.size, fun b hb => absurd hb (Nat.not_lt_zero _)⟩ fun b hb => same b (hI.heap.sx.lt b hb) fun e => hkj b e hb
  have hdl : d < 1000000 := by have := hI.size.2; omega
  have hst : Stays w0 Sx (upd γ d v') own' w' := hI.heap.sx.keep k2.size fun i bx hi => by
    by_cases e : i = d
    · exact Or.inl (by omega)
    · obtain ⟨_, by_, h2, _⟩ := old hi e
      exact Or.inr ⟨huo i e, by rw [h2]; rfl⟩
  have hheap : HeapOk w0 Sx (upd γ d v') own' w' := by
    refine ⟨fun i bx hi => ?_, fun i k bi bk b hi hk hbi hbk => ?_, hst⟩
    · by_cases e : i = d
      · subst e
        rw [lk', if_pos rfl] at hi
        cases hi
        refine .row ?_ (fun x hx => ?_) (by rw [List.length_append]; exact hr) (fun b hb hk => by rw [hud] at hb; rcases hvb b hb with h | h; exact hkj b h hk; have := hI.heap.sx.lt _ hk; omega)
        · rw [hud]
          refine k1.keep2 good_PV (Nat.le_refl _) (fun _ _ => rfl) fun b _ hok _ => ⟨rfl, hok.1, fun k bx hk hkd hkb => ?_⟩
          obtain ⟨hkj, by_, h2, _⟩ := old hk hkd
          rw [huo k hkd] at hkb
          exact hok.2 k by_ h2 hkj hkb
        · rcases List.mem_append.1 hx with hx | hx
          · exact hel x hx
          · exact g3 x hx
      · obtain ⟨hij, by_, h2, rfl⟩ := old hi e
        cases hI.heap.box i by_ h2 with
        | @row e' esz' l' hr' he' hm' hk' =>
          show BoxOk _ _ _ _ _ _ (.row e' esz' l')
          refine .row ?_ he' hm' (by rw [huo i e]; exact hk')
          rw [huo i e]
          have hoi : (γ i).ownBlock = qq (γ i) := by obtain ⟨A', c', hv', _⟩ := hr'.shape; rw [hv', qD]
          refine hr'.keep2 good_PV k2.size (fun b hb => same b ?_ fun ej => hij ?_) fun b hb hok hne => ⟨same b hb (hok.2 j _ hj (Ne.symm hij)), hok.1, fun k bk hk hki hkb => ?_⟩
          · rw [hoi] at hb; exact (hI.heap.blk h2 hb).2
          · rw [hoi] at hb; exact hI.heap.inj i j _ _ b h2 hj hb ej
          · by_cases ek : k = d
            · subst ek
              rw [hud] at hkb
              rcases hvb b hkb with h | h
              · exact hok.2 j _ hj (Ne.symm hij) h
              · omega
            · obtain ⟨_, b2, h3, _⟩ := old hk ek
              rw [huo k ek] at hkb
              exact hok.2 k b2 h3 hki hkb
        | @cells cs2 us2 ty2 b2 hg2 hB2 hh2 hl2 hr2 hone2 =>
          show BoxOk _ _ _ _ _ _ (.cells (cs2.map (kl j)))
          have hb2 : qq (γ i) = some b2 := by rw [hg2]; rfl
          refine .cells (by rw [huo i e]; exact hg2) hB2 (by rw [same b2 (lt_of_block hh2) fun ej => hij (hI.heap.inj i j _ _ b2 h2 hj hb2 ej)]; exact hh2) (by rw [List.length_map]; exact hl2) (fun k s u hs hu => ?_) hone2
          rw [List.getElem?_map] at hs
          cases h3 : cs2[k]? with
          | none => rw [h3] at hs; cases hs
          | some s0 => rw [h3] at hs; cases hs; exact keepS (hr2 k s0 u h3 hu)
        | @mp es ens clock b2 hg2 hB2 hh2 hl2 hr2 =>
          show BoxOk _ _ _ _ _ _ (.mp es)
          have hb2 : qq (γ i) = some b2 := by rw [hg2]; rfl
          exact .mp (by rw [huo i e]; exact hg2) hB2 (by rw [same b2 (lt_of_block hh2) fun ej => hij (hI.heap.inj i j _ _ b2 h2 hj hb2 ej)]; exact hh2) hl2 fun k x en hs hu => ⟨(hr2 k x en hs hu).1, (hr2 k x en hs hu).2.keep2 k2.size fun b hb hok => ⟨same b hb fun ej => hok.2 j _ hj ej, okn b hb hok⟩⟩
    · have blt : ∀ {m bm}, lk m own' = some bm → m ≠ d → qq (upd γ d v' m) = some b → m ≠ j ∧ b < w.heap.size ∧ ∃ b0, lk m st.own = some b0 ∧ qq (γ m) = some b := fun {m bm} hm hmd hmb => by
        obtain ⟨h1, by_, h2, _⟩ := old hm hmd
        rw [huo m hmd] at hmb
        exact ⟨h1, (hI.heap.blk h2 hmb).2, by_, h2, hmb⟩
      by_cases e : i = d
      · by_cases e2 : k = d
        · rw [e, e2]
        · exfalso
          obtain ⟨q1, q2, b0, q3, q4⟩ := blt hk e2 hbk
          subst e
          rw [hud] at hbi
          rcases hvb b hbi with h | h
          · exact q1 (hI.heap.inj k j _ _ b q3 hj q4 h)
          · omega
      · obtain ⟨p1, p2, c0, p3, p4⟩ := blt hi e hbi
        by_cases e2 : k = d
        · exfalso
          subst e2
          rw [hud] at hbk
          rcases hvb b hbk with h | h
          · exact p1 (hI.heap.inj i j _ _ b p3 hj p4 h)
          · omega
        · obtain ⟨q1, q2, b0, q3, q4⟩ := blt hk e2 hbk
          exact hI.heap.inj i k _ _ b p3 q3 p4 q4
  have hS : Sim w0 Sx (upd γ d v') ⟨st.n, killF j st.fr, own'⟩ a w' := ⟨hbel, hI.size, hI.defers, fun t s ht => by
    have ht' : (lk t st.fr).map (kl j) = some s := by rw [← lk_killF]; exact ht
    cases h2 : lk t st.fr with
    | none => rw [h2] at ht'; cases ht'
    | some s0 => rw [h2] at ht'; cases ht'; exact keepS (hI.fr t s0 h2), hheap⟩
  have hS2 := hS.put (dst := some d) (s := .row d) (v := v') (by simpa [qX, Nat.blt, Nat.lt_iff_add_one_le] using hlt) (.row (by rw [qp (bx := .row e z (l ++ l2)) (by rw [lk', if_pos rfl]), hud]))
  unfold Oper.wp
  rw [hrun, Oper.upon_value, hdst]
  refine ⟨_, _, h, hS2, ⟨k2.size, fun b hb hv => same b hb fun ej => hv j _ hj (by simp) ej⟩, fun K hK b hb hv i bx hi hiK hib => ?_⟩
  by_cases e : i = d
  · subst e
    rw [hud] at hib
    rcases hvb b hib with h | h
    · exact hv j _ hj (by have := hK j (by simp); simpa using this) h
    · omega
  · obtain ⟨_, by_, h2, _⟩ := old hi e
    rw [huo i e] at hib
    exact hv i by_ h2 hiK hib
end
theorem rPV_byte {ok : Nat → Prop} {w : World} (c : UInt8) : rPV ok w [.int .u8 (c.toNat : Int)] [pU c] := ⟨rfl, fun j s u a b => by
  cases j with
  | zero => simp at a b; subst a; subst b; exact .v rfl
  | succ j => simp at a⟩
theorem run_append_rowS {P : Program} {ok : Nat → Prop} {w : World} (t u ty e : TypeId) (i : TypeInfo) (ht : P.underlying t = some (.slice e)) (hu : P.underlying u = some .string) (hi : P.info? e = some i) (hz : i.zero = some (.int .u8 0)) (hsize : i.size = 1) (hby : i.bytes = 1)
    (v : Value) (l : List (List PV)) (hown : RowO rPV 1 ok w 0 e v l) (s : Bs) (h63 : l.length + s.length ≤ 1000000000) (hokn : ok w.heap.size) :
    ∃ v' w', (Builtin.append_ #[t, u] ty #[v, .string ⟨⟨s⟩⟩]).run P w = .ok v' w' ∧ RowO rPV 1 ok w' 0 e v' (l ++ bR s) ∧ w.grownBy w' v.ownBlock ∧ (v'.ownBlock = v.ownBlock ∨ v'.ownBlock = some w.heap.size) := by
  obtain ⟨css, h1, h2, h3⟩ := hown
  have ls : (⟨⟨s⟩⟩ : ByteArray).size = s.length := rfl
  obtain ⟨v', w', hrun, g1, g2, g4⟩ := Lib.run_append_own_string (P := P) w 0 t u ty e i ht hu hi hz hsize hby v _ _ h1 ⟨⟨s⟩⟩ (by rw [ls]; unfold maxLen; omega) (by rw [ls]; omega) (Nat.zero_le _)
  have g5 : v'.ownBlock = v.ownBlock ∨ v'.ownBlock = some w.heap.size := by
    rcases h1.2 with ⟨rfl, h0⟩ | ⟨g, cap, cur, rfl, _, hg, hnc, hcm, hcs, _⟩
    · by_cases hm : s.length = 0
      · rw [g4.2 ⟨rfl, hm⟩]; exact .inl rfl
      · have hr := run_append_nil_string (P := P) w t u ty e i (.int .u8 0) ht hu hi hz ⟨⟨s⟩⟩ (by rw [ls]; omega) (by rw [ls]; omega) (by rw [hby, ls]; omega)
        have := hrun.symm.trans hr
        simp only [Result.ok.injEq] at this
        rw [this.1]; exact .inr rfl
    · by_cases hroom : css.length + s.length ≤ cap
      · have hr := Lib.run_append_room_string (P := P) w t u ty e i ht hu hi hsize g css.length cap cur hg ⟨⟨s⟩⟩ hroom (by rw [ls]; omega)
        have := hrun.symm.trans hr
        simp only [Result.ok.injEq] at this
        rw [this.1]; exact .inl rfl
      · have hr := Lib.run_append_grow_string (P := P) w t u ty e i (.int .u8 0) ht hu hi hz ⟨g, 0, none⟩ css.length cap (css.flatMap Subtype.val) (by rw [hsize]; exact h1.1) (h1.cells (g := g) rfl) ⟨⟨s⟩⟩ (by rw [ls]; omega) (by rw [ls]; omega) (by rw [hby]; exact growslice_fits (by rw [ls]; omega) (by omega))
        have := hrun.symm.trans hr
        simp only [Result.ok.injEq] at this
        rw [this.1]; exact .inr rfl
  obtain ⟨css2, hcss2⟩ : ∃ css2 : List (Cel 1), css2 = s.map fun c => ⟨[.int .u8 (c.toNat : Int)], rfl, fun u hu => by rw [List.mem_singleton.1 hu]; rfl⟩ := ⟨_, rfl⟩
  have hl2 : css2.length = s.length := by rw [hcss2, List.length_map]
  have hget : ∀ k (hk : k < css2.length) (hs : k < s.length), css2[k].val = [.int .u8 (s[k].toNat : Int)] := fun k hk hs => by subst hcss2; simp
  have hfl : css2.flatMap Subtype.val = Lib.strCells ⟨⟨s⟩⟩ := by
    rw [hcss2]
    show _ = s.map _
    rw [List.flatMap_map]
    clear hrun g1 g4 hl2 hget hcss2 h63 ls
    induction s with
    | nil => rfl
    | cons c s ih => rw [List.flatMap_cons, ih]; rfl
  have hlt : ∀ b, b < w.heap.size → okR ok v b → okR ok v b ∧ okR ok v' b := fun b hb hk => ⟨hk, hk.1, by
    rcases g5 with g | g
    · rw [g]; exact hk.2
    · rw [g]; intro he; simp only [Option.some.injEq] at he; omega⟩
  have hsame : SameOn (fun b => okR ok v b ∧ okR ok v' b) w w' := ⟨g2.size, fun b hb hk => g2.block b hb hk.1.2⟩
  have fin : ∀ cs x, rPV (okR ok v) w cs x → rPV (okR ok v') w' cs x := fun cs x hx => good_PV.weak _ _ _ _ _ (fun _ _ h => h.2) (good_PV.keep _ _ _ _ _ hsame (good_PV.weak _ _ _ _ _ hlt hx))
  refine ⟨v', w', hrun, ⟨css ++ css2, ?_, by rw [List.length_append, List.length_append, h2, hl2, zg], fun j a1 a2 => ?_⟩, g2, g5⟩
  · unfold OwnF
    rw [List.length_append, List.flatMap_append, hl2, hfl]
    exact g1
  · by_cases hj : j < css.length
    · rw [List.getElem_append_left hj, List.getElem_append_left (by omega)]
      exact fin _ _ (h3 j hj (by omega))
    · have hj2 : j - css.length < s.length := by rw [List.length_append] at a1; omega
      rw [List.getElem_append_right (by omega), List.getElem_append_right (by omega), hget _ _ hj2]
      have : (bR s)[j - l.length]'(by rw [zg, ← h2]; exact hj2) = [pU s[j - css.length]] := by simp [bR, h2]
      rw [this]
      exact rPV_byte _
section
variable {P : Program} {T : TT} (hT : qs P T) {st : St}
include hT
theorem act_append_str {o : Oper} {sx xx : Operand} {t u e : TypeId} {cl : Call} (ho : o.op = .call cl) (hcl : cl.callee = .builtin .append) (hargs : cl.args.toList = [sx, xx]) (hts : cl.argTypes.toList = [t, u]) {d : Nat} (hdst : o.dst = some d)
    {ti ui : TyI} (ht : lk t T = some ti) (hte : ti.d = .sl e) (hu : lk u T = some ui) (hue : ui.d = .str) (hz : (P.info? e).map (fun i => (i.zero, i.size, i.bytes)) = some (some (.int .u8 0), 1, 1)) {j : Nat} (hs : evS st sx = some (.row j)) {l : List (List PV)} (hj : lk j st.own = some (.row e 1 l))
    {s : Bs} (hx : evS st xx = some (.p (pL s))) (hd : lk d (killO j st.own) = none) (hn : Nat.blt d st.n = true) (hr : l.length + s.length ≤ 1000000)
    {Q : St → Prop} (h : Q ⟨st.n, (d, .row d) :: killF j st.fr, (d, .row e 1 (l ++ bR s)) :: killO j st.own⟩) : ActOk P [j] o st Q := by
  refine act_grow hdst hj hd hn (by rw [zg]; unfold reachBytes; omega) (fun x hx => ?_) (fun w0 Sx γ a w hI hrow hok => ?_) h
  · obtain ⟨c, _, rfl⟩ := List.mem_map.1 hx
    exact ⟨rfl, fun s hs => by rw [List.mem_singleton.1 hs]; rfl⟩
  · obtain ⟨info, hinf, hzi⟩ := Option.map_eq_some_iff.1 hz
    simp only [Prod.mk.injEq] at hzi
    obtain ⟨hzv, hsize, hbys⟩ := hzi
    have hut := (hT t ti ht).und
    rw [hte] at hut
    have huu := (hT u ui hu).und
    rw [hue] at huu
    have hsv : a.eval sx = γ j := by
      have := qg hI hs
      generalize a.eval sx = u at this ⊢
      cases this with
      | row hg => rw [qp hj] at hg; cases hg; rfl
    have hxv := (qg hI hx).v_inv
    have hargs' : cl.args = #[sx, xx] := by rw [← Array.toArray_toList (xs := cl.args), hargs]
    have hts' : cl.argTypes = #[t, u] := by rw [← Array.toArray_toList (xs := cl.argTypes), hts]
    obtain ⟨v', w', hrun, g1, g2, g3⟩ := run_append_rowS (P := P) t u o.type e info hut huu hinf hzv hsize hbys (γ j) l hrow s (by omega) hok
    refine ⟨v', w', ?_, g1, g2, g3⟩
    simp only [execOp, ho, resolve, hcl, hargs', hts', Sem.run_bind, Sem.run_pure, Result.andThen_ok, invoke, builtin, List.map_toArray, List.map_cons, List.map_nil, hsv, hxv, hrun]
end
end Go.Proofs.YtghjfficeglmoaaDoor
namespace Go.Proofs.YtghjfficeglmoaaDoor
set_option linter.unusedVariables false
set_option linter.unusedSimpArgs false
open Go.RowKit
set_option maxHeartbeats 4000000
abbrev rowB (i : Nat) (l : Bs) : List (Nat × Box) := [(i, .row 5 1 (bR l))]
theorem cloneB_h (l : Bs) (hn : l.length ≤ 1000000) : Holds Tryd.prog 45 [bP l] (.row 0) (rowB 0 l) := by
  refine qw (ts := [2]) Tryd.func45 (by kernel_rfl) rfl rfl rfl ?_
  (repeat refine qb ?_); refine qa ?_
  repeat (first | refine zR ?_ | refine zK ?_ | refine zM ?_ | refine zB ?_ | refine zA ?_ | refine zS ?_ | refine zL ?_)
  refine qc ?_
  (repeat refine qb ?_); refine qa ?_
  repeat (first | refine zR ?_ | refine zK ?_ | refine zM ?_ | refine zB ?_ | refine zA ?_ | refine zS ?_ | refine zL ?_)
  refine qf rfl (act_nilcmp ql rfl rfl rfl rfl rfl rfl (fun b hb => ?_))
  refine qc ?_
  (repeat refine qb ?_); refine qh rfl (fun hc => ?_) (fun hc => ?_)
  · have hl := hb hc
    have hl' : l = [] := by simpa [bR] using hl
    subst hl'
    (repeat refine qb ?_); refine qa ?_
    repeat (first | refine zR ?_ | refine zK ?_ | refine zM ?_ | refine zB ?_ | refine zA ?_ | refine zS ?_ | refine zL ?_)
    refine qc ?_
    (repeat refine qb ?_); refine qk ?_
    exact ⟨Or.inr rfl, _, _, [(0, 0)], wk_nil 2 0 5 1 rfl rfl, rfl, rfl, rfl, rfl⟩
  · refine qu ?_
    (repeat refine qb ?_); refine qa ?_
    repeat (first | refine zR ?_ | refine zK ?_ | refine zM ?_ | refine zB ?_ | refine zA ?_ | refine zS ?_ | refine zL ?_)
    refine qf rfl (zp ql rfl rfl rfl rfl rfl rfl rfl rfl rfl rfl rfl rfl rfl rfl rfl rfl (by simp [reachBytes, zg]; omega) (by simp [zg]; omega) ?_)
    repeat (first | refine zR ?_ | refine zK ?_ | refine zM ?_ | refine zB ?_ | refine zA ?_ | refine zS ?_ | refine zL ?_)
    refine qc ?_
    (repeat refine qb ?_); refine qk ?_
    exact ⟨Or.inr rfl, _, _, [(7, 0)], Wk.refl _, rfl, rfl, rfl, rfl⟩
theorem zig_neg {n : Int} (h : n < 0) (hr : R64 n) : (18446744073709551616 + 2 * n : Int) = ((18446744073709551615 - zig n : Nat) : Int) := by
  have := hr.1
  unfold zig
  rw [if_pos h]; omega
theorem zig_pos {n : Int} (h : ¬ n < 0) : (2 * n : Int) = ((zig n : Nat) : Int) := by
  unfold zig
  rw [if_neg h]; omega
def onP (x k u : Nat) (d : Bs) : Prop := d.length = k ∧ k ≤ 9 ∧ u * 128 ^ k < 18446744073709551616 ∧ putU 10 x = d ++ putU (10 - k) u
theorem onP_0 {x : Nat} (h : x < 18446744073709551616) : onP x 0 x [] := ⟨rfl, by omega, by omega, rfl⟩
theorem onP_more {x k u : Nat} {d : Bs} (h : onP x k u d) (hu : 128 ≤ u) : onP x (k + 1) (u / 128) (d ++ [UInt8.ofNat (u % 128 + 128)]) := by
  obtain ⟨h1, h2, h3, h4⟩ := h
  have hk : k < 9 := by
    rcases Nat.lt_or_ge k 9 with hk | hk
    · exact hk
    · have : k = 9 := by omega
      subst this
      have e : (128 : Nat) ^ 9 = 9223372036854775808 := by decide
      rw [e] at h3; omega
  refine ⟨by simp [h1], by omega, ?_, ?_⟩
  · have e : u / 128 * 128 ^ (k + 1) = (u / 128 * 128) * 128 ^ k := by rw [Nat.pow_succ, Nat.mul_comm (128 ^ k) 128, ← Nat.mul_assoc]
    rw [e]
    exact Nat.lt_of_le_of_lt (Nat.mul_le_mul_right _ (Nat.div_mul_le_self u 128)) h3
  · rw [h4, show 10 - k = (10 - (k + 1)) + 1 by omega, putU, if_neg (by omega)]; simp
theorem onP_last {x k u : Nat} {d : Bs} (h : onP x k u d) (hu : u < 128) : putU 10 x = d ++ [UInt8.ofNat u] := by
  obtain ⟨h1, h2, h3, h4⟩ := h
  rw [h4, show 10 - k = (9 - k) + 1 by omega, putU, if_pos hu]
theorem onP_u {x k u : Nat} {d : Bs} (h : onP x k u d) : u < 18446744073709551616 := by
  obtain ⟨h1, h2, h3, h4⟩ := h
  exact Nat.lt_of_le_of_lt (Nat.le_mul_of_pos_right u (Nat.pow_pos (by omega))) h3
theorem u8_of {x : Nat} (h : x < 256) : ((x : Nat) : Int) = ((UInt8.ofNat x).toNat : Int) := by
  rw [UInt8.toNat_ofNat']; omega
theorem bR_snoc (b d : Bs) (c : UInt8) : bR (b ++ (d ++ [c])) = bR (b ++ d) ++ [[pU c]] := by rw [← List.append_assoc, bR_app (b ++ d)]; rfl
theorem pnum_h (b : Bs) (hb : b.length ≤ 1000) (n : Int) (hn : R64 n) : Holds Tryd.prog 33 [bP b, pI n] (.row 0) (rowB 0 (b ++ putN n)) := by
  have HC := cloneB_h b (by omega)
  have hz := zig_lt hn
  obtain ⟨x, hx⟩ : ∃ x, x = zig n := ⟨_, rfl⟩
  have eP : putN n = putU 10 x := by rw [hx]; rfl
  rw [eP]
  refine qw (ts := [4]) Tryd.func33 (by kernel_rfl) rfl rfl rfl ?_
  (repeat refine qb ?_); refine qa ?_
  repeat (first | refine zR ?_ | refine zK ?_ | refine zM ?_ | refine zB ?_ | refine zA ?_ | refine zS ?_ | refine zL ?_)
  refine qc ?_
  (repeat refine qb ?_); refine qa ?_
  repeat (first | refine zR ?_ | refine zK ?_ | refine zM ?_ | refine zB ?_ | refine zA ?_ | refine zS ?_ | refine zL ?_)
  refine zk ql rfl rfl (by omega) rfl ?_
  rw [zig_u hn]
  repeat (first | refine zR ?_ | refine zK ?_ | refine zM ?_ | refine zB ?_ | refine zA ?_ | refine zS ?_ | refine zL ?_)
  refine qc ?_
  (repeat refine qb ?_); refine qa ?_
  repeat (first | refine zR ?_ | refine zK ?_ | refine zM ?_ | refine zB ?_ | refine zA ?_ | refine zS ?_ | refine zL ?_)
  refine qc ?_
  (repeat refine qb ?_)
  refine SW.mono (Q := fun e s => e = .normal ∧ Wk s ⟨32, [(0, .p (bP b)), (5, .p (.v (.int .u64 (x : Int))))], []⟩) ?_ ?_
  · (repeat refine qb ?_); refine qh rfl (fun hc => ?_) (fun hc => ?_)
    · have hneg : n < 0 := of_decide_eq_true hc
      rw [if_pos hneg, zig_neg hneg hn]
      (repeat refine qb ?_); refine qa ?_
      repeat (first | refine zR ?_ | refine zK ?_ | refine zM ?_ | refine zB ?_ | refine zA ?_ | refine zS ?_ | refine zL ?_)
      rw [not_u64s (by omega), show 18446744073709551615 - (18446744073709551615 - zig n) = x by omega]
      repeat (first | refine zR ?_ | refine zK ?_ | refine zM ?_ | refine zB ?_ | refine zA ?_ | refine zS ?_ | refine zL ?_)
      refine qc ?_
      exact ⟨rfl, qy [0, 5] [] rfl rfl⟩
    · have hneg : ¬ n < 0 := of_decide_eq_false hc
      rw [if_neg hneg, zig_pos hneg, ← hx]
      refine qu ?_
      exact ⟨rfl, qy [0, 5] [] rfl rfl⟩
  rintro e s ⟨rfl, hw⟩
  refine SW.wk hw ?_
  (repeat refine qb ?_); refine qa ?_
  repeat (first | refine zR ?_ | refine zK ?_ | refine zM ?_ | refine zB ?_ | refine zA ?_ | refine zS ?_ | refine zL ?_)
  refine qf rfl (qT rfl rfl rfl rfl (HC) rfl rfl rfl ?_)
  repeat (first | refine zR ?_ | refine zK ?_ | refine zM ?_ | refine zB ?_ | refine zA ?_ | refine zS ?_ | refine zL ?_)
  repeat (first | refine zR ?_ | refine zK ?_ | refine zM ?_ | refine zB ?_ | refine zA ?_ | refine zS ?_ | refine zL ?_)
  refine qc ?_
  (repeat refine qb ?_); refine qS ?_
  refine SW.wk (qy [5, 6] [(16000, 0)] rfl rfl) ?_
  refine sw_loop (fun m s => ∃ (k u : Nat) (uu : Int) (d : Bs), m = 10 - k ∧ uu = u ∧ onP x k u d ∧ s = ⟨32, [(5, .p (.v (.int .u64 uu))), (6, .row 0)], rowB 0 (b ++ d)⟩) 10 ⟨0, x, x, [], rfl, rfl, onP_0 (by omega), by rw [List.append_nil]; rfl⟩ ?_
  rintro m s ⟨k, u, _, d, rfl, rfl, hO, rfl⟩
  have hd := hO.1
  have hk9 := hO.2.1
  have hu := onP_u hO
  (repeat refine qb ?_); refine qa ?_
  repeat (first | refine zR ?_ | refine zK ?_ | refine zM ?_ | refine zB ?_ | refine zA ?_ | refine zS ?_ | refine zL ?_)
  refine qc ?_
  by_cases h7 : 128 ≤ u
  · rw [show decide ((u : Int) ≥ 128) = true by simp; omega]
    (repeat refine qb ?_); refine qh rfl (fun hq => ?_) (fun hq => ?_)
    rotate_left
    · cases hq
    refine qu ?_
    (repeat refine qb ?_); refine qS ?_
    (repeat refine qb ?_); refine qa ?_
    repeat (first | refine zR ?_ | refine zK ?_ | refine zM ?_ | refine zB ?_ | refine zA ?_ | refine zS ?_ | refine zL ?_)
    rw [and127 hu, or128 (Nat.mod_lt _ (by omega)), u8_in (by omega), u8_of (show u % 128 + 128 < 256 by omega)]
    repeat (first | refine zR ?_ | refine zK ?_ | refine zM ?_ | refine zB ?_ | refine zA ?_ | refine zS ?_ | refine zL ?_)
    refine qf rfl (zp ql rfl rfl rfl rfl rfl rfl rfl rfl rfl rfl rfl rfl rfl rfl rfl rfl (by simp only [zg, List.length_append, List.length_cons, List.length_nil]; unfold reachBytes; omega) (by simp only [zg, List.length_append, List.length_cons, List.length_nil]; omega) ?_)
    repeat (first | refine zR ?_ | refine zK ?_ | refine zM ?_ | refine zB ?_ | refine zA ?_ | refine zS ?_ | refine zL ?_)
    refine qc ?_
    (repeat refine qb ?_); refine qa ?_
    repeat (first | refine zR ?_ | refine zK ?_ | refine zM ?_ | refine zB ?_ | refine zA ?_ | refine zS ?_ | refine zL ?_)
    refine zk ql rfl rfl (by omega) rfl ?_
    rw [shr_7]
    repeat (first | refine zR ?_ | refine zK ?_ | refine zM ?_ | refine zB ?_ | refine zA ?_ | refine zS ?_ | refine zL ?_)
    refine qc ?_
    refine ⟨_, _, ?_, qy [5, 6] [(26, 0)] rfl rfl, k + 1, u / 128, _, d ++ [UInt8.ofNat (u % 128 + 128)], rfl, rfl, onP_more hO h7, ?_⟩
    rotate_left
    · have e := bR_snoc b d (UInt8.ofNat (u % 128 + 128))
      unfold rowB
      rw [e]; rfl
    omega
  · rw [show decide ((u : Int) ≥ 128) = false by simp; omega]
    (repeat refine qb ?_); refine qh rfl (fun hq => ?_) (fun hq => ?_)
    · cases hq
    refine sw_exit ?_
    have hL := onP_last hO (by omega)
    (repeat refine qb ?_); refine qa ?_
    repeat (first | refine zR ?_ | refine zK ?_ | refine zM ?_ | refine zB ?_ | refine zA ?_ | refine zS ?_ | refine zL ?_)
    rw [u8_in (by omega), u8_of (show u < 256 by omega)]
    repeat (first | refine zR ?_ | refine zK ?_ | refine zM ?_ | refine zB ?_ | refine zA ?_ | refine zS ?_ | refine zL ?_)
    refine qf rfl (zp ql rfl rfl rfl rfl rfl rfl rfl rfl rfl rfl rfl rfl rfl rfl rfl rfl (by simp only [zg, List.length_append, List.length_cons, List.length_nil]; unfold reachBytes; omega) (by simp only [zg, List.length_append, List.length_cons, List.length_nil]; omega) ?_)
    repeat (first | refine zR ?_ | refine zK ?_ | refine zM ?_ | refine zB ?_ | refine zA ?_ | refine zS ?_ | refine zL ?_)
    refine qc ?_
    (repeat refine qb ?_); refine qk ?_
    unfold rowB
    rw [hL, bR_snoc]
    exact ⟨Or.inr rfl, _, _, [(31, 0)], Wk.refl _, rfl, rfl, rfl, rfl⟩
theorem putN_len (n : Int) : (putN n).length ≤ 10 := putU_len 10 _
theorem ptext_h (b : Bs) (hb : b.length ≤ 1000) (l : Bs) (hl : l.length ≤ 100000) : Holds Tryd.prog 34 [bP b, pL l] (.row 0) (rowB 0 (b ++ putN (l.length : Int) ++ l)) := by
  have HN := pnum_h b hb (l.length : Int) ⟨by omega, by omega⟩
  have hp := putN_len (l.length : Int)
  refine qw (ts := [4]) Tryd.func34 (by kernel_rfl) rfl rfl rfl ?_
  (repeat refine qb ?_); refine qa ?_
  repeat (first | refine zR ?_ | refine zK ?_ | refine zM ?_ | refine zB ?_ | refine zA ?_ | refine zS ?_ | refine zL ?_)
  refine qc ?_
  (repeat refine qb ?_); refine qa ?_
  repeat (first | refine zR ?_ | refine zK ?_ | refine zM ?_ | refine zB ?_ | refine zA ?_ | refine zS ?_ | refine zL ?_)
  rw [show (⟨⟨l⟩⟩ : ByteArray).size = l.length from rfl]
  refine qf rfl (qT rfl rfl rfl rfl (HN) rfl rfl rfl ?_)
  repeat (first | refine zR ?_ | refine zK ?_ | refine zM ?_ | refine zB ?_ | refine zA ?_ | refine zS ?_ | refine zL ?_)
  repeat (first | refine zR ?_ | refine zK ?_ | refine zM ?_ | refine zB ?_ | refine zA ?_ | refine zS ?_ | refine zL ?_)
  refine qf rfl (act_append_str ql rfl rfl rfl rfl rfl rfl rfl rfl rfl (by kernel_rfl) rfl rfl rfl rfl rfl (by simp only [zg, List.length_append]; omega) ?_)
  repeat (first | refine zR ?_ | refine zK ?_ | refine zM ?_ | refine zB ?_ | refine zA ?_ | refine zS ?_ | refine zL ?_)
  refine qc ?_
  (repeat refine qb ?_); refine qk ?_
  unfold rowB
  rw [bR_app (b ++ putN (l.length : Int))]
  exact ⟨Or.inr rfl, _, _, [(10, 0)], Wk.refl _, rfl, rfl, rfl, rfl⟩
theorem textsD_h (k : Int) : Holds Tryd.prog 32 [pI k] (.p (pB (decide (k = 3 ∨ k = 5)))) [] := by
  refine qw (ts := [2]) Tryd.func32 (by kernel_rfl) rfl rfl rfl ?_
  (repeat refine qb ?_); refine qa ?_
  repeat (first | refine zR ?_ | refine zK ?_ | refine zM ?_ | refine zB ?_ | refine zA ?_ | refine zS ?_ | refine zL ?_)
  refine qc ?_
  (repeat refine qb ?_); refine qa ?_
  repeat (first | refine zR ?_ | refine zK ?_ | refine zM ?_ | refine zB ?_ | refine zA ?_ | refine zS ?_ | refine zL ?_)
  by_cases h3 : k = 3
  · rw [show (k == 3) = true by simp [h3]]
    repeat (first | refine zR ?_ | refine zK ?_ | refine zM ?_ | refine zB ?_ | refine zA ?_ | refine zS ?_ | refine zL ?_)
    refine qc ?_
    (repeat refine qb ?_); refine qk ?_
    exact fin_b rfl (by simp [h3])
  · rw [show (k == 3) = false by simp [h3]]
    repeat (first | refine zR ?_ | refine zK ?_ | refine zM ?_ | refine zB ?_ | refine zA ?_ | refine zS ?_ | refine zL ?_)
    refine qc ?_
    (repeat refine qb ?_); refine qk ?_
    exact fin_b rfl (by rw [Bool.eq_iff_iff]; simp [h3])
theorem vput_h (b : Bs) (hb : b.length ≤ 900) (v : Val) (hv : v.Fit) (hs : v.s.size ≤ 100000) (hk : R64 v.kind) : Holds Tryd.prog 12 [bP b, .agg v.pv] (.row 0) (rowB 0 (b ++ putV v)) := by
  have HN := pnum_h b (by omega) v.kind hk
  have hp := putN_len v.kind
  have HT := textsD_h v.kind
  obtain ⟨k, n, ⟨⟨s⟩⟩⟩ := v
  have H2 := ptext_h (b ++ putN k) (by rw [List.length_append]; simp only at hp; omega) s hs
  have H3 := pnum_h (b ++ putN k) (by rw [List.length_append]; simp only at hp; omega) n ⟨hv.n.1, hv.n.2⟩
  simp only at HN HT
  refine qw (ts := [4]) Tryd.func12 (by kernel_rfl) rfl rfl rfl ?_
  (repeat refine qb ?_); refine qa ?_
  repeat (first | refine zR ?_ | refine zK ?_ | refine zM ?_ | refine zB ?_ | refine zA ?_ | refine zS ?_ | refine zL ?_)
  refine qc ?_
  (repeat refine qb ?_); refine qa ?_
  repeat (first | refine zR ?_ | refine zK ?_ | refine zM ?_ | refine zB ?_ | refine zA ?_ | refine zS ?_ | refine zL ?_)
  refine qf rfl (qT rfl rfl rfl rfl (HN) rfl rfl rfl ?_)
  repeat (first | refine zR ?_ | refine zK ?_ | refine zM ?_ | refine zB ?_ | refine zA ?_ | refine zS ?_ | refine zL ?_)
  repeat (first | refine zR ?_ | refine zK ?_ | refine zM ?_ | refine zB ?_ | refine zA ?_ | refine zS ?_ | refine zL ?_)
  refine qc ?_
  (repeat refine qb ?_); refine qa ?_
  repeat (first | refine zR ?_ | refine zK ?_ | refine zM ?_ | refine zB ?_ | refine zA ?_ | refine zS ?_ | refine zL ?_)
  refine qf rfl (qd rfl rfl rfl rfl (HT) rfl rfl ?_)
  repeat (first | refine zR ?_ | refine zK ?_ | refine zM ?_ | refine zB ?_ | refine zA ?_ | refine zS ?_ | refine zL ?_)
  refine qc ?_
  by_cases h : k = 3 ∨ k = 5
  · have e : putV ⟨k, n, ⟨⟨s⟩⟩⟩ = putN k ++ (putN (s.length : Int) ++ s) := by unfold putV; rw [if_pos h]; rfl
    rw [e, show decide (k = 3 ∨ k = 5) = true from decide_eq_true h, ← List.append_assoc, ← List.append_assoc]
    (repeat refine qb ?_); refine qh rfl (fun hc => ?_) (fun hc => ?_)
    rotate_left
    · cases hc
    (repeat refine qb ?_); refine qa ?_
    repeat (first | refine zR ?_ | refine zK ?_ | refine zM ?_ | refine zB ?_ | refine zA ?_ | refine zS ?_ | refine zL ?_)
    refine swt_wk (wk_frz (k := 9000) rfl) ?_
    refine qf rfl (qT rfl rfl rfl rfl (H2) rfl rfl rfl ?_)
    repeat (first | refine zR ?_ | refine zK ?_ | refine zM ?_ | refine zB ?_ | refine zA ?_ | refine zS ?_ | refine zL ?_)
    repeat (first | refine zR ?_ | refine zK ?_ | refine zM ?_ | refine zB ?_ | refine zA ?_ | refine zS ?_ | refine zL ?_)
    refine qc ?_
    (repeat refine qb ?_); refine qk ?_
    exact ⟨Or.inr rfl, _, _, [(16000, 0)], Wk.refl _, rfl, rfl, rfl, rfl⟩
  · have e : putV ⟨k, n, ⟨⟨s⟩⟩⟩ = putN k ++ putN n := by unfold putV; rw [if_neg h]
    rw [e, show decide (k = 3 ∨ k = 5) = false from decide_eq_false h, ← List.append_assoc]
    (repeat refine qb ?_); refine qh rfl (fun hc => ?_) (fun hc => ?_)
    · cases hc
    refine qu ?_
    (repeat refine qb ?_); refine qa ?_
    repeat (first | refine zR ?_ | refine zK ?_ | refine zM ?_ | refine zB ?_ | refine zA ?_ | refine zS ?_ | refine zL ?_)
    refine swt_wk (wk_frz (k := 9000) rfl) ?_
    refine qf rfl (qT rfl rfl rfl rfl (H3) rfl rfl rfl ?_)
    repeat (first | refine zR ?_ | refine zK ?_ | refine zM ?_ | refine zB ?_ | refine zA ?_ | refine zS ?_ | refine zL ?_)
    repeat (first | refine zR ?_ | refine zK ?_ | refine zM ?_ | refine zB ?_ | refine zA ?_ | refine zS ?_ | refine zL ?_)
    refine qc ?_
    (repeat refine qb ?_); refine qk ?_
    exact ⟨Or.inr rfl, _, _, [(20000, 0)], Wk.refl _, rfl, rfl, rfl, rfl⟩
end Go.Proofs.YtghjfficeglmoaaDoor
namespace Go.Proofs.YtghjfficeglmoaaDoor
set_option linter.unusedVariables false
set_option linter.unusedSimpArgs false
open Go.RowKit
set_option maxHeartbeats 4000000
theorem read_h (b : Bs) (hb : b.length ≤ 1000000) : Holds Tryd.prog 25 [bP b] (.ptr 0 0) (rdO 0 b (0, false)) := by
  have HC := cloneB_h b hb
  refine qw (ts := [2]) Tryd.func25 (by kernel_rfl) rfl rfl rfl ?_
  (repeat refine qb ?_); refine qa ?_
  repeat (first | refine zR ?_ | refine zK ?_ | refine zM ?_ | refine zB ?_ | refine zA ?_ | refine zS ?_ | refine zL ?_)
  refine qc ?_
  (repeat refine qb ?_); refine qa ?_
  repeat (first | refine zR ?_ | refine zK ?_ | refine zM ?_ | refine zB ?_ | refine zA ?_ | refine zS ?_ | refine zL ?_)
  refine qf rfl (qT rfl rfl rfl rfl (HC) rfl rfl rfl ?_)
  repeat (first | refine zR ?_ | refine zK ?_ | refine zM ?_ | refine zB ?_ | refine zA ?_ | refine zS ?_ | refine zL ?_)
  refine swt_wk (wk_frz (k := 5000) rfl) ?_
  repeat (first | refine zR ?_ | refine zK ?_ | refine zM ?_ | refine zB ?_ | refine zA ?_ | refine zS ?_ | refine zL ?_)
  refine qc ?_
  (repeat refine qb ?_); refine qk ?_
  exact ⟨Or.inr rfl, _, _, [(6, 0)], Wk.refl _, rfl, rfl, rfl, rfl⟩
theorem partsP_le {l : Bs} {st : Rdr} (h : st.1 ≤ l.length) : st.1 ≤ (qN l st).2.1 ∧ (inP l st 1 5).2.1 ≤ l.length := by
  have h1 := inP_le (lo := 1) (hi := 5) h
  have h2 := inP_ge (l := l) (st := st) (lo := 1) (hi := 5)
  refine ⟨?_, h1⟩
  unfold qN
  split
  · simp only
    unfold textP
    have h3 := inP_ge (l := l) (st := (inP l st 1 5).2) (lo := 0) (hi := 64)
    split
    · simp only; omega
    · split
      · exact h2
      · simp only; omega
  · simp only
    have h3 := inP_ge (l := l) (st := (inP l st 1 5).2) (lo := lo64) (hi := hi64)
    omega
theorem inP_R64 {l : Bs} {st : Rdr} {lo hi : Int} : R64 (inP l st lo hi).1 := by
  have h0 : R64 0 := ⟨by omega, by omega⟩
  unfold inP
  split
  · exact h0
  · split
    · exact h0
    · rename_i n k hg
      have := getN_R64 hg
      split
      · exact h0
      · exact this
theorem textP_len {l : Bs} {st : Rdr} {most : Int} : (textP l st most).1.length ≤ l.length := by
  unfold textP
  split
  · exact Nat.zero_le _
  · split
    · exact Nat.zero_le _
    · simp only [List.length_take, List.length_drop]; omega
theorem partsP_R64 {l : Bs} {st : Rdr} : R64 (qN l st).1.kind ∧ R64 (qN l st).1.n ∧ (qN l st).1.s.size ≤ l.length := by
  have h0 : R64 0 := ⟨by omega, by omega⟩
  unfold qN
  split
  · exact ⟨inP_R64, h0, textP_len⟩
  · exact ⟨inP_R64, inP_R64, Nat.zero_le _⟩
abbrev vCells (v : Val) : Box := .cells (v.pv.map .p)
theorem vget_h (l : Bs) (hl : l.length ≤ 1000) (st : Rdr) (ha : st.1 ≤ l.length) : zh Tryd.prog 27 [.ptr 1000000 0] (rdO 1000000 l st) (.p (.agg (getP l st).1.pv)) (rdO 1000000 l (getP l st).2) := by
  have HA := at_h l st
  have HI := in_h l hl st ha 1 5
  obtain ⟨h1, h2⟩ := partsP_le ha
  have HT := textsD_h (inP l st 1 5).1
  have HX := rtext_h l hl (inP l st 1 5).2 h2 64
  have HN := num_h l hl (inP l st 1 5).2 h2
  have HW := wrong_h l (qN l st).2
  have HF := fail_h l (qN l st).2.1 false st.1 h1
  obtain ⟨r1, r2, r3⟩ := partsP_R64 (l := l) (st := st)
  have HR := qR (qN l st).1 (by unfold reachBytes; omega)
  have eP : qN l st = if (inP l st 1 5).1 = 3 ∨ (inP l st 1 5).1 = 5 then (⟨(inP l st 1 5).1, 0, ⟨⟨(textP l (inP l st 1 5).2 64).1⟩⟩⟩, (textP l (inP l st 1 5).2 64).2) else (⟨(inP l st 1 5).1, (inP l (inP l st 1 5).2 lo64 hi64).1, ⟨⟨[]⟩⟩⟩, (inP l (inP l st 1 5).2 lo64 hi64).2) := rfl
  unfold getP
  generalize textP l (inP l st 1 5).2 64 = qt at *
  generalize inP l (inP l st 1 5).2 lo64 hi64 = qn at *
  generalize inP l st 1 5 = qi at *
  generalize qN l st = q at *
  obtain ⟨k, st1⟩ := qi
  obtain ⟨tx, st2⟩ := qt
  obtain ⟨nn, st3⟩ := qn
  simp only at *
  refine holdsC_of (T := TTab) ql Tryd.func27 (by kernel_rfl) rfl rfl rfl ?_
  (repeat refine qb ?_); refine qa ?_
  repeat (first | refine zR ?_ | refine zK ?_ | refine zM ?_ | refine zB ?_ | refine zA ?_ | refine zS ?_ | refine zL ?_)
  refine qc ?_
  (repeat refine qb ?_); refine qa ?_
  repeat (first | refine zR ?_ | refine zK ?_ | refine zM ?_ | refine zB ?_ | refine zA ?_ | refine zS ?_ | refine zL ?_)
  refine qf rfl (qo [(1000000, 1000000)] rfl rfl rfl rfl rfl rfl (HA) rfl rfl rfl ?_)
  repeat (first | refine zR ?_ | refine zK ?_ | refine zM ?_ | refine zB ?_ | refine zA ?_ | refine zS ?_ | refine zL ?_)
  repeat (first | refine zR ?_ | refine zK ?_ | refine zM ?_ | refine zB ?_ | refine zA ?_ | refine zS ?_ | refine zL ?_)
  refine qc ?_
  (repeat refine qb ?_); refine qa ?_
  repeat (first | refine zR ?_ | refine zK ?_ | refine zM ?_ | refine zB ?_ | refine zA ?_ | refine zS ?_ | refine zL ?_)
  refine qf rfl (qo [(1000000, 1000000)] rfl rfl rfl rfl rfl rfl (HI) rfl rfl rfl ?_)
  repeat (first | refine zR ?_ | refine zK ?_ | refine zM ?_ | refine zB ?_ | refine zA ?_ | refine zS ?_ | refine zL ?_)
  repeat (first | refine zR ?_ | refine zK ?_ | refine zM ?_ | refine zB ?_ | refine zA ?_ | refine zS ?_ | refine zL ?_)
  refine qc ?_
  (repeat refine qb ?_); refine qa ?_
  repeat (first | refine zR ?_ | refine zK ?_ | refine zM ?_ | refine zB ?_ | refine zA ?_ | refine zS ?_ | refine zL ?_)
  refine qf rfl (qd rfl rfl rfl rfl (HT) rfl rfl ?_)
  repeat (first | refine zR ?_ | refine zK ?_ | refine zM ?_ | refine zB ?_ | refine zA ?_ | refine zS ?_ | refine zL ?_)
  refine qc ?_
  (repeat refine qb ?_)
  refine SW.mono (Q := fun e s => e = .normal ∧ Wk s ⟨31, [(0, .ptr 1000000 0), (2, .ptr 2 0), (3, .p (pI (st.1 : Int))), (4, .ptr 4 0)], [(2, vCells noneV), (4, vCells q.1)] ++ rdO 1000000 l q.2⟩) ?_ ?_
  · by_cases h : k = 3 ∨ k = 5
    · rw [if_pos h] at eP
      subst eP
      rw [show decide (k = 3 ∨ k = 5) = true from decide_eq_true h]
      (repeat refine qb ?_); refine qh rfl (fun hc => ?_) (fun hc => ?_)
      rotate_left
      · cases hc
      (repeat refine qb ?_); refine qa ?_
      repeat (first | refine zR ?_ | refine zK ?_ | refine zM ?_ | refine zB ?_ | refine zA ?_ | refine zS ?_ | refine zL ?_)
      refine qf rfl (qo [(1000000, 1000000)] rfl rfl rfl rfl rfl rfl (HX) rfl rfl rfl ?_)
      repeat (first | refine zR ?_ | refine zK ?_ | refine zM ?_ | refine zB ?_ | refine zA ?_ | refine zS ?_ | refine zL ?_)
      repeat (first | refine zR ?_ | refine zK ?_ | refine zM ?_ | refine zB ?_ | refine zA ?_ | refine zS ?_ | refine zL ?_)
      refine qc ?_
      exact ⟨rfl, qy [0, 2, 3, 4] [(2, 2), (4, 4), (1000000, 1000000)] rfl rfl⟩
    · rw [if_neg h] at eP
      subst eP
      rw [show decide (k = 3 ∨ k = 5) = false from decide_eq_false h]
      (repeat refine qb ?_); refine qh rfl (fun hc => ?_) (fun hc => ?_)
      · cases hc
      (repeat refine qb ?_); refine qa ?_
      repeat (first | refine zR ?_ | refine zK ?_ | refine zM ?_ | refine zB ?_ | refine zA ?_ | refine zS ?_ | refine zL ?_)
      refine qf rfl (qo [(1000000, 1000000)] rfl rfl rfl rfl rfl rfl (HN) rfl rfl rfl ?_)
      repeat (first | refine zR ?_ | refine zK ?_ | refine zM ?_ | refine zB ?_ | refine zA ?_ | refine zS ?_ | refine zL ?_)
      repeat (first | refine zR ?_ | refine zK ?_ | refine zM ?_ | refine zB ?_ | refine zA ?_ | refine zS ?_ | refine zL ?_)
      refine qc ?_
      exact ⟨rfl, qy [0, 2, 3, 4] [(2, 2), (4, 4), (1000000, 1000000)] rfl rfl⟩
  rintro e s ⟨rfl, hw⟩
  refine SW.wk hw ?_
  obtain ⟨v, a, b⟩ := q
  simp only at *
  (repeat refine qb ?_); refine qa ?_
  repeat (first | refine zR ?_ | refine zK ?_ | refine zM ?_ | refine zB ?_ | refine zA ?_ | refine zS ?_ | refine zL ?_)
  refine qf rfl (qo [(1000000, 1000000)] rfl rfl rfl rfl rfl rfl (HW) rfl rfl rfl ?_)
  repeat (first | refine zR ?_ | refine zK ?_ | refine zM ?_ | refine zB ?_ | refine zA ?_ | refine zS ?_ | refine zL ?_)
  repeat (first | refine zR ?_ | refine zK ?_ | refine zM ?_ | refine zB ?_ | refine zA ?_ | refine zS ?_ | refine zL ?_)
  refine qc ?_
  cases b with
  | true =>
    rw [if_pos rfl]
    (repeat refine qb ?_); refine qh rfl (fun hc => ?_) (fun hc => ?_)
    rotate_left
    · cases hc
    (repeat refine qb ?_); refine qa ?_
    repeat (first | refine zR ?_ | refine zK ?_ | refine zM ?_ | refine zB ?_ | refine zA ?_ | refine zS ?_ | refine zL ?_)
    refine qc ?_
    (repeat refine qb ?_); refine qk ?_
    exact ⟨Or.inr rfl, _, _, [(1000000, 1000000)], _, Wk.refl _, rfl, rfl, .refl _, rfl, rfl⟩
  | false =>
    rw [if_neg (by simp)]
    (repeat refine qb ?_); refine qh rfl (fun hc => ?_) (fun hc => ?_)
    · cases hc
    refine qu ?_
    (repeat refine qb ?_); refine qa ?_
    repeat (first | refine zR ?_ | refine zK ?_ | refine zM ?_ | refine zB ?_ | refine zA ?_ | refine zS ?_ | refine zL ?_)
    refine qf rfl (qd rfl rfl rfl rfl (HR) rfl rfl ?_)
    repeat (first | refine zR ?_ | refine zK ?_ | refine zM ?_ | refine zB ?_ | refine zA ?_ | refine zS ?_ | refine zL ?_)
    refine qc ?_
    cases hr : v.right with
    | true =>
      rw [if_pos rfl]
      (repeat refine qb ?_); refine qh rfl (fun hq => ?_) (fun hq => ?_)
      · cases hq
      refine qu ?_
      (repeat refine qb ?_); refine qa ?_
      repeat (first | refine zR ?_ | refine zK ?_ | refine zM ?_ | refine zB ?_ | refine zA ?_ | refine zS ?_ | refine zL ?_)
      refine qc ?_
      (repeat refine qb ?_); refine qk ?_
      exact ⟨Or.inr rfl, _, _, [(1000000, 1000000)], _, Wk.refl _, rfl, rfl, .refl _, rfl, rfl⟩
    | false =>
      rw [if_neg (by simp)]
      (repeat refine qb ?_); refine qh rfl (fun hq => ?_) (fun hq => ?_)
      rotate_left
      · cases hq
      (repeat refine qb ?_); refine qa ?_
      repeat (first | refine zR ?_ | refine zK ?_ | refine zM ?_ | refine zB ?_ | refine zA ?_ | refine zS ?_ | refine zL ?_)
      refine qf rfl (qo [(1000000, 1000000)] rfl rfl rfl rfl rfl rfl (HF) rfl rfl rfl ?_)
      repeat (first | refine zR ?_ | refine zK ?_ | refine zM ?_ | refine zB ?_ | refine zA ?_ | refine zS ?_ | refine zL ?_)
      refine qc ?_
      (repeat refine qb ?_); refine qa ?_
      repeat (first | refine zR ?_ | refine zK ?_ | refine zM ?_ | refine zB ?_ | refine zA ?_ | refine zS ?_ | refine zL ?_)
      refine qc ?_
      (repeat refine qb ?_); refine qk ?_
      exact ⟨Or.inr rfl, _, _, [(1000000, 1000000)], _, Wk.refl _, rfl, rfl, .refl _, rfl, rfl⟩
end Go.Proofs.YtghjfficeglmoaaDoor
namespace Go.Proofs.YtghjfficeglmoaaDoor
set_option linter.unusedVariables false
set_option linter.unusedSimpArgs false
open Go.RowKit
set_option maxHeartbeats 4000000
theorem pU_ne (c d : UInt8) : ((c.toNat : Int) != (d.toNat : Int)) = !(c == d) := by
  rw [Bool.eq_iff_iff]
  simp only [bne_iff_ne, ne_eq, Bool.not_eq_true', beq_eq_false_iff_ne]
  constructor
  · intro h e; exact h (by rw [e])
  · intro h e; exact h (UInt8.toNat_inj.1 (by omega))
theorem sameB_h (a b : Bs) (ha : a.length ≤ 1000000) (hb : b.length ≤ 1000000) : zh Tryd.prog 11 [.row 1000000, .row 1000001] [(1000000, .row 5 1 (bR a)), (1000001, .row 5 1 (bR b))] (.p (pB (decide (a = b)))) [] := by
  have la := zg a
  have lb := zg b
  refine qz (ts := [4]) Tryd.func11 (by kernel_rfl) rfl rfl rfl ?_
  refine SW.wk ((wk_frz (k := 1000000) rfl).trans (wk_frz (k := 1000001) rfl)) ?_
  (repeat refine qb ?_); refine qa ?_
  repeat (first | refine zR ?_ | refine zK ?_ | refine zM ?_ | refine zB ?_ | refine zA ?_ | refine zS ?_ | refine zL ?_)
  refine qc ?_
  (repeat refine qb ?_); refine qa ?_
  repeat (first | refine zR ?_ | refine zK ?_ | refine zM ?_ | refine zB ?_ | refine zA ?_ | refine zS ?_ | refine zL ?_)
  rw [la, lb]
  by_cases hl : a.length = b.length
  rotate_left
  · rw [show ((a.length : Int) != (b.length : Int)) = true by simp; omega]
    refine qc ?_
    (repeat refine qb ?_); refine qh rfl (fun hc => ?_) (fun hc => ?_)
    · (repeat refine qb ?_); refine qa ?_
      repeat (first | refine zR ?_ | refine zK ?_ | refine zM ?_ | refine zB ?_ | refine zA ?_ | refine zS ?_ | refine zL ?_)
      refine qc ?_
      (repeat refine qb ?_); refine qk ?_
      exact ⟨Or.inr rfl, _, _, [], Wk.refl _, rfl, by rw [decide_eq_false (fun e => hl (by rw [e]))]; rfl, rfl, rfl⟩
    · cases hc
  rw [show ((a.length : Int) != (b.length : Int)) = false by simp; omega]
  refine qc ?_
  (repeat refine qb ?_); refine qh rfl (fun hc => ?_) (fun hc => ?_)
  · cases hc
  refine qu ?_
  (repeat refine qb ?_); refine qa ?_
  repeat (first | refine zR ?_ | refine zK ?_ | refine zM ?_ | refine zB ?_ | refine zA ?_ | refine zS ?_ | refine zL ?_)
  refine qc ?_
  (repeat refine qb ?_); refine qS ?_
  refine SW.wk (qy [0, 1, 5] [] rfl rfl) ?_
  refine sw_loop (fun m s => ∃ (k : Nat) (kk : Int), k ≤ a.length ∧ m = a.length - k ∧ kk = k ∧ a.take k = b.take k ∧ s = ⟨26, [(0, .p (bP a)), (1, .p (bP b)), (5, .p (pI kk))], []⟩) a.length ⟨0, 0, Nat.zero_le _, rfl, rfl, by simp, rfl⟩ ?_
  rintro m s ⟨k, _, hk, rfl, rfl, he, rfl⟩
  (repeat refine qb ?_); refine qa ?_
  repeat (first | refine zR ?_ | refine zK ?_ | refine zM ?_ | refine zB ?_ | refine zA ?_ | refine zS ?_ | refine zL ?_)
  rw [la]
  refine qc ?_
  by_cases hlt : k < a.length
  · rw [show decide ((k : Int) < (a.length : Int)) = true by simp; omega]
    (repeat refine qb ?_); refine qh rfl (fun hq => ?_) (fun hq => ?_)
    rotate_left
    · cases hq
    refine qu ?_
    (repeat refine qb ?_); refine qS ?_
    (repeat refine qb ?_); refine qv [] [(0, true), (1, true), (2, true), (3, true), (4, true), (5, true), (6, true), (7, true), (8, true)] (by kernel_rfl) (by kernel_rfl) (by kernel_rfl) ?_
    repeat (first | refine yR ?_ | refine yK ?_ | refine yM ?_ | refine yB ?_ | refine yA ?_ | refine yS ?_ | refine yL ?_)
    refine qY ql rfl rfl rfl (by rw [la]; omega) rfl ?_
    rw [Int.toNat_natCast, bR_at hlt]
    repeat (first | refine yR ?_ | refine yK ?_ | refine yM ?_ | refine yB ?_ | refine yA ?_ | refine yS ?_ | refine yL ?_)
    refine qY ql rfl rfl rfl (by rw [lb]; omega) rfl ?_
    rw [Int.toNat_natCast, bR_at (show k < b.length by omega)]
    repeat (first | refine yR ?_ | refine yK ?_ | refine yM ?_ | refine yB ?_ | refine yA ?_ | refine yS ?_ | refine yL ?_)
    rw [pU_ne]
    refine qF ?_
    cases hx : (a[k] == b[k]) with
    | true =>
      (repeat refine qb ?_); refine qh rfl (fun hz => ?_) (fun hz => ?_)
      · cases hz
      refine qu ?_
      (repeat refine qb ?_); refine qa ?_
      repeat (first | refine zR ?_ | refine zK ?_ | refine zM ?_ | refine zB ?_ | refine zA ?_ | refine zS ?_ | refine zL ?_)
      refine qc ?_
      refine ⟨_, _, ?_, qy [0, 1, 5] [] rfl rfl, k + 1, _, hlt, rfl, wrap_succ hlt (by omega), ?_, rfl⟩
      · omega
      · rw [List.take_succ_eq_append_getElem hlt, List.take_succ_eq_append_getElem (show k < b.length by omega), he, eq_of_beq hx]
    | false =>
      (repeat refine qb ?_); refine qh rfl (fun hz => ?_) (fun hz => ?_)
      rotate_left
      · cases hz
      (repeat refine qb ?_); refine qa ?_
      repeat (first | refine zR ?_ | refine zK ?_ | refine zM ?_ | refine zB ?_ | refine zA ?_ | refine zS ?_ | refine zL ?_)
      refine qc ?_
      (repeat refine qb ?_); refine qk ?_
      exact ⟨Or.inr rfl, _, _, [], Wk.refl _, rfl, by rw [decide_eq_false (fun e => by subst e; simp at hx)]; rfl, rfl, rfl⟩
  · rw [show decide ((k : Int) < (a.length : Int)) = false by simp; omega]
    (repeat refine qb ?_); refine qh rfl (fun hq => ?_) (fun hq => ?_)
    · cases hq
    refine sw_exit ?_
    (repeat refine qb ?_); refine qa ?_
    repeat (first | refine zR ?_ | refine zK ?_ | refine zM ?_ | refine zB ?_ | refine zA ?_ | refine zS ?_ | refine zL ?_)
    refine qc ?_
    (repeat refine qb ?_); refine qk ?_
    have hab : a = b := by
      rw [List.take_of_length_le (by omega), List.take_of_length_le (by omega)] at he
      exact he
    exact ⟨Or.inr rfl, _, _, [], Wk.refl _, rfl, by rw [decide_eq_true hab]; rfl, rfl, rfl⟩
end Go.Proofs.YtghjfficeglmoaaDoor
namespace Go.Proofs.YtghjfficeglmoaaDoor
set_option linter.unusedVariables false
set_option linter.unusedSimpArgs false
def stopB (r : Bs) : Prop := r = [] ∨ ∃ c b, r = c :: b ∧ blankB c = true
theorem zE {α : Type} (p : α → Bool) : ∀ (l r : List α), l.all p = true → (r = [] ∨ ∃ c b, r = c :: b ∧ p c = false) → (l ++ r).takeWhile p = l
  | [], r, _, h => by
    rcases h with rfl | ⟨c, b, rfl, hc⟩
    · rfl
    · simp [List.takeWhile_cons, hc]
  | x :: l, r, ha, h => by
    simp only [List.all_cons, Bool.and_eq_true] at ha
    rw [List.cons_append, List.takeWhile_cons, if_pos ha.1, zE p l r ha.2 h]
theorem stop_word {r : Bs} (h : stopB r) : r = [] ∨ ∃ c b, r = c :: b ∧ qL c = false := by
  rcases h with rfl | ⟨c, b, rfl, hc⟩
  · exact .inl rfl
  · exact .inr ⟨c, b, rfl, (blank_word hc).1⟩
theorem stop_dig {r : Bs} (h : stopB r) : r = [] ∨ ∃ c b, r = c :: b ∧ qx c = false := by
  rcases h with rfl | ⟨c, b, rfl, hc⟩
  · exact .inl rfl
  · exact .inr ⟨c, b, rfl, (blank_word hc).2⟩
theorem digU {n : Nat} (h : n < 10) : (UInt8.ofNat (48 + n)).toNat = 48 + n := by
  rw [UInt8.toNat_ofNat']; omega
theorem decV_snoc (l : Bs) (c : UInt8) : decV (l ++ [c]) = 10 * decV l + (c.toNat - 48) := by
  unfold decV; rw [List.foldl_append]; rfl
theorem decF_ok : ∀ (f u : Nat), u < 10 ^ f → 0 < f → (decF f u).all qx = true ∧ decV (decF f u) = u ∧ 1 ≤ (decF f u).length ∧ (1 < (decF f u).length → ((decF f u).head?.map (·.toNat)) ≠ some 48) ∧ (u ≠ 0 → ((decF f u).head?.map (·.toNat)) ≠ some 48)
  | f + 1, u, h, _ => by
    rw [decF]
    by_cases hu : u < 10
    · rw [show Nat.blt u 10 = true by simpa [Nat.blt, Nat.lt_iff_add_one_le] using hu, cond_true]
      have e := digU hu
      refine ⟨?_, ?_, by simp, by simp, fun h0 => ?_⟩
      · simp [qx, e]; omega
      · simp only [decV, List.foldl_cons, List.foldl_nil, e]; omega
      · simp only [List.head?_cons, Option.map_some, e]
        intro h1; simp only [Option.some.injEq] at h1; omega
    · rw [show Nat.blt u 10 = false by cases hb : Nat.blt u 10 with | false => rfl | true => exact absurd (by simpa [Nat.blt, Nat.lt_iff_add_one_le] using hb) hu, cond_false]
      have hf : 0 < f := by
        rcases Nat.eq_zero_or_pos f with h0 | h0
        · subst h0; simp at h; omega
        · exact h0
      obtain ⟨h1, h2, h3, h4, h5⟩ := decF_ok f (u / 10) (by rw [Nat.pow_succ] at h; omega) hf
      have e := digU (Nat.mod_lt u (show 0 < 10 by omega))
      have hhead : (decF f (u / 10) ++ [UInt8.ofNat (48 + u % 10)]).head? = (decF f (u / 10)).head? := by
        match hd : decF f (u / 10), h3 with
        | x :: r, _ => rfl
      refine ⟨?_, ?_, by simp, fun _ => ?_, fun _ => ?_⟩
      · rw [List.all_append, h1]
        simp [qx, e]; omega
      · rw [decV_snoc, h2, e]; omega
      · rw [hhead]; exact h5 (by omega)
      · rw [hhead]; exact h5 (by omega)
theorem magL_dec {u : Nat} (h : u < 10 ^ 20) {r : Bs} (hr : stopB r) : magL (decF 20 u ++ r) = some (u, (decF 20 u).length) := by
  obtain ⟨h1, h2, h3, h4, _⟩ := decF_ok 20 u h (by omega)
  unfold magL
  rw [zE qx _ _ h1 (stop_dig hr), if_neg, h2]
  rintro (h | ⟨ha, hb⟩)
  · omega
  · refine h4 ha ?_
    match hd : decF 20 u, h3 with
    | x :: l, _ => rw [hd] at hb; exact hb
theorem hexD_back {n : Nat} (h : n < 16) : hexB (hexD n) = some n := by
  have : n = 0 ∨ n = 1 ∨ n = 2 ∨ n = 3 ∨ n = 4 ∨ n = 5 ∨ n = 6 ∨ n = 7 ∨ n = 8 ∨ n = 9 ∨ n = 10 ∨ n = 11 ∨ n = 12 ∨ n = 13 ∨ n = 14 ∨ n = 15 := by omega
  rcases this with rfl | rfl | rfl | rfl | rfl | rfl | rfl | rfl | rfl | rfl | rfl | rfl | rfl | rfl | rfl | rfl <;> decide
theorem oddB_plain (c : UInt8) : plainB c = !oddB c.toNat := by
  unfold plainB oddB
  rw [Bool.eq_iff_iff]
  simp only [Bool.and_eq_true, decide_eq_true_eq, Bool.not_eq_true', Bool.or_eq_false_iff, decide_eq_false_iff_not]
  omega
theorem textL_back : ∀ (s r : Bs), textL (s.flatMap qB ++ 34 :: r) = some (s, (s.flatMap qB).length + 1)
  | [], r => by rw [List.flatMap_nil, List.nil_append, textL_cons, if_pos (by decide)]; rfl
  | c :: s, r => by
    rw [List.flatMap_cons]
    unfold qB
    cases ho : oddB c.toNat with
    | false =>
      have hp : plainB c = true := by rw [oddB_plain, ho]; rfl
      have h34 : ¬ c.toNat = 34 := by
        intro h; simp [oddB, h] at ho
      rw [if_neg (by simp), List.singleton_append, List.cons_append, textL_cons, if_neg h34, if_pos hp]
      have := textL_back s r
      unfold qB at this
      rw [this]
      simp
    | true =>
      have hlt := c.toNat_lt
      have h1 := hexD_back (show c.toNat / 16 < 16 by omega)
      have h2 := hexD_back (show c.toNat % 16 < 16 by omega)
      have hc : UInt8.ofNat (16 * (c.toNat / 16) + c.toNat % 16) = c := by
        rw [show 16 * (c.toNat / 16) + c.toNat % 16 = c.toNat by omega]; simp
      have hp : plainB c = false := by rw [oddB_plain, ho]; rfl
      rw [if_pos rfl]
      simp only [List.cons_append, List.nil_append]
      rw [textL_cons, if_neg (by decide), show plainB 92 = false from rfl, if_neg (by simp), if_pos (by decide)]
      simp only [oddT, h1, h2, hc, hp]
      have := textL_back s r
      unfold qB at this
      rw [if_neg (by simp), this]
      simp
def writeT (k n : Int) (s : Bs) : Bs :=
  if k = 2 then zb n else if k = 3 then 64 :: zb n else if k = 4 then 35 :: s else if k = 5 then 34 :: s.flatMap qB ++ [34] else s
def goodT (t : TokP) : Prop := ∀ r, stopB r → tokL (writeT t.kind t.n t.s ++ r) = some ⟨t.kind, t.n, t.s, (writeT t.kind t.n t.s).length⟩
theorem itoaF_nat (m : Nat) : zb (m : Int) = decF 20 m := rfl
theorem itoaF_neg {m : Nat} (h : m ≠ 0) : zb (-(m : Int)) = 45 :: decF 20 m := by
  obtain ⟨u, rfl⟩ : ∃ u, m = u + 1 := ⟨m - 1, by omega⟩
  have : -((u + 1 : Nat) : Int) = Int.negSucc u := by omega
  rw [this]; rfl
theorem dec_head {u : Nat} (h : u < 10 ^ 20) : ∃ c r, decF 20 u = c :: r ∧ qx c = true := by
  obtain ⟨h1, _, h3, _⟩ := decF_ok 20 u h (by omega)
  match hd : decF 20 u, h3 with
  | c :: r, _ =>
    rw [hd, List.all_cons, Bool.and_eq_true] at h1
    exact ⟨c, r, rfl, h1.1⟩
theorem dig_let {c : UInt8} (h : qx c = true) : qW c = false := by
  simp only [qx, Bool.and_eq_true, decide_eq_true_eq] at h
  simp only [qW, Bool.and_eq_false_iff, decide_eq_false_iff_not]
  omega
theorem good_int {m : Nat} (h : m < 9223372036854775808) (k : Nat) : goodT ⟨2, m, [], k⟩ := fun r hr => by
  have h20 : m < 10 ^ 20 := by omega
  obtain ⟨c, q, hd, hc⟩ := dec_head h20
  have hm := magL_dec h20 hr
  show tokL (zb (m : Int) ++ r) = _
  rw [itoaF_nat]
  rw [hd, List.cons_append] at hm ⊢
  rw [tokL, dig_let hc, if_neg (by simp), if_pos hc, hm]
  simp only [if_pos h]
  rw [← hd]; rfl
theorem good_neg {m : Nat} (h0 : m ≠ 0) (h : m ≤ 9223372036854775808) (k : Nat) : goodT ⟨2, -(m : Int), [], k⟩ := fun r hr => by
  have h20 : m < 10 ^ 20 := by omega
  have hm := magL_dec h20 hr
  show tokL (zb (-(m : Int)) ++ r) = some ⟨2, -(m : Int), [], (zb (-(m : Int))).length⟩
  rw [itoaF_neg h0, List.cons_append, tokL, show qW 45 = false from rfl, show qx 45 = false from rfl, if_neg (by simp), if_neg (by simp), if_pos (by decide), hm]
  simp only [if_pos (And.intro h0 h), List.length_cons]
theorem good_tick {m : Nat} (h : m ≤ 1099511627776) (k : Nat) : goodT ⟨3, m, [], k⟩ := fun r hr => by
  have h20 : m < 10 ^ 20 := by omega
  have hm := magL_dec h20 hr
  show tokL (64 :: zb (m : Int) ++ r) = some ⟨3, (m : Int), [], (64 :: zb (m : Int)).length⟩
  rw [itoaF_nat, List.cons_append, tokL, show qW 64 = false from rfl, show qx 64 = false from rfl, if_neg (by simp), if_neg (by simp), if_neg (by decide), if_pos (by decide), hm]
  simp only [if_pos h, List.length_cons]
theorem good_id {s : Bs} (h : nameL s = true) (k : Nat) : goodT ⟨4, 0, s, k⟩ := fun r hr => by
  have hall : s.all qL = true := by
    simp only [nameL, Bool.and_eq_true] at h
    exact h.1.2
  have hw : wordL (s ++ r) = s := zE qL s r hall (stop_word hr)
  show tokL (35 :: s ++ r) = some ⟨4, 0, s, (35 :: s).length⟩
  rw [List.cons_append, tokL, show qW 35 = false from rfl, show qx 35 = false from rfl, if_neg (by simp), if_neg (by simp), if_neg (by decide), if_neg (by decide), if_pos (by decide), hw, if_pos h]
  rfl
theorem good_text {s : Bs} (h : s.length ≤ 64) (k : Nat) : goodT ⟨5, 0, s, k⟩ := fun r hr => by
  have hm := textL_back s r
  show tokL (34 :: s.flatMap qB ++ [34] ++ r) = some ⟨5, 0, s, (34 :: s.flatMap qB ++ [34]).length⟩
  rw [List.cons_append, List.cons_append, List.append_assoc, List.singleton_append, tokL, show qW 34 = false from rfl, show qx 34 = false from rfl, if_neg (by simp), if_neg (by simp), if_neg (by decide), if_neg (by decide), if_neg (by decide), if_pos (by decide), hm]
  simp only [if_pos h]
  simp
theorem good_len {t : TokP} (h : goodT t) : 1 ≤ (writeT t.kind t.n t.s).length := by
  have := tokL_len (h [] (.inl rfl))
  exact this.1
theorem blank_tok {l : Bs} {t : TokP} {c : UInt8} {r : Bs} (hl : l = c :: r) (h : tokL l = some t) : blankB c = false := by
  subst hl
  cases hb : blankB c with
  | false => rfl
  | true =>
    exfalso
    simp only [blankB, Bool.or_eq_true, decide_eq_true_eq] at hb
    have e1 : qW c = false := by simp only [qW, Bool.and_eq_false_iff, decide_eq_false_iff_not]; omega
    have e2 : qx c = false := by simp only [qx, Bool.and_eq_false_iff, decide_eq_false_iff_not]; omega
    have e3 : markB c = false := by rcases hb with hb | hb <;> simp [markB, hb]
    rw [tokL, e1, e2, e3, if_neg (by simp), if_neg (by simp), if_neg (by omega), if_neg (by omega), if_neg (by omega), if_neg (by omega), if_neg (by simp)] at h
    cases h
end Go.Proofs.YtghjfficeglmoaaDoor
namespace Go.Proofs.YtghjfficeglmoaaDoor
set_option linter.unusedVariables false
set_option linter.unusedSimpArgs false
set_option maxRecDepth 100000
theorem lex_one {t : TokP} (h : goodT t) : lexL (writeT t.kind t.n t.s) = .ok [⟨t.kind, 0, t.n, t.s⟩, ⟨7, (writeT t.kind t.n t.s).length, 0, []⟩] := by
  have ht := h [] (.inl rfl)
  have hl := good_len h
  rw [List.append_nil] at ht
  generalize writeT t.kind t.n t.s = w at ht hl ⊢
  match w, hl with
  | c :: r, _ =>
    have hb := blank_tok (l := c :: r) rfl ht
    show lexF ((c :: r).length + 1) 0 (c :: r) = _
    rw [lexF, hb, if_neg (by simp), ht]
    simp only [List.drop_length, TokP.at_, Nat.zero_add]
    rfl
end Go.Proofs.YtghjfficeglmoaaDoor
namespace Go.Proofs.YtghjfficeglmoaaDoor
set_option linter.unusedVariables false
set_option linter.unusedSimpArgs false
theorem app_l (a b : Bs) : (⟨⟨a⟩⟩ : ByteArray) ++ ⟨⟨b⟩⟩ = ⟨⟨a ++ b⟩⟩ := by
  have h : ((⟨⟨a⟩⟩ : ByteArray) ++ ⟨⟨b⟩⟩).data.toList = a ++ b := by
    rw [ByteArray.data_append]; simp
  rw [← h]
end Go.Proofs.YtghjfficeglmoaaDoor
namespace Go.Proofs.YtghjfficeglmoaaDoor
set_option linter.unusedVariables false
set_option linter.unusedSimpArgs false
open Go.RowKit
set_option maxRecDepth 100000
theorem okC_word {b : Bool} {x : UInt8} (h : okC b x.toNat = true) : qL x = true := by
  unfold okC at h
  unfold qL qW qx
  cases b <;> simp only [Bool.or_eq_true, Bool.and_eq_true, decide_eq_true_eq, beq_iff_eq, Bool.not_true, Bool.not_false, Bool.false_eq_true, false_and, or_false, true_and] at h ⊢ <;> omega
theorem word_okC {x : UInt8} (h : qL x = true) : okC false x.toNat = true := by
  unfold qL qW qx at h
  unfold okC
  simp only [Bool.or_eq_true, Bool.and_eq_true, decide_eq_true_eq, beq_iff_eq, Bool.not_false, true_and] at h ⊢
  omega
theorem let_okC {x : UInt8} : okC true x.toNat = qW x := by
  unfold okC qW
  simp
theorem nameS_l : ∀ l : Bs, nameS ⟨⟨l⟩⟩ = nameL l
  | [] => by
    have e : decide (0 < (⟨⟨[]⟩⟩ : ByteArray).size) = false := rfl
    unfold nameS nameL
    rw [e]
    simp
  | c :: r => by
    rw [Bool.eq_iff_iff]
    unfold nameS nameL
    simp only [Bool.and_eq_true, decide_eq_true_eq]
    have ls : (⟨⟨c :: r⟩⟩ : ByteArray).size = r.length + 1 := rfl
    have get : ∀ (i : Nat) (h : i < (⟨⟨c :: r⟩⟩ : ByteArray).size), (⟨⟨c :: r⟩⟩ : ByteArray)[i] = (c :: r)[i]'h := fun i h => rfl
    constructor
    · rintro ⟨⟨h, _⟩, h3⟩
      refine ⟨⟨?_, ?_⟩, h3⟩
      · have := h 0 (by rw [ls]; omega)
        rw [get] at this
        rw [← let_okC]; exact this
      · rw [List.all_eq_true]
        intro x hx
        obtain ⟨i, hi, rfl⟩ := List.getElem_of_mem hx
        have := h i hi
        rw [get] at this
        exact okC_word this
    · rintro ⟨⟨h1, h2⟩, h3⟩
      refine ⟨⟨fun i hi => ?_, by rw [ls]; omega⟩, h3⟩
      rw [get]
      cases i with
      | zero => rw [← let_okC] at h1; exact h1
      | succ i => exact word_okC (List.all_eq_true.1 h2 _ (List.getElem_mem _))
def trueL : Bs := [116, 114, 117, 101]
def falseL : Bs := [102, 97, 108, 115, 101]
theorem flat_le : ∀ s : Bs, (s.flatMap qB).length ≤ 3 * s.length
  | [] => Nat.le_refl _
  | c :: s => by
    have ih := flat_le s
    have h1 : (qB c).length ≤ 3 := by unfold qB; split <;> simp
    rw [List.flatMap_cons, List.length_append, List.length_cons]; omega
theorem valTok (k n : Int) (sl : Bs) (hn : R64 n) (hr : Val.right ⟨k, n, ⟨⟨sl⟩⟩⟩ = true) : ∃ (tk tn : Int) (ts w : Bs), textS ⟨k, n, ⟨⟨sl⟩⟩⟩ = ⟨⟨w⟩⟩ ∧ w.length ≤ 300 ∧ lexL w = .ok [⟨tk, 0, tn, ts⟩, ⟨7, w.length, 0, []⟩] ∧
    ((k = 1 ∧ n = 1 ∧ tk = 1 ∧ ts = trueL) ∨ (k = 1 ∧ n = 0 ∧ tk = 1 ∧ ts = falseL) ∨ (k = 2 ∧ tk = 2 ∧ tn = n) ∨ (k = 4 ∧ tk = 3 ∧ tn = n) ∨ (k = 5 ∧ tk = 4 ∧ ts = sl) ∨ (k = 3 ∧ tk = 5 ∧ ts = sl)) := by
  have hs : (⟨⟨sl⟩⟩ : ByteArray).size = sl.length := rfl
  have hT : textS ⟨k, n, ⟨⟨sl⟩⟩⟩ = if k = 1 then (if n = 1 then ⟨#[116, 114, 117, 101]⟩ else ⟨#[102, 97, 108, 115, 101]⟩) else if k = 4 then ⟨#[64]⟩ ++ ⟨⟨zb n⟩⟩ else if k = 5 then ⟨#[35]⟩ ++ ⟨⟨sl⟩⟩ else if k = 3 then quoteB ⟨⟨sl⟩⟩ else ⟨⟨zb n⟩⟩ := by
    unfold textS
    rw [hr]; rfl
  have hi := itoaF_len n
  have hint : lexL (zb n) = .ok [⟨2, 0, n, []⟩, ⟨7, (zb n).length, 0, []⟩] := by
    by_cases h0 : 0 ≤ n
    · obtain ⟨m, rfl⟩ : ∃ m : Nat, n = m := ⟨n.toNat, by omega⟩
      exact lex_one (good_int (by have := hn.2; omega) 0)
    · obtain ⟨m, rfl⟩ : ∃ m : Nat, n = -(m : Int) := ⟨(-n).toNat, by omega⟩
      exact lex_one (good_neg (by omega) (by have := hn.1; omega) 0)
  rw [hT]
  unfold Val.right at hr
  simp only at hr
  split at hr
  · rename_i h1
    simp only [Bool.and_eq_true, Bool.or_eq_true, decide_eq_true_eq] at hr
    rw [if_pos h1]
    rcases hr.1 with h | h
    · rw [if_neg (by omega)]
      exact ⟨1, 0, falseL, falseL, rfl, by decide, rfl, .inr (.inl ⟨h1, h, rfl, rfl⟩)⟩
    · rw [if_pos h]
      exact ⟨1, 0, trueL, trueL, rfl, by decide, rfl, .inl ⟨h1, h, rfl, rfl⟩⟩
  · rename_i h1
    rw [if_neg h1]
    split at hr
    · rename_i h2
      rw [if_neg (by omega), if_neg (by omega), if_neg (by omega)]
      exact ⟨2, n, [], zb n, rfl, by omega, hint, .inr (.inr (.inl ⟨h2, rfl, rfl⟩))⟩
    · split at hr
      · rename_i h3
        simp only [Bool.and_eq_true, decide_eq_true_eq] at hr
        rw [hs] at hr
        rw [if_neg (by omega), if_neg (by omega), if_pos h3]
        have hf := flat_le sl
        refine ⟨5, 0, sl, writeT 5 0 sl, rfl, ?_, lex_one (good_text hr.2 0), .inr (.inr (.inr (.inr (.inr ⟨h3, rfl, rfl⟩))))⟩
        show (34 :: sl.flatMap qB ++ [34]).length ≤ 300
        simp only [List.length_append, List.length_cons, List.length_nil]; omega
      · split at hr
        · rename_i h4
          simp only [Bool.and_eq_true, decide_eq_true_eq] at hr
          obtain ⟨m, hm⟩ : ∃ m : Nat, n = m := ⟨n.toNat, by omega⟩
          rw [if_pos h4]
          refine ⟨3, n, [], writeT 3 n [], app_l [64] (zb n), ?_, ?_, .inr (.inr (.inr (.inl ⟨h4, rfl, rfl⟩)))⟩
          · show (64 :: zb n).length ≤ 300
            simp only [List.length_cons]; omega
          · rw [hm]
            exact lex_one (good_tick (m := m) (by omega) 0)
        · split at hr
          · rename_i h5
            simp only [Bool.and_eq_true, decide_eq_true_eq] at hr
            rw [nameS_l] at hr
            have hl : sl.length ≤ 16 := by
              have := hr.2
              unfold nameL at this
              simp only [Bool.and_eq_true, decide_eq_true_eq] at this
              exact this.2
            rw [if_neg (by omega), if_pos h5]
            refine ⟨4, 0, sl, writeT 4 0 sl, app_l [35] sl, ?_, lex_one (good_id hr.2 0), .inr (.inr (.inr (.inr (.inl ⟨h5, rfl, rfl⟩))))⟩
            show (35 :: sl).length ≤ 300
            simp only [List.length_cons]; omega
          · cases hr
theorem rightV_rest {k n : Int} {sl : Bs} (h : Val.right ⟨k, n, ⟨⟨sl⟩⟩⟩ = true) : ((k = 1 ∨ k = 2 ∨ k = 4) → sl = []) ∧ ((k = 3 ∨ k = 5) → n = 0) := by
  have hs : (⟨⟨sl⟩⟩ : ByteArray).size = sl.length := rfl
  unfold Val.right at h
  simp only [hs] at h
  constructor
  · rintro (rfl | rfl | rfl)
    · simp at h; exact h.2
    · simp at h; exact h
    · simp at h; exact h.2
  · rintro (rfl | rfl)
    · simp at h; exact h.1
    · simp at h; exact h.1
theorem text_inj {a b : Val} (ha : a.right = true) (hb : b.right = true) (hna : R64 a.n) (hnb : R64 b.n) (h : textS a = textS b) : a = b := by
  obtain ⟨k, n, ⟨⟨s⟩⟩⟩ := a
  obtain ⟨k', n', ⟨⟨s'⟩⟩⟩ := b
  obtain ⟨tk, tn, ts, w, h1, _, h2, h3⟩ := valTok k n s hna ha
  obtain ⟨tk', tn', ts', w', h1', _, h2', h3'⟩ := valTok k' n' s' hnb hb
  obtain ⟨q1, q2⟩ := rightV_rest ha
  obtain ⟨q1', q2'⟩ := rightV_rest hb
  have hw : w = w' := by
    rw [h1, h1'] at h
    simpa using h
  subst hw
  rw [h2] at h2'
  simp only [Except.ok.injEq, List.cons.injEq, Tok.mk.injEq] at h2'
  obtain ⟨⟨e1, _, e2, e3⟩, _⟩ := h2'
  subst e1 e2 e3
  have e : k = k' ∧ n = n' ∧ s = s' := by
    rcases h3 with ⟨a1, a2, a3, a4⟩ | ⟨a1, a2, a3, a4⟩ | ⟨a1, a2, a3⟩ | ⟨a1, a2, a3⟩ | ⟨a1, a2, a3⟩ | ⟨a1, a2, a3⟩ <;>
    rcases h3' with ⟨b1, b2, b3, b4⟩ | ⟨b1, b2, b3, b4⟩ | ⟨b1, b2, b3⟩ | ⟨b1, b2, b3⟩ | ⟨b1, b2, b3⟩ | ⟨b1, b2, b3⟩ <;>
    first
      | (exfalso; omega)
      | (exfalso; rw [a4] at b4; revert b4; decide)
      | exact ⟨by omega, by omega, by rw [q1 (by omega), q1' (by omega)]⟩
      | exact ⟨by omega, by rw [q2 (by omega), q2' (by omega)], by rw [← a3, ← b3]⟩
  obtain ⟨rfl, rfl, rfl⟩ := e
  rfl
theorem text_ne {v : Val} (hn : R64 v.n) : decide (textS v = ⟨#[]⟩) = !v.right := by
  cases hr : v.right with
  | false => unfold textS; rw [hr]; rfl
  | true =>
    obtain ⟨k, n, ⟨⟨s⟩⟩⟩ := v
    obtain ⟨tk, tn, ts, w, h1, _, h2, _⟩ := valTok k n s hn hr
    rw [h1]
    refine decide_eq_false fun h => ?_
    simp only [ByteArray.mk.injEq] at h
    have : w = [] := by simpa using h
    subst this
    have : lexL [] = .ok [⟨7, 0, 0, []⟩] := rfl
    rw [this] at h2
    simp at h2
end Go.Proofs.YtghjfficeglmoaaDoor
namespace Go.Proofs.YtghjfficeglmoaaDoor
set_option linter.unusedVariables false
set_option linter.unusedSimpArgs false
open Go.RowKit
set_option maxHeartbeats 4000000
theorem toL_eq (a b : ByteArray) : (a.toList == b.toList) = decide (a = b) := by
  rw [Bool.eq_iff_iff]
  simp only [beq_iff_eq, decide_eq_true_eq]
  exact ⟨toList_inj, fun h => by rw [h]⟩
theorem fewV_size (v : Val) : (fewV v).s.size ≤ 80 := by
  show (v.s.extract 0 _).size ≤ 80
  rw [ByteArray.size_extract]
  split <;> omega
theorem putV_len (v : Val) (h : v.s.size ≤ 80) : (putV v).length ≤ 100 := by
  unfold putV
  have h1 := putN_len v.kind
  have h2 := putN_len (v.s.size : Int)
  have h3 := putN_len v.n
  have h4 : v.s.data.toList.length = v.s.size := rfl
  rw [List.length_append]
  split
  · rw [List.length_append]; omega
  · omega
theorem sameV_of {α : Type} [DecidableEq α] (f : Val → α) {x y : Val} (h : f x = f y → x = y) : decide (f x = f y) = sameV x y := by
  have hs : sameV x y = true ↔ x = y := by
    obtain ⟨a, b, c⟩ := x
    obtain ⟨a', b', c'⟩ := y
    unfold sameV
    simp [and_assoc]
  rw [Bool.eq_iff_iff, decide_eq_true_eq, hs]
  exact ⟨h, fun e => by rw [e]⟩
theorem valBack_h (a b : Val) (ha : a.Fit) (hb : b.Fit) : Holds Tryd.prog 5 [.agg a.pv, .agg b.pv] (.p (pB true)) [] := by
  have F1 := fewV_h a ha
  have F2 := fewV_h b hb
  have ha' := fewV_fit ha
  have hb' := fewV_fit hb
  have sa := fewV_size a
  have sb := fewV_size b
  generalize fewV a = x at *
  generalize fewV b = y at *
  have R1 := qR x ha'.s
  have R2 := qR y hb'.s
  have T1 := text_h x ha'
  have T2 := text_h y hb'
  have P1 := (vput_h [] (by simp) x ha' (by omega) ha'.kind).cv (args' := [.v (.slice none 0 0), .agg x.pv]) (.cons (.nil 1) (.cons (.refl _) .nil))
  have P2 := (vput_h [] (by simp) y hb' (by omega) hb'.kind).cv (args' := [.v (.slice none 0 0), .agg y.pv]) (.cons (.nil 1) (.cons (.refl _) .nil))
  rw [List.nil_append] at P1 P2
  have l1 := putV_len x sa
  have l2 := putV_len y sb
  have HR := read_h (putV x) (by omega)
  have HG := vget_h (putV x) (by omega) (0, false) (Nat.zero_le _)
  have HE := end_h (putV x) ((putV x).length, false) (by omega)
  have HS := sameB_h (putV x) (putV y) (by omega) (by omega)
  have eT := text_ne (v := x) ha'.n
  refine qw (ts := [4]) Tryd.func5 (by kernel_rfl) rfl rfl rfl ?_
  (repeat refine qb ?_); refine qa ?_
  repeat (first | refine zR ?_ | refine zK ?_ | refine zM ?_ | refine zB ?_ | refine zA ?_ | refine zS ?_ | refine zL ?_)
  refine qc ?_
  (repeat refine qb ?_); refine sw_region_fork 6 rfl (by kernel_rfl) ?_
  refine swb_rd (i := 0) (K := []) (by kernel_rfl) (by kernel_rfl) rfl rfl (rdO_opR ql rfl (by exact True.intro)) rfl ?_
  refine swb_rd (i := 2) (K := []) (by kernel_rfl) (by kernel_rfl) rfl rfl (rdO_opR ql rfl (by exact True.intro)) rfl ?_
  refine swb_fork1 1 (by kernel_rfl) ?_
  refine qH rfl rfl rfl (qd rfl rfl rfl rfl (F1) rfl rfl ?_)
  refine swb_fork1 3 (by kernel_rfl) ?_
  refine qH rfl rfl rfl (qd rfl rfl rfl rfl (F2) rfl rfl ?_)
  refine swb_fork1 4 (by kernel_rfl) ?_
  first | refine qH rfl rfl rfl (aM (h := ?_)) | refine qH rfl rfl rfl (aB (h := ?_)) | refine qH rfl rfl rfl (aA (h := ?_)) | refine qH rfl rfl rfl (aS (h := ?_)) | refine qH rfl rfl rfl (aL (h := ?_)) | refine qH rfl rfl rfl (actOk_rd (K := []) (rdO_opR ql rfl (by exact True.intro)) rfl ?_)
  refine swb_fork1 5 (by kernel_rfl) ?_
  first | refine qH rfl rfl rfl (aM (h := ?_)) | refine qH rfl rfl rfl (aB (h := ?_)) | refine qH rfl rfl rfl (aA (h := ?_)) | refine qH rfl rfl rfl (aS (h := ?_)) | refine qH rfl rfl rfl (aL (h := ?_)) | refine qH rfl rfl rfl (actOk_rd (K := []) (rdO_opR ql rfl (by exact True.intro)) rfl ?_)
  refine swb_done (by kernel_rfl) ?_
  refine SW.wk (qy [2, 3] [(2, 2), (3, 3)] rfl rfl) ?_
  refine ?fk1_65
  rotate_left
  change SW _ _ _ ⟨69, [(2, .ptr 2 0), (3, .ptr 3 0)], [(2, .cells (x.pv.map .p)), (3, .cells (y.pv.map .p))]⟩
  (repeat refine qb ?_)
  by_cases hxy : x.right = true ∧ y.right = true
  rotate_left
  · refine SW.mono (Q := fun e s => e = .normal ∧ Wk s ⟨69, [(2, .ptr 2 0), (3, .ptr 3 0), (18, .p (pB true))], [(2, .cells (x.pv.map .p)), (3, .cells (y.pv.map .p))]⟩) ?_ ?_
    · (repeat refine qb ?_); refine qa ?_
      repeat (first | refine zR ?_ | refine zK ?_ | refine zM ?_ | refine zB ?_ | refine zA ?_ | refine zS ?_ | refine zL ?_)
      refine qf rfl (qd rfl rfl rfl rfl (R1) rfl rfl ?_)
      repeat (first | refine zR ?_ | refine zK ?_ | refine zM ?_ | refine zB ?_ | refine zA ?_ | refine zS ?_ | refine zL ?_)
      cases hx : x.right with
      | false =>
        repeat (first | refine zR ?_ | refine zK ?_ | refine zM ?_ | refine zB ?_ | refine zA ?_ | refine zS ?_ | refine zL ?_)
        refine qc ?_
        exact ⟨rfl, qy [2, 3, 18] [(2, 2), (3, 3)] rfl rfl⟩
      | true =>
        repeat (first | refine zR ?_ | refine zK ?_ | refine zM ?_ | refine zB ?_ | refine zA ?_ | refine zS ?_ | refine zL ?_)
        refine qf rfl (qd rfl rfl rfl rfl (R2) rfl rfl ?_)
        repeat (first | refine zR ?_ | refine zK ?_ | refine zM ?_ | refine zB ?_ | refine zA ?_ | refine zS ?_ | refine zL ?_)
        rw [show y.right = false by simpa [hx] using hxy]
        repeat (first | refine zR ?_ | refine zK ?_ | refine zM ?_ | refine zB ?_ | refine zA ?_ | refine zS ?_ | refine zL ?_)
        refine qc ?_
        exact ⟨rfl, qy [2, 3, 18] [(2, 2), (3, 3)] rfl rfl⟩
    rintro e s ⟨rfl, hw⟩
    refine SW.wk hw ?_
    (repeat refine qb ?_); refine qh rfl (fun hc => ?_) (fun hc => ?_)
    rotate_left
    · cases hc
    (repeat refine qb ?_); refine qv [] [(0, true), (3, true), (1, false), (2, true), (4, false), (5, true), (6, true), (7, true), (8, false), (9, true), (10, true)] (by kernel_rfl) (by kernel_rfl) (by kernel_rfl) ?_
    repeat (first | refine yR ?_ | refine yK ?_ | refine yM ?_ | refine yB ?_ | refine yA ?_ | refine yS ?_ | refine yL ?_)
    refine qG rfl rfl rfl (qd rfl rfl rfl rfl (T1) rfl rfl ?_)
    repeat (first | refine yR ?_ | refine yK ?_ | refine yM ?_ | refine yB ?_ | refine yA ?_ | refine yS ?_ | refine yL ?_)
    rw [toL_eq, eT]
    repeat (first | refine yR ?_ | refine yK ?_ | refine yM ?_ | refine yB ?_ | refine yA ?_ | refine yS ?_ | refine yL ?_)
    refine qG rfl rfl rfl (qd rfl rfl rfl rfl (R1) rfl rfl ?_)
    repeat (first | refine yR ?_ | refine yK ?_ | refine yM ?_ | refine yB ?_ | refine yA ?_ | refine yS ?_ | refine yL ?_)
    cases x.right with
    | true =>
      repeat (first | refine yR ?_ | refine yK ?_ | refine yM ?_ | refine yB ?_ | refine yA ?_ | refine yS ?_ | refine yL ?_)
      refine qG rfl rfl rfl (qd rfl rfl rfl rfl (valRuns_h) rfl rfl ?_)
      repeat (first | refine yR ?_ | refine yK ?_ | refine yM ?_ | refine yB ?_ | refine yA ?_ | refine yS ?_ | refine yL ?_)
      repeat (first | refine yR ?_ | refine yK ?_ | refine yM ?_ | refine yB ?_ | refine yA ?_ | refine yS ?_ | refine yL ?_)
      refine qF ?_
      (repeat refine qb ?_); refine qk ?_
      exact fin_b rfl rfl
    | false =>
      repeat (first | refine yR ?_ | refine yK ?_ | refine yM ?_ | refine yB ?_ | refine yA ?_ | refine yS ?_ | refine yL ?_)
      refine qG rfl rfl rfl (qd rfl rfl rfl rfl (valRuns_h) rfl rfl ?_)
      repeat (first | refine yR ?_ | refine yK ?_ | refine yM ?_ | refine yB ?_ | refine yA ?_ | refine yS ?_ | refine yL ?_)
      repeat (first | refine yR ?_ | refine yK ?_ | refine yM ?_ | refine yB ?_ | refine yA ?_ | refine yS ?_ | refine yL ?_)
      refine qF ?_
      (repeat refine qb ?_); refine qk ?_
      exact fin_b rfl rfl
  obtain ⟨hx, hy⟩ := hxy
  have eG := getP_put hx ha'.n
  have eB := sameV_of putV (x := x) (y := y) (fun h => putV_inj hx hy ha'.n hb'.n h)
  have eX := sameV_of textS (x := x) (y := y) (fun h => text_inj hx hy ha'.n hb'.n h)
  rw [eG] at HG
  rw [eB] at HS
  rw [show (if ((putV x).length, false).1 < (putV x).length then (7 : Int) else if ((putV x).length, false).2 = true then 7 else 0) = 0 by simp] at HE
  rw [hx] at R1
  rw [hy] at R2
  (repeat refine qb ?_); refine qa ?_
  repeat (first | refine zR ?_ | refine zK ?_ | refine zM ?_ | refine zB ?_ | refine zA ?_ | refine zS ?_ | refine zL ?_)
  refine qf rfl (qd rfl rfl rfl rfl (R1) rfl rfl ?_)
  repeat (first | refine zR ?_ | refine zK ?_ | refine zM ?_ | refine zB ?_ | refine zA ?_ | refine zS ?_ | refine zL ?_)
  refine qf rfl (qd rfl rfl rfl rfl (R2) rfl rfl ?_)
  repeat (first | refine zR ?_ | refine zK ?_ | refine zM ?_ | refine zB ?_ | refine zA ?_ | refine zS ?_ | refine zL ?_)
  refine qc ?_
  (repeat refine qb ?_); refine qh rfl (fun hc => ?_) (fun hc => ?_)
  · cases hc
  refine qu ?_
  (repeat refine qb ?_); refine qa ?_
  repeat (first | refine zR ?_ | refine zK ?_ | refine zM ?_ | refine zB ?_ | refine zA ?_ | refine zS ?_ | refine zL ?_)
  refine qf rfl (qT rfl rfl rfl rfl (P1) rfl rfl rfl ?_)
  repeat (first | refine zR ?_ | refine zK ?_ | refine zM ?_ | refine zB ?_ | refine zA ?_ | refine zS ?_ | refine zL ?_)
  refine swt_wk (wk_frz (k := 31000) rfl) ?_
  refine qf rfl (qT rfl rfl rfl rfl (HR) rfl rfl rfl ?_)
  repeat (first | refine zR ?_ | refine zK ?_ | refine zM ?_ | refine zB ?_ | refine zA ?_ | refine zS ?_ | refine zL ?_)
  repeat (first | refine zR ?_ | refine zK ?_ | refine zM ?_ | refine zB ?_ | refine zA ?_ | refine zS ?_ | refine zL ?_)
  refine qc ?_
  (repeat refine qb ?_); refine qa ?_
  repeat (first | refine zR ?_ | refine zK ?_ | refine zM ?_ | refine zB ?_ | refine zA ?_ | refine zS ?_ | refine zL ?_)
  refine qf rfl (act_ptrcmp ql rfl rfl rfl rfl rfl ?_)
  refine qc ?_
  (repeat refine qb ?_); refine qh rfl (fun hc2 => ?_) (fun hc2 => ?_)
  · cases hc2
  refine qu ?_
  (repeat refine qb ?_); refine qa ?_
  repeat (first | refine zR ?_ | refine zK ?_ | refine zM ?_ | refine zB ?_ | refine zA ?_ | refine zS ?_ | refine zL ?_)
  refine qf rfl (qo [(32000, 1000000)] rfl rfl rfl rfl rfl rfl (HG) rfl rfl rfl ?_)
  repeat (first | refine zR ?_ | refine zK ?_ | refine zM ?_ | refine zB ?_ | refine zA ?_ | refine zS ?_ | refine zL ?_)
  repeat (first | refine zR ?_ | refine zK ?_ | refine zM ?_ | refine zB ?_ | refine zA ?_ | refine zS ?_ | refine zL ?_)
  refine qc ?_
  (repeat refine qb ?_); refine qv [32000, 47000, 49000] [(0, true), (1, false), (2, true), (3, true), (4, true), (5, true), (6, true), (7, true), (8, true), (9, true), (11, true), (14, true), (15, true), (16, true), (10, false), (12, false), (13, false), (17, true), (18, true), (19, true), (20, true), (22, true), (25, true), (26, true), (27, true), (21, false), (23, false), (24, true), (28, true), (29, true), (30, true), (31, false), (32, true), (33, true)] (by kernel_rfl) (by kernel_rfl) (by kernel_rfl) ?_
  repeat (first | refine yR ?_ | refine yK ?_ | refine yM ?_ | refine yB ?_ | refine yA ?_ | refine yS ?_ | refine yL ?_)
  refine qG rfl rfl rfl (qo [(32000, 1000000)] rfl rfl rfl rfl rfl rfl (HE) rfl rfl rfl ?_)
  repeat (first | refine yR ?_ | refine yK ?_ | refine yM ?_ | refine yB ?_ | refine yA ?_ | refine yS ?_ | refine yL ?_)
  refine qY ql rfl rfl (opR_eqV x x rfl rfl rfl rfl) rfl rfl ?_
  rw [show sameV x x = true by simp [sameV]]
  repeat (first | refine yR ?_ | refine yK ?_ | refine yM ?_ | refine yB ?_ | refine yA ?_ | refine yS ?_ | refine yL ?_)
  refine qY ql rfl rfl (opR_eqV x y rfl rfl rfl rfl) rfl rfl ?_
  repeat (first | refine yR ?_ | refine yK ?_ | refine yM ?_ | refine yB ?_ | refine yA ?_ | refine yS ?_ | refine yL ?_)
  refine qG rfl rfl rfl (qT rfl rfl rfl rfl (P1) rfl rfl rfl ?_)
  repeat (first | refine yR ?_ | refine yK ?_ | refine yM ?_ | refine yB ?_ | refine yA ?_ | refine yS ?_ | refine yL ?_)
  refine qG rfl rfl rfl (qT rfl rfl rfl rfl (P2) rfl rfl rfl ?_)
  repeat (first | refine yR ?_ | refine yK ?_ | refine yM ?_ | refine yB ?_ | refine yA ?_ | refine yS ?_ | refine yL ?_)
  refine qG rfl rfl rfl (qo [(47000, 1000000), (49000, 1000001)] rfl rfl rfl rfl rfl rfl (HS) rfl rfl rfl ?_)
  repeat (first | refine yR ?_ | refine yK ?_ | refine yM ?_ | refine yB ?_ | refine yA ?_ | refine yS ?_ | refine yL ?_)
  clear eB HS
  cases hq : sameV x y with
  | true =>
    repeat (first | refine yR ?_ | refine yK ?_ | refine yM ?_ | refine yB ?_ | refine yA ?_ | refine yS ?_ | refine yL ?_)
    refine qY ql rfl rfl (opR_eqV x y rfl rfl rfl rfl) rfl rfl ?_
    repeat (first | refine yR ?_ | refine yK ?_ | refine yM ?_ | refine yB ?_ | refine yA ?_ | refine yS ?_ | refine yL ?_)
    refine qG rfl rfl rfl (qd rfl rfl rfl rfl (T1) rfl rfl ?_)
    repeat (first | refine yR ?_ | refine yK ?_ | refine yM ?_ | refine yB ?_ | refine yA ?_ | refine yS ?_ | refine yL ?_)
    refine qG rfl rfl rfl (qd rfl rfl rfl rfl (T2) rfl rfl ?_)
    repeat (first | refine yR ?_ | refine yK ?_ | refine yM ?_ | refine yB ?_ | refine yA ?_ | refine yS ?_ | refine yL ?_)
    rw [toL_eq, eX, hq]
    repeat (first | refine yR ?_ | refine yK ?_ | refine yM ?_ | refine yB ?_ | refine yA ?_ | refine yS ?_ | refine yL ?_)
    refine qG rfl rfl rfl (qd rfl rfl rfl rfl (valRuns_h) rfl rfl ?_)
    repeat (first | refine yR ?_ | refine yK ?_ | refine yM ?_ | refine yB ?_ | refine yA ?_ | refine yS ?_ | refine yL ?_)
    repeat (first | refine yR ?_ | refine yK ?_ | refine yM ?_ | refine yB ?_ | refine yA ?_ | refine yS ?_ | refine yL ?_)
    refine qF ?_
    (repeat refine qb ?_); refine qk ?_
    exact fin_b rfl rfl
  | false =>
    repeat (first | refine yR ?_ | refine yK ?_ | refine yM ?_ | refine yB ?_ | refine yA ?_ | refine yS ?_ | refine yL ?_)
    refine qY ql rfl rfl (opR_eqV x y rfl rfl rfl rfl) rfl rfl ?_
    repeat (first | refine yR ?_ | refine yK ?_ | refine yM ?_ | refine yB ?_ | refine yA ?_ | refine yS ?_ | refine yL ?_)
    refine qG rfl rfl rfl (qd rfl rfl rfl rfl (T1) rfl rfl ?_)
    repeat (first | refine yR ?_ | refine yK ?_ | refine yM ?_ | refine yB ?_ | refine yA ?_ | refine yS ?_ | refine yL ?_)
    refine qG rfl rfl rfl (qd rfl rfl rfl rfl (T2) rfl rfl ?_)
    repeat (first | refine yR ?_ | refine yK ?_ | refine yM ?_ | refine yB ?_ | refine yA ?_ | refine yS ?_ | refine yL ?_)
    rw [toL_eq, eX, hq]
    repeat (first | refine yR ?_ | refine yK ?_ | refine yM ?_ | refine yB ?_ | refine yA ?_ | refine yS ?_ | refine yL ?_)
    refine qG rfl rfl rfl (qd rfl rfl rfl rfl (valRuns_h) rfl rfl ?_)
    repeat (first | refine yR ?_ | refine yK ?_ | refine yM ?_ | refine yB ?_ | refine yA ?_ | refine yS ?_ | refine yL ?_)
    repeat (first | refine yR ?_ | refine yK ?_ | refine yM ?_ | refine yB ?_ | refine yA ?_ | refine yS ?_ | refine yL ?_)
    refine qF ?_
    (repeat refine qb ?_); refine qk ?_
    exact fin_b rfl rfl
end Go.Proofs.YtghjfficeglmoaaDoor
namespace Go.Proofs.YtghjfficeglmoaaDoor
set_option linter.unusedVariables false
set_option linter.unusedSimpArgs false
open Go.RowKit
inductive RelsP (w : World) : List PV → List Value → Prop
  | nil : RelsP w [] []
  | cons {x : PV} {u : Value} {xs : List PV} {us : List Value} (h : RelP (fun _ => True) w x u) (r : RelsP w xs us) : RelsP w (x :: xs) (u :: us)
theorem RelsP.get {w : World} {xs : List PV} {us : List Value} (h : RelsP w xs us) : us.length = xs.length ∧ ∀ (i : Nat) (s : PV) (u : Value), xs[i]? = some s → us[i]? = some u → RelP (fun _ => True) w s u := by
  induction h with
  | nil => exact ⟨rfl, fun i s u h => by simp at h⟩
  | cons h r ih =>
    refine ⟨by simp [ih.1], fun i s u hs hu => ?_⟩
    cases i with
    | zero => simp at hs hu; subst hs; subst hu; exact h
    | succ i => exact ih.2 i s u (by simpa using hs) (by simpa using hu)
theorem law_callsG {P : Program} {f : FuncId} {args : List PV} {us : List Value} {W : World} (hg : GlOk (entry W) fun _ => False) (H : Holds P f args (.p (.v (.bool true))) []) (hr : RelsP W args us) : Calls P f us.toArray W fun e w' => e = .returned (.bool true) ∧ Below W.heap.size W w' := by
  obtain ⟨h1, h2⟩ := hr.get
  refine (H.2 W (fun _ => False) us ⟨fun _ h => h.elim, hg⟩ h1 fun i s u hs hu => (h2 i s u hs hu).weak fun _ _ _ => fun h => h).mono fun e w' ⟨v, γ, he, hb, _, hv⟩ => ?_
  have := hv.v_inv
  subst this
  exact ⟨he, hb⟩
theorem rel_agg {w : World} {cs : List Value} {x : List PV} (h : rPV (fun _ => True) w cs x) : RelP (fun _ => True) w (.agg x) (.agg cs.toArray) := .agg h.1 h.2
end Go.Proofs.YtghjfficeglmoaaDoor
namespace Go.Proofs.YtghjfficeglmoaaDoor
set_option linter.unusedSimpArgs false
open Go.ChangeShapes Go.WideShapes Go.ChangeAt Go.RowKit
set_option linter.unusedVariables false
theorem law_liftL {H : Type} {enc : TypeId × Value → H} {C : Checked} {os : Os} {f : FuncId} {fn : Func} {s : ChangeSpec} {bt : TypeId} {laid : List (String × DataW Unit)}
    (own : ownKnob C.prog.godebug = none) (started : os.Started) (noInit : C.prog.inits.idxOf? f = none) (hfn : C.prog.funcs[f]? = some fn)
    (witness : ∃ (w : World) (tape : Tape) (i : Input), w.os = os ∧ (w.forCall tape i).Shaped C.prog ∧ i.vars = [] ∧ Input.okWide C.prog (w.forCall tape i) .any w.heap.size f i ∧
      ((s.pre enc C.prog fn [] false (w.forCall tape i).memory i.args ∧ laidMetH C.prog laid (w.forCall tape i).memory) ∧ sizedMet enc C.prog fn (OpenSpec.ofChange s) false (w.forCall tape i).memory i.args) ∧ ({} : Assume).holds C.prog (lone (Frame.enter C.prog f i.args .normal) [] (w.forCall tape i)))
    (hl : laidOutB C.prog = true) (hts : ∀ t ∈ fn.params.toList, C.prog.readableRec t = true ∧ t < C.prog.types.size) (hvars : s.vars = []) (hvt : s.plain.varTypes C.prog = [])
    (hspec : ∀ (W : World) (args : Array Value) (ds : List (DataW H)) (ps : List MemPlace), DataW.TrodAll enc C.prog W 0 (fun _ => true) true fn.params.toList args.toList ds ps → s.fn H ds = { results := [.lit (.bool true)], args := ds })
    (hres : fn.resultTypes = #[bt]) (hbt : C.prog.underlying bt = some .bool)
    (walk : ∀ (W : World) (base : Nat) (args : Array Value) (ds : List (DataW H)) (ps : List MemPlace), laidMetH C.prog laid W →
      (∀ (j : Nat) t v, fn.params[j]? = some t → args[j]? = some v → Value.okWide C.prog W .any base t v) →
      DataW.TrodAll enc C.prog W 0 (fun _ => true) true fn.params.toList args.toList ds ps →
      (∀ n ∈ DataW.weightsEach C.prog fn.params.toList ds, n ≤ reachBytes) →
      Calls C.prog f args W fun e W' => e = .returned (.bool true) ∧ Below W.heap.size W W') :
    ReturnsInHanded {} C os f .any (fun w args => (s.pre enc C.prog fn [] false w args ∧ laidMetH C.prog laid w) ∧ sizedMet enc C.prog fn (OpenSpec.ofChange s) false w args) (s.post enc C.prog fn false true false false) := by
  refine returnsInHanded_of_change_and (X := fun w _ => laidMetH C.prog laid w) (fun _ _ _ hh h => h.of_heap hh) own started noInit hfn witness ?_
  intro W base args ds gs before hval hW _ hsz hL _
  have hlt : ∀ p ∈ before, p.block < W.heap.size := fun p hp => hW.lt p hp
  have hW0 := hW
  obtain ⟨p, q, hA, hV, rfl, hz, hn⟩ := hW0
  rw [hvars] at hV
  obtain ⟨rfl, rfl⟩ := trodVars_none hV
  have hsp := hspec W args ds p hA
  refine (walk W base args ds p hL hval hA ?_).mono fun e W' ⟨he, hb⟩ => ?_
  · intro n hn
    rw [hvt, List.append_nil, List.append_nil] at hsz
    exact of_decide_eq_true (List.all_eq_true.1 hsz n hn)
  · subst he
    refine ⟨_, rfl, ds, [], p ++ [], [], p, [], hW, ?_, ?_, ?_, World.keptBut_mono (fun x hx => ⟨hx, Or.inr (Or.inl (by simpa using hx))⟩) (hb.frame (· ∈ p ++ [])), fun h => by cases h⟩
    · rw [List.append_nil, hsp, hres]
      exact trodAll_mk1 (shut_bool hbt _)
    · rw [List.append_nil, hsp]
      exact trodAll_below hl hb hts (fun x hx => hlt x (by simpa using hx)) (fun x hx => by simpa using hlt x (by simpa using hx)) hA
    · rw [List.append_nil, hsp, hvars]
      rfl
theorem laidMet_tail {P : Program} {x : String × DataW Unit} {l : List (String × DataW Unit)} {W : World} (h : laidMet P (x :: l) W) : laidMet P l W := by
  obtain ⟨ps, ⟨g, t, cs, fuel, p, q, h1, h2, h3, h4, h5, h6⟩, hn, hb⟩ := h
  subst h6
  exact ⟨q, h5, (List.nodup_append.1 hn).2.1, fun b off hm => hb b off (List.mem_append_right _ hm)⟩
theorem block_of_tab {P : Program} {W : World} {name : String} {k : IntKind} {zs : List Int} {g : Nat} (h : Lib.TabIs P W name k zs) (hg : P.globalNamed name = some g) {us : List Value} (hu : us = zs.map fun z => Value.int k z) : g < W.heap.size ∧ ∃ ty m, W.heap[g]? = some (.cells us.toArray ty m) := by
  unfold Lib.TabIs World.var? at h
  rw [hg] at h
  simp only [Option.bind_some] at h
  split at h
  · rename_i cs ty m hb
    cases h
    exact ⟨(Array.getElem?_eq_some_iff.1 hb).1, ty, m, by rw [hb, hu]⟩
  · cases h
end Go.Proofs.YtghjfficeglmoaaDoor
namespace Go.Proofs.YtghjfficeglmoaaDoor
open Go.RowKit
theorem own_none : ownKnob Tryd.prog.godebug = none := by kernel_rfl
theorem gl_of_laid {rest : List (String × DataW Unit)} {W : World} (h : laidMet Tryd.prog (("math/bits.deBruijn32tab", Rows.laid_math_bits_deBruijn32tab) :: ("math/bits.deBruijn64tab", Rows.laid_math_bits_deBruijn64tab) :: ("internal/strconv.uint64pow10", Rows.laid_internal_strconv_uint64pow10) :: rest) W) : GlOk (entry W) fun _ => False := by
  have b0 := block_of_tab (g := 1) (us := [.int .u8 0, .int .u8 1, .int .u8 28, .int .u8 2, .int .u8 29, .int .u8 14, .int .u8 24, .int .u8 3, .int .u8 30, .int .u8 22, .int .u8 20, .int .u8 15, .int .u8 25, .int .u8 17, .int .u8 4, .int .u8 8, .int .u8 31, .int .u8 27, .int .u8 13, .int .u8 23, .int .u8 21, .int .u8 19, .int .u8 16, .int .u8 7, .int .u8 26, .int .u8 12, .int .u8 18, .int .u8 6, .int .u8 11, .int .u8 5, .int .u8 10, .int .u8 9]) (Lib.tabIs_of_head (k := .u8) (zs := [0, 1, 28, 2, 29, 14, 24, 3, 30, 22, 20, 15, 25, 17, 4, 8, 31, 27, 13, 23, 21, 19, 16, 7, 26, 12, 18, 6, 11, 5, 10, 9]) (g := 1) (t := 99) (e := 5) (n := 32) (by kernel_rfl) (by kernel_rfl) Tryd.underlying99 Tryd.underlying5 (by kernel_rfl) (by kernel_rfl) h) (by kernel_rfl) rfl
  have b1 := block_of_tab (g := 2) (us := [.int .u8 0, .int .u8 1, .int .u8 56, .int .u8 2, .int .u8 57, .int .u8 49, .int .u8 28, .int .u8 3, .int .u8 61, .int .u8 58, .int .u8 42, .int .u8 50, .int .u8 38, .int .u8 29, .int .u8 17, .int .u8 4, .int .u8 62, .int .u8 47, .int .u8 59, .int .u8 36, .int .u8 45, .int .u8 43, .int .u8 51, .int .u8 22, .int .u8 53, .int .u8 39, .int .u8 33, .int .u8 30, .int .u8 24, .int .u8 18, .int .u8 12, .int .u8 5, .int .u8 63, .int .u8 55, .int .u8 48, .int .u8 27, .int .u8 60, .int .u8 41, .int .u8 37, .int .u8 16, .int .u8 46, .int .u8 35, .int .u8 44, .int .u8 21, .int .u8 52, .int .u8 32, .int .u8 23, .int .u8 11, .int .u8 54, .int .u8 26, .int .u8 40, .int .u8 15, .int .u8 34, .int .u8 20, .int .u8 31, .int .u8 10, .int .u8 25, .int .u8 14, .int .u8 19, .int .u8 9, .int .u8 13, .int .u8 8, .int .u8 7, .int .u8 6]) (Lib.tabIs_of_head (k := .u8) (zs := [0, 1, 56, 2, 57, 49, 28, 3, 61, 58, 42, 50, 38, 29, 17, 4, 62, 47, 59, 36, 45, 43, 51, 22, 53, 39, 33, 30, 24, 18, 12, 5, 63, 55, 48, 27, 60, 41, 37, 16, 46, 35, 44, 21, 52, 32, 23, 11, 54, 26, 40, 15, 34, 20, 31, 10, 25, 14, 19, 9, 13, 8, 7, 6]) (g := 2) (t := 100) (e := 5) (n := 64) (by kernel_rfl) (by kernel_rfl) Tryd.underlying100 Tryd.underlying5 (by kernel_rfl) (by kernel_rfl) (laidMet_tail h)) (by kernel_rfl) rfl
  have b2 := block_of_tab (g := 0) (us := [.int .u64 1, .int .u64 10, .int .u64 100, .int .u64 1000, .int .u64 10000, .int .u64 100000, .int .u64 1000000, .int .u64 10000000, .int .u64 100000000, .int .u64 1000000000, .int .u64 10000000000, .int .u64 100000000000, .int .u64 1000000000000, .int .u64 10000000000000, .int .u64 100000000000000, .int .u64 1000000000000000, .int .u64 10000000000000000, .int .u64 100000000000000000, .int .u64 1000000000000000000, .int .u64 10000000000000000000]) (Lib.tabIs_of_head (k := .u64) (zs := [1, 10, 100, 1000, 10000, 100000, 1000000, 10000000, 100000000, 1000000000, 10000000000, 100000000000, 1000000000000, 10000000000000, 100000000000000, 1000000000000000, 10000000000000000, 100000000000000000, 1000000000000000000, 10000000000000000000]) (g := 0) (t := 94) (e := 69) (n := 20) (by kernel_rfl) (by kernel_rfl) Tryd.underlying94 Tryd.underlying69 (by kernel_rfl) (by kernel_rfl) (laidMet_tail (laidMet_tail h))) (by kernel_rfl) rfl
  refine ⟨?_, fun g hg => ?_⟩
  rotate_left
  · simp [ETab] at hg
  intro g us hg
  simp only [GTab, qj] at hg
  repeat' split at hg
  all_goals first | cases hg; done | skip
  all_goals (subst_vars; cases hg)
  all_goals first | exact ⟨b0.1, fun h => h, b0.2⟩ | exact ⟨b1.1, fun h => h, b1.2⟩ | exact ⟨b2.1, fun h => h, b2.2⟩
noncomputable def worldA (os : Os) : World :=
  let w0 := World.holding Tryd.prog os ⟨#[], #[], []⟩
  { w0 with heap := ((((((w0.heap).modify 1 fun | .cells _ t frozen => .cells #[.int .u8 0, .int .u8 1, .int .u8 28, .int .u8 2, .int .u8 29, .int .u8 14, .int .u8 24, .int .u8 3, .int .u8 30, .int .u8 22, .int .u8 20, .int .u8 15, .int .u8 25, .int .u8 17, .int .u8 4, .int .u8 8, .int .u8 31, .int .u8 27, .int .u8 13, .int .u8 23, .int .u8 21, .int .u8 19, .int .u8 16, .int .u8 7, .int .u8 26, .int .u8 12, .int .u8 18, .int .u8 6, .int .u8 11, .int .u8 5, .int .u8 10, .int .u8 9] t frozen | o => o)).modify 2 fun | .cells _ t frozen => .cells #[.int .u8 0, .int .u8 1, .int .u8 56, .int .u8 2, .int .u8 57, .int .u8 49, .int .u8 28, .int .u8 3, .int .u8 61, .int .u8 58, .int .u8 42, .int .u8 50, .int .u8 38, .int .u8 29, .int .u8 17, .int .u8 4, .int .u8 62, .int .u8 47, .int .u8 59, .int .u8 36, .int .u8 45, .int .u8 43, .int .u8 51, .int .u8 22, .int .u8 53, .int .u8 39, .int .u8 33, .int .u8 30, .int .u8 24, .int .u8 18, .int .u8 12, .int .u8 5, .int .u8 63, .int .u8 55, .int .u8 48, .int .u8 27, .int .u8 60, .int .u8 41, .int .u8 37, .int .u8 16, .int .u8 46, .int .u8 35, .int .u8 44, .int .u8 21, .int .u8 52, .int .u8 32, .int .u8 23, .int .u8 11, .int .u8 54, .int .u8 26, .int .u8 40, .int .u8 15, .int .u8 34, .int .u8 20, .int .u8 31, .int .u8 10, .int .u8 25, .int .u8 14, .int .u8 19, .int .u8 9, .int .u8 13, .int .u8 8, .int .u8 7, .int .u8 6] t frozen | o => o)).modify 0 fun | .cells _ t frozen => .cells #[.int .u64 1, .int .u64 10, .int .u64 100, .int .u64 1000, .int .u64 10000, .int .u64 100000, .int .u64 1000000, .int .u64 10000000, .int .u64 100000000, .int .u64 1000000000, .int .u64 10000000000, .int .u64 100000000000, .int .u64 1000000000000, .int .u64 10000000000000, .int .u64 100000000000000, .int .u64 1000000000000000, .int .u64 10000000000000000, .int .u64 100000000000000000, .int .u64 1000000000000000000, .int .u64 10000000000000000000] t frozen | o => o) }
theorem worldA_met (os : Os) (args : Array Value) : laidMet Tryd.prog [("math/bits.deBruijn32tab", Rows.laid_math_bits_deBruijn32tab), ("math/bits.deBruijn64tab", Rows.laid_math_bits_deBruijn64tab), ("internal/strconv.uint64pow10", Rows.laid_internal_strconv_uint64pow10)] ((worldA os).forCall (fun _ _ => 0) ⟨#[], args, []⟩).memory :=
  laidMet_of_run' 100 (by kernel_rfl) (by kernel_rfl)
end Go.Proofs.YtghjfficeglmoaaDoor
namespace Go.Proofs.YtghjfficeglmoaaDoor
set_option linter.unusedVariables false
set_option linter.unusedSimpArgs false
open Go.RowKit
theorem opens_tint : Opens Tryd.prog 3 1 rInt := opens_int Tryd.underlying3 (by kernel_rfl)
theorem opens_tstr : Opens Tryd.prog 9 1 rStr := opens_str Tryd.underlying9 (by kernel_rfl)
set_option maxRecDepth 100000 in
theorem opens_val : Opens Tryd.prog 23 3 rVal := by
  refine ⟨by kernel_rfl, fun H enc w fuel cs x h hw => ?_⟩
  obtain ⟨hlen, m, _, hf⟩ := struct_open Tryd.underlying23 h hw
  have hc : Tryd.prog.cellsOf 23 = 3 := by kernel_rfl
  rw [hc] at hlen
  match cs, hlen with
  | [c0, c1, c2], _ =>
    obtain ⟨k, hk⟩ := opens_tint.field (off := 0) (hf 0 _ rfl)
    obtain ⟨n, hn⟩ := opens_tint.field (off := 1) (hf 1 _ rfl)
    obtain ⟨s, hs⟩ := opens_tstr.field (off := 2) (hf 2 _ rfl)
    simp only [rInt, rStr, List.drop_succ_cons, List.drop_zero, List.take_succ_cons, List.take_zero, List.cons.injEq, and_true] at hk hn hs
    obtain ⟨rfl, hk⟩ := hk
    obtain ⟨rfl, hn⟩ := hn
    obtain ⟨rfl, hs⟩ := hs
    exact ⟨⟨k, n, s⟩, rfl, hk, hn, hs⟩
end Go.Proofs.YtghjfficeglmoaaDoor
namespace Go.Proofs.YtghjfficeglmoaaDoor
set_option linter.unusedVariables false
set_option linter.unusedSimpArgs false
open Go.RowKit
end Go.Proofs.YtghjfficeglmoaaDoor
