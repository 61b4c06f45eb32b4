/-
  What the statement leans on, part 3: ValRuns, ShMake, LexS, PackP, Bits, ByteH, PackV, PackH, ShStr, PackW, ValGet, RefV, RefGet, ValReads, DataB, LawKit0, LawL, Laid.
-/
import Derived.Laws.MakeOwn
import Derived.Laws.CopyRow
import Derived.Lib.AppendStr
import Derived.Test.YtghjfficeglmoaaDoorRows
import Derived.Lib.LaidTab
import Derived.Lib.LaidU8
import Derived.LaidLaws
import Derived.LaidHandle
import Derived.Stop.Joined
import Derived.ChangeSame
import Derived.ChangeVars
import Derived.JoinedOf
import Derived.RowKitTokens
import Derived.Test.YtghjfficeglmoaaDoorPk1
import Derived.Test.YtghjfficeglmoaaDoorPk2
namespace Go.Proofs.YtghjfficeglmoaaDoor
set_option linter.unusedVariables false
set_option linter.unusedSimpArgs false
open Go.RowKit
set_option maxHeartbeats 4000000
def numV3 (k n : Int) : Val := ⟨k, n, ⟨#[]⟩⟩
theorem of_h (k n : Int) : Holds Tryd.prog 44 [pI k, pI n] (.p (.agg (numV3 k n).pv)) [] := by
  refine .ofW ?_
  refine holdsC_of (T := TTab) ql Tryd.func44 (by kernel_rfl) rfl rfl rfl ?_
  (repeat refine qb ?_); refine qa ?_
  repeat (first | refine zR ?_ | refine zK ?_ | refine zM ?_ | refine zB ?_ | refine zA ?_ | refine zS ?_ | refine zL ?_)
  refine qc ?_
  (repeat refine qb ?_); refine qa ?_
  repeat (first | refine zR ?_ | refine zK ?_ | refine zM ?_ | refine zB ?_ | refine zA ?_ | refine zS ?_ | refine zL ?_)
  refine qc ?_
  (repeat refine qb ?_); refine qk ?_
  exact ⟨Or.inr rfl, _, _, [], _, Wk.refl _, rfl, rfl, .refl _, rfl, rfl⟩
theorem fitV (k n : Int) (s : ByteArray) (h1 : -100 ≤ k ∧ k ≤ 100) (h2 : -100 ≤ n ∧ n ≤ 100) (h3 : s.size ≤ 100) : (⟨k, n, s⟩ : Val).Fit := ⟨⟨by show _ ≤ k; omega, by show k ≤ _; omega⟩, ⟨by show _ ≤ n; omega, by show n ≤ _; omega⟩, by show s.size ≤ _; unfold reachBytes; omega⟩
theorem valRuns_h : Holds Tryd.prog 24 [] (.p (pB true)) [] := by
  have L1 := (less_h (numV3 2 2) (numV3 2 10) (by decide) (by decide)).res (r' := .tup [.p (pB true), .p (pI 0)]) (by rw [show lessS (numV3 2 2) (numV3 2 10) = (true, 0) by kernel_rfl])
  have L2 := (less_h ⟨3, 0, ⟨#[50]⟩⟩ ⟨3, 0, ⟨#[49, 48]⟩⟩ (by decide) (by decide)).res (r' := .tup [.p (pB false), .p (pI 0)]) (by rw [show lessS ⟨3, 0, ⟨#[50]⟩⟩ ⟨3, 0, ⟨#[49, 48]⟩⟩ = (false, 0) by kernel_rfl])
  have L3 := (less_h (numV3 2 2) (numV3 4 10) (by decide) (by decide)).res (r' := .tup [.p (pB false), .p (pI 2)]) (by rw [show lessS (numV3 2 2) (numV3 4 10) = (false, 2) by kernel_rfl])
  have T1 := (text_h (numV3 2 (-7)) (fitV _ _ _ (by omega) (by omega) (by decide))).res (r' := .p (pS ⟨#[45, 55]⟩)) (by rw [show textS (numV3 2 (-7)) = ⟨#[45, 55]⟩ by kernel_rfl])
  have T2 := (text_h (numV3 4 5) (fitV _ _ _ (by omega) (by omega) (by decide))).res (r' := .p (pS ⟨#[64, 53]⟩)) (by rw [show textS (numV3 4 5) = ⟨#[64, 53]⟩ by kernel_rfl])
  have T3 := (text_h ⟨5, 0, ⟨#[97, 110, 110]⟩⟩ (fitV _ _ _ (by omega) (by omega) (by decide))).res (r' := .p (pS ⟨#[35, 97, 110, 110]⟩)) (by rw [show textS ⟨5, 0, ⟨#[97, 110, 110]⟩⟩ = ⟨#[35, 97, 110, 110]⟩ by kernel_rfl])
  have T4 := (text_h ⟨3, 0, ⟨#[97, 34, 98]⟩⟩ (fitV _ _ _ (by omega) (by omega) (by decide))).res (r' := .p (pS ⟨#[34, 97, 92, 50, 50, 98, 34]⟩)) (by rw [show textS ⟨3, 0, ⟨#[97, 34, 98]⟩⟩ = ⟨#[34, 97, 92, 50, 50, 98, 34]⟩ by kernel_rfl])
  refine qw (ts := [0]) Tryd.func24 (by kernel_rfl) rfl rfl rfl ?_
  (repeat refine qb ?_); refine qa ?_
  repeat (first | refine zR ?_ | refine zK ?_ | refine zM ?_ | refine zB ?_ | refine zA ?_ | refine zS ?_ | refine zL ?_)
  refine qc ?_
  (repeat refine qb ?_); refine qa ?_
  repeat (first | refine zR ?_ | refine zK ?_ | refine zM ?_ | refine zB ?_ | refine zA ?_ | refine zS ?_ | refine zL ?_)
  refine qf rfl (qd rfl rfl rfl rfl (of_h 2 2) rfl rfl ?_)
  repeat (first | refine zR ?_ | refine zK ?_ | refine zM ?_ | refine zB ?_ | refine zA ?_ | refine zS ?_ | refine zL ?_)
  refine qf rfl (qd rfl rfl rfl rfl (of_h 2 10) rfl rfl ?_)
  repeat (first | refine zR ?_ | refine zK ?_ | refine zM ?_ | refine zB ?_ | refine zA ?_ | refine zS ?_ | refine zL ?_)
  refine qf rfl (qd rfl rfl rfl rfl (L1) rfl rfl ?_)
  repeat (first | refine zR ?_ | refine zK ?_ | refine zM ?_ | refine zB ?_ | refine zA ?_ | refine zS ?_ | refine zL ?_)
  refine qc ?_
  (repeat refine qb ?_); refine qa ?_
  repeat (first | refine zR ?_ | refine zK ?_ | refine zM ?_ | refine zB ?_ | refine zA ?_ | refine zS ?_ | refine zL ?_)
  refine qf rfl (qd rfl rfl rfl rfl (L2) rfl rfl ?_)
  repeat (first | refine zR ?_ | refine zK ?_ | refine zM ?_ | refine zB ?_ | refine zA ?_ | refine zS ?_ | refine zL ?_)
  refine qc ?_
  (repeat refine qb ?_); refine qa ?_
  repeat (first | refine zR ?_ | refine zK ?_ | refine zM ?_ | refine zB ?_ | refine zA ?_ | refine zS ?_ | refine zL ?_)
  refine qf rfl (qd rfl rfl rfl rfl (of_h 2 2) rfl rfl ?_)
  repeat (first | refine zR ?_ | refine zK ?_ | refine zM ?_ | refine zB ?_ | refine zA ?_ | refine zS ?_ | refine zL ?_)
  refine qf rfl (qd rfl rfl rfl rfl (of_h 4 10) rfl rfl ?_)
  repeat (first | refine zR ?_ | refine zK ?_ | refine zM ?_ | refine zB ?_ | refine zA ?_ | refine zS ?_ | refine zL ?_)
  refine qf rfl (qd rfl rfl rfl rfl (L3) rfl rfl ?_)
  repeat (first | refine zR ?_ | refine zK ?_ | refine zM ?_ | refine zB ?_ | refine zA ?_ | refine zS ?_ | refine zL ?_)
  refine qc ?_
  (repeat refine qb ?_); refine qa ?_
  repeat (first | refine zR ?_ | refine zK ?_ | refine zM ?_ | refine zB ?_ | refine zA ?_ | refine zS ?_ | refine zL ?_)
  refine qf rfl (qd rfl rfl rfl rfl (of_h 2 (-7)) rfl rfl ?_)
  repeat (first | refine zR ?_ | refine zK ?_ | refine zM ?_ | refine zB ?_ | refine zA ?_ | refine zS ?_ | refine zL ?_)
  refine qf rfl (qd rfl rfl rfl rfl (T1) rfl rfl ?_)
  repeat (first | refine zR ?_ | refine zK ?_ | refine zM ?_ | refine zB ?_ | refine zA ?_ | refine zS ?_ | refine zL ?_)
  rw [show ((⟨#[45, 55]⟩ : ByteArray).toList == (⟨#[45, 55]⟩ : ByteArray).toList) = true from beq_self_eq_true _]
  repeat (first | refine zR ?_ | refine zK ?_ | refine zM ?_ | refine zB ?_ | refine zA ?_ | refine zS ?_ | refine zL ?_)
  refine qf rfl (qd rfl rfl rfl rfl (of_h 4 5) rfl rfl ?_)
  repeat (first | refine zR ?_ | refine zK ?_ | refine zM ?_ | refine zB ?_ | refine zA ?_ | refine zS ?_ | refine zL ?_)
  refine qf rfl (qd rfl rfl rfl rfl (T2) rfl rfl ?_)
  repeat (first | refine zR ?_ | refine zK ?_ | refine zM ?_ | refine zB ?_ | refine zA ?_ | refine zS ?_ | refine zL ?_)
  rw [show ((⟨#[64, 53]⟩ : ByteArray).toList == (⟨#[64, 53]⟩ : ByteArray).toList) = true from beq_self_eq_true _]
  repeat (first | refine zR ?_ | refine zK ?_ | refine zM ?_ | refine zB ?_ | refine zA ?_ | refine zS ?_ | refine zL ?_)
  refine qf rfl (qd rfl rfl rfl rfl (T3) rfl rfl ?_)
  repeat (first | refine zR ?_ | refine zK ?_ | refine zM ?_ | refine zB ?_ | refine zA ?_ | refine zS ?_ | refine zL ?_)
  rw [show ((⟨#[35, 97, 110, 110]⟩ : ByteArray).toList == (⟨#[35, 97, 110, 110]⟩ : ByteArray).toList) = true from beq_self_eq_true _]
  repeat (first | refine zR ?_ | refine zK ?_ | refine zM ?_ | refine zB ?_ | refine zA ?_ | refine zS ?_ | refine zL ?_)
  refine qf rfl (qd rfl rfl rfl rfl (T4) rfl rfl ?_)
  repeat (first | refine zR ?_ | refine zK ?_ | refine zM ?_ | refine zB ?_ | refine zA ?_ | refine zS ?_ | refine zL ?_)
  rw [show ((⟨#[34, 97, 92, 50, 50, 98, 34]⟩ : ByteArray).toList == (⟨#[34, 97, 92, 50, 50, 98, 34]⟩ : ByteArray).toList) = true from beq_self_eq_true _]
  repeat (first | refine zR ?_ | refine zK ?_ | refine zM ?_ | refine zB ?_ | refine zA ?_ | refine zS ?_ | refine zL ?_)
  refine qc ?_
  (repeat refine qb ?_); refine qk ?_
  exact fin_b rfl rfl
end Go.Proofs.YtghjfficeglmoaaDoor
namespace Go.Proofs.YtghjfficeglmoaaDoor
set_option linter.unusedVariables false
set_option linter.unusedSimpArgs false
open Go.RowKit
section
variable {P : Program} {T : TT} (hT : qs P T) {st : St}
include hT
end
section
variable {P : Program} {T : TT} (hT : qs P T) {st : St}
include hT
end
end Go.Proofs.YtghjfficeglmoaaDoor
namespace Go.Proofs.YtghjfficeglmoaaDoor
set_option linter.unusedVariables false
set_option linter.unusedSimpArgs false
abbrev Bs := List UInt8
structure TokP where
  kind : Int
  n : Int
  s : Bs
  len : Nat
  deriving DecidableEq
structure Tok where
  kind : Int
  at_ : Nat
  n : Int
  s : Bs
  deriving DecidableEq
def TokP.at_ (t : TokP) (k : Nat) : Tok := ⟨t.kind, k, t.n, t.s⟩
def Tok.shift (d : Nat) (t : Tok) : Tok := ⟨t.kind, t.at_ + d, t.n, t.s⟩
end Go.Proofs.YtghjfficeglmoaaDoor
namespace Go.Proofs.YtghjfficeglmoaaDoor
set_option linter.unusedVariables false
set_option linter.unusedSimpArgs false
def zag (u : Nat) : Int := if u % 2 = 1 then -((u / 2 : Nat) : Int) - 1 else ((u / 2 : Nat) : Int)
def getU : Nat → Nat → Bs → Option (Nat × Nat)
  | 0, _, _ => none
  | _ + 1, _, [] => none
  | f + 1, i, c :: r =>
    if (i = 9 ∧ 1 < c.toNat) ∨ (0 < i ∧ c.toNat = 0) then none
    else if c.toNat < 128 then some (c.toNat, 1)
    else (getU f (i + 1) r).map fun p => (c.toNat - 128 + 128 * p.1, p.2 + 1)
def getN (l : Bs) : Option (Int × Nat) := (getU 10 0 l).map fun p => (zag p.1, p.2)
theorem getU_len : ∀ {f i : Nat} {l : Bs} {u k : Nat}, getU f i l = some (u, k) → 1 ≤ k ∧ k ≤ l.length
  | f + 1, i, c :: r, u, k, h => by
    rw [getU] at h
    split at h
    · cases h
    · split at h
      · cases h; simp
      · cases hr : getU f (i + 1) r with
        | none => rw [hr] at h; cases h
        | some p =>
          rw [hr] at h
          cases h
          have := getU_len (u := p.1) (k := p.2) hr
          simp; omega
theorem getU_lt : ∀ {f i : Nat} {l : Bs} {u k : Nat}, i + f = 10 → getU f i l = some (u, k) → u * 128 ^ i < 18446744073709551616
  | f + 1, i, c :: r, u, k, hi, h => by
    have hc := UInt8.toNat_lt c
    rw [getU] at h
    split at h
    · cases h
    · rename_i hn
      split at h
      · rename_i h7
        cases h
        by_cases h9 : i = 9
        · subst h9
          have : (128 : Nat) ^ 9 = 9223372036854775808 := by decide
          rw [this]
          omega
        · have h1 : (128 : Nat) ^ i ≤ 128 ^ 8 := Nat.pow_le_pow_right (by omega) (by omega)
          have h2 : (128 : Nat) ^ 8 = 72057594037927936 := by decide
          calc c.toNat * 128 ^ i ≤ 127 * 128 ^ 8 := Nat.mul_le_mul (by omega) h1
            _ < _ := by rw [h2]; decide
      · cases hr : getU f (i + 1) r with
        | none => rw [hr] at h; cases h
        | some p =>
          rw [hr] at h
          cases h
          have ih := getU_lt (u := p.1) (k := p.2) (by omega) hr
          have e : (c.toNat - 128 + 128 * p.1) * 128 ^ i = (c.toNat - 128) * 128 ^ i + p.1 * 128 ^ (i + 1) := by
            rw [Nat.add_mul, Nat.pow_succ, Nat.mul_comm (128 ^ i) 128, Nat.mul_comm 128 p.1, Nat.mul_assoc]
          rw [e]
          have h3 : (c.toNat - 128) * 128 ^ i < 128 ^ (i + 1) := by
            rw [Nat.pow_succ, Nat.mul_comm (128 ^ i) 128]
            exact Nat.mul_lt_mul_of_pos_right (by omega) (Nat.pow_pos (by omega))
          have hi8 : i + 1 ≤ 9 := by
            rcases Nat.eq_zero_or_pos f with hf | hf
            · subst hf; simp [getU] at hr
            · omega
          obtain ⟨d, hd⟩ : ∃ d, 18446744073709551616 = d * 128 ^ (i + 1) := by
            refine ⟨2 ^ (64 - 7 * (i + 1)), ?_⟩
            have h128 : (128 : Nat) = 2 ^ 7 := by decide
            rw [h128, ← Nat.pow_mul, ← Nat.pow_add, show 64 - 7 * (i + 1) + 7 * (i + 1) = 64 by omega]
          rw [hd] at ih ⊢
          have h4 : p.1 < d := Nat.lt_of_mul_lt_mul_right ih
          calc (c.toNat - 128) * 128 ^ i + p.1 * 128 ^ (i + 1) < 128 ^ (i + 1) + p.1 * 128 ^ (i + 1) := Nat.add_lt_add_right h3 _
            _ = (p.1 + 1) * 128 ^ (i + 1) := by rw [Nat.add_mul, Nat.one_mul, Nat.add_comm]
            _ ≤ d * 128 ^ (i + 1) := Nat.mul_le_mul_right _ h4
theorem zag_R64 {u : Nat} (h : u < 18446744073709551616) : R64 (zag u) := by
  unfold zag
  split <;> (constructor <;> omega)
theorem getN_R64 {l : Bs} {n : Int} {k : Nat} (h : getN l = some (n, k)) : R64 n := by
  unfold getN at h
  cases hu : getU 10 0 l with
  | none => rw [hu] at h; cases h
  | some p =>
    rw [hu] at h
    cases h
    have := getU_lt (u := p.1) (k := p.2) rfl hu
    exact zag_R64 (by omega)
end Go.Proofs.YtghjfficeglmoaaDoor
namespace Go.Proofs.YtghjfficeglmoaaDoor
set_option linter.unusedVariables false
set_option linter.unusedSimpArgs false
theorem ofNat64 (u : Nat) (h : u < 18446744073709551616) : (BitVec.ofInt IntKind.u64.bits (u : Int)).toNat = u := by
  show (BitVec.ofInt 64 (u : Int)).toNat = u
  rw [BitVec.toNat_ofInt]
  omega
theorem u64_nat {u : Nat} (h : u < 18446744073709551616) : IntKind.u64.wrap (u : Int) = (u : Int) := by
  simp [IntKind.wrap, IntKind.bits, IntKind.signed]; omega
theorem and1 {u : Nat} (h : u < 18446744073709551616) : IntKind.u64.wrap ((BitVec.ofInt IntKind.u64.bits (u : Int) &&& BitVec.ofInt IntKind.u64.bits 1).toNat : Int) = ((u % 2 : Nat) : Int) := by
  rw [BitVec.toNat_and, ofNat64 u h, show (BitVec.ofInt IntKind.u64.bits 1).toNat = 2 ^ 1 - 1 from by decide, Nat.and_two_pow_sub_one_eq_mod]
  exact u64_nat (by omega)
theorem or_shift {u x i : Nat} (hu : u < 2 ^ (7 * i)) (hx : u + x * 2 ^ (7 * i) < 18446744073709551616) (h2 : x * 2 ^ (7 * i) < 18446744073709551616) :
    IntKind.u64.wrap ((BitVec.ofInt IntKind.u64.bits (u : Int) ||| BitVec.ofInt IntKind.u64.bits ((x * 2 ^ (7 * i) : Nat) : Int)).toNat : Int) = ((u + x * 2 ^ (7 * i) : Nat) : Int) := by
  rw [BitVec.toNat_or, ofNat64 u (by omega), ofNat64 _ h2, Nat.or_comm, ← Nat.shiftLeft_eq, ← Nat.shiftLeft_add_eq_or_of_lt hu, Nat.shiftLeft_eq, Nat.add_comm]
  exact u64_nat hx
end Go.Proofs.YtghjfficeglmoaaDoor
namespace Go.Proofs.YtghjfficeglmoaaDoor
set_option linter.unusedVariables false
set_option linter.unusedSimpArgs false
open Go.RowKit
set_option maxHeartbeats 4000000
abbrev pU (c : UInt8) : PV := .v (.int .u8 (c.toNat : Int))
abbrev pL (l : Bs) : PV := pS ⟨⟨l⟩⟩
def bR (l : Bs) : List (List PV) := l.map fun c => [pU c]
def bP (l : Bs) : PV := .sl 1 (bR l)
theorem zg (l : Bs) : (bR l).length = l.length := by simp [bR]
theorem bR_drop (a : Bs) (n : Nat) : (bR a).drop n = bR (a.drop n) := by simp [bR]
theorem bR_take (a : Bs) (n : Nat) : (bR a).take n = bR (a.take n) := by simp [bR]
theorem bR_at {l : Bs} {k : Nat} (h : k < l.length) : (bR l).getD k [] = [pU l[k]] := getD_map h
theorem u8_in {n : Int} (h : 0 ≤ n ∧ n < 256) : IntKind.u8.wrap n = n := by
  simp [IntKind.wrap, IntKind.bits, IntKind.signed]; omega
theorem bytesOf_bR : ∀ b : Bs, zF (bR b) = some b
  | [] => rfl
  | c :: b => by
    have h : byteOf [pU c] = some c := by
      show some (UInt8.ofNat (c.toNat : Int).toNat) = some c
      rw [Int.toNat_natCast, UInt8.ofNat_toNat]
    show zF ([pU c] :: bR b) = _
    rw [zF, h, bytesOf_bR b]
section
variable {P : Program} {T : TT} (hT : qs P T) {st : St} {K : List Nat}
include hT
theorem rdO_textP {o : Oper} {sT dT e : TypeId} {x : Operand} {b : Bs} {s1 s2 d1 d2 e1 e2 : Nat} {s3 d3 e3 : List Value} {s4 d4 e4 : Bool} (ho : o.op = .convert sT dT x) (hx : evS st x = some (.p (.sl 1 (bR b))))
    (hs : lk sT T = some ⟨s1, s2, .sl e, s3, s4⟩) (hd : lk dT T = some ⟨d1, d2, .str, d3, d4⟩) (he : lk e T = some ⟨e1, e2, .int .u8, e3, e4⟩) : RdO P K st o (.p (pL b)) := by
  have hE : eConv T K st sT dT (evS st x) some = some (.p (pL b)) := by
    rw [hx]
    unfold eConv eText
    simp only [lkF_eq, hs, hd, he, bytesOf_bR, fList_eq]
  obtain ⟨s, h1, h2⟩ := eConv_ok hT ho hE
  cases h2
  exact h1
theorem act_ptrcmp {o : Oper} {t t' : TypeId} {x : Operand} (ho : o.op = .binOp .eql t x (.const (.pointer none)) t') {ti : TyI} (ht : lk t T = some ti) (hte : ti.d = .ptr) {j off : Nat} (hx : evS st x = some (.ptr j off)) (hd : qX st o.dst = true) {Q : St → Prop} (h : Q (st.put o.dst (.p (.v (.bool false))))) : ActOk P [] o st Q := by
  intro w0 Sx γ a w QQ hI
  have hv : ∃ A : Addr, a.eval x = .pointer (some A) := by
    have := qg hI hx
    generalize a.eval x = u at this ⊢
    cases this with
    | ptr h hb => exact ⟨_, rfl⟩
  obtain ⟨A, hv⟩ := hv
  have hyv : a.eval (.const (.pointer none)) = .pointer none := rfl
  have hrun : (execOp a.eval o).run P w = .ok (.value (.bool false)) w := by
    simp only [execOp, ho, hv, hyv]
    refine run_v ?_
    have hu := (hT t ti ht).und
    rw [hte] at hu
    obtain ⟨el, hu⟩ := hu
    have h1 : (eqGuard .eql t x (.const (.pointer none)) (.pointer (some A)) (.pointer none)).run P w = .ok () w := by simp [eqGuard]
    rw [Sem.run_bind, h1]
    simp only [Result.andThen_ok]
    have hq : ∀ d, (Op.equalIn (d + 1) t (.pointer (some A)) (.pointer none)).run P w = .ok false w := fun d => by simp [Op.equalIn, run_underlying hu]
    simp [binOp, Op.equal, Op.maxDepth, hq 9999]
  unfold Oper.wp
  rw [hrun, Oper.upon_value]
  exact ⟨γ, _, h, hI.put hd (.p (.v rfl)), ⟨Nat.le_refl _, fun _ _ _ => rfl⟩, fun K _ b _ hb => by rw [put_own]; exact hb⟩
end
theorem and127b {c : Nat} (h : c < 256) : IntKind.u8.wrap ((BitVec.ofInt IntKind.u8.bits (c : Int) &&& BitVec.ofInt IntKind.u8.bits 127).toNat : Int) = ((c % 128 : Nat) : Int) := by
  have e : (BitVec.ofInt 8 (c : Int)).toNat = c := by rw [BitVec.toNat_ofInt]; omega
  show IntKind.u8.wrap ((BitVec.ofInt 8 (c : Int) &&& BitVec.ofInt 8 127).toNat : Int) = _
  rw [BitVec.toNat_and, e, show (BitVec.ofInt 8 127).toNat = 2 ^ 7 - 1 from by decide, Nat.and_two_pow_sub_one_eq_mod]
  exact u8_in (by omega)
theorem not_i64 {u : Nat} (h : u < 9223372036854775808) : IntKind.i64.wrap ((BitVec.ofInt IntKind.i64.bits (-1) ^^^ BitVec.ofInt IntKind.i64.bits (u : Int)).toNat : Int) = -(u : Int) - 1 := by
  have e : (BitVec.ofInt 64 (-1) ^^^ BitVec.ofInt 64 (u : Int)).toNat = 18446744073709551615 - u := by
    have e1 : BitVec.ofInt 64 (-1) = BitVec.allOnes 64 := by decide
    rw [e1, BitVec.allOnes_xor, BitVec.toNat_not, show (BitVec.ofInt 64 (u : Int)).toNat = u from ofNat64 u (by omega)]
  show IntKind.i64.wrap ((BitVec.ofInt 64 (-1) ^^^ BitVec.ofInt 64 (u : Int)).toNat : Int) = _
  rw [e, IntKind.wrap_i64]
  omega
theorem shl_u64 {x k : Nat} (hk : k ≤ 63) (hx : x * 2 ^ k < 18446744073709551616) : IntKind.u64.wrap ((x : Int) * 2 ^ (min ((k : Int).toNat) IntKind.u64.bits)) = ((x * 2 ^ k : Nat) : Int) := by
  rw [Int.toNat_natCast, show min k IntKind.u64.bits = k from Nat.min_eq_left (show k ≤ 64 by omega), show (x : Int) * 2 ^ k = ((x * 2 ^ k : Nat) : Int) by rw [Int.natCast_mul, Int.natCast_pow]; rfl]
  exact u64_nat hx
theorem shr_1 (x : Nat) : (x : Int).fdiv (2 ^ (min (1 : Int).toNat IntKind.u64.bits)) = ((x / 2 : Nat) : Int) := by
  rw [show ((2 : Int) ^ (min (1 : Int).toNat IntKind.u64.bits)) = 2 from by decide, Int.fdiv_eq_ediv_of_nonneg _ (by omega)]
  omega
theorem not_i64s {u : Nat} (h : u < 9223372036854775808) : IntKind.i64.wrap ((BitVec.ofInt IntKind.i64.bits (if IntKind.i64.signed = true then -1 else IntKind.i64.max) ^^^ BitVec.ofInt IntKind.i64.bits (u : Int)).toNat : Int) = -(u : Int) - 1 := not_i64 h
theorem swm_rdO {P : Program} {ops : List Oper} {K : List Nat} {st : St} {Q : St → Prop} {i : Nat} {r : List (Nat × Bool)} {o : Oper} {s : SV} (hi : nthO ops i = some o) (hw : qP ops st o = some true) (hr : RdO P K st o s) (hd : qX st o.dst = true) (h : SWM P ops K r Q (st.put o.dst s)) : SWM P ops K ((i, true) :: r) Q st := fun w0 Sx γ a w QQ hI hQ => by
  have hrest := fun v (hv : RelS (okO Sx γ st.own) (hp γ st.own) w s v) => h w0 Sx γ _ w QQ (hI.put (dst := o.dst) hd hv) hQ
  simp only [put_own] at hrest
  obtain ⟨v, h1, h2⟩ := hr w0 Sx γ a w hI
  exact ⟨SameOn.refl _ _, o, v, (qC ops i).trans hi, Or.inl ⟨qJ hI hw, h2⟩, hrest v h1⟩
theorem swt_wk {P : Program} {ops l : List Oper} {Q : St → Prop} {st st' : St} (h : Wk st st') (h' : SWT P ops l Q st') : SWT P ops l Q st := fun w0 Sx γ a w QQ hI hQ => by
  obtain ⟨γ', hI'⟩ := h w0 Sx γ a w hI
  exact h' w0 Sx γ' a w QQ hI' hQ
theorem SWT.mono {P : Program} {ops l : List Oper} {Q Q' : St → Prop} {st : St} (h : SWT P ops l Q' st) (hm : ∀ s, Q' s → Q s) : SWT P ops l Q st := fun w0 Sx γ a w QQ hI hQ =>
  h w0 Sx γ a w QQ hI fun st' γ' a' w' hI' hq => hQ st' γ' a' w' hI' (hm st' hq)
end Go.Proofs.YtghjfficeglmoaaDoor
namespace Go.Proofs.YtghjfficeglmoaaDoor
set_option linter.unusedVariables false
set_option linter.unusedSimpArgs false
abbrev Rdr := Nat × Bool
def inP (l : Bs) (st : Rdr) (lo hi : Int) : Int × Rdr :=
  if st.2 then (0, st) else match getN (l.drop st.1) with
    | none => (0, st.1, true)
    | some (n, k) => if n < lo ∨ hi < n then (0, st.1, true) else (n, st.1 + k, false)
def textP (l : Bs) (st : Rdr) (most : Int) : Bs × Rdr :=
  if (inP l st 0 most).2.2 then ([], (inP l st 0 most).2)
  else if ((l.length - (inP l st 0 most).2.1 : Nat) : Int) < (inP l st 0 most).1 then ([], st.1, true)
  else ((l.drop (inP l st 0 most).2.1).take (inP l st 0 most).1.toNat, (inP l st 0 most).2.1 + (inP l st 0 most).1.toNat, false)
def lo64 : Int := -9223372036854775808
def hi64 : Int := 9223372036854775807
def noneV : Val := ⟨0, 0, ⟨⟨[]⟩⟩⟩
def qN (l : Bs) (st : Rdr) : Val × Rdr :=
  if (inP l st 1 5).1 = 3 ∨ (inP l st 1 5).1 = 5 then (⟨(inP l st 1 5).1, 0, ⟨⟨(textP l (inP l st 1 5).2 64).1⟩⟩⟩, (textP l (inP l st 1 5).2 64).2)
  else (⟨(inP l st 1 5).1, (inP l (inP l st 1 5).2 lo64 hi64).1, ⟨⟨[]⟩⟩⟩, (inP l (inP l st 1 5).2 lo64 hi64).2)
def getP (l : Bs) (st : Rdr) : Val × Rdr :=
  if (qN l st).2.2 then (noneV, (qN l st).2)
  else if (qN l st).1.right then qN l st
  else (noneV, st.1, true)
end Go.Proofs.YtghjfficeglmoaaDoor
namespace Go.Proofs.YtghjfficeglmoaaDoor
set_option linter.unusedVariables false
set_option linter.unusedSimpArgs false
open Go.RowKit
set_option maxHeartbeats 4000000
abbrev rdO (i : Nat) (l : Bs) (st : Rdr) : List (Nat × Box) := [(i, .cells [.p (bP l), .p (pI (st.1 : Int)), .p (pB st.2)])]
def numPk (r : Bs) : Int × Nat := match getN r with
  | some p => p
  | none => (0, 0)
theorem getU_step {i : Nat} {c : UInt8} {r : Bs} (hi : i < 10) (h1 : ¬ ((i = 9 ∧ 1 < c.toNat) ∨ (0 < i ∧ c.toNat = 0))) : getU (10 - i) i (c :: r) = if c.toNat < 128 then some (c.toNat, 1) else (getU (10 - (i + 1)) (i + 1) r).map fun p => (c.toNat - 128 + 128 * p.1, p.2 + 1) := by
  have e : 10 - i = (10 - (i + 1)) + 1 := by omega
  rw [e, getU, if_neg h1]
theorem getU_bad {i : Nat} {c : UInt8} {r : Bs} (hi : i < 10) (h1 : (i = 9 ∧ 1 < c.toNat) ∨ (0 < i ∧ c.toNat = 0)) : getU (10 - i) i (c :: r) = none := by
  have e : 10 - i = (10 - (i + 1)) + 1 := by omega
  rw [e, getU, if_pos h1]
theorem getU_nil {f i : Nat} : getU f i [] = none := by cases f <;> rfl
def onU (u i : Nat) (r : Bs) : Option (Nat × Nat) := (getU (10 - i) i r).map fun p => (u + p.1 * 2 ^ (7 * i), p.2 + i)
theorem onU_0 (r : Bs) : onU 0 0 r = getU 10 0 r := by
  unfold onU
  cases getU 10 0 r <;> simp
theorem onU_last {u i : Nat} {c : UInt8} {r : Bs} (hi : i < 10) (h1 : ¬ ((i = 9 ∧ 1 < c.toNat) ∨ (0 < i ∧ c.toNat = 0))) (h : c.toNat < 128) : onU u i (c :: r) = some (u + c.toNat * 2 ^ (7 * i), i + 1) := by
  unfold onU
  rw [getU_step hi h1, if_pos h]
  simp [Nat.add_comm]
theorem onU_more {u i : Nat} {c : UInt8} {r : Bs} (hi : i < 10) (h1 : ¬ ((i = 9 ∧ 1 < c.toNat) ∨ (0 < i ∧ c.toNat = 0))) (h : ¬ c.toNat < 128) : onU u i (c :: r) = onU (u + c.toNat % 128 * 2 ^ (7 * i)) (i + 1) r := by
  unfold onU
  rw [getU_step hi h1, if_neg h]
  have hc := UInt8.toNat_lt c
  cases getU (10 - (i + 1)) (i + 1) r with
  | none => rfl
  | some p =>
    simp only [Option.map_some, Option.some.injEq, Prod.mk.injEq]
    refine ⟨?_, by omega⟩
    have e : 2 ^ (7 * (i + 1)) = 128 * 2 ^ (7 * i) := by rw [show 7 * (i + 1) = 7 + 7 * i by omega, Nat.pow_add]
    rw [e, show c.toNat - 128 = c.toNat % 128 by omega, Nat.add_mul, Nat.mul_comm 128 p.1, Nat.mul_assoc, Nat.add_assoc]
theorem onU_bad {u i : Nat} {c : UInt8} {r : Bs} (hi : i < 10) (h1 : (i = 9 ∧ 1 < c.toNat) ∨ (0 < i ∧ c.toNat = 0)) : onU u i (c :: r) = none := by
  unfold onU
  rw [getU_bad hi h1]; rfl
theorem onU_nil {u i : Nat} : onU u i [] = none := by unfold onU; rw [getU_nil]; rfl
theorem onU_end {u i : Nat} {r : Bs} (h : 10 ≤ i) : onU u i r = none := by unfold onU; rw [show 10 - i = 0 by omega, getU]; rfl
theorem numPk_none {r : Bs} (h : getU 10 0 r = none) : numPk r = (0, 0) := by unfold numPk getN; rw [h]; rfl
theorem numPk_some {r : Bs} {u k : Nat} (h : getU 10 0 r = some (u, k)) : numPk r = (zag u, k) := by unfold numPk getN; rw [h]; rfl
theorem or_byte {u i c : Nat} (hu : u < 2 ^ (7 * i)) (hi : i < 10) (hc : c < 256) (h9 : i = 9 → c ≤ 1) :
    u + c % 128 * 2 ^ (7 * i) < 18446744073709551616 ∧ (i < 9 → u + c % 128 * 2 ^ (7 * i) < 2 ^ (7 * (i + 1))) := by
  have e : 2 ^ (7 * (i + 1)) = 128 * 2 ^ (7 * i) := by rw [show 7 * (i + 1) = 7 + 7 * i by omega, Nat.pow_add]
  have h1 : i < 9 → u + c % 128 * 2 ^ (7 * i) < 2 ^ (7 * (i + 1)) := fun hi9 => by
    rw [e]
    have : c % 128 * 2 ^ (7 * i) ≤ 127 * 2 ^ (7 * i) := Nat.mul_le_mul_right _ (by omega)
    omega
  refine ⟨?_, h1⟩
  by_cases hi9 : i = 9
  · have := h9 hi9
    subst hi9
    have h2 : (2 : Nat) ^ (7 * 9) = 9223372036854775808 := by decide
    rw [h2] at hu ⊢
    omega
  · have h3 := h1 (by omega)
    have h4 : (2 : Nat) ^ (7 * (i + 1)) ≤ 2 ^ 63 := Nat.pow_le_pow_right (by omega) (by omega)
    have h5 : (2 : Nat) ^ 63 = 9223372036854775808 := by decide
    omega
theorem number_h (l : Bs) (hl : l.length ≤ 1000) (a : Nat) (ha : a ≤ l.length) (b : Bool) : zh Tryd.prog 61 [.ptr 1000000 0] (rdO 1000000 l (a, b)) (.tup [.p (pI (numPk (l.drop a)).1), .p (pI ((numPk (l.drop a)).2 : Int))]) (rdO 1000000 l (a, b)) := by
  have ll := zg l
  refine qz (ts := [2,3]) Tryd.func61 (by kernel_rfl) rfl rfl rfl ?_
  (repeat refine qb ?_); refine qa ?_
  repeat (first | refine zR ?_ | refine zK ?_ | refine zM ?_ | refine zB ?_ | refine zA ?_ | refine zS ?_ | refine zL ?_)
  refine qc ?_
  (repeat refine qb ?_); refine qa ?_
  repeat (first | refine zR ?_ | refine zK ?_ | refine zM ?_ | refine zB ?_ | refine zA ?_ | refine zS ?_ | refine zL ?_)
  refine qc ?_
  (repeat refine qb ?_); refine qa ?_
  repeat (first | refine zR ?_ | refine zK ?_ | refine zM ?_ | refine zB ?_ | refine zA ?_ | refine zS ?_ | refine zL ?_)
  refine qc ?_
  (repeat refine qb ?_); refine qS ?_
  refine SW.wk (qy [0, 4, 5] [(1000000, 1000000)] rfl rfl) ?_
  refine sw_loop (fun m s => ∃ (i u : Nat) (ii uu : Int), i ≤ 10 ∧ m = 10 - i ∧ ii = i ∧ uu = u ∧ (i < 10 → u < 2 ^ (7 * i)) ∧ onU u i (l.drop (a + i)) = getU 10 0 (l.drop a) ∧ s = ⟨74, [(0, .ptr 1000000 0), (4, .p (.v (.int .u64 uu))), (5, .p (pI ii))], rdO 1000000 l (a, b)⟩) 10 ⟨0, 0, 0, 0, by omega, rfl, rfl, rfl, fun _ => by omega, by rw [Nat.add_zero]; exact onU_0 _, rfl⟩ ?_
  rintro m s ⟨i, u, _, _, hi, rfl, rfl, rfl, hu, hO, rfl⟩
  (repeat refine qb ?_); refine qv [] [(0, true), (1, true), (2, true), (3, true), (4, true), (5, true), (6, true), (7, true), (8, true), (9, true), (10, true), (11, true), (12, true), (13, true), (14, true), (15, true)] (by kernel_rfl) (by kernel_rfl) (by kernel_rfl) ?_
  repeat (first | refine yR ?_ | refine yK ?_ | refine yM ?_ | refine yB ?_ | refine yA ?_ | refine yS ?_ | refine yL ?_)
  by_cases hi10 : i < 10
  rotate_left
  · rw [show decide ((i : Int) < 10) = false by simp; omega]
    repeat (first | refine yR ?_ | refine yK ?_ | refine yM ?_ | refine yB ?_ | refine yA ?_ | refine yS ?_ | refine yL ?_)
    refine qF ?_
    (repeat refine qb ?_); refine qh rfl (fun hc => ?_) (fun hc => ?_)
    · cases hc
    refine sw_exit ?_
    (repeat refine qb ?_); refine qa ?_
    repeat (first | refine zR ?_ | refine zK ?_ | refine zM ?_ | refine zB ?_ | refine zA ?_ | refine zS ?_ | refine zL ?_)
    refine qc ?_
    (repeat refine qb ?_); refine qk ?_
    rw [numPk_none (by rw [← hO]; exact onU_end (by omega))]
    exact ⟨Or.inr rfl, _, _, [(1000000, 1000000)], Wk.refl _, rfl, rfl, rfl, rfl⟩
  rw [show decide ((i : Int) < 10) = true by simp; omega]
  repeat (first | refine yR ?_ | refine yK ?_ | refine yM ?_ | refine yB ?_ | refine yA ?_ | refine yS ?_ | refine yL ?_)
  rw [ll, show IntKind.i64.wrap ((a : Int) + (i : Int)) = ((a + i : Nat) : Int) from IntWalk.i64_in _ (by omega)]
  by_cases hlt : a + i < l.length
  rotate_left
  · rw [show decide (((a + i : Nat) : Int) < (l.length : Int)) = false by simp; omega]
    repeat (first | refine yR ?_ | refine yK ?_ | refine yM ?_ | refine yB ?_ | refine yA ?_ | refine yS ?_ | refine yL ?_)
    refine qF ?_
    (repeat refine qb ?_); refine qh rfl (fun hc => ?_) (fun hc => ?_)
    · cases hc
    refine sw_exit ?_
    (repeat refine qb ?_); refine qa ?_
    repeat (first | refine zR ?_ | refine zK ?_ | refine zM ?_ | refine zB ?_ | refine zA ?_ | refine zS ?_ | refine zL ?_)
    refine qc ?_
    (repeat refine qb ?_); refine qk ?_
    rw [numPk_none (by rw [← hO, List.drop_of_length_le (by omega)]; exact onU_nil)]
    exact ⟨Or.inr rfl, _, _, [(1000000, 1000000)], Wk.refl _, rfl, rfl, rfl, rfl⟩
  rw [show decide (((a + i : Nat) : Int) < (l.length : Int)) = true by simp; omega]
  repeat (first | refine yR ?_ | refine yK ?_ | refine yM ?_ | refine yB ?_ | refine yA ?_ | refine yS ?_ | refine yL ?_)
  refine qF ?_
  (repeat refine qb ?_); refine qh rfl (fun hc => ?_) (fun hc => ?_)
  rotate_left
  · cases hc
  refine qu ?_
  obtain ⟨c, hcc⟩ : ∃ c, c = l[a + i] := ⟨_, rfl⟩
  have hdr : l.drop (a + i) = c :: l.drop (a + (i + 1)) := by rw [hcc]; exact List.drop_eq_getElem_cons hlt
  rw [hdr] at hO
  have hcl := UInt8.toNat_lt c
  (repeat refine qb ?_); refine qS ?_
  (repeat refine qb ?_); refine qv [] [(0, true), (1, true), (2, true), (3, true), (4, true), (5, true), (6, true), (7, true), (8, true), (9, true), (10, true), (11, true), (12, true)] (by kernel_rfl) (by kernel_rfl) (by kernel_rfl) ?_
  repeat (first | refine yR ?_ | refine yK ?_ | refine yM ?_ | refine yB ?_ | refine yA ?_ | refine yS ?_ | refine yL ?_)
  rw [show IntKind.i64.wrap ((a : Int) + (i : Int)) = ((a + i : Nat) : Int) from IntWalk.i64_in _ (by omega)]
  refine qY ql rfl rfl rfl (by rw [ll]; omega) rfl ?_
  rw [Int.toNat_natCast, bR_at hlt, ← hcc]
  repeat (first | refine yR ?_ | refine yK ?_ | refine yM ?_ | refine yB ?_ | refine yA ?_ | refine yS ?_ | refine yL ?_)
  refine qF ?_
  refine SW.wk (qy [0, 4, 5, 6] [(1000000, 1000000)] rfl rfl) ?_
  (repeat refine qb ?_); refine qa ?_
  refine SWT.mono (Q' := fun st => Wk st ⟨74, [(0, .ptr 1000000 0), (4, .p (.v (.int .u64 (u : Int)))), (5, .p (pI (i : Int))), (6, .p (pU c)), (51, .p (pB (decide ((i = 9 ∧ 1 < c.toNat) ∨ (0 < i ∧ c.toNat = 0)))))], rdO 1000000 l (a, b)⟩) ?_ fun st hst => SW.wk hst ?_
  · repeat (first | refine zR ?_ | refine zK ?_)
    have bd : ∀ x : Bool, decide ((i = 9 ∧ 1 < c.toNat) ∨ (0 < i ∧ c.toNat = 0)) = x → x = decide ((i = 9 ∧ 1 < c.toNat) ∨ (0 < i ∧ c.toNat = 0)) := fun _ h => h.symm
    by_cases h9 : i = 9
    · rw [show ((i : Int) == 9) = true by simp [h9]]
      repeat (first | refine zR ?_ | refine zK ?_ | refine zM ?_ | refine zB ?_ | refine zA ?_ | refine zS ?_ | refine zL ?_)
      by_cases h1 : 1 < c.toNat
      · rw [show decide ((c.toNat : Int) > 1) = true by simp; omega]
        rw [show decide ((i = 9 ∧ 1 < c.toNat) ∨ (0 < i ∧ c.toNat = 0)) = true from decide_eq_true (by omega)]
        repeat (first | refine zR ?_ | refine zK ?_ | refine zM ?_ | refine zB ?_ | refine zA ?_ | refine zS ?_ | refine zL ?_)
        refine qc ?_
        exact qy [0, 4, 5, 6, 51] [(1000000, 1000000)] rfl rfl
      · rw [show decide ((c.toNat : Int) > 1) = false by simp; omega]
        repeat (first | refine zR ?_ | refine zK ?_ | refine zM ?_ | refine zB ?_ | refine zA ?_ | refine zS ?_ | refine zL ?_)
        rw [show decide ((i : Int) > 0) = true by simp; omega]
        repeat (first | refine zR ?_ | refine zK ?_ | refine zM ?_ | refine zB ?_ | refine zA ?_ | refine zS ?_ | refine zL ?_)
        by_cases hz : c.toNat = 0
        · rw [show ((c.toNat : Int) == 0) = true by simp [hz]]
          rw [show decide ((i = 9 ∧ 1 < c.toNat) ∨ (0 < i ∧ c.toNat = 0)) = true from decide_eq_true (by omega)]
          repeat (first | refine zR ?_ | refine zK ?_ | refine zM ?_ | refine zB ?_ | refine zA ?_ | refine zS ?_ | refine zL ?_)
          refine qc ?_
          exact qy [0, 4, 5, 6, 51] [(1000000, 1000000)] rfl rfl
        · rw [show ((c.toNat : Int) == 0) = false by simp; omega]
          rw [show decide ((i = 9 ∧ 1 < c.toNat) ∨ (0 < i ∧ c.toNat = 0)) = false from decide_eq_false (by omega)]
          repeat (first | refine zR ?_ | refine zK ?_ | refine zM ?_ | refine zB ?_ | refine zA ?_ | refine zS ?_ | refine zL ?_)
          refine qc ?_
          exact qy [0, 4, 5, 6, 51] [(1000000, 1000000)] rfl rfl
    · rw [show ((i : Int) == 9) = false by simp; omega]
      repeat (first | refine zR ?_ | refine zK ?_ | refine zM ?_ | refine zB ?_ | refine zA ?_ | refine zS ?_ | refine zL ?_)
      by_cases h0 : 0 < i
      · rw [show decide ((i : Int) > 0) = true by simp; omega]
        repeat (first | refine zR ?_ | refine zK ?_ | refine zM ?_ | refine zB ?_ | refine zA ?_ | refine zS ?_ | refine zL ?_)
        by_cases hz : c.toNat = 0
        · rw [show ((c.toNat : Int) == 0) = true by simp [hz]]
          rw [show decide ((i = 9 ∧ 1 < c.toNat) ∨ (0 < i ∧ c.toNat = 0)) = true from decide_eq_true (by omega)]
          repeat (first | refine zR ?_ | refine zK ?_ | refine zM ?_ | refine zB ?_ | refine zA ?_ | refine zS ?_ | refine zL ?_)
          refine qc ?_
          exact qy [0, 4, 5, 6, 51] [(1000000, 1000000)] rfl rfl
        · rw [show ((c.toNat : Int) == 0) = false by simp; omega]
          rw [show decide ((i = 9 ∧ 1 < c.toNat) ∨ (0 < i ∧ c.toNat = 0)) = false from decide_eq_false (by omega)]
          repeat (first | refine zR ?_ | refine zK ?_ | refine zM ?_ | refine zB ?_ | refine zA ?_ | refine zS ?_ | refine zL ?_)
          refine qc ?_
          exact qy [0, 4, 5, 6, 51] [(1000000, 1000000)] rfl rfl
      · rw [show decide ((i : Int) > 0) = false by simp; omega]
        rw [show decide ((i = 9 ∧ 1 < c.toNat) ∨ (0 < i ∧ c.toNat = 0)) = false from decide_eq_false (by omega)]
        repeat (first | refine zR ?_ | refine zK ?_ | refine zM ?_ | refine zB ?_ | refine zA ?_ | refine zS ?_ | refine zL ?_)
        refine qc ?_
        exact qy [0, 4, 5, 6, 51] [(1000000, 1000000)] rfl rfl
  (repeat refine qb ?_); refine qh rfl (fun hz => ?_) (fun hz => ?_)
  · have hz' := of_decide_eq_true hz
    (repeat refine qb ?_); refine qa ?_
    repeat (first | refine zR ?_ | refine zK ?_ | refine zM ?_ | refine zB ?_ | refine zA ?_ | refine zS ?_ | refine zL ?_)
    refine qc ?_
    (repeat refine qb ?_); refine qk ?_
    rw [numPk_none (by rw [← hO]; exact onU_bad hi10 hz')]
    exact ⟨Or.inr rfl, _, _, [(1000000, 1000000)], Wk.refl _, rfl, rfl, rfl, rfl⟩
  have hz' := of_decide_eq_false hz
  clear hz
  refine qu ?_
  obtain ⟨hU1, hU2⟩ := or_byte (hu hi10) hi10 hcl (fun e => by omega)
  have hS : c.toNat % 128 * 2 ^ (7 * i) < 18446744073709551616 := by omega
  (repeat refine qb ?_); refine qa ?_
  repeat (first | refine zR ?_ | refine zK ?_ | refine zM ?_ | refine zB ?_ | refine zA ?_ | refine zS ?_ | refine zL ?_)
  rw [and127b hcl, u64_nat (show c.toNat % 128 < 18446744073709551616 by omega), show IntKind.i64.wrap (7 * (i : Int)) = ((7 * i : Nat) : Int) from IntWalk.i64_in _ (by omega), u64_nat (show 7 * i < 18446744073709551616 by omega)]
  refine zk ql rfl rfl (by omega) rfl ?_
  rw [shl_u64 (by omega) hS]
  repeat (first | refine zR ?_ | refine zK ?_ | refine zM ?_ | refine zB ?_ | refine zA ?_ | refine zS ?_ | refine zL ?_)
  rw [or_shift (hu hi10) hU1 hS]
  repeat (first | refine zR ?_ | refine zK ?_ | refine zM ?_ | refine zB ?_ | refine zA ?_ | refine zS ?_ | refine zL ?_)
  refine qc ?_
  (repeat refine qb ?_); refine qa ?_
  repeat (first | refine zR ?_ | refine zK ?_ | refine zM ?_ | refine zB ?_ | refine zA ?_ | refine zS ?_ | refine zL ?_)
  refine qc ?_
  by_cases h7 : c.toNat < 128
  · rw [show decide ((c.toNat : Int) < 128) = true by simp; omega]
    have hO2 := hO
    rw [onU_last hi10 hz' h7] at hO2
    rw [Nat.mod_eq_of_lt h7]
    rw [Nat.mod_eq_of_lt h7] at hU1
    have hR := numPk_some hO2.symm
    (repeat refine qb ?_); refine qh rfl (fun hq => ?_) (fun hq => ?_)
    rotate_left
    · cases hq
    obtain ⟨x, hx⟩ : ∃ x, x = u + c.toNat * 2 ^ (7 * i) := ⟨_, rfl⟩
    rw [← hx] at hR hU1 ⊢
    (repeat refine qb ?_); refine qa ?_
    repeat (first | refine zR ?_ | refine zK ?_ | refine zM ?_ | refine zB ?_ | refine zA ?_ | refine zS ?_ | refine zL ?_)
    refine zk ql rfl rfl (by omega) rfl ?_
    rw [shr_1]
    repeat (first | refine zR ?_ | refine zK ?_ | refine zM ?_ | refine zB ?_ | refine zA ?_ | refine zS ?_ | refine zL ?_)
    rw [show IntKind.i64.wrap ((x / 2 : Nat) : Int) = ((x / 2 : Nat) : Int) from IntWalk.i64_in _ (by omega)]
    refine qc ?_
    (repeat refine qb ?_); refine qa ?_
    repeat (first | refine zR ?_ | refine zK ?_ | refine zM ?_ | refine zB ?_ | refine zA ?_ | refine zS ?_ | refine zL ?_)
    rw [and1 hU1]
    repeat (first | refine zR ?_ | refine zK ?_ | refine zM ?_ | refine zB ?_ | refine zA ?_ | refine zS ?_ | refine zL ?_)
    refine qc ?_
    rw [hR]
    by_cases hodd : x % 2 = 1
    · rw [show (((x % 2 : Nat) : Int) == 1) = true by simp [hodd]]
      rw [show zag x = -((x / 2 : Nat) : Int) - 1 by unfold zag; rw [if_pos hodd]]
      (repeat refine qb ?_); refine qh rfl (fun hw => ?_) (fun hw => ?_)
      rotate_left
      · cases hw
      (repeat refine qb ?_); refine qa ?_
      repeat (first | refine zR ?_ | refine zK ?_ | refine zM ?_ | refine zB ?_ | refine zA ?_ | refine zS ?_ | refine zL ?_)
      rw [not_i64s (show x / 2 < 9223372036854775808 by omega)]
      refine qc ?_
      (repeat refine qb ?_); refine qa ?_
      repeat (first | refine zR ?_ | refine zK ?_ | refine zM ?_ | refine zB ?_ | refine zA ?_ | refine zS ?_ | refine zL ?_)
      rw [wrap_succ (n := 10) hi10 (by omega)]
      repeat (first | refine zR ?_ | refine zK ?_ | refine zM ?_ | refine zB ?_ | refine zA ?_ | refine zS ?_ | refine zL ?_)
      refine qc ?_
      (repeat refine qb ?_); refine qk ?_
      exact ⟨Or.inr rfl, _, _, [(1000000, 1000000)], Wk.refl _, rfl, rfl, rfl, rfl⟩
    · rw [show (((x % 2 : Nat) : Int) == 1) = false by simp; omega]
      rw [show zag x = ((x / 2 : Nat) : Int) by unfold zag; rw [if_neg hodd]]
      (repeat refine qb ?_); refine qh rfl (fun hw => ?_) (fun hw => ?_)
      · cases hw
      refine qu ?_
      (repeat refine qb ?_); refine qa ?_
      repeat (first | refine zR ?_ | refine zK ?_ | refine zM ?_ | refine zB ?_ | refine zA ?_ | refine zS ?_ | refine zL ?_)
      rw [wrap_succ (n := 10) hi10 (by omega)]
      repeat (first | refine zR ?_ | refine zK ?_ | refine zM ?_ | refine zB ?_ | refine zA ?_ | refine zS ?_ | refine zL ?_)
      refine qc ?_
      (repeat refine qb ?_); refine qk ?_
      exact ⟨Or.inr rfl, _, _, [(1000000, 1000000)], Wk.refl _, rfl, rfl, rfl, rfl⟩
  · rw [show decide ((c.toNat : Int) < 128) = false by simp; omega]
    (repeat refine qb ?_); refine qh rfl (fun hq => ?_) (fun hq => ?_)
    · cases hq
    refine qu ?_
    (repeat refine qb ?_); refine qa ?_
    repeat (first | refine zR ?_ | refine zK ?_ | refine zM ?_ | refine zB ?_ | refine zA ?_ | refine zS ?_ | refine zL ?_)
    refine qc ?_
    refine ⟨_, _, ?_, qy [0, 4, 5] [(1000000, 1000000)] rfl rfl, i + 1, _, _, _, by omega, rfl, wrap_succ (n := 10) hi10 (by omega), rfl, fun hh => hU2 (by omega), by rw [← onU_more hi10 hz' h7]; exact hO, rfl⟩
    omega
theorem fail_h (l : Bs) (a : Nat) (b : Bool) (x : Nat) (hx : x ≤ a) : zh Tryd.prog 49 [.ptr 1000000 0, .p (pI (x : Int))] (rdO 1000000 l (a, b)) (.tup []) (rdO 1000000 l (if b then (a, b) else (x, true))) := by
  cases b with
  | true =>
    rw [if_pos rfl]
    refine qz (ts := []) Tryd.func49 (by kernel_rfl) rfl rfl rfl ?_
    (repeat refine qb ?_); refine qa ?_
    repeat (first | refine zR ?_ | refine zK ?_ | refine zM ?_ | refine zB ?_ | refine zA ?_ | refine zS ?_ | refine zL ?_)
    refine qc ?_
    (repeat refine qb ?_); refine qh rfl (fun hc => ?_) (fun hc => ?_)
    · cases hc
    refine qu ?_
    exact ⟨Or.inl rfl, _, _, [(1000000, 1000000)], Wk.refl _, rfl, rfl, rfl, rfl⟩
  | false =>
    rw [if_neg (by simp)]
    refine qz (ts := []) Tryd.func49 (by kernel_rfl) rfl rfl rfl ?_
    (repeat refine qb ?_); refine qa ?_
    repeat (first | refine zR ?_ | refine zK ?_ | refine zM ?_ | refine zB ?_ | refine zA ?_ | refine zS ?_ | refine zL ?_)
    rw [show decide ((x : Int) ≥ 0) = true by simp]
    repeat (first | refine zR ?_ | refine zK ?_ | refine zM ?_ | refine zB ?_ | refine zA ?_ | refine zS ?_ | refine zL ?_)
    rw [show decide ((x : Int) ≤ (a : Int)) = true by simp; omega]
    repeat (first | refine zR ?_ | refine zK ?_ | refine zM ?_ | refine zB ?_ | refine zA ?_ | refine zS ?_ | refine zL ?_)
    refine qc ?_
    (repeat refine qb ?_); refine qh rfl (fun hc => ?_) (fun hc => ?_)
    · (repeat refine qb ?_); refine qa ?_
      repeat (first | refine zR ?_ | refine zK ?_ | refine zM ?_ | refine zB ?_ | refine zA ?_ | refine zS ?_ | refine zL ?_)
      refine qc ?_
      exact ⟨Or.inl rfl, _, _, [(1000000, 1000000)], Wk.refl _, rfl, rfl, rfl, rfl⟩
    · cases hc
theorem numPk_len {r : Bs} {n : Int} {k : Nat} (h : getN r = some (n, k)) : 1 ≤ k ∧ k ≤ r.length := by
  unfold getN at h
  cases hu : getU 10 0 r with
  | none => rw [hu] at h; cases h
  | some p =>
    rw [hu] at h
    cases h
    exact getU_len (u := p.1) (k := p.2) hu
theorem inP_le {l : Bs} {st : Rdr} {lo hi : Int} (h : st.1 ≤ l.length) : (inP l st lo hi).2.1 ≤ l.length := by
  unfold inP
  split
  · exact h
  · split
    · exact h
    · rename_i n k hg
      have := numPk_len hg
      rw [List.length_drop] at this
      split
      · exact h
      · simp only; omega
theorem in_h (l : Bs) (hl : l.length ≤ 1000) (st : Rdr) (ha : st.1 ≤ l.length) (lo hi : Int) : zh Tryd.prog 46 [.ptr 1000000 0, .p (pI lo), .p (pI hi)] (rdO 1000000 l st) (.p (pI (inP l st lo hi).1)) (rdO 1000000 l (inP l st lo hi).2) := by
  obtain ⟨a, b⟩ := st
  cases b with
  | true =>
    rw [show inP l (a, true) lo hi = (0, a, true) from rfl]
    refine qz (ts := [6]) Tryd.func46 (by kernel_rfl) rfl rfl rfl ?_
    (repeat refine qb ?_); refine qa ?_
    repeat (first | refine zR ?_ | refine zK ?_ | refine zM ?_ | refine zB ?_ | refine zA ?_ | refine zS ?_ | refine zL ?_)
    refine qc ?_
    (repeat refine qb ?_); refine qa ?_
    repeat (first | refine zR ?_ | refine zK ?_ | refine zM ?_ | refine zB ?_ | refine zA ?_ | refine zS ?_ | refine zL ?_)
    refine qc ?_
    (repeat refine qb ?_); refine qh rfl (fun hc => ?_) (fun hc => ?_)
    · (repeat refine qb ?_); refine qa ?_
      repeat (first | refine zR ?_ | refine zK ?_ | refine zM ?_ | refine zB ?_ | refine zA ?_ | refine zS ?_ | refine zL ?_)
      refine qc ?_
      (repeat refine qb ?_); refine qk ?_
      exact ⟨Or.inr rfl, _, _, [(1000000, 1000000)], Wk.refl _, rfl, rfl, rfl, rfl⟩
    · cases hc
  | false =>
    have HN := number_h l hl a ha false
    have eI : inP l (a, false) lo hi = match getN (l.drop a) with
      | none => (0, a, true)
      | some (n, k) => if n < lo ∨ hi < n then (0, a, true) else (n, a + k, false) := rfl
    cases hg : getN (l.drop a) with
    | none =>
      rw [hg] at eI
      simp only at eI
      rw [eI]
      rw [show numPk (l.drop a) = (0, 0) by unfold numPk; rw [hg]] at HN
      refine qz (ts := [6]) Tryd.func46 (by kernel_rfl) rfl rfl rfl ?_
      (repeat refine qb ?_); refine qa ?_
      repeat (first | refine zR ?_ | refine zK ?_ | refine zM ?_ | refine zB ?_ | refine zA ?_ | refine zS ?_ | refine zL ?_)
      refine qc ?_
      (repeat refine qb ?_); refine qa ?_
      repeat (first | refine zR ?_ | refine zK ?_ | refine zM ?_ | refine zB ?_ | refine zA ?_ | refine zS ?_ | refine zL ?_)
      refine qc ?_
      (repeat refine qb ?_); refine qh rfl (fun hc => ?_) (fun hc => ?_)
      · cases hc
      refine qu ?_
      (repeat refine qb ?_); refine qa ?_
      repeat (first | refine zR ?_ | refine zK ?_ | refine zM ?_ | refine zB ?_ | refine zA ?_ | refine zS ?_ | refine zL ?_)
      refine qf rfl (qo [(1000000, 1000000)] rfl rfl rfl rfl rfl rfl (HN) rfl rfl rfl ?_)
      repeat (first | refine zR ?_ | refine zK ?_ | refine zM ?_ | refine zB ?_ | refine zA ?_ | refine zS ?_ | refine zL ?_)
      repeat (first | refine zR ?_ | refine zK ?_ | refine zM ?_ | refine zB ?_ | refine zA ?_ | refine zS ?_ | refine zL ?_)
      refine qc ?_
      (repeat refine qb ?_); refine qa ?_
      repeat (first | refine zR ?_ | refine zK ?_ | refine zM ?_ | refine zB ?_ | refine zA ?_ | refine zS ?_ | refine zL ?_)
      refine qc ?_
      (repeat refine qb ?_); refine qh rfl (fun hz => ?_) (fun hz => ?_)
      rotate_left
      · cases hz
      (repeat refine qb ?_); refine qa ?_
      repeat (first | refine zR ?_ | refine zK ?_ | refine zM ?_ | refine zB ?_ | refine zA ?_ | refine zS ?_ | refine zL ?_)
      refine qf rfl (qo [(1000000, 1000000)] rfl rfl rfl rfl rfl rfl (fail_h l a false a (Nat.le_refl _)) rfl rfl rfl ?_)
      repeat (first | refine zR ?_ | refine zK ?_ | refine zM ?_ | refine zB ?_ | refine zA ?_ | refine zS ?_ | refine zL ?_)
      refine qc ?_
      (repeat refine qb ?_); refine qa ?_
      repeat (first | refine zR ?_ | refine zK ?_ | refine zM ?_ | refine zB ?_ | refine zA ?_ | refine zS ?_ | refine zL ?_)
      refine qc ?_
      (repeat refine qb ?_); refine qk ?_
      exact ⟨Or.inr rfl, _, _, [(1000000, 1000000)], Wk.refl _, rfl, rfl, rfl, rfl⟩
    | some p =>
      obtain ⟨n, k⟩ := p
      have hk := numPk_len hg
      rw [List.length_drop] at hk
      rw [hg] at eI
      simp only at eI
      rw [eI]
      rw [show numPk (l.drop a) = (n, k) by unfold numPk; rw [hg]] at HN
      refine qz (ts := [6]) Tryd.func46 (by kernel_rfl) rfl rfl rfl ?_
      (repeat refine qb ?_); refine qa ?_
      repeat (first | refine zR ?_ | refine zK ?_ | refine zM ?_ | refine zB ?_ | refine zA ?_ | refine zS ?_ | refine zL ?_)
      refine qc ?_
      (repeat refine qb ?_); refine qa ?_
      repeat (first | refine zR ?_ | refine zK ?_ | refine zM ?_ | refine zB ?_ | refine zA ?_ | refine zS ?_ | refine zL ?_)
      refine qc ?_
      (repeat refine qb ?_); refine qh rfl (fun hc => ?_) (fun hc => ?_)
      · cases hc
      refine qu ?_
      (repeat refine qb ?_); refine qa ?_
      repeat (first | refine zR ?_ | refine zK ?_ | refine zM ?_ | refine zB ?_ | refine zA ?_ | refine zS ?_ | refine zL ?_)
      refine qf rfl (qo [(1000000, 1000000)] rfl rfl rfl rfl rfl rfl (HN) rfl rfl rfl ?_)
      repeat (first | refine zR ?_ | refine zK ?_ | refine zM ?_ | refine zB ?_ | refine zA ?_ | refine zS ?_ | refine zL ?_)
      repeat (first | refine zR ?_ | refine zK ?_ | refine zM ?_ | refine zB ?_ | refine zA ?_ | refine zS ?_ | refine zL ?_)
      refine qc ?_
      (repeat refine qb ?_); refine qa ?_
      repeat (first | refine zR ?_ | refine zK ?_ | refine zM ?_ | refine zB ?_ | refine zA ?_ | refine zS ?_ | refine zL ?_)
      rw [show ((k : Int) == 0) = false by simp; omega]
      repeat (first | refine zR ?_ | refine zK ?_ | refine zM ?_ | refine zB ?_ | refine zA ?_ | refine zS ?_ | refine zL ?_)
      by_cases h1 : n < lo
      · rw [decide_eq_true h1, if_pos (Or.inl h1)]
        repeat (first | refine zR ?_ | refine zK ?_ | refine zM ?_ | refine zB ?_ | refine zA ?_ | refine zS ?_ | refine zL ?_)
        refine qc ?_
        (repeat refine qb ?_); refine qh rfl (fun hz => ?_) (fun hz => ?_)
        rotate_left
        · cases hz
        (repeat refine qb ?_); refine qa ?_
        repeat (first | refine zR ?_ | refine zK ?_ | refine zM ?_ | refine zB ?_ | refine zA ?_ | refine zS ?_ | refine zL ?_)
        refine qf rfl (qo [(1000000, 1000000)] rfl rfl rfl rfl rfl rfl (fail_h l a false a (Nat.le_refl _)) rfl rfl rfl ?_)
        repeat (first | refine zR ?_ | refine zK ?_ | refine zM ?_ | refine zB ?_ | refine zA ?_ | refine zS ?_ | refine zL ?_)
        refine qc ?_
        (repeat refine qb ?_); refine qa ?_
        repeat (first | refine zR ?_ | refine zK ?_ | refine zM ?_ | refine zB ?_ | refine zA ?_ | refine zS ?_ | refine zL ?_)
        refine qc ?_
        (repeat refine qb ?_); refine qk ?_
        exact ⟨Or.inr rfl, _, _, [(1000000, 1000000)], Wk.refl _, rfl, rfl, rfl, rfl⟩
      rw [decide_eq_false h1]
      repeat (first | refine zR ?_ | refine zK ?_ | refine zM ?_ | refine zB ?_ | refine zA ?_ | refine zS ?_ | refine zL ?_)
      by_cases h2 : hi < n
      · rw [show decide (n > hi) = true from decide_eq_true h2, if_pos (Or.inr h2)]
        repeat (first | refine zR ?_ | refine zK ?_ | refine zM ?_ | refine zB ?_ | refine zA ?_ | refine zS ?_ | refine zL ?_)
        refine qc ?_
        (repeat refine qb ?_); refine qh rfl (fun hz => ?_) (fun hz => ?_)
        rotate_left
        · cases hz
        (repeat refine qb ?_); refine qa ?_
        repeat (first | refine zR ?_ | refine zK ?_ | refine zM ?_ | refine zB ?_ | refine zA ?_ | refine zS ?_ | refine zL ?_)
        refine qf rfl (qo [(1000000, 1000000)] rfl rfl rfl rfl rfl rfl (fail_h l a false a (Nat.le_refl _)) rfl rfl rfl ?_)
        repeat (first | refine zR ?_ | refine zK ?_ | refine zM ?_ | refine zB ?_ | refine zA ?_ | refine zS ?_ | refine zL ?_)
        refine qc ?_
        (repeat refine qb ?_); refine qa ?_
        repeat (first | refine zR ?_ | refine zK ?_ | refine zM ?_ | refine zB ?_ | refine zA ?_ | refine zS ?_ | refine zL ?_)
        refine qc ?_
        (repeat refine qb ?_); refine qk ?_
        exact ⟨Or.inr rfl, _, _, [(1000000, 1000000)], Wk.refl _, rfl, rfl, rfl, rfl⟩
      rw [show decide (n > hi) = false from decide_eq_false h2, if_neg (by omega)]
      repeat (first | refine zR ?_ | refine zK ?_ | refine zM ?_ | refine zB ?_ | refine zA ?_ | refine zS ?_ | refine zL ?_)
      refine qc ?_
      (repeat refine qb ?_); refine qh rfl (fun hz => ?_) (fun hz => ?_)
      · cases hz
      refine qu ?_
      (repeat refine qb ?_); refine qa ?_
      repeat (first | refine zR ?_ | refine zK ?_ | refine zM ?_ | refine zB ?_ | refine zA ?_ | refine zS ?_ | refine zL ?_)
      rw [show IntKind.i64.wrap ((a : Int) + (k : Int)) = ((a + k : Nat) : Int) from IntWalk.i64_in _ (by omega)]
      refine qc ?_
      (repeat refine qb ?_); refine qa ?_
      repeat (first | refine zR ?_ | refine zK ?_ | refine zM ?_ | refine zB ?_ | refine zA ?_ | refine zS ?_ | refine zL ?_)
      refine qc ?_
      (repeat refine qb ?_); refine qk ?_
      exact ⟨Or.inr rfl, _, _, [(1000000, 1000000)], Wk.refl _, rfl, rfl, rfl, rfl⟩
theorem inP_ge {l : Bs} {st : Rdr} {lo hi : Int} : st.1 ≤ (inP l st lo hi).2.1 := by
  unfold inP
  split
  · exact Nat.le_refl _
  · split
    · exact Nat.le_refl _
    · split
      · exact Nat.le_refl _
      · exact Nat.le_add_right _ _
theorem inP_in {l : Bs} {st : Rdr} {lo hi : Int} (h : (inP l st lo hi).2.2 = false) : lo ≤ (inP l st lo hi).1 ∧ (inP l st lo hi).1 ≤ hi := by
  unfold inP at h ⊢
  split at h
  · rename_i hb; simp only at h; rw [hb] at h; cases h
  · rename_i hb
    rw [if_neg hb]
    split at h
    · cases h
    · split at h
      · cases h
      · rename_i hn
        rw [if_neg hn]
        simp only
        omega
theorem num_h (l : Bs) (hl : l.length ≤ 1000) (st : Rdr) (ha : st.1 ≤ l.length) : zh Tryd.prog 48 [.ptr 1000000 0] (rdO 1000000 l st) (.p (pI (inP l st lo64 hi64).1)) (rdO 1000000 l (inP l st lo64 hi64).2) := by
  have H := in_h l hl st ha lo64 hi64
  refine qz (ts := [2]) Tryd.func48 (by kernel_rfl) rfl rfl rfl ?_
  (repeat refine qb ?_); refine qa ?_
  repeat (first | refine zR ?_ | refine zK ?_ | refine zM ?_ | refine zB ?_ | refine zA ?_ | refine zS ?_ | refine zL ?_)
  refine qc ?_
  (repeat refine qb ?_); refine qa ?_
  repeat (first | refine zR ?_ | refine zK ?_ | refine zM ?_ | refine zB ?_ | refine zA ?_ | refine zS ?_ | refine zL ?_)
  refine qf rfl (qo [(1000000, 1000000)] rfl rfl rfl rfl rfl rfl (H) rfl rfl rfl ?_)
  repeat (first | refine zR ?_ | refine zK ?_ | refine zM ?_ | refine zB ?_ | refine zA ?_ | refine zS ?_ | refine zL ?_)
  repeat (first | refine zR ?_ | refine zK ?_ | refine zM ?_ | refine zB ?_ | refine zA ?_ | refine zS ?_ | refine zL ?_)
  refine qc ?_
  (repeat refine qb ?_); refine qk ?_
  exact ⟨Or.inr rfl, _, _, [(1000000, 1000000)], Wk.refl _, rfl, rfl, rfl, rfl⟩
theorem rtext_h (l : Bs) (hl : l.length ≤ 1000) (st : Rdr) (ha : st.1 ≤ l.length) (most : Int) : zh Tryd.prog 47 [.ptr 1000000 0, .p (pI most)] (rdO 1000000 l st) (.p (pL (textP l st most).1)) (rdO 1000000 l (textP l st most).2) := by
  have H := in_h l hl st ha 0 most
  have h1 := inP_le (lo := 0) (hi := most) ha
  have h2 := inP_ge (l := l) (st := st) (lo := 0) (hi := most)
  have h3 := inP_in (l := l) (st := st) (lo := 0) (hi := most)
  have ll := zg l
  unfold textP
  generalize inP l st 0 most = q at *
  obtain ⟨n, a, b⟩ := q
  simp only at h1 h2 h3 ⊢
  refine qz (ts := [4]) Tryd.func47 (by kernel_rfl) rfl rfl rfl ?_
  (repeat refine qb ?_); refine qa ?_
  repeat (first | refine zR ?_ | refine zK ?_ | refine zM ?_ | refine zB ?_ | refine zA ?_ | refine zS ?_ | refine zL ?_)
  refine qc ?_
  (repeat refine qb ?_); refine qa ?_
  repeat (first | refine zR ?_ | refine zK ?_ | refine zM ?_ | refine zB ?_ | refine zA ?_ | refine zS ?_ | refine zL ?_)
  refine qc ?_
  (repeat refine qb ?_); refine qa ?_
  repeat (first | refine zR ?_ | refine zK ?_ | refine zM ?_ | refine zB ?_ | refine zA ?_ | refine zS ?_ | refine zL ?_)
  refine qf rfl (qo [(1000000, 1000000)] rfl rfl rfl rfl rfl rfl (H) rfl rfl rfl ?_)
  repeat (first | refine zR ?_ | refine zK ?_ | refine zM ?_ | refine zB ?_ | refine zA ?_ | refine zS ?_ | refine zL ?_)
  repeat (first | refine zR ?_ | refine zK ?_ | refine zM ?_ | refine zB ?_ | refine zA ?_ | refine zS ?_ | refine zL ?_)
  refine qc ?_
  (repeat refine qb ?_); refine qv [] [(0, true), (1, true), (2, true), (3, true), (4, true), (5, true), (6, true), (7, true), (8, true), (9, true), (10, true), (11, true), (12, true), (13, true), (14, true), (15, true), (16, true), (17, true)] (by kernel_rfl) (by kernel_rfl) (by kernel_rfl) ?_
  repeat (first | refine yR ?_ | refine yK ?_ | refine yM ?_ | refine yB ?_ | refine yA ?_ | refine yS ?_ | refine yL ?_)
  cases b with
  | true =>
    rw [if_pos rfl]
    repeat (first | refine yR ?_ | refine yK ?_ | refine yM ?_ | refine yB ?_ | refine yA ?_ | refine yS ?_ | refine yL ?_)
    refine qF ?_
    (repeat refine qb ?_); refine qh rfl (fun hc => ?_) (fun hc => ?_)
    rotate_left
    · cases hc
    (repeat refine qb ?_); refine qa ?_
    repeat (first | refine zR ?_ | refine zK ?_ | refine zM ?_ | refine zB ?_ | refine zA ?_ | refine zS ?_ | refine zL ?_)
    refine qf rfl (qo [(1000000, 1000000)] rfl rfl rfl rfl rfl rfl (fail_h l a true st.1 h2) rfl rfl rfl ?_)
    repeat (first | refine zR ?_ | refine zK ?_ | refine zM ?_ | refine zB ?_ | refine zA ?_ | refine zS ?_ | refine zL ?_)
    refine qc ?_
    (repeat refine qb ?_); refine qa ?_
    repeat (first | refine zR ?_ | refine zK ?_ | refine zM ?_ | refine zB ?_ | refine zA ?_ | refine zS ?_ | refine zL ?_)
    refine qc ?_
    (repeat refine qb ?_); refine qk ?_
    exact ⟨Or.inr rfl, _, _, [(1000000, 1000000)], Wk.refl _, rfl, rfl, rfl, rfl⟩
  | false =>
    obtain ⟨h4, h5⟩ := h3 rfl
    rw [if_neg (by simp)]
    repeat (first | refine yR ?_ | refine yK ?_ | refine yM ?_ | refine yB ?_ | refine yA ?_ | refine yS ?_ | refine yL ?_)
    rw [ll, show IntKind.i64.wrap ((l.length : Int) - (a : Int)) = ((l.length - a : Nat) : Int) by rw [show (l.length : Int) - (a : Int) = ((l.length - a : Nat) : Int) by omega]; exact IntWalk.i64_in _ (by omega)]
    by_cases hlt : ((l.length - a : Nat) : Int) < n
    · rw [if_pos hlt, show decide (n > ((l.length - a : Nat) : Int)) = true from decide_eq_true hlt]
      repeat (first | refine yR ?_ | refine yK ?_ | refine yM ?_ | refine yB ?_ | refine yA ?_ | refine yS ?_ | refine yL ?_)
      refine qF ?_
      (repeat refine qb ?_); refine qh rfl (fun hc => ?_) (fun hc => ?_)
      rotate_left
      · cases hc
      (repeat refine qb ?_); refine qa ?_
      repeat (first | refine zR ?_ | refine zK ?_ | refine zM ?_ | refine zB ?_ | refine zA ?_ | refine zS ?_ | refine zL ?_)
      refine qf rfl (qo [(1000000, 1000000)] rfl rfl rfl rfl rfl rfl (fail_h l a false st.1 h2) rfl rfl rfl ?_)
      repeat (first | refine zR ?_ | refine zK ?_ | refine zM ?_ | refine zB ?_ | refine zA ?_ | refine zS ?_ | refine zL ?_)
      refine qc ?_
      (repeat refine qb ?_); refine qa ?_
      repeat (first | refine zR ?_ | refine zK ?_ | refine zM ?_ | refine zB ?_ | refine zA ?_ | refine zS ?_ | refine zL ?_)
      refine qc ?_
      (repeat refine qb ?_); refine qk ?_
      exact ⟨Or.inr rfl, _, _, [(1000000, 1000000)], Wk.refl _, rfl, rfl, rfl, rfl⟩
    · rw [if_neg hlt, show decide (n > ((l.length - a : Nat) : Int)) = false from decide_eq_false hlt]
      obtain ⟨m, rfl⟩ : ∃ m : Nat, n = m := ⟨n.toNat, by omega⟩
      repeat (first | refine yR ?_ | refine yK ?_ | refine yM ?_ | refine yB ?_ | refine yA ?_ | refine yS ?_ | refine yL ?_)
      refine qF ?_
      (repeat refine qb ?_); refine qh rfl (fun hc => ?_) (fun hc => ?_)
      · cases hc
      refine qu ?_
      (repeat refine qb ?_); refine qa ?_
      repeat (first | refine zR ?_ | refine zK ?_ | refine zM ?_ | refine zB ?_ | refine zA ?_ | refine zS ?_ | refine zL ?_)
      rw [show IntKind.i64.wrap ((a : Int) + (m : Int)) = ((a + m : Nat) : Int) from IntWalk.i64_in _ (by omega)]
      refine qc ?_
      (repeat refine qb ?_); refine qv [] [(0, true), (1, true), (2, true), (3, true), (4, true), (5, true), (6, true), (7, true), (8, true), (9, true), (10, true), (11, true), (12, true), (13, true), (14, true), (15, true), (16, true)] (by kernel_rfl) (by kernel_rfl) (by kernel_rfl) ?_
      repeat (first | refine yR ?_ | refine yK ?_ | refine yM ?_ | refine yB ?_ | refine yA ?_ | refine yS ?_ | refine yL ?_)
      rw [show IntKind.i64.wrap (((a + m : Nat) : Int) - (m : Int)) = (a : Int) by rw [show ((a + m : Nat) : Int) - (m : Int) = (a : Int) by omega]; exact IntWalk.i64_in _ (by omega)]
      refine qY ql rfl rfl rfl (by rw [ll]; omega) rfl ?_
      rw [show Int.toNat ((a + m : Nat) : Int) - Int.toNat (a : Int) = m by omega, Int.toNat_natCast, bR_drop, bR_take]
      refine swm_rdO rfl rfl (rdO_textP ql (b := (l.drop a).take m) rfl rfl rfl rfl rfl) rfl ?_
      repeat (first | refine yR ?_ | refine yK ?_ | refine yM ?_ | refine yB ?_ | refine yA ?_ | refine yS ?_ | refine yL ?_)
      refine qF ?_
      (repeat refine qb ?_); refine qk ?_
      rw [Int.toNat_natCast]
      exact ⟨Or.inr rfl, _, _, [(1000000, 1000000)], Wk.refl _, rfl, rfl, rfl, rfl⟩
theorem at_h (l : Bs) (st : Rdr) : zh Tryd.prog 30 [.ptr 1000000 0] (rdO 1000000 l st) (.p (pI (st.1 : Int))) (rdO 1000000 l st) := by
  refine qz (ts := [2]) Tryd.func30 (by kernel_rfl) rfl rfl rfl ?_
  (repeat refine qb ?_); refine qa ?_
  repeat (first | refine zR ?_ | refine zK ?_ | refine zM ?_ | refine zB ?_ | refine zA ?_ | refine zS ?_ | refine zL ?_)
  refine qc ?_
  (repeat refine qb ?_); refine qa ?_
  repeat (first | refine zR ?_ | refine zK ?_ | refine zM ?_ | refine zB ?_ | refine zA ?_ | refine zS ?_ | refine zL ?_)
  refine qc ?_
  (repeat refine qb ?_); refine qk ?_
  exact ⟨Or.inr rfl, _, _, [(1000000, 1000000)], Wk.refl _, rfl, rfl, rfl, rfl⟩
theorem wrong_h (l : Bs) (st : Rdr) : zh Tryd.prog 29 [.ptr 1000000 0] (rdO 1000000 l st) (.p (pI (if st.2 then 7 else 0))) (rdO 1000000 l st) := by
  obtain ⟨a, b⟩ := st
  refine qz (ts := [2]) Tryd.func29 (by kernel_rfl) rfl rfl rfl ?_
  (repeat refine qb ?_); refine qa ?_
  repeat (first | refine zR ?_ | refine zK ?_ | refine zM ?_ | refine zB ?_ | refine zA ?_ | refine zS ?_ | refine zL ?_)
  refine qc ?_
  (repeat refine qb ?_); refine qa ?_
  repeat (first | refine zR ?_ | refine zK ?_ | refine zM ?_ | refine zB ?_ | refine zA ?_ | refine zS ?_ | refine zL ?_)
  refine qc ?_
  cases b with
  | true =>
    (repeat refine qb ?_); refine qh rfl (fun hc => ?_) (fun hc => ?_)
    · (repeat refine qb ?_); refine qa ?_
      repeat (first | refine zR ?_ | refine zK ?_ | refine zM ?_ | refine zB ?_ | refine zA ?_ | refine zS ?_ | refine zL ?_)
      refine qc ?_
      (repeat refine qb ?_); refine qk ?_
      exact ⟨Or.inr rfl, _, _, [(1000000, 1000000)], Wk.refl _, rfl, rfl, rfl, rfl⟩
    · cases hc
  | false =>
    (repeat refine qb ?_); refine qh rfl (fun hc => ?_) (fun hc => ?_)
    · cases hc
    · refine qu ?_
      (repeat refine qb ?_); refine qa ?_
      repeat (first | refine zR ?_ | refine zK ?_ | refine zM ?_ | refine zB ?_ | refine zA ?_ | refine zS ?_ | refine zL ?_)
      refine qc ?_
      (repeat refine qb ?_); refine qk ?_
      exact ⟨Or.inr rfl, _, _, [(1000000, 1000000)], Wk.refl _, rfl, rfl, rfl, rfl⟩
end Go.Proofs.YtghjfficeglmoaaDoor
namespace Go.Proofs.YtghjfficeglmoaaDoor
set_option linter.unusedVariables false
set_option linter.unusedSimpArgs false
open Go.RowKit
set_option maxHeartbeats 4000000
section
variable {P : Program} {T : TT} {st : St}
end
section
variable {P : Program} {T : TT} (hT : qs P T) {st : St}
include hT
end
end Go.Proofs.YtghjfficeglmoaaDoor
namespace Go.Proofs.YtghjfficeglmoaaDoor
set_option linter.unusedVariables false
set_option linter.unusedSimpArgs false
open Go.RowKit
set_option maxHeartbeats 4000000
abbrev rowB (i : Nat) (l : Bs) : List (Nat × Box) := [(i, .row 5 1 (bR l))]
theorem cloneB_h (l : Bs) (hn : l.length ≤ 1000000) : Holds Tryd.prog 45 [bP l] (.row 0) (rowB 0 l) := by
  refine qw (ts := [2]) Tryd.func45 (by kernel_rfl) rfl rfl rfl ?_
  (repeat refine qb ?_); refine qa ?_
  repeat (first | refine zR ?_ | refine zK ?_ | refine zM ?_ | refine zB ?_ | refine zA ?_ | refine zS ?_ | refine zL ?_)
  refine qc ?_
  (repeat refine qb ?_); refine qa ?_
  repeat (first | refine zR ?_ | refine zK ?_ | refine zM ?_ | refine zB ?_ | refine zA ?_ | refine zS ?_ | refine zL ?_)
  refine qf rfl (act_nilcmp ql rfl rfl rfl rfl rfl rfl (fun b hb => ?_))
  refine qc ?_
  (repeat refine qb ?_); refine qh rfl (fun hc => ?_) (fun hc => ?_)
  · have hl := hb hc
    have hl' : l = [] := by simpa [bR] using hl
    subst hl'
    (repeat refine qb ?_); refine qa ?_
    repeat (first | refine zR ?_ | refine zK ?_ | refine zM ?_ | refine zB ?_ | refine zA ?_ | refine zS ?_ | refine zL ?_)
    refine qc ?_
    (repeat refine qb ?_); refine qk ?_
    exact ⟨Or.inr rfl, _, _, [(0, 0)], wk_nil 2 0 5 1 rfl rfl, rfl, rfl, rfl, rfl⟩
  · refine qu ?_
    (repeat refine qb ?_); refine qa ?_
    repeat (first | refine zR ?_ | refine zK ?_ | refine zM ?_ | refine zB ?_ | refine zA ?_ | refine zS ?_ | refine zL ?_)
    refine qf rfl (zp ql rfl rfl rfl rfl rfl rfl rfl rfl rfl rfl rfl rfl rfl rfl rfl rfl (by simp [reachBytes, zg]; omega) (by simp [zg]; omega) ?_)
    repeat (first | refine zR ?_ | refine zK ?_ | refine zM ?_ | refine zB ?_ | refine zA ?_ | refine zS ?_ | refine zL ?_)
    refine qc ?_
    (repeat refine qb ?_); refine qk ?_
    exact ⟨Or.inr rfl, _, _, [(7, 0)], Wk.refl _, rfl, rfl, rfl, rfl⟩
theorem textsD_h (k : Int) : Holds Tryd.prog 32 [pI k] (.p (pB (decide (k = 3 ∨ k = 5)))) [] := by
  refine qw (ts := [2]) Tryd.func32 (by kernel_rfl) rfl rfl rfl ?_
  (repeat refine qb ?_); refine qa ?_
  repeat (first | refine zR ?_ | refine zK ?_ | refine zM ?_ | refine zB ?_ | refine zA ?_ | refine zS ?_ | refine zL ?_)
  refine qc ?_
  (repeat refine qb ?_); refine qa ?_
  repeat (first | refine zR ?_ | refine zK ?_ | refine zM ?_ | refine zB ?_ | refine zA ?_ | refine zS ?_ | refine zL ?_)
  by_cases h3 : k = 3
  · rw [show (k == 3) = true by simp [h3]]
    repeat (first | refine zR ?_ | refine zK ?_ | refine zM ?_ | refine zB ?_ | refine zA ?_ | refine zS ?_ | refine zL ?_)
    refine qc ?_
    (repeat refine qb ?_); refine qk ?_
    exact fin_b rfl (by simp [h3])
  · rw [show (k == 3) = false by simp [h3]]
    repeat (first | refine zR ?_ | refine zK ?_ | refine zM ?_ | refine zB ?_ | refine zA ?_ | refine zS ?_ | refine zL ?_)
    refine qc ?_
    (repeat refine qb ?_); refine qk ?_
    exact fin_b rfl (by rw [Bool.eq_iff_iff]; simp [h3])
end Go.Proofs.YtghjfficeglmoaaDoor
namespace Go.Proofs.YtghjfficeglmoaaDoor
set_option linter.unusedVariables false
set_option linter.unusedSimpArgs false
open Go.RowKit
set_option maxHeartbeats 4000000
theorem read_h (b : Bs) (hb : b.length ≤ 1000000) : Holds Tryd.prog 25 [bP b] (.ptr 0 0) (rdO 0 b (0, false)) := by
  have HC := cloneB_h b hb
  refine qw (ts := [2]) Tryd.func25 (by kernel_rfl) rfl rfl rfl ?_
  (repeat refine qb ?_); refine qa ?_
  repeat (first | refine zR ?_ | refine zK ?_ | refine zM ?_ | refine zB ?_ | refine zA ?_ | refine zS ?_ | refine zL ?_)
  refine qc ?_
  (repeat refine qb ?_); refine qa ?_
  repeat (first | refine zR ?_ | refine zK ?_ | refine zM ?_ | refine zB ?_ | refine zA ?_ | refine zS ?_ | refine zL ?_)
  refine qf rfl (qT rfl rfl rfl rfl (HC) rfl rfl rfl ?_)
  repeat (first | refine zR ?_ | refine zK ?_ | refine zM ?_ | refine zB ?_ | refine zA ?_ | refine zS ?_ | refine zL ?_)
  refine swt_wk (wk_frz (k := 5000) rfl) ?_
  repeat (first | refine zR ?_ | refine zK ?_ | refine zM ?_ | refine zB ?_ | refine zA ?_ | refine zS ?_ | refine zL ?_)
  refine qc ?_
  (repeat refine qb ?_); refine qk ?_
  exact ⟨Or.inr rfl, _, _, [(6, 0)], Wk.refl _, rfl, rfl, rfl, rfl⟩
theorem partsP_le {l : Bs} {st : Rdr} (h : st.1 ≤ l.length) : st.1 ≤ (qN l st).2.1 ∧ (inP l st 1 5).2.1 ≤ l.length := by
  have h1 := inP_le (lo := 1) (hi := 5) h
  have h2 := inP_ge (l := l) (st := st) (lo := 1) (hi := 5)
  refine ⟨?_, h1⟩
  unfold qN
  split
  · simp only
    unfold textP
    have h3 := inP_ge (l := l) (st := (inP l st 1 5).2) (lo := 0) (hi := 64)
    split
    · simp only; omega
    · split
      · exact h2
      · simp only; omega
  · simp only
    have h3 := inP_ge (l := l) (st := (inP l st 1 5).2) (lo := lo64) (hi := hi64)
    omega
theorem inP_R64 {l : Bs} {st : Rdr} {lo hi : Int} : R64 (inP l st lo hi).1 := by
  have h0 : R64 0 := ⟨by omega, by omega⟩
  unfold inP
  split
  · exact h0
  · split
    · exact h0
    · rename_i n k hg
      have := getN_R64 hg
      split
      · exact h0
      · exact this
theorem textP_len {l : Bs} {st : Rdr} {most : Int} : (textP l st most).1.length ≤ l.length := by
  unfold textP
  split
  · exact Nat.zero_le _
  · split
    · exact Nat.zero_le _
    · simp only [List.length_take, List.length_drop]; omega
theorem partsP_R64 {l : Bs} {st : Rdr} : R64 (qN l st).1.kind ∧ R64 (qN l st).1.n ∧ (qN l st).1.s.size ≤ l.length := by
  have h0 : R64 0 := ⟨by omega, by omega⟩
  unfold qN
  split
  · exact ⟨inP_R64, h0, textP_len⟩
  · exact ⟨inP_R64, inP_R64, Nat.zero_le _⟩
abbrev vCells (v : Val) : Box := .cells (v.pv.map .p)
theorem vget_h (l : Bs) (hl : l.length ≤ 1000) (st : Rdr) (ha : st.1 ≤ l.length) : zh Tryd.prog 27 [.ptr 1000000 0] (rdO 1000000 l st) (.p (.agg (getP l st).1.pv)) (rdO 1000000 l (getP l st).2) := by
  have HA := at_h l st
  have HI := in_h l hl st ha 1 5
  obtain ⟨h1, h2⟩ := partsP_le ha
  have HT := textsD_h (inP l st 1 5).1
  have HX := rtext_h l hl (inP l st 1 5).2 h2 64
  have HN := num_h l hl (inP l st 1 5).2 h2
  have HW := wrong_h l (qN l st).2
  have HF := fail_h l (qN l st).2.1 false st.1 h1
  obtain ⟨r1, r2, r3⟩ := partsP_R64 (l := l) (st := st)
  have HR := qR (qN l st).1 (by unfold reachBytes; omega)
  have eP : qN l st = if (inP l st 1 5).1 = 3 ∨ (inP l st 1 5).1 = 5 then (⟨(inP l st 1 5).1, 0, ⟨⟨(textP l (inP l st 1 5).2 64).1⟩⟩⟩, (textP l (inP l st 1 5).2 64).2) else (⟨(inP l st 1 5).1, (inP l (inP l st 1 5).2 lo64 hi64).1, ⟨⟨[]⟩⟩⟩, (inP l (inP l st 1 5).2 lo64 hi64).2) := rfl
  unfold getP
  generalize textP l (inP l st 1 5).2 64 = qt at *
  generalize inP l (inP l st 1 5).2 lo64 hi64 = qn at *
  generalize inP l st 1 5 = qi at *
  generalize qN l st = q at *
  obtain ⟨k, st1⟩ := qi
  obtain ⟨tx, st2⟩ := qt
  obtain ⟨nn, st3⟩ := qn
  simp only at *
  refine holdsC_of (T := TTab) ql Tryd.func27 (by kernel_rfl) rfl rfl rfl ?_
  (repeat refine qb ?_); refine qa ?_
  repeat (first | refine zR ?_ | refine zK ?_ | refine zM ?_ | refine zB ?_ | refine zA ?_ | refine zS ?_ | refine zL ?_)
  refine qc ?_
  (repeat refine qb ?_); refine qa ?_
  repeat (first | refine zR ?_ | refine zK ?_ | refine zM ?_ | refine zB ?_ | refine zA ?_ | refine zS ?_ | refine zL ?_)
  refine qf rfl (qo [(1000000, 1000000)] rfl rfl rfl rfl rfl rfl (HA) rfl rfl rfl ?_)
  repeat (first | refine zR ?_ | refine zK ?_ | refine zM ?_ | refine zB ?_ | refine zA ?_ | refine zS ?_ | refine zL ?_)
  repeat (first | refine zR ?_ | refine zK ?_ | refine zM ?_ | refine zB ?_ | refine zA ?_ | refine zS ?_ | refine zL ?_)
  refine qc ?_
  (repeat refine qb ?_); refine qa ?_
  repeat (first | refine zR ?_ | refine zK ?_ | refine zM ?_ | refine zB ?_ | refine zA ?_ | refine zS ?_ | refine zL ?_)
  refine qf rfl (qo [(1000000, 1000000)] rfl rfl rfl rfl rfl rfl (HI) rfl rfl rfl ?_)
  repeat (first | refine zR ?_ | refine zK ?_ | refine zM ?_ | refine zB ?_ | refine zA ?_ | refine zS ?_ | refine zL ?_)
  repeat (first | refine zR ?_ | refine zK ?_ | refine zM ?_ | refine zB ?_ | refine zA ?_ | refine zS ?_ | refine zL ?_)
  refine qc ?_
  (repeat refine qb ?_); refine qa ?_
  repeat (first | refine zR ?_ | refine zK ?_ | refine zM ?_ | refine zB ?_ | refine zA ?_ | refine zS ?_ | refine zL ?_)
  refine qf rfl (qd rfl rfl rfl rfl (HT) rfl rfl ?_)
  repeat (first | refine zR ?_ | refine zK ?_ | refine zM ?_ | refine zB ?_ | refine zA ?_ | refine zS ?_ | refine zL ?_)
  refine qc ?_
  (repeat refine qb ?_)
  refine SW.mono (Q := fun e s => e = .normal ∧ Wk s ⟨31, [(0, .ptr 1000000 0), (2, .ptr 2 0), (3, .p (pI (st.1 : Int))), (4, .ptr 4 0)], [(2, vCells noneV), (4, vCells q.1)] ++ rdO 1000000 l q.2⟩) ?_ ?_
  · by_cases h : k = 3 ∨ k = 5
    · rw [if_pos h] at eP
      subst eP
      rw [show decide (k = 3 ∨ k = 5) = true from decide_eq_true h]
      (repeat refine qb ?_); refine qh rfl (fun hc => ?_) (fun hc => ?_)
      rotate_left
      · cases hc
      (repeat refine qb ?_); refine qa ?_
      repeat (first | refine zR ?_ | refine zK ?_ | refine zM ?_ | refine zB ?_ | refine zA ?_ | refine zS ?_ | refine zL ?_)
      refine qf rfl (qo [(1000000, 1000000)] rfl rfl rfl rfl rfl rfl (HX) rfl rfl rfl ?_)
      repeat (first | refine zR ?_ | refine zK ?_ | refine zM ?_ | refine zB ?_ | refine zA ?_ | refine zS ?_ | refine zL ?_)
      repeat (first | refine zR ?_ | refine zK ?_ | refine zM ?_ | refine zB ?_ | refine zA ?_ | refine zS ?_ | refine zL ?_)
      refine qc ?_
      exact ⟨rfl, qy [0, 2, 3, 4] [(2, 2), (4, 4), (1000000, 1000000)] rfl rfl⟩
    · rw [if_neg h] at eP
      subst eP
      rw [show decide (k = 3 ∨ k = 5) = false from decide_eq_false h]
      (repeat refine qb ?_); refine qh rfl (fun hc => ?_) (fun hc => ?_)
      · cases hc
      (repeat refine qb ?_); refine qa ?_
      repeat (first | refine zR ?_ | refine zK ?_ | refine zM ?_ | refine zB ?_ | refine zA ?_ | refine zS ?_ | refine zL ?_)
      refine qf rfl (qo [(1000000, 1000000)] rfl rfl rfl rfl rfl rfl (HN) rfl rfl rfl ?_)
      repeat (first | refine zR ?_ | refine zK ?_ | refine zM ?_ | refine zB ?_ | refine zA ?_ | refine zS ?_ | refine zL ?_)
      repeat (first | refine zR ?_ | refine zK ?_ | refine zM ?_ | refine zB ?_ | refine zA ?_ | refine zS ?_ | refine zL ?_)
      refine qc ?_
      exact ⟨rfl, qy [0, 2, 3, 4] [(2, 2), (4, 4), (1000000, 1000000)] rfl rfl⟩
  rintro e s ⟨rfl, hw⟩
  refine SW.wk hw ?_
  obtain ⟨v, a, b⟩ := q
  simp only at *
  (repeat refine qb ?_); refine qa ?_
  repeat (first | refine zR ?_ | refine zK ?_ | refine zM ?_ | refine zB ?_ | refine zA ?_ | refine zS ?_ | refine zL ?_)
  refine qf rfl (qo [(1000000, 1000000)] rfl rfl rfl rfl rfl rfl (HW) rfl rfl rfl ?_)
  repeat (first | refine zR ?_ | refine zK ?_ | refine zM ?_ | refine zB ?_ | refine zA ?_ | refine zS ?_ | refine zL ?_)
  repeat (first | refine zR ?_ | refine zK ?_ | refine zM ?_ | refine zB ?_ | refine zA ?_ | refine zS ?_ | refine zL ?_)
  refine qc ?_
  cases b with
  | true =>
    rw [if_pos rfl]
    (repeat refine qb ?_); refine qh rfl (fun hc => ?_) (fun hc => ?_)
    rotate_left
    · cases hc
    (repeat refine qb ?_); refine qa ?_
    repeat (first | refine zR ?_ | refine zK ?_ | refine zM ?_ | refine zB ?_ | refine zA ?_ | refine zS ?_ | refine zL ?_)
    refine qc ?_
    (repeat refine qb ?_); refine qk ?_
    exact ⟨Or.inr rfl, _, _, [(1000000, 1000000)], _, Wk.refl _, rfl, rfl, .refl _, rfl, rfl⟩
  | false =>
    rw [if_neg (by simp)]
    (repeat refine qb ?_); refine qh rfl (fun hc => ?_) (fun hc => ?_)
    · cases hc
    refine qu ?_
    (repeat refine qb ?_); refine qa ?_
    repeat (first | refine zR ?_ | refine zK ?_ | refine zM ?_ | refine zB ?_ | refine zA ?_ | refine zS ?_ | refine zL ?_)
    refine qf rfl (qd rfl rfl rfl rfl (HR) rfl rfl ?_)
    repeat (first | refine zR ?_ | refine zK ?_ | refine zM ?_ | refine zB ?_ | refine zA ?_ | refine zS ?_ | refine zL ?_)
    refine qc ?_
    cases hr : v.right with
    | true =>
      rw [if_pos rfl]
      (repeat refine qb ?_); refine qh rfl (fun hq => ?_) (fun hq => ?_)
      · cases hq
      refine qu ?_
      (repeat refine qb ?_); refine qa ?_
      repeat (first | refine zR ?_ | refine zK ?_ | refine zM ?_ | refine zB ?_ | refine zA ?_ | refine zS ?_ | refine zL ?_)
      refine qc ?_
      (repeat refine qb ?_); refine qk ?_
      exact ⟨Or.inr rfl, _, _, [(1000000, 1000000)], _, Wk.refl _, rfl, rfl, .refl _, rfl, rfl⟩
    | false =>
      rw [if_neg (by simp)]
      (repeat refine qb ?_); refine qh rfl (fun hq => ?_) (fun hq => ?_)
      rotate_left
      · cases hq
      (repeat refine qb ?_); refine qa ?_
      repeat (first | refine zR ?_ | refine zK ?_ | refine zM ?_ | refine zB ?_ | refine zA ?_ | refine zS ?_ | refine zL ?_)
      refine qf rfl (qo [(1000000, 1000000)] rfl rfl rfl rfl rfl rfl (HF) rfl rfl rfl ?_)
      repeat (first | refine zR ?_ | refine zK ?_ | refine zM ?_ | refine zB ?_ | refine zA ?_ | refine zS ?_ | refine zL ?_)
      refine qc ?_
      (repeat refine qb ?_); refine qa ?_
      repeat (first | refine zR ?_ | refine zK ?_ | refine zM ?_ | refine zB ?_ | refine zA ?_ | refine zS ?_ | refine zL ?_)
      refine qc ?_
      (repeat refine qb ?_); refine qk ?_
      exact ⟨Or.inr rfl, _, _, [(1000000, 1000000)], _, Wk.refl _, rfl, rfl, .refl _, rfl, rfl⟩
end Go.Proofs.YtghjfficeglmoaaDoor
namespace Go.Proofs.YtghjfficeglmoaaDoor
set_option linter.unusedVariables false
set_option linter.unusedSimpArgs false
open Go.RowKit
set_option maxHeartbeats 4000000
theorem byteAt_get {s : ByteArray} {k : Nat} (hk : k < s.size) : byteAt s k = (s[k].toNat : Int) := by
  unfold byteAt
  have : s.data.getD k 0 = s[k] := by
    rw [Array.getD_eq_getD_getElem?, Array.getElem?_eq_getElem (by exact hk)]; rfl
  rw [this]
theorem refName_h (s : ByteArray) (hs : s.size ≤ reachBytes) : Holds Tryd.prog 15 [pS s] (.p (pB (nameS s))) [] := by
  unfold reachBytes at hs
  refine qw (ts := [2]) Tryd.func15 (by kernel_rfl) rfl rfl rfl ?_
  (repeat refine qb ?_); refine qa ?_
  repeat (first | refine zR ?_ | refine zK ?_ | refine zM ?_ | refine zB ?_ | refine zA ?_ | refine zS ?_ | refine zL ?_)
  refine qc ?_
  (repeat refine qb ?_); refine qa ?_
  repeat (first | refine zR ?_ | refine zK ?_ | refine zM ?_ | refine zB ?_ | refine zA ?_ | refine zS ?_ | refine zL ?_)
  refine qc ?_
  (repeat refine qb ?_); refine qS ?_
  refine SW.wk (qy [0, 3] [] rfl rfl) ?_
  refine sw_loop (fun m st => ∃ (k : Nat) (kk : Int), k ≤ s.size ∧ m = s.size - k ∧ kk = k ∧ (∀ i (h : i < s.size), i < k → okC (i == 0) s[i].toNat = true) ∧ st = ⟨45, [(0, .p (pS s)), (3, .p (pI kk))], []⟩) s.size ⟨0, 0, Nat.zero_le _, rfl, rfl, fun i _ h => absurd h (Nat.not_lt_zero _), rfl⟩ ?_
  rintro m st ⟨k, _, hk, rfl, rfl, ha, rfl⟩
  (repeat refine qb ?_); refine qa ?_
  repeat (first | refine zR ?_ | refine zK ?_ | refine zM ?_ | refine zB ?_ | refine zA ?_ | refine zS ?_ | refine zL ?_)
  refine qc ?_
  (repeat refine qb ?_); refine qh rfl (fun hlt => ?_) (fun hlt => ?_)
  · refine qu ?_
    have hlt' : k < s.size := by simpa using hlt
    (repeat refine qb ?_); refine qS ?_
    (repeat refine qb ?_); refine qa ?_
    repeat (first | refine zR ?_ | refine zK ?_ | refine zM ?_ | refine zB ?_ | refine zA ?_ | refine zS ?_ | refine zL ?_)
    refine zk ql rfl rfl (by omega) rfl ?_
    rw [show Int.toNat (k : Int) = k from rfl, byteAt_get hlt']
    repeat (first | refine zR ?_ | refine zK ?_ | refine zM ?_ | refine zB ?_ | refine zA ?_ | refine zS ?_ | refine zL ?_)
    refine qc ?_
    (repeat refine qb ?_); refine zG (by kernel_rfl) ?_
    repeat (refine zH ql rfl (by exact True.intro) rfl ?_)
    refine sws_nil ?_
    obtain ⟨c, hc⟩ : ∃ c : Nat, c = s[k].toNat := ⟨_, rfl⟩
    rw [← hc]
    have hok : okC (k == 0) s[k].toNat = ((97 ≤ c && c ≤ 122) || (!(k == 0) && ((48 ≤ c && c ≤ 57) || c == 95))) := by rw [← hc]; rfl
    (repeat refine qb ?_); refine qh rfl (fun hb => ?_) (fun hb => ?_)
    · (repeat refine qb ?_); refine qa ?_
      repeat (first | refine zR ?_ | refine zK ?_ | refine zM ?_ | refine zB ?_ | refine zA ?_ | refine zS ?_ | refine zL ?_)
      refine qc ?_
      (repeat refine qb ?_); refine qk ?_
      refine fin_b rfl (nameS_no hlt' ?_).symm
      rw [hok]
      revert hb
      cases h1 : decide (97 ≤ c) <;> cases h2 : decide (c ≤ 122) <;> cases h3 : decide (48 ≤ c) <;> cases h4 : decide (c ≤ 57) <;> simp_all <;> omega
    · refine qu ?_
      (repeat refine qb ?_); refine qa ?_
      repeat (first | refine zR ?_ | refine zK ?_ | refine zM ?_ | refine zB ?_ | refine zA ?_ | refine zS ?_ | refine zL ?_)
      refine qc ?_
      refine ⟨_, _, ?_, qy [0, 3] [] rfl rfl, k + 1, _, hlt', rfl, wrap_succ hlt' (by omega), name_step hlt' ha ?_, rfl⟩
      · omega
      · rw [hok]
        revert hb
        cases h1 : decide (97 ≤ c) <;> cases h2 : decide (c ≤ 122) <;> cases h3 : decide (48 ≤ c) <;> cases h4 : decide (c ≤ 57) <;> simp_all <;> omega
  · refine sw_exit ?_
    have hkk : k = s.size := by
      have : ¬ (k : Int) < (s.size : Int) := by simpa using hlt
      omega
    subst hkk
    (repeat refine qb ?_); refine zG (by kernel_rfl) ?_
    repeat (refine zH ql rfl (by exact True.intro) rfl ?_)
    refine sws_nil ?_
    (repeat refine qb ?_); refine qk ?_
    refine fin_b rfl ?_
    rw [nameS_end ha, Bool.eq_iff_iff]
    simp
    omega
theorem refRight_h (v : Val) (hs : v.s.size ≤ reachBytes) : Holds Tryd.prog 10 [.agg v.pv] (.p (pB v.right)) [] := by
  unfold Val.right
  refine qw (ts := [2]) Tryd.func10 (by kernel_rfl) rfl rfl rfl ?_
  (repeat refine qb ?_); refine qa ?_
  repeat (first | refine zR ?_ | refine zK ?_ | refine zM ?_ | refine zB ?_ | refine zA ?_ | refine zS ?_ | refine zL ?_)
  refine qc ?_
  (repeat refine qb ?_); refine qa ?_
  repeat (first | refine zR ?_ | refine zK ?_ | refine zM ?_ | refine zB ?_ | refine zA ?_ | refine zS ?_ | refine zL ?_)
  refine qc ?_
  (repeat refine qb ?_); refine qS ?_
  (repeat refine qb ?_); refine qa ?_
  repeat (first | refine zR ?_ | refine zK ?_ | refine zM ?_ | refine zB ?_ | refine zA ?_ | refine zS ?_ | refine zL ?_)
  refine qc ?_
  (repeat refine qb ?_); refine qh rfl (fun h1 => ?_) (fun h1 => ?_)
  · have e1 : v.kind = 1 := by simpa using h1
    rw [if_pos e1]
    (repeat refine qb ?_); refine zG (by kernel_rfl) ?_
    repeat (refine zH ql rfl (by exact True.intro) rfl ?_)
    refine sws_nil ?_
    (repeat refine qb ?_); refine qk ?_
    refine fin_b rfl ?_
    rw [Bool.eq_iff_iff]
    simp [zI]
  · have n1 : ¬ v.kind = 1 := by simpa using h1
    rw [if_neg n1]
    (repeat refine qb ?_); refine qa ?_
    repeat (first | refine zR ?_ | refine zK ?_ | refine zM ?_ | refine zB ?_ | refine zA ?_ | refine zS ?_ | refine zL ?_)
    refine qc ?_
    (repeat refine qb ?_); refine qh rfl (fun h2 => ?_) (fun h2 => ?_)
    · have e1 : v.kind = 2 := by simpa using h2
      rw [if_pos e1]
      (repeat refine qb ?_); refine qa ?_
      repeat (first | refine zR ?_ | refine zK ?_ | refine zM ?_ | refine zB ?_ | refine zA ?_ | refine zS ?_ | refine zL ?_)
      refine qc ?_
      (repeat refine qb ?_); refine qk ?_
      refine fin_b rfl ?_
      rw [Bool.eq_iff_iff]
      simp [zI]
    · have n2 : ¬ v.kind = 2 := by simpa using h2
      rw [if_neg n2]
      (repeat refine qb ?_); refine qa ?_
      repeat (first | refine zR ?_ | refine zK ?_ | refine zM ?_ | refine zB ?_ | refine zA ?_ | refine zS ?_ | refine zL ?_)
      refine qc ?_
      (repeat refine qb ?_); refine qh rfl (fun h3 => ?_) (fun h3 => ?_)
      · have e1 : v.kind = 3 := by simpa using h3
        rw [if_pos e1]
        (repeat refine qb ?_); refine zG (by kernel_rfl) ?_
        repeat (refine zH ql rfl (by exact True.intro) rfl ?_)
        refine sws_nil ?_
        (repeat refine qb ?_); refine qk ?_
        refine fin_b rfl ?_
        rw [Bool.eq_iff_iff]
        simp
        try omega
      · have n3 : ¬ v.kind = 3 := by simpa using h3
        rw [if_neg n3]
        (repeat refine qb ?_); refine qa ?_
        repeat (first | refine zR ?_ | refine zK ?_ | refine zM ?_ | refine zB ?_ | refine zA ?_ | refine zS ?_ | refine zL ?_)
        refine qc ?_
        (repeat refine qb ?_); refine qh rfl (fun h4 => ?_) (fun h4 => ?_)
        · have e1 : v.kind = 4 := by simpa using h4
          rw [if_pos e1]
          (repeat refine qb ?_); refine zG (by kernel_rfl) ?_
          repeat (refine zH ql rfl (by exact True.intro) rfl ?_)
          refine sws_nil ?_
          (repeat refine qb ?_); refine qk ?_
          refine fin_b rfl ?_
          rw [Bool.eq_iff_iff]
          simp [zI]
          try omega
        · have n4 : ¬ v.kind = 4 := by simpa using h4
          rw [if_neg n4]
          (repeat refine qb ?_); refine qa ?_
          repeat (first | refine zR ?_ | refine zK ?_ | refine zM ?_ | refine zB ?_ | refine zA ?_ | refine zS ?_ | refine zL ?_)
          refine qc ?_
          (repeat refine qb ?_); refine qh rfl (fun h5 => ?_) (fun h5 => ?_)
          · have e1 : v.kind = 5 := by simpa using h5
            rw [if_pos e1]
            (repeat refine qb ?_); refine zG (by kernel_rfl) ?_
            repeat (refine zH ql rfl (by exact True.intro) rfl ?_)
            refine sws_call rfl rfl rfl rfl (refName_h v.s hs) rfl rfl ?_
            repeat (refine zH ql rfl (by exact True.intro) rfl ?_)
            refine sws_nil ?_
            (repeat refine qb ?_); refine qk ?_
            refine fin_b rfl ?_
            rw [Bool.eq_iff_iff]
            simp
          · have n5 : ¬ v.kind = 5 := by simpa using h5
            rw [if_neg n5]
            refine qu ?_
            (repeat refine qb ?_); refine qa ?_
            repeat (first | refine zR ?_ | refine zK ?_ | refine zM ?_ | refine zB ?_ | refine zA ?_ | refine zS ?_ | refine zL ?_)
            refine qc ?_
            (repeat refine qb ?_); refine qk ?_
            exact fin_b rfl rfl
end Go.Proofs.YtghjfficeglmoaaDoor
namespace Go.Proofs.YtghjfficeglmoaaDoor
set_option linter.unusedVariables false
set_option linter.unusedSimpArgs false
open Go.RowKit
set_option maxHeartbeats 4000000
abbrev rfO (i : Nat) (l : Bs) (st : Rdr) : List (Nat × Box) := [(i, .cells [.p (bP l), .p (pI (st.1 : Int)), .p (pI (if st.2 then 7 else 0))])]
theorem rfail_h (l : Bs) (a : Int) (c x : Int) : zh Tryd.prog 53 [.ptr 1000000 0, .p (pI x)] [(1000000, .cells [.p (bP l), .p (pI a), .p (pI c)])] (.p (pI 0)) [(1000000, .cells [.p (bP l), .p (pI a), .p (pI x)])] := by
  refine qz (ts := [4]) Tryd.func53 (by kernel_rfl) rfl rfl rfl ?_
  (repeat refine qb ?_); refine qa ?_
  repeat (first | refine zR ?_ | refine zK ?_ | refine zM ?_ | refine zB ?_ | refine zA ?_ | refine zS ?_ | refine zL ?_)
  refine qc ?_
  (repeat refine qb ?_); refine qa ?_
  repeat (first | refine zR ?_ | refine zK ?_ | refine zM ?_ | refine zB ?_ | refine zA ?_ | refine zS ?_ | refine zL ?_)
  refine qc ?_
  (repeat refine qb ?_); refine qa ?_
  repeat (first | refine zR ?_ | refine zK ?_ | refine zM ?_ | refine zB ?_ | refine zA ?_ | refine zS ?_ | refine zL ?_)
  refine qc ?_
  (repeat refine qb ?_); refine qk ?_
  exact ⟨Or.inr rfl, _, _, [(1000000, 1000000)], Wk.refl _, rfl, rfl, rfl, rfl⟩
theorem inP_num {l : Bs} {a : Nat} : inP l (a, false) lo64 hi64 = match getN (l.drop a) with
    | none => (0, a, true)
    | some (n, k) => (n, a + k, false) := by
  unfold inP
  rw [if_neg (by simp)]
  cases hg : getN (l.drop a) with
  | none => simp only
  | some p =>
    obtain ⟨n, k⟩ := p
    have := getN_R64 hg
    simp only
    rw [if_neg (by have h1 := this.1; have h2 := this.2; unfold lo64 hi64; omega)]
theorem rnum_h (l : Bs) (hl : l.length ≤ 1000) (st : Rdr) (ha : st.1 ≤ l.length) : zh Tryd.prog 52 [.ptr 1000000 0] (rfO 1000000 l st) (.p (pI (inP l st lo64 hi64).1)) (rfO 1000000 l (inP l st lo64 hi64).2) := by
  have ll := zg l
  obtain ⟨a, b⟩ := st
  cases b with
  | true =>
    rw [show inP l (a, true) lo64 hi64 = (0, a, true) from rfl]
    refine qz (ts := [2]) Tryd.func52 (by kernel_rfl) rfl rfl rfl ?_
    (repeat refine qb ?_); refine qa ?_
    repeat (first | refine zR ?_ | refine zK ?_ | refine zM ?_ | refine zB ?_ | refine zA ?_ | refine zS ?_ | refine zL ?_)
    refine qc ?_
    (repeat refine qb ?_); refine qa ?_
    repeat (first | refine zR ?_ | refine zK ?_ | refine zM ?_ | refine zB ?_ | refine zA ?_ | refine zS ?_ | refine zL ?_)
    refine qc ?_
    (repeat refine qb ?_); refine qh rfl (fun hc => ?_) (fun hc => ?_)
    · (repeat refine qb ?_); refine qa ?_
      repeat (first | refine zR ?_ | refine zK ?_ | refine zM ?_ | refine zB ?_ | refine zA ?_ | refine zS ?_ | refine zL ?_)
      refine qc ?_
      (repeat refine qb ?_); refine qk ?_
      exact ⟨Or.inr rfl, _, _, [(1000000, 1000000)], Wk.refl _, rfl, rfl, rfl, rfl⟩
    · cases hc
  | false =>
  have eI := inP_num (l := l) (a := a)
  simp only at ha
  refine qz (ts := [2]) Tryd.func52 (by kernel_rfl) rfl rfl rfl ?_
  (repeat refine qb ?_); refine qa ?_
  repeat (first | refine zR ?_ | refine zK ?_ | refine zM ?_ | refine zB ?_ | refine zA ?_ | refine zS ?_ | refine zL ?_)
  refine qc ?_
  (repeat refine qb ?_); refine qa ?_
  repeat (first | refine zR ?_ | refine zK ?_ | refine zM ?_ | refine zB ?_ | refine zA ?_ | refine zS ?_ | refine zL ?_)
  refine qc ?_
  (repeat refine qb ?_); refine qh rfl (fun hc => ?_) (fun hc => ?_)
  · cases hc
  refine qu ?_
  (repeat refine qb ?_); refine qa ?_
  repeat (first | refine zR ?_ | refine zK ?_ | refine zM ?_ | refine zB ?_ | refine zA ?_ | refine zS ?_ | refine zL ?_)
  refine qc ?_
  (repeat refine qb ?_); refine qS ?_
  refine SW.wk (qy [0, 3, 4] [(1000000, 1000000)] rfl rfl) ?_
  refine sw_loop (fun m s => ∃ (i u : Nat) (ii uu : Int), i < 10 ∧ m = 10 - i ∧ ii = i ∧ uu = u ∧ u < 2 ^ (7 * i) ∧ onU u i (l.drop (a + i)) = getU 10 0 (l.drop a) ∧ s = ⟨88, [(0, .ptr 1000000 0), (3, .p (.v (.int .u64 uu))), (4, .p (pI ii))], rfO 1000000 l (a, false)⟩) 10 ⟨0, 0, 0, 0, by omega, rfl, rfl, rfl, by omega, by rw [Nat.add_zero]; exact onU_0 _, rfl⟩ ?_
  rintro m s ⟨i, u, _, _, hi10, rfl, rfl, rfl, hu, hO, rfl⟩
  have hbad : getU 10 0 (l.drop a) = none → inP l (a, false) lo64 hi64 = (0, a, true) := fun h => by
    rw [eI, show getN (l.drop a) = none by unfold getN; rw [h]; rfl]
  (repeat refine qb ?_); refine qS ?_
  (repeat refine qb ?_); refine qv [] [(0, true), (1, true), (2, true), (3, true), (4, true), (5, true), (6, true), (7, true), (8, true), (9, true), (10, true), (11, true)] (by kernel_rfl) (by kernel_rfl) (by kernel_rfl) ?_
  repeat (first | refine yR ?_ | refine yK ?_ | refine yM ?_ | refine yB ?_ | refine yA ?_ | refine yS ?_ | refine yL ?_)
  rw [ll, show IntKind.i64.wrap ((a : Int) + (i : Int)) = ((a + i : Nat) : Int) from IntWalk.i64_in _ (by omega)]
  by_cases hlt : a + i < l.length
  rotate_left
  · have hB := hbad (by rw [← hO, List.drop_of_length_le (by omega)]; exact onU_nil)
    rw [show decide (((a + i : Nat) : Int) ≥ (l.length : Int)) = true by simp; omega]
    repeat (first | refine yR ?_ | refine yK ?_ | refine yM ?_ | refine yB ?_ | refine yA ?_ | refine yS ?_ | refine yL ?_)
    refine qF ?_
    (repeat refine qb ?_); refine qh rfl (fun hq => ?_) (fun hq => ?_)
    · (repeat refine qb ?_); refine qa ?_
      repeat (first | refine zR ?_ | refine zK ?_ | refine zM ?_ | refine zB ?_ | refine zA ?_ | refine zS ?_ | refine zL ?_)
      refine qf rfl (qo [(1000000, 1000000)] rfl rfl rfl rfl rfl rfl (rfail_h l (a : Int) 0 7) rfl rfl rfl ?_)
      repeat (first | refine zR ?_ | refine zK ?_ | refine zM ?_ | refine zB ?_ | refine zA ?_ | refine zS ?_ | refine zL ?_)
      repeat (first | refine zR ?_ | refine zK ?_ | refine zM ?_ | refine zB ?_ | refine zA ?_ | refine zS ?_ | refine zL ?_)
      refine qc ?_
      (repeat refine qb ?_); refine qk ?_
      rw [hB]
      exact ⟨Or.inr rfl, _, _, [(1000000, 1000000)], Wk.refl _, rfl, rfl, rfl, rfl⟩
    · cases hq
  rw [show decide (((a + i : Nat) : Int) ≥ (l.length : Int)) = false by simp; omega]
  repeat (first | refine yR ?_ | refine yK ?_ | refine yM ?_ | refine yB ?_ | refine yA ?_ | refine yS ?_ | refine yL ?_)
  refine qF ?_
  (repeat refine qb ?_); refine qh rfl (fun hq => ?_) (fun hq => ?_)
  · cases hq
  refine qu ?_
  obtain ⟨c, hcc⟩ : ∃ c, c = l[a + i] := ⟨_, rfl⟩
  have hdr : l.drop (a + i) = c :: l.drop (a + (i + 1)) := by rw [hcc]; exact List.drop_eq_getElem_cons hlt
  rw [hdr] at hO
  have hcl := UInt8.toNat_lt c
  (repeat refine qb ?_); refine qv [] [(0, true), (1, true), (2, true), (3, true), (4, true), (5, true), (6, true), (7, true), (8, true), (9, true), (10, true), (11, true), (12, true)] (by kernel_rfl) (by kernel_rfl) (by kernel_rfl) ?_
  repeat (first | refine yR ?_ | refine yK ?_ | refine yM ?_ | refine yB ?_ | refine yA ?_ | refine yS ?_ | refine yL ?_)
  rw [show IntKind.i64.wrap ((a : Int) + (i : Int)) = ((a + i : Nat) : Int) from IntWalk.i64_in _ (by omega)]
  refine qY ql rfl rfl rfl (by rw [ll]; omega) rfl ?_
  rw [Int.toNat_natCast, bR_at hlt, ← hcc]
  repeat (first | refine yR ?_ | refine yK ?_ | refine yM ?_ | refine yB ?_ | refine yA ?_ | refine yS ?_ | refine yL ?_)
  refine qF ?_
  refine SW.wk (qy [0, 3, 4, 5] [(1000000, 1000000)] rfl rfl) ?_
  (repeat refine qb ?_); refine qa ?_
  refine SWT.mono (Q' := fun st => Wk st ⟨88, [(0, .ptr 1000000 0), (3, .p (.v (.int .u64 (u : Int)))), (4, .p (pI (i : Int))), (5, .p (pU c)), (51, .p (pB (decide ((i = 9 ∧ 1 < c.toNat) ∨ (0 < i ∧ c.toNat = 0)))))], rfO 1000000 l (a, false)⟩) ?_ fun st hst => SW.wk hst ?_
  · repeat (first | refine zR ?_ | refine zK ?_)
    by_cases h9 : i = 9
    · rw [show ((i : Int) == 9) = true by simp [h9]]
      repeat (first | refine zR ?_ | refine zK ?_ | refine zM ?_ | refine zB ?_ | refine zA ?_ | refine zS ?_ | refine zL ?_)
      by_cases h1 : 1 < c.toNat
      · rw [show decide ((c.toNat : Int) > 1) = true by simp; omega]
        rw [show decide ((i = 9 ∧ 1 < c.toNat) ∨ (0 < i ∧ c.toNat = 0)) = true from decide_eq_true (by omega)]
        repeat (first | refine zR ?_ | refine zK ?_ | refine zM ?_ | refine zB ?_ | refine zA ?_ | refine zS ?_ | refine zL ?_)
        refine qc ?_
        exact qy [0, 3, 4, 5, 51] [(1000000, 1000000)] rfl rfl
      · rw [show decide ((c.toNat : Int) > 1) = false by simp; omega]
        repeat (first | refine zR ?_ | refine zK ?_ | refine zM ?_ | refine zB ?_ | refine zA ?_ | refine zS ?_ | refine zL ?_)
        rw [show decide ((i : Int) > 0) = true by simp; omega]
        repeat (first | refine zR ?_ | refine zK ?_ | refine zM ?_ | refine zB ?_ | refine zA ?_ | refine zS ?_ | refine zL ?_)
        by_cases hz : c.toNat = 0
        · rw [show ((c.toNat : Int) == 0) = true by simp [hz]]
          rw [show decide ((i = 9 ∧ 1 < c.toNat) ∨ (0 < i ∧ c.toNat = 0)) = true from decide_eq_true (by omega)]
          repeat (first | refine zR ?_ | refine zK ?_ | refine zM ?_ | refine zB ?_ | refine zA ?_ | refine zS ?_ | refine zL ?_)
          refine qc ?_
          exact qy [0, 3, 4, 5, 51] [(1000000, 1000000)] rfl rfl
        · rw [show ((c.toNat : Int) == 0) = false by simp; omega]
          rw [show decide ((i = 9 ∧ 1 < c.toNat) ∨ (0 < i ∧ c.toNat = 0)) = false from decide_eq_false (by omega)]
          repeat (first | refine zR ?_ | refine zK ?_ | refine zM ?_ | refine zB ?_ | refine zA ?_ | refine zS ?_ | refine zL ?_)
          refine qc ?_
          exact qy [0, 3, 4, 5, 51] [(1000000, 1000000)] rfl rfl
    · rw [show ((i : Int) == 9) = false by simp; omega]
      repeat (first | refine zR ?_ | refine zK ?_ | refine zM ?_ | refine zB ?_ | refine zA ?_ | refine zS ?_ | refine zL ?_)
      by_cases h0 : 0 < i
      · rw [show decide ((i : Int) > 0) = true by simp; omega]
        repeat (first | refine zR ?_ | refine zK ?_ | refine zM ?_ | refine zB ?_ | refine zA ?_ | refine zS ?_ | refine zL ?_)
        by_cases hz : c.toNat = 0
        · rw [show ((c.toNat : Int) == 0) = true by simp [hz]]
          rw [show decide ((i = 9 ∧ 1 < c.toNat) ∨ (0 < i ∧ c.toNat = 0)) = true from decide_eq_true (by omega)]
          repeat (first | refine zR ?_ | refine zK ?_ | refine zM ?_ | refine zB ?_ | refine zA ?_ | refine zS ?_ | refine zL ?_)
          refine qc ?_
          exact qy [0, 3, 4, 5, 51] [(1000000, 1000000)] rfl rfl
        · rw [show ((c.toNat : Int) == 0) = false by simp; omega]
          rw [show decide ((i = 9 ∧ 1 < c.toNat) ∨ (0 < i ∧ c.toNat = 0)) = false from decide_eq_false (by omega)]
          repeat (first | refine zR ?_ | refine zK ?_ | refine zM ?_ | refine zB ?_ | refine zA ?_ | refine zS ?_ | refine zL ?_)
          refine qc ?_
          exact qy [0, 3, 4, 5, 51] [(1000000, 1000000)] rfl rfl
      · rw [show decide ((i : Int) > 0) = false by simp; omega]
        rw [show decide ((i = 9 ∧ 1 < c.toNat) ∨ (0 < i ∧ c.toNat = 0)) = false from decide_eq_false (by omega)]
        repeat (first | refine zR ?_ | refine zK ?_ | refine zM ?_ | refine zB ?_ | refine zA ?_ | refine zS ?_ | refine zL ?_)
        refine qc ?_
        exact qy [0, 3, 4, 5, 51] [(1000000, 1000000)] rfl rfl
  (repeat refine qb ?_); refine qh rfl (fun hz => ?_) (fun hz => ?_)
  · have hz' := of_decide_eq_true hz
    have hB := hbad (by rw [← hO]; exact onU_bad hi10 hz')
    (repeat refine qb ?_); refine qa ?_
    repeat (first | refine zR ?_ | refine zK ?_ | refine zM ?_ | refine zB ?_ | refine zA ?_ | refine zS ?_ | refine zL ?_)
    refine qf rfl (qo [(1000000, 1000000)] rfl rfl rfl rfl rfl rfl (rfail_h l (a : Int) 0 7) rfl rfl rfl ?_)
    repeat (first | refine zR ?_ | refine zK ?_ | refine zM ?_ | refine zB ?_ | refine zA ?_ | refine zS ?_ | refine zL ?_)
    repeat (first | refine zR ?_ | refine zK ?_ | refine zM ?_ | refine zB ?_ | refine zA ?_ | refine zS ?_ | refine zL ?_)
    refine qc ?_
    (repeat refine qb ?_); refine qk ?_
    rw [hB]
    exact ⟨Or.inr rfl, _, _, [(1000000, 1000000)], Wk.refl _, rfl, rfl, rfl, rfl⟩
  have hz' := of_decide_eq_false hz
  clear hz
  refine qu ?_
  obtain ⟨hU1, hU2⟩ := or_byte hu hi10 hcl (fun e => by omega)
  have hS : c.toNat % 128 * 2 ^ (7 * i) < 18446744073709551616 := by omega
  (repeat refine qb ?_); refine qa ?_
  repeat (first | refine zR ?_ | refine zK ?_ | refine zM ?_ | refine zB ?_ | refine zA ?_ | refine zS ?_ | refine zL ?_)
  rw [and127b hcl, u64_nat (show c.toNat % 128 < 18446744073709551616 by omega), show IntKind.i64.wrap (7 * (i : Int)) = ((7 * i : Nat) : Int) from IntWalk.i64_in _ (by omega)]
  refine zk ql rfl rfl (by omega) rfl ?_
  rw [shl_u64 (by omega) hS]
  repeat (first | refine zR ?_ | refine zK ?_ | refine zM ?_ | refine zB ?_ | refine zA ?_ | refine zS ?_ | refine zL ?_)
  rw [or_shift hu hU1 hS]
  repeat (first | refine zR ?_ | refine zK ?_ | refine zM ?_ | refine zB ?_ | refine zA ?_ | refine zS ?_ | refine zL ?_)
  refine qc ?_
  (repeat refine qb ?_); refine qa ?_
  repeat (first | refine zR ?_ | refine zK ?_ | refine zM ?_ | refine zB ?_ | refine zA ?_ | refine zS ?_ | refine zL ?_)
  rw [wrap_succ (n := 10) hi10 (by omega)]
  repeat (first | refine zR ?_ | refine zK ?_ | refine zM ?_ | refine zB ?_ | refine zA ?_ | refine zS ?_ | refine zL ?_)
  refine qc ?_
  (repeat refine qb ?_); refine qa ?_
  repeat (first | refine zR ?_ | refine zK ?_ | refine zM ?_ | refine zB ?_ | refine zA ?_ | refine zS ?_ | refine zL ?_)
  refine qc ?_
  by_cases h7 : c.toNat < 128
  · rw [show decide ((c.toNat : Int) < 128) = true by simp; omega]
    have hO2 := hO
    rw [onU_last hi10 hz' h7] at hO2
    rw [Nat.mod_eq_of_lt h7]
    rw [Nat.mod_eq_of_lt h7] at hU1
    (repeat refine qb ?_); refine qh rfl (fun hy => ?_) (fun hy => ?_)
    rotate_left
    · cases hy
    refine sw_exit ?_
    obtain ⟨x, hx⟩ : ∃ x, x = u + c.toNat * 2 ^ (7 * i) := ⟨_, rfl⟩
    rw [← hx] at hO2 hU1 ⊢
    have hR : inP l (a, false) lo64 hi64 = (zag x, a + (i + 1), false) := by
      rw [eI, show getN (l.drop a) = some (zag x, i + 1) by unfold getN; rw [← hO2]; rfl]
    rw [hR]
    have hk : i + 1 ≤ l.length - a := by omega
    (repeat refine qb ?_); refine qa ?_
    repeat (first | refine zR ?_ | refine zK ?_ | refine zM ?_ | refine zB ?_ | refine zA ?_ | refine zS ?_ | refine zL ?_)
    rw [show IntKind.i64.wrap ((a : Int) + ((i + 1 : Nat) : Int)) = ((a + (i + 1) : Nat) : Int) from IntWalk.i64_in _ (by omega)]
    repeat (first | refine zR ?_ | refine zK ?_ | refine zM ?_ | refine zB ?_ | refine zA ?_ | refine zS ?_ | refine zL ?_)
    refine qc ?_
    (repeat refine qb ?_); refine qa ?_
    repeat (first | refine zR ?_ | refine zK ?_ | refine zM ?_ | refine zB ?_ | refine zA ?_ | refine zS ?_ | refine zL ?_)
    refine zk ql rfl rfl (by omega) rfl ?_
    rw [shr_1]
    repeat (first | refine zR ?_ | refine zK ?_ | refine zM ?_ | refine zB ?_ | refine zA ?_ | refine zS ?_ | refine zL ?_)
    rw [show IntKind.i64.wrap ((x / 2 : Nat) : Int) = ((x / 2 : Nat) : Int) from IntWalk.i64_in _ (by omega)]
    refine qc ?_
    (repeat refine qb ?_); refine qa ?_
    repeat (first | refine zR ?_ | refine zK ?_ | refine zM ?_ | refine zB ?_ | refine zA ?_ | refine zS ?_ | refine zL ?_)
    rw [and1 hU1]
    repeat (first | refine zR ?_ | refine zK ?_ | refine zM ?_ | refine zB ?_ | refine zA ?_ | refine zS ?_ | refine zL ?_)
    refine qc ?_
    by_cases hodd : x % 2 = 1
    · rw [show (((x % 2 : Nat) : Int) == 1) = true by simp [hodd]]
      rw [show zag x = -((x / 2 : Nat) : Int) - 1 by unfold zag; rw [if_pos hodd]]
      (repeat refine qb ?_); refine qh rfl (fun hw => ?_) (fun hw => ?_)
      rotate_left
      · cases hw
      (repeat refine qb ?_); refine qa ?_
      repeat (first | refine zR ?_ | refine zK ?_ | refine zM ?_ | refine zB ?_ | refine zA ?_ | refine zS ?_ | refine zL ?_)
      rw [not_i64s (show x / 2 < 9223372036854775808 by omega)]
      refine qc ?_
      (repeat refine qb ?_); refine qa ?_
      repeat (first | refine zR ?_ | refine zK ?_ | refine zM ?_ | refine zB ?_ | refine zA ?_ | refine zS ?_ | refine zL ?_)
      refine qc ?_
      (repeat refine qb ?_); refine qk ?_
      exact ⟨Or.inr rfl, _, _, [(1000000, 1000000)], Wk.refl _, rfl, rfl, rfl, rfl⟩
    · rw [show (((x % 2 : Nat) : Int) == 1) = false by simp; omega]
      rw [show zag x = ((x / 2 : Nat) : Int) by unfold zag; rw [if_neg hodd]]
      (repeat refine qb ?_); refine qh rfl (fun hw => ?_) (fun hw => ?_)
      · cases hw
      refine qu ?_
      (repeat refine qb ?_); refine qa ?_
      repeat (first | refine zR ?_ | refine zK ?_ | refine zM ?_ | refine zB ?_ | refine zA ?_ | refine zS ?_ | refine zL ?_)
      refine qc ?_
      (repeat refine qb ?_); refine qk ?_
      exact ⟨Or.inr rfl, _, _, [(1000000, 1000000)], Wk.refl _, rfl, rfl, rfl, rfl⟩
  · rw [show decide ((c.toNat : Int) < 128) = false by simp; omega]
    have hi9 : i < 9 := by
      rcases Nat.lt_or_ge i 9 with h | h
      · exact h
      · exfalso; exact hz' (Or.inl ⟨by omega, by omega⟩)
    (repeat refine qb ?_); refine qh rfl (fun hy => ?_) (fun hy => ?_)
    · cases hy
    refine qu ?_
    (repeat refine qb ?_); refine qa ?_
    repeat (first | refine zR ?_ | refine zK ?_ | refine zM ?_ | refine zB ?_ | refine zA ?_ | refine zS ?_ | refine zL ?_)
    refine qc ?_
    rw [show (((i + 1 : Nat) : Int) == 10) = false by simp; omega]
    (repeat refine qb ?_); refine qh rfl (fun hy => ?_) (fun hy => ?_)
    · cases hy
    refine qu ?_
    refine ⟨_, _, ?_, qy [0, 3, 4] [(1000000, 1000000)] rfl rfl, i + 1, _, _, _, by omega, rfl, rfl, rfl, hU2 hi9, by rw [← onU_more hi10 hz' h7]; exact hO, rfl⟩
    omega
theorem rin_h (l : Bs) (hl : l.length ≤ 1000) (st : Rdr) (ha : st.1 ≤ l.length) (lo hi : Int) : zh Tryd.prog 50 [.ptr 1000000 0, .p (pI lo), .p (pI hi)] (rfO 1000000 l st) (.p (pI (inP l st lo hi).1)) (rfO 1000000 l (inP l st lo hi).2) := by
  have HN := rnum_h l hl st ha
  obtain ⟨a, b⟩ := st
  cases b with
  | true =>
    rw [show inP l (a, true) lo64 hi64 = (0, a, true) from rfl] at HN
    rw [show inP l (a, true) lo hi = (0, a, true) from rfl]
    refine qz (ts := [6]) Tryd.func50 (by kernel_rfl) rfl rfl rfl ?_
    (repeat refine qb ?_); refine qa ?_
    repeat (first | refine zR ?_ | refine zK ?_ | refine zM ?_ | refine zB ?_ | refine zA ?_ | refine zS ?_ | refine zL ?_)
    refine qc ?_
    (repeat refine qb ?_); refine qa ?_
    repeat (first | refine zR ?_ | refine zK ?_ | refine zM ?_ | refine zB ?_ | refine zA ?_ | refine zS ?_ | refine zL ?_)
    refine qc ?_
    (repeat refine qb ?_); refine qa ?_
    repeat (first | refine zR ?_ | refine zK ?_ | refine zM ?_ | refine zB ?_ | refine zA ?_ | refine zS ?_ | refine zL ?_)
    refine qf rfl (qo [(1000000, 1000000)] rfl rfl rfl rfl rfl rfl (HN) rfl rfl rfl ?_)
    repeat (first | refine zR ?_ | refine zK ?_ | refine zM ?_ | refine zB ?_ | refine zA ?_ | refine zS ?_ | refine zL ?_)
    repeat (first | refine zR ?_ | refine zK ?_ | refine zM ?_ | refine zB ?_ | refine zA ?_ | refine zS ?_ | refine zL ?_)
    refine qc ?_
    (repeat refine qb ?_); refine qa ?_
    repeat (first | refine zR ?_ | refine zK ?_ | refine zM ?_ | refine zB ?_ | refine zA ?_ | refine zS ?_ | refine zL ?_)
    refine qc ?_
    (repeat refine qb ?_); refine qh rfl (fun hc => ?_) (fun hc => ?_)
    · cases hc
    refine qu ?_
    (repeat refine qb ?_); refine qa ?_
    repeat (first | refine zR ?_ | refine zK ?_ | refine zM ?_ | refine zB ?_ | refine zA ?_ | refine zS ?_ | refine zL ?_)
    refine qc ?_
    (repeat refine qb ?_); refine qk ?_
    exact ⟨Or.inr rfl, _, _, [(1000000, 1000000)], Wk.refl _, rfl, rfl, rfl, rfl⟩
  | false =>
    have eI : inP l (a, false) lo hi = match getN (l.drop a) with
      | none => (0, a, true)
      | some (n, k) => if n < lo ∨ hi < n then (0, a, true) else (n, a + k, false) := rfl
    have eN := inP_num (l := l) (a := a)
    cases hg : getN (l.drop a) with
    | none =>
      rw [hg] at eI eN
      simp only at eI eN
      rw [eN] at HN
      rw [eI]
      refine qz (ts := [6]) Tryd.func50 (by kernel_rfl) rfl rfl rfl ?_
      (repeat refine qb ?_); refine qa ?_
      repeat (first | refine zR ?_ | refine zK ?_ | refine zM ?_ | refine zB ?_ | refine zA ?_ | refine zS ?_ | refine zL ?_)
      refine qc ?_
      (repeat refine qb ?_); refine qa ?_
      repeat (first | refine zR ?_ | refine zK ?_ | refine zM ?_ | refine zB ?_ | refine zA ?_ | refine zS ?_ | refine zL ?_)
      refine qc ?_
      (repeat refine qb ?_); refine qa ?_
      repeat (first | refine zR ?_ | refine zK ?_ | refine zM ?_ | refine zB ?_ | refine zA ?_ | refine zS ?_ | refine zL ?_)
      refine qf rfl (qo [(1000000, 1000000)] rfl rfl rfl rfl rfl rfl (HN) rfl rfl rfl ?_)
      repeat (first | refine zR ?_ | refine zK ?_ | refine zM ?_ | refine zB ?_ | refine zA ?_ | refine zS ?_ | refine zL ?_)
      repeat (first | refine zR ?_ | refine zK ?_ | refine zM ?_ | refine zB ?_ | refine zA ?_ | refine zS ?_ | refine zL ?_)
      refine qc ?_
      (repeat refine qb ?_); refine qa ?_
      repeat (first | refine zR ?_ | refine zK ?_ | refine zM ?_ | refine zB ?_ | refine zA ?_ | refine zS ?_ | refine zL ?_)
      refine qc ?_
      (repeat refine qb ?_); refine qh rfl (fun hc => ?_) (fun hc => ?_)
      · cases hc
      refine qu ?_
      (repeat refine qb ?_); refine qa ?_
      repeat (first | refine zR ?_ | refine zK ?_ | refine zM ?_ | refine zB ?_ | refine zA ?_ | refine zS ?_ | refine zL ?_)
      refine qc ?_
      (repeat refine qb ?_); refine qk ?_
      exact ⟨Or.inr rfl, _, _, [(1000000, 1000000)], Wk.refl _, rfl, rfl, rfl, rfl⟩
    | some p =>
      obtain ⟨n, k⟩ := p
      rw [hg] at eI eN
      simp only at eI eN
      rw [eN] at HN
      rw [eI]
      refine qz (ts := [6]) Tryd.func50 (by kernel_rfl) rfl rfl rfl ?_
      (repeat refine qb ?_); refine qa ?_
      repeat (first | refine zR ?_ | refine zK ?_ | refine zM ?_ | refine zB ?_ | refine zA ?_ | refine zS ?_ | refine zL ?_)
      refine qc ?_
      (repeat refine qb ?_); refine qa ?_
      repeat (first | refine zR ?_ | refine zK ?_ | refine zM ?_ | refine zB ?_ | refine zA ?_ | refine zS ?_ | refine zL ?_)
      refine qc ?_
      (repeat refine qb ?_); refine qa ?_
      repeat (first | refine zR ?_ | refine zK ?_ | refine zM ?_ | refine zB ?_ | refine zA ?_ | refine zS ?_ | refine zL ?_)
      refine qf rfl (qo [(1000000, 1000000)] rfl rfl rfl rfl rfl rfl (HN) rfl rfl rfl ?_)
      repeat (first | refine zR ?_ | refine zK ?_ | refine zM ?_ | refine zB ?_ | refine zA ?_ | refine zS ?_ | refine zL ?_)
      repeat (first | refine zR ?_ | refine zK ?_ | refine zM ?_ | refine zB ?_ | refine zA ?_ | refine zS ?_ | refine zL ?_)
      refine qc ?_
      (repeat refine qb ?_); refine qa ?_
      repeat (first | refine zR ?_ | refine zK ?_ | refine zM ?_ | refine zB ?_ | refine zA ?_ | refine zS ?_ | refine zL ?_)
      by_cases h1 : n < lo
      · rw [decide_eq_true h1, if_pos (Or.inl h1)]
        repeat (first | refine zR ?_ | refine zK ?_ | refine zM ?_ | refine zB ?_ | refine zA ?_ | refine zS ?_ | refine zL ?_)
        refine qc ?_
        (repeat refine qb ?_); refine qh rfl (fun hz => ?_) (fun hz => ?_)
        rotate_left
        · cases hz
        (repeat refine qb ?_); refine qa ?_
        repeat (first | refine zR ?_ | refine zK ?_ | refine zM ?_ | refine zB ?_ | refine zA ?_ | refine zS ?_ | refine zL ?_)
        refine qc ?_
        (repeat refine qb ?_); refine qa ?_
        repeat (first | refine zR ?_ | refine zK ?_ | refine zM ?_ | refine zB ?_ | refine zA ?_ | refine zS ?_ | refine zL ?_)
        refine qf rfl (qo [(1000000, 1000000)] rfl rfl rfl rfl rfl rfl (rfail_h l (a : Int) 0 7) rfl rfl rfl ?_)
        repeat (first | refine zR ?_ | refine zK ?_ | refine zM ?_ | refine zB ?_ | refine zA ?_ | refine zS ?_ | refine zL ?_)
        repeat (first | refine zR ?_ | refine zK ?_ | refine zM ?_ | refine zB ?_ | refine zA ?_ | refine zS ?_ | refine zL ?_)
        refine qc ?_
        (repeat refine qb ?_); refine qk ?_
        exact ⟨Or.inr rfl, _, _, [(1000000, 1000000)], Wk.refl _, rfl, rfl, rfl, rfl⟩
      rw [decide_eq_false h1]
      repeat (first | refine zR ?_ | refine zK ?_ | refine zM ?_ | refine zB ?_ | refine zA ?_ | refine zS ?_ | refine zL ?_)
      by_cases h2 : hi < n
      · rw [show decide (n > hi) = true from decide_eq_true h2, if_pos (Or.inr h2)]
        repeat (first | refine zR ?_ | refine zK ?_ | refine zM ?_ | refine zB ?_ | refine zA ?_ | refine zS ?_ | refine zL ?_)
        refine qc ?_
        (repeat refine qb ?_); refine qh rfl (fun hz => ?_) (fun hz => ?_)
        rotate_left
        · cases hz
        (repeat refine qb ?_); refine qa ?_
        repeat (first | refine zR ?_ | refine zK ?_ | refine zM ?_ | refine zB ?_ | refine zA ?_ | refine zS ?_ | refine zL ?_)
        refine qc ?_
        (repeat refine qb ?_); refine qa ?_
        repeat (first | refine zR ?_ | refine zK ?_ | refine zM ?_ | refine zB ?_ | refine zA ?_ | refine zS ?_ | refine zL ?_)
        refine qf rfl (qo [(1000000, 1000000)] rfl rfl rfl rfl rfl rfl (rfail_h l (a : Int) 0 7) rfl rfl rfl ?_)
        repeat (first | refine zR ?_ | refine zK ?_ | refine zM ?_ | refine zB ?_ | refine zA ?_ | refine zS ?_ | refine zL ?_)
        repeat (first | refine zR ?_ | refine zK ?_ | refine zM ?_ | refine zB ?_ | refine zA ?_ | refine zS ?_ | refine zL ?_)
        refine qc ?_
        (repeat refine qb ?_); refine qk ?_
        exact ⟨Or.inr rfl, _, _, [(1000000, 1000000)], Wk.refl _, rfl, rfl, rfl, rfl⟩
      rw [show decide (n > hi) = false from decide_eq_false h2, if_neg (by omega)]
      repeat (first | refine zR ?_ | refine zK ?_ | refine zM ?_ | refine zB ?_ | refine zA ?_ | refine zS ?_ | refine zL ?_)
      refine qc ?_
      (repeat refine qb ?_); refine qh rfl (fun hz => ?_) (fun hz => ?_)
      · cases hz
      refine qu ?_
      (repeat refine qb ?_); refine qa ?_
      repeat (first | refine zR ?_ | refine zK ?_ | refine zM ?_ | refine zB ?_ | refine zA ?_ | refine zS ?_ | refine zL ?_)
      refine qc ?_
      (repeat refine qb ?_); refine qk ?_
      exact ⟨Or.inr rfl, _, _, [(1000000, 1000000)], Wk.refl _, rfl, rfl, rfl, rfl⟩
theorem rrtext_h (l : Bs) (hl : l.length ≤ 1000) (st : Rdr) (ha : st.1 ≤ l.length) (most : Int) : zh Tryd.prog 51 [.ptr 1000000 0, .p (pI most)] (rfO 1000000 l st) (.p (pL (textP l st most).1)) (rfO 1000000 l (textP l st most).2) := by
  have H := rin_h l hl st ha 0 most
  have h1 := inP_le (lo := 0) (hi := most) ha
  have h2 := inP_ge (l := l) (st := st) (lo := 0) (hi := most)
  have h3 := inP_in (l := l) (st := st) (lo := 0) (hi := most)
  have ll := zg l
  unfold textP
  generalize inP l st 0 most = q at *
  obtain ⟨n, a, b⟩ := q
  simp only at h1 h2 h3 ⊢
  dsimp only [rfO] at H
  refine qz (ts := [4]) Tryd.func51 (by kernel_rfl) rfl rfl rfl ?_
  (repeat refine qb ?_); refine qa ?_
  repeat (first | refine zR ?_ | refine zK ?_ | refine zM ?_ | refine zB ?_ | refine zA ?_ | refine zS ?_ | refine zL ?_)
  refine qc ?_
  (repeat refine qb ?_); refine qa ?_
  repeat (first | refine zR ?_ | refine zK ?_ | refine zM ?_ | refine zB ?_ | refine zA ?_ | refine zS ?_ | refine zL ?_)
  refine qc ?_
  (repeat refine qb ?_); refine qa ?_
  repeat (first | refine zR ?_ | refine zK ?_ | refine zM ?_ | refine zB ?_ | refine zA ?_ | refine zS ?_ | refine zL ?_)
  refine qf rfl (qo [(1000000, 1000000)] rfl rfl rfl rfl rfl rfl (H) rfl rfl rfl ?_)
  repeat (first | refine zR ?_ | refine zK ?_ | refine zM ?_ | refine zB ?_ | refine zA ?_ | refine zS ?_ | refine zL ?_)
  repeat (first | refine zR ?_ | refine zK ?_ | refine zM ?_ | refine zB ?_ | refine zA ?_ | refine zS ?_ | refine zL ?_)
  refine qc ?_
  cases b with
  | true =>
    rw [if_pos rfl]
    (repeat refine qb ?_); refine qa ?_
    repeat (first | refine zR ?_ | refine zK ?_ | refine zM ?_ | refine zB ?_ | refine zA ?_ | refine zS ?_ | refine zL ?_)
    refine qc ?_
    (repeat refine qb ?_); refine qh rfl (fun hc => ?_) (fun hc => ?_)
    rotate_left
    · cases hc
    (repeat refine qb ?_); refine qa ?_
    repeat (first | refine zR ?_ | refine zK ?_ | refine zM ?_ | refine zB ?_ | refine zA ?_ | refine zS ?_ | refine zL ?_)
    refine qc ?_
    (repeat refine qb ?_); refine qk ?_
    exact ⟨Or.inr rfl, _, _, [(1000000, 1000000)], Wk.refl _, rfl, rfl, rfl, rfl⟩
  | false =>
    obtain ⟨h4, h5⟩ := h3 rfl
    rw [if_neg (by simp)]
    (repeat refine qb ?_); refine qa ?_
    repeat (first | refine zR ?_ | refine zK ?_ | refine zM ?_ | refine zB ?_ | refine zA ?_ | refine zS ?_ | refine zL ?_)
    refine qc ?_
    (repeat refine qb ?_); refine qh rfl (fun hc => ?_) (fun hc => ?_)
    · cases hc
    refine qu ?_
    (repeat refine qb ?_); refine qv [] [(0, true), (1, true), (2, true), (3, true), (4, true), (5, true), (6, true), (7, true), (8, true), (9, true), (10, true), (11, true)] (by kernel_rfl) (by kernel_rfl) (by kernel_rfl) ?_
    repeat (first | refine yR ?_ | refine yK ?_ | refine yM ?_ | refine yB ?_ | refine yA ?_ | refine yS ?_ | refine yL ?_)
    rw [ll, show IntKind.i64.wrap ((l.length : Int) - (a : Int)) = ((l.length - a : Nat) : Int) by rw [show (l.length : Int) - (a : Int) = ((l.length - a : Nat) : Int) by omega]; exact IntWalk.i64_in _ (by omega)]
    by_cases hlt : ((l.length - a : Nat) : Int) < n
    · rw [if_pos hlt, show decide (n > ((l.length - a : Nat) : Int)) = true from decide_eq_true hlt]
      repeat (first | refine yR ?_ | refine yK ?_ | refine yM ?_ | refine yB ?_ | refine yA ?_ | refine yS ?_ | refine yL ?_)
      refine qF ?_
      (repeat refine qb ?_); refine qh rfl (fun hc => ?_) (fun hc => ?_)
      rotate_left
      · cases hc
      (repeat refine qb ?_); refine qa ?_
      repeat (first | refine zR ?_ | refine zK ?_ | refine zM ?_ | refine zB ?_ | refine zA ?_ | refine zS ?_ | refine zL ?_)
      refine qc ?_
      (repeat refine qb ?_); refine qa ?_
      repeat (first | refine zR ?_ | refine zK ?_ | refine zM ?_ | refine zB ?_ | refine zA ?_ | refine zS ?_ | refine zL ?_)
      refine qf rfl (qo [(1000000, 1000000)] rfl rfl rfl rfl rfl rfl (rfail_h l (st.1 : Int) 0 7) rfl rfl rfl ?_)
      repeat (first | refine zR ?_ | refine zK ?_ | refine zM ?_ | refine zB ?_ | refine zA ?_ | refine zS ?_ | refine zL ?_)
      repeat (first | refine zR ?_ | refine zK ?_ | refine zM ?_ | refine zB ?_ | refine zA ?_ | refine zS ?_ | refine zL ?_)
      refine qc ?_
      (repeat refine qb ?_); refine qa ?_
      repeat (first | refine zR ?_ | refine zK ?_ | refine zM ?_ | refine zB ?_ | refine zA ?_ | refine zS ?_ | refine zL ?_)
      refine qc ?_
      (repeat refine qb ?_); refine qk ?_
      exact ⟨Or.inr rfl, _, _, [(1000000, 1000000)], Wk.refl _, rfl, rfl, rfl, rfl⟩
    · rw [if_neg hlt, show decide (n > ((l.length - a : Nat) : Int)) = false from decide_eq_false hlt]
      obtain ⟨m, rfl⟩ : ∃ m : Nat, n = m := ⟨n.toNat, by omega⟩
      repeat (first | refine yR ?_ | refine yK ?_ | refine yM ?_ | refine yB ?_ | refine yA ?_ | refine yS ?_ | refine yL ?_)
      refine qF ?_
      (repeat refine qb ?_); refine qh rfl (fun hc => ?_) (fun hc => ?_)
      · cases hc
      refine qu ?_
      (repeat refine qb ?_); refine qv [] [(0, true), (1, true), (2, true), (3, true), (4, true), (5, true), (6, true), (7, true), (8, true), (9, true), (10, true), (11, true), (12, true), (13, true), (14, true), (15, true), (16, true)] (by kernel_rfl) (by kernel_rfl) (by kernel_rfl) ?_
      repeat (first | refine yR ?_ | refine yK ?_ | refine yM ?_ | refine yB ?_ | refine yA ?_ | refine yS ?_ | refine yL ?_)
      rw [show IntKind.i64.wrap ((a : Int) + (m : Int)) = ((a + m : Nat) : Int) from IntWalk.i64_in _ (by omega)]
      refine qY ql rfl rfl rfl (by rw [ll]; omega) rfl ?_
      rw [show Int.toNat ((a + m : Nat) : Int) - Int.toNat (a : Int) = m by omega, Int.toNat_natCast, bR_drop, bR_take]
      refine swm_rdO rfl rfl (rdO_textP ql (b := (l.drop a).take m) rfl rfl rfl rfl rfl) rfl ?_
      repeat (first | refine yR ?_ | refine yK ?_ | refine yM ?_ | refine yB ?_ | refine yA ?_ | refine yS ?_ | refine yL ?_)
      refine qF ?_
      (repeat refine qb ?_); refine qa ?_
      repeat (first | refine zR ?_ | refine zK ?_ | refine zM ?_ | refine zB ?_ | refine zA ?_ | refine zS ?_ | refine zL ?_)
      rw [show IntKind.i64.wrap ((a : Int) + (m : Int)) = ((a + m : Nat) : Int) from IntWalk.i64_in _ (by omega)]
      repeat (first | refine zR ?_ | refine zK ?_ | refine zM ?_ | refine zB ?_ | refine zA ?_ | refine zS ?_ | refine zL ?_)
      refine qc ?_
      (repeat refine qb ?_); refine qa ?_
      repeat (first | refine zR ?_ | refine zK ?_ | refine zM ?_ | refine zB ?_ | refine zA ?_ | refine zS ?_ | refine zL ?_)
      refine qc ?_
      (repeat refine qb ?_); refine qk ?_
      rw [Int.toNat_natCast]
      exact ⟨Or.inr rfl, _, _, [(1000000, 1000000)], Wk.refl _, rfl, rfl, rfl, rfl⟩
theorem rget_h (l : Bs) (hl : l.length ≤ 1000) (st : Rdr) (ha : st.1 ≤ l.length) : zh Tryd.prog 28 [.ptr 1000000 0] (rfO 1000000 l st) (.p (.agg (getP l st).1.pv)) (rfO 1000000 l (getP l st).2) := by
  have HI := rin_h l hl st ha 1 5
  obtain ⟨h1, h2⟩ := partsP_le ha
  have HX := rrtext_h l hl (inP l st 1 5).2 h2 64
  have HN := rnum_h l hl (inP l st 1 5).2 h2
  have HF := rfail_h l (st.1 : Int) 0 7
  obtain ⟨r1, r2, r3⟩ := partsP_R64 (l := l) (st := st)
  have HR := refRight_h (qN l st).1 (by unfold reachBytes; omega)
  have eP : qN l st = if (inP l st 1 5).1 = 3 ∨ (inP l st 1 5).1 = 5 then (⟨(inP l st 1 5).1, 0, ⟨⟨(textP l (inP l st 1 5).2 64).1⟩⟩⟩, (textP l (inP l st 1 5).2 64).2) else (⟨(inP l st 1 5).1, (inP l (inP l st 1 5).2 lo64 hi64).1, ⟨⟨[]⟩⟩⟩, (inP l (inP l st 1 5).2 lo64 hi64).2) := rfl
  unfold getP
  generalize textP l (inP l st 1 5).2 64 = qt at *
  generalize inP l (inP l st 1 5).2 lo64 hi64 = qn at *
  generalize inP l st 1 5 = qi at *
  generalize qN l st = q at *
  obtain ⟨k, st1⟩ := qi
  obtain ⟨tx, st2⟩ := qt
  obtain ⟨nn, st3⟩ := qn
  simp only at *
  refine holdsC_of (T := TTab) ql Tryd.func28 (by kernel_rfl) rfl rfl rfl ?_
  (repeat refine qb ?_); refine qa ?_
  repeat (first | refine zR ?_ | refine zK ?_ | refine zM ?_ | refine zB ?_ | refine zA ?_ | refine zS ?_ | refine zL ?_)
  refine qc ?_
  (repeat refine qb ?_); refine qa ?_
  repeat (first | refine zR ?_ | refine zK ?_ | refine zM ?_ | refine zB ?_ | refine zA ?_ | refine zS ?_ | refine zL ?_)
  refine qc ?_
  (repeat refine qb ?_); refine qa ?_
  repeat (first | refine zR ?_ | refine zK ?_ | refine zM ?_ | refine zB ?_ | refine zA ?_ | refine zS ?_ | refine zL ?_)
  refine qf rfl (qo [(1000000, 1000000)] rfl rfl rfl rfl rfl rfl (HI) rfl rfl rfl ?_)
  repeat (first | refine zR ?_ | refine zK ?_ | refine zM ?_ | refine zB ?_ | refine zA ?_ | refine zS ?_ | refine zL ?_)
  repeat (first | refine zR ?_ | refine zK ?_ | refine zM ?_ | refine zB ?_ | refine zA ?_ | refine zS ?_ | refine zL ?_)
  refine qc ?_
  (repeat refine qb ?_)
  refine SW.mono (Q := fun e s => e = .normal ∧ Wk s ⟨43, [(0, .ptr 1000000 0), (2, .ptr 2 0), (3, .p (pI (st.1 : Int))), (4, .ptr 4 0), (19, .p (pB (decide (k = 3 ∨ k = 5))))], [(2, vCells noneV), (4, vCells ⟨k, 0, ⟨⟨[]⟩⟩⟩)] ++ rfO 1000000 l st1⟩) ?_ ?_
  · (repeat refine qb ?_); refine qa ?_
    repeat (first | refine zR ?_ | refine zK ?_ | refine zM ?_ | refine zB ?_ | refine zA ?_ | refine zS ?_ | refine zL ?_)
    by_cases h3 : k = 3
    · subst h3
      repeat (first | refine zR ?_ | refine zK ?_ | refine zM ?_ | refine zB ?_ | refine zA ?_ | refine zS ?_ | refine zL ?_)
      refine qc ?_
      exact ⟨rfl, qy [0, 2, 3, 4, 19] [(2, 2), (4, 4), (1000000, 1000000)] rfl rfl⟩
    · rw [show (k == 3) = false by simp [h3]]
      repeat (first | refine zR ?_ | refine zK ?_ | refine zM ?_ | refine zB ?_ | refine zA ?_ | refine zS ?_ | refine zL ?_)
      by_cases h5 : k = 5
      · subst h5
        repeat (first | refine zR ?_ | refine zK ?_ | refine zM ?_ | refine zB ?_ | refine zA ?_ | refine zS ?_ | refine zL ?_)
        refine qc ?_
        exact ⟨rfl, qy [0, 2, 3, 4, 19] [(2, 2), (4, 4), (1000000, 1000000)] rfl rfl⟩
      · rw [show (k == 5) = false by simp [h5], show decide (k = 3 ∨ k = 5) = false from decide_eq_false (by omega)]
        repeat (first | refine zR ?_ | refine zK ?_ | refine zM ?_ | refine zB ?_ | refine zA ?_ | refine zS ?_ | refine zL ?_)
        refine qc ?_
        exact ⟨rfl, qy [0, 2, 3, 4, 19] [(2, 2), (4, 4), (1000000, 1000000)] rfl rfl⟩
  rintro e s ⟨rfl, hw⟩
  refine SW.wk hw ?_
  (repeat refine qb ?_)
  refine SW.mono (Q := fun e s => e = .normal ∧ Wk s ⟨43, [(0, .ptr 1000000 0), (2, .ptr 2 0), (3, .p (pI (st.1 : Int))), (4, .ptr 4 0)], [(2, vCells noneV), (4, vCells q.1)] ++ rfO 1000000 l q.2⟩) ?_ ?_
  · by_cases h : k = 3 ∨ k = 5
    · rw [if_pos h] at eP
      subst eP
      rw [show decide (k = 3 ∨ k = 5) = true from decide_eq_true h]
      (repeat refine qb ?_); refine qh rfl (fun hc => ?_) (fun hc => ?_)
      rotate_left
      · cases hc
      (repeat refine qb ?_); refine qa ?_
      repeat (first | refine zR ?_ | refine zK ?_ | refine zM ?_ | refine zB ?_ | refine zA ?_ | refine zS ?_ | refine zL ?_)
      refine qf rfl (qo [(1000000, 1000000)] rfl rfl rfl rfl rfl rfl (HX) rfl rfl rfl ?_)
      repeat (first | refine zR ?_ | refine zK ?_ | refine zM ?_ | refine zB ?_ | refine zA ?_ | refine zS ?_ | refine zL ?_)
      repeat (first | refine zR ?_ | refine zK ?_ | refine zM ?_ | refine zB ?_ | refine zA ?_ | refine zS ?_ | refine zL ?_)
      refine qc ?_
      exact ⟨rfl, qy [0, 2, 3, 4] [(2, 2), (4, 4), (1000000, 1000000)] rfl rfl⟩
    · rw [if_neg h] at eP
      subst eP
      rw [show decide (k = 3 ∨ k = 5) = false from decide_eq_false h]
      (repeat refine qb ?_); refine qh rfl (fun hc => ?_) (fun hc => ?_)
      · cases hc
      (repeat refine qb ?_); refine qa ?_
      repeat (first | refine zR ?_ | refine zK ?_ | refine zM ?_ | refine zB ?_ | refine zA ?_ | refine zS ?_ | refine zL ?_)
      refine qf rfl (qo [(1000000, 1000000)] rfl rfl rfl rfl rfl rfl (HN) rfl rfl rfl ?_)
      repeat (first | refine zR ?_ | refine zK ?_ | refine zM ?_ | refine zB ?_ | refine zA ?_ | refine zS ?_ | refine zL ?_)
      repeat (first | refine zR ?_ | refine zK ?_ | refine zM ?_ | refine zB ?_ | refine zA ?_ | refine zS ?_ | refine zL ?_)
      refine qc ?_
      exact ⟨rfl, qy [0, 2, 3, 4] [(2, 2), (4, 4), (1000000, 1000000)] rfl rfl⟩
  rintro e s ⟨rfl, hw⟩
  refine SW.wk hw ?_
  obtain ⟨v, a, b⟩ := q
  simp only at *
  cases b with
  | true =>
    rw [if_pos rfl]
    (repeat refine qb ?_); refine qa ?_
    repeat (first | refine zR ?_ | refine zK ?_ | refine zM ?_ | refine zB ?_ | refine zA ?_ | refine zS ?_ | refine zL ?_)
    refine qc ?_
    (repeat refine qb ?_); refine qh rfl (fun hc => ?_) (fun hc => ?_)
    rotate_left
    · cases hc
    (repeat refine qb ?_); refine qa ?_
    repeat (first | refine zR ?_ | refine zK ?_ | refine zM ?_ | refine zB ?_ | refine zA ?_ | refine zS ?_ | refine zL ?_)
    refine qc ?_
    (repeat refine qb ?_); refine qk ?_
    exact ⟨Or.inr rfl, _, _, [(1000000, 1000000)], _, Wk.refl _, rfl, rfl, .refl _, rfl, rfl⟩
  | false =>
    rw [if_neg (by simp)]
    (repeat refine qb ?_); refine qa ?_
    repeat (first | refine zR ?_ | refine zK ?_ | refine zM ?_ | refine zB ?_ | refine zA ?_ | refine zS ?_ | refine zL ?_)
    refine qc ?_
    (repeat refine qb ?_); refine qh rfl (fun hc => ?_) (fun hc => ?_)
    · cases hc
    refine qu ?_
    (repeat refine qb ?_); refine qa ?_
    repeat (first | refine zR ?_ | refine zK ?_ | refine zM ?_ | refine zB ?_ | refine zA ?_ | refine zS ?_ | refine zL ?_)
    refine qf rfl (qd rfl rfl rfl rfl (HR) rfl rfl ?_)
    repeat (first | refine zR ?_ | refine zK ?_ | refine zM ?_ | refine zB ?_ | refine zA ?_ | refine zS ?_ | refine zL ?_)
    refine qc ?_
    cases hr : v.right with
    | true =>
      rw [if_pos rfl]
      (repeat refine qb ?_); refine qh rfl (fun hq => ?_) (fun hq => ?_)
      · cases hq
      refine qu ?_
      (repeat refine qb ?_); refine qa ?_
      repeat (first | refine zR ?_ | refine zK ?_ | refine zM ?_ | refine zB ?_ | refine zA ?_ | refine zS ?_ | refine zL ?_)
      refine qc ?_
      (repeat refine qb ?_); refine qk ?_
      exact ⟨Or.inr rfl, _, _, [(1000000, 1000000)], _, Wk.refl _, rfl, rfl, .refl _, rfl, rfl⟩
    | false =>
      rw [if_neg (by simp)]
      (repeat refine qb ?_); refine qh rfl (fun hq => ?_) (fun hq => ?_)
      rotate_left
      · cases hq
      (repeat refine qb ?_); refine qa ?_
      repeat (first | refine zR ?_ | refine zK ?_ | refine zM ?_ | refine zB ?_ | refine zA ?_ | refine zS ?_ | refine zL ?_)
      refine qc ?_
      (repeat refine qb ?_); refine qa ?_
      repeat (first | refine zR ?_ | refine zK ?_ | refine zM ?_ | refine zB ?_ | refine zA ?_ | refine zS ?_ | refine zL ?_)
      refine qf rfl (qo [(1000000, 1000000)] rfl rfl rfl rfl rfl rfl (HF) rfl rfl rfl ?_)
      repeat (first | refine zR ?_ | refine zK ?_ | refine zM ?_ | refine zB ?_ | refine zA ?_ | refine zS ?_ | refine zL ?_)
      repeat (first | refine zR ?_ | refine zK ?_ | refine zM ?_ | refine zB ?_ | refine zA ?_ | refine zS ?_ | refine zL ?_)
      refine qc ?_
      (repeat refine qb ?_); refine qa ?_
      repeat (first | refine zR ?_ | refine zK ?_ | refine zM ?_ | refine zB ?_ | refine zA ?_ | refine zS ?_ | refine zL ?_)
      refine qc ?_
      (repeat refine qb ?_); refine qk ?_
      exact ⟨Or.inr rfl, _, _, [(1000000, 1000000)], _, Wk.refl _, rfl, rfl, .refl _, rfl, rfl⟩
end Go.Proofs.YtghjfficeglmoaaDoor
namespace Go.Proofs.YtghjfficeglmoaaDoor
set_option linter.unusedVariables false
set_option linter.unusedSimpArgs false
open Go.RowKit
set_option maxHeartbeats 4000000
theorem getP_le {l : Bs} {st : Rdr} (h : st.1 ≤ l.length) : (getP l st).2.1 ≤ l.length := by
  have hp : (qN l st).2.1 ≤ l.length := by
    have h1 := inP_le (l := l) (st := st) (lo := 1) (hi := 5) h
    unfold qN
    split
    · have h2 := inP_le (l := l) (st := (inP l st 1 5).2) (lo := 0) (hi := 64) h1
      have h3 := inP_in (l := l) (st := (inP l st 1 5).2) (lo := 0) (hi := 64)
      simp only
      unfold textP
      split
      · exact h2
      · rename_i hb
        have := h3 (by simpa using hb)
        split
        · exact h1
        · simp only; omega
    · exact inP_le h1
  unfold getP
  split
  · exact hp
  · split
    · exact hp
    · exact h
theorem valReads_h (b : Bs) (hb : b.length ≤ reachBytes) (many : Int) (hm : R64 many) : Holds Tryd.prog 4 [bP b, pI many] (.p (pB true)) [] := by
  unfold reachBytes at hb
  have HW := within_h many 0 5 hm (by omega) (by omega) (by omega)
  have r0 := Int.emod_nonneg many (show (5 : Int) - 0 + 1 ≠ 0 by omega)
  have r1 := Int.emod_lt_of_pos many (show (0 : Int) < 5 - 0 + 1 by omega)
  obtain ⟨q, hq⟩ : ∃ q, q = 0 + many % (5 - 0 + 1) := ⟨_, rfl⟩
  rw [← hq] at HW
  refine qw (ts := [4]) Tryd.func4 (by kernel_rfl) rfl rfl rfl ?_
  (repeat refine qb ?_); refine qa ?_
  repeat (first | refine zR ?_ | refine zK ?_ | refine zM ?_ | refine zB ?_ | refine zA ?_ | refine zS ?_ | refine zL ?_)
  refine qc ?_
  (repeat refine qb ?_); refine qa ?_
  repeat (first | refine zR ?_ | refine zK ?_ | refine zM ?_ | refine zB ?_ | refine zA ?_ | refine zS ?_ | refine zL ?_)
  refine zk ql rfl rfl (by rw [zg]; dsimp only; split <;> omega) rfl ?_
  rw [show bR b = b.map (fun c => [pU c]) from rfl, slice_min (fun c => [pU c]) b 200 200 rfl]
  repeat (first | refine zR ?_ | refine zK ?_ | refine zM ?_ | refine zB ?_ | refine zA ?_ | refine zS ?_ | refine zL ?_)
  refine qc ?_
  refine SW.wk (qy [0, 1] [] rfl rfl) ?_
  have hl : (b.take 200).length ≤ 1000 := by simp; omega
  change SW _ _ _ ⟨61, [(0, .p (bP (b.take 200))), (1, .p (pI many))], []⟩
  generalize b.take 200 = l at *
  have HR := read_h l (by omega)
  (repeat refine qb ?_); refine qa ?_
  repeat (first | refine zR ?_ | refine zK ?_ | refine zM ?_ | refine zB ?_ | refine zA ?_ | refine zS ?_ | refine zL ?_)
  refine qf rfl (qT rfl rfl rfl rfl (HR) rfl rfl rfl ?_)
  repeat (first | refine zR ?_ | refine zK ?_ | refine zM ?_ | refine zB ?_ | refine zA ?_ | refine zS ?_ | refine zL ?_)
  repeat (first | refine zR ?_ | refine zK ?_ | refine zM ?_ | refine zB ?_ | refine zA ?_ | refine zS ?_ | refine zL ?_)
  refine qc ?_
  (repeat refine qb ?_); refine qa ?_
  repeat (first | refine zR ?_ | refine zK ?_ | refine zM ?_ | refine zB ?_ | refine zA ?_ | refine zS ?_ | refine zL ?_)
  refine qf rfl (act_ptrcmp ql rfl rfl rfl rfl rfl ?_)
  refine qc ?_
  (repeat refine qb ?_); refine qh rfl (fun hc2 => ?_) (fun hc2 => ?_)
  · cases hc2
  refine qu ?_
  (repeat refine qb ?_); refine qa ?_
  repeat (first | refine zR ?_ | refine zK ?_ | refine zM ?_ | refine zB ?_ | refine zA ?_ | refine zS ?_ | refine zL ?_)
  refine qf rfl (qd rfl rfl rfl rfl (HW) rfl rfl ?_)
  repeat (first | refine zR ?_ | refine zK ?_ | refine zM ?_ | refine zB ?_ | refine zA ?_ | refine zS ?_ | refine zL ?_)
  repeat (first | refine zR ?_ | refine zK ?_ | refine zM ?_ | refine zB ?_ | refine zA ?_ | refine zS ?_ | refine zL ?_)
  refine qc ?_
  (repeat refine qb ?_); refine qS ?_
  refine SW.wk (qy [5, 6, 7] [(17000, 17000), (19, 19)] rfl rfl) ?_
  refine sw_loop (fun m s => ∃ (j : Int) (st : Rdr), -1 ≤ j ∧ j ≤ 5 ∧ m = (j + 1).toNat ∧ st.1 ≤ l.length ∧ s = ⟨61, [(5, .ptr 17000 0), (6, .ptr 19 0), (7, .p (pI j))], rdO 17000 l st ++ rfO 19 l st⟩) (q + 1).toNat ⟨q, (0, false), by omega, by omega, rfl, Nat.zero_le _, rfl⟩ ?_
  rintro m s ⟨j, st, hj1, hj2, rfl, hst, rfl⟩
  (repeat refine qb ?_); refine qa ?_
  repeat (first | refine zR ?_ | refine zK ?_ | refine zM ?_ | refine zB ?_ | refine zA ?_ | refine zS ?_ | refine zL ?_)
  refine qc ?_
  (repeat refine qb ?_); refine qh rfl (fun hlt => ?_) (fun hlt => ?_)
  rotate_left
  · refine sw_exit ?_
    (repeat refine qb ?_); refine qa ?_
    repeat (first | refine zR ?_ | refine zK ?_ | refine zM ?_ | refine zB ?_ | refine zA ?_ | refine zS ?_ | refine zL ?_)
    refine qf rfl (qd rfl rfl rfl rfl (valRuns_h) rfl rfl ?_)
    repeat (first | refine zR ?_ | refine zK ?_ | refine zM ?_ | refine zB ?_ | refine zA ?_ | refine zS ?_ | refine zL ?_)
    repeat (first | refine zR ?_ | refine zK ?_ | refine zM ?_ | refine zB ?_ | refine zA ?_ | refine zS ?_ | refine zL ?_)
    refine qc ?_
    (repeat refine qb ?_); refine qk ?_
    exact fin_b rfl rfl
  have hj : 0 ≤ j := by simpa using hlt
  have hw : IntKind.i64.wrap (j - 1) = j - 1 := IntWalk.i64_in _ (by omega)
  refine qu ?_
  (repeat refine qb ?_); refine qS ?_
  have HG := vget_h l hl st hst
  have HX := rget_h l hl st hst
  have hle := getP_le hst
  generalize getP l st = g at *
  obtain ⟨v, a, b⟩ := g
  simp only at hle
  dsimp only [rdO, rfO] at HG HX
  have HB := wrong_h l (a, b)
  have HA := at_h l (a, b)
  dsimp only [rdO] at HA HB
  (repeat refine qb ?_); refine qa ?_
  repeat (first | refine zR ?_ | refine zK ?_ | refine zM ?_ | refine zB ?_ | refine zA ?_ | refine zS ?_ | refine zL ?_)
  refine qf rfl (qo [(17000, 1000000)] rfl rfl rfl rfl rfl rfl (HG) rfl rfl rfl ?_)
  repeat (first | refine zR ?_ | refine zK ?_ | refine zM ?_ | refine zB ?_ | refine zA ?_ | refine zS ?_ | refine zL ?_)
  repeat (first | refine zR ?_ | refine zK ?_ | refine zM ?_ | refine zB ?_ | refine zA ?_ | refine zS ?_ | refine zL ?_)
  refine qf rfl (qo [(19, 1000000)] rfl rfl rfl rfl rfl rfl (HX) rfl rfl rfl ?_)
  repeat (first | refine zR ?_ | refine zK ?_ | refine zM ?_ | refine zB ?_ | refine zA ?_ | refine zS ?_ | refine zL ?_)
  repeat (first | refine zR ?_ | refine zK ?_ | refine zM ?_ | refine zB ?_ | refine zA ?_ | refine zS ?_ | refine zL ?_)
  refine qc ?_
  (repeat refine qb ?_); refine qv [17000] [(0, true), (1, true), (2, true), (3, true), (4, true), (7, true), (8, true), (9, true), (10, true), (11, true), (5, false), (6, true), (12, true), (13, true), (14, true), (15, true), (16, false), (17, true), (18, true), (19, true), (21, true), (22, true), (23, true), (24, true), (20, false), (25, true), (26, true), (27, true)] (by kernel_rfl) (by kernel_rfl) (by kernel_rfl) ?_
  repeat (first | refine yR ?_ | refine yK ?_ | refine yM ?_ | refine yB ?_ | refine yA ?_ | refine yS ?_ | refine yL ?_)
  refine qY ql rfl rfl (opR_neV v v rfl rfl rfl rfl) rfl rfl ?_
  rw [sameV_refl]
  repeat (first | refine yR ?_ | refine yK ?_ | refine yM ?_ | refine yB ?_ | refine yA ?_ | refine yS ?_ | refine yL ?_)
  refine qG rfl rfl rfl (qo [(17000, 1000000)] rfl rfl rfl rfl rfl rfl (HB) rfl rfl rfl ?_)
  repeat (first | refine yR ?_ | refine yK ?_ | refine yM ?_ | refine yB ?_ | refine yA ?_ | refine yS ?_ | refine yL ?_)
  cases b with
  | true =>
    repeat (first | refine yR ?_ | refine yK ?_ | refine yM ?_ | refine yB ?_ | refine yA ?_ | refine yS ?_ | refine yL ?_)
    refine qG rfl rfl rfl (qo [(17000, 1000000)] rfl rfl rfl rfl rfl rfl (HB) rfl rfl rfl ?_)
    repeat (first | refine yR ?_ | refine yK ?_ | refine yM ?_ | refine yB ?_ | refine yA ?_ | refine yS ?_ | refine yL ?_)
    repeat (first | refine yR ?_ | refine yK ?_ | refine yM ?_ | refine yB ?_ | refine yA ?_ | refine yS ?_ | refine yL ?_)
    refine qF ?_
    (repeat refine qb ?_); refine qh rfl (fun hx => ?_) (fun hx => ?_)
    · cases hx
    refine qu ?_
    (repeat refine qb ?_); refine qa ?_
    repeat (first | refine zR ?_ | refine zK ?_ | refine zM ?_ | refine zB ?_ | refine zA ?_ | refine zS ?_ | refine zL ?_)
    refine qc ?_
    refine ⟨_, _, ?_, qy [5, 6, 7] [(17000, 17000), (19, 19)] rfl rfl, IntKind.i64.wrap (j - 1), (a, true), by rw [hw]; omega, by rw [hw]; omega, rfl, hle, rfl⟩
    rw [hw]; omega
  | false =>
    repeat (first | refine yR ?_ | refine yK ?_ | refine yM ?_ | refine yB ?_ | refine yA ?_ | refine yS ?_ | refine yL ?_)
    refine qG rfl rfl rfl (qo [(17000, 1000000)] rfl rfl rfl rfl rfl rfl (HB) rfl rfl rfl ?_)
    repeat (first | refine yR ?_ | refine yK ?_ | refine yM ?_ | refine yB ?_ | refine yA ?_ | refine yS ?_ | refine yL ?_)
    repeat (first | refine yR ?_ | refine yK ?_ | refine yM ?_ | refine yB ?_ | refine yA ?_ | refine yS ?_ | refine yL ?_)
    refine qG rfl rfl rfl (qo [(17000, 1000000)] rfl rfl rfl rfl rfl rfl (HA) rfl rfl rfl ?_)
    repeat (first | refine yR ?_ | refine yK ?_ | refine yM ?_ | refine yB ?_ | refine yA ?_ | refine yS ?_ | refine yL ?_)
    rw [show ((a : Int) != (a : Int)) = false by simp]
    repeat (first | refine yR ?_ | refine yK ?_ | refine yM ?_ | refine yB ?_ | refine yA ?_ | refine yS ?_ | refine yL ?_)
    refine qF ?_
    (repeat refine qb ?_); refine qh rfl (fun hx => ?_) (fun hx => ?_)
    · cases hx
    refine qu ?_
    (repeat refine qb ?_); refine qa ?_
    repeat (first | refine zR ?_ | refine zK ?_ | refine zM ?_ | refine zB ?_ | refine zA ?_ | refine zS ?_ | refine zL ?_)
    refine qc ?_
    refine ⟨_, _, ?_, qy [5, 6, 7] [(17000, 17000), (19, 19)] rfl rfl, IntKind.i64.wrap (j - 1), (a, false), by rw [hw]; omega, by rw [hw]; omega, rfl, hle, rfl⟩
    rw [hw]; omega
end Go.Proofs.YtghjfficeglmoaaDoor
namespace Go.Proofs.YtghjfficeglmoaaDoor
set_option linter.unusedVariables false
set_option linter.unusedSimpArgs false
open Go.RowKit
def rU8 : Rp UInt8 := fun _ cs c => cs = [.int .u8 (c.toNat : Int)]
theorem opens_u8 : Opens Tryd.prog 5 1 rU8 := ⟨by kernel_rfl, fun _ _ _ _ _ _ h _ => by
  obtain ⟨n, h1, _, h3⟩ := DataW.trod_int Tryd.underlying5 h
  have hb : 0 ≤ n ∧ n ≤ 255 := by simpa [Lit.wf, IntKind.min, IntKind.max, IntKind.signed, IntKind.bits] using h3
  refine ⟨UInt8.ofNat n.toNat, ?_⟩
  show _ = [Value.int .u8 _]
  rw [h1, UInt8.toNat_ofNat']
  congr 2
  omega⟩
theorem opens_bytes : Opens Tryd.prog 34 1 (rSl rU8 1) := opens_sl Tryd.underlying34 (by kernel_rfl) (by decide +kernel) (by omega) opens_u8
theorem byte_pv {w : World} {cs : List Value} {c : UInt8} (h : rU8 w cs c) : rPV (fun _ => True) w cs [pU c] := by
  cases h
  exact plain_rPV (xs := [.int .u8 (c.toNat : Int)]) (fun v hv => by simp at hv; subst hv; rfl)
theorem rel_bytes {w : World} {A : Option Addr} {l : List UInt8} {c : Nat} (h : SlAt rU8 1 w A l) (hl : l.length ≤ c) (hc : l.length ≤ reachBytes ∧ c ≤ maxLen) : RelP (fun _ => True) w (bP l) (.slice A l.length c) :=
  rel_sl h hl hc (fun _ => ⟨rfl, rfl⟩) fun x _ cs hcs => byte_pv hcs
end Go.Proofs.YtghjfficeglmoaaDoor
namespace Go.Proofs.YtghjfficeglmoaaDoor
set_option linter.unusedVariables false
set_option linter.unusedSimpArgs false
open Go.RowKit
inductive RelsP (w : World) : List PV → List Value → Prop
  | nil : RelsP w [] []
  | cons {x : PV} {u : Value} {xs : List PV} {us : List Value} (h : RelP (fun _ => True) w x u) (r : RelsP w xs us) : RelsP w (x :: xs) (u :: us)
theorem RelsP.get {w : World} {xs : List PV} {us : List Value} (h : RelsP w xs us) : us.length = xs.length ∧ ∀ (i : Nat) (s : PV) (u : Value), xs[i]? = some s → us[i]? = some u → RelP (fun _ => True) w s u := by
  induction h with
  | nil => exact ⟨rfl, fun i s u h => by simp at h⟩
  | cons h r ih =>
    refine ⟨by simp [ih.1], fun i s u hs hu => ?_⟩
    cases i with
    | zero => simp at hs hu; subst hs; subst hu; exact h
    | succ i => exact ih.2 i s u (by simpa using hs) (by simpa using hu)
theorem law_callsG {P : Program} {f : FuncId} {args : List PV} {us : List Value} {W : World} (hg : GlOk (entry W) fun _ => False) (H : Holds P f args (.p (.v (.bool true))) []) (hr : RelsP W args us) : Calls P f us.toArray W fun e w' => e = .returned (.bool true) ∧ Below W.heap.size W w' := by
  obtain ⟨h1, h2⟩ := hr.get
  refine (H.2 W (fun _ => False) us ⟨fun _ h => h.elim, hg⟩ h1 fun i s u hs hu => (h2 i s u hs hu).weak fun _ _ _ => fun h => h).mono fun e w' ⟨v, γ, he, hb, _, hv⟩ => ?_
  have := hv.v_inv
  subst this
  exact ⟨he, hb⟩
theorem rel_int {w : World} (k : IntKind) (n : Int) : RelP (fun _ => True) w (.v (.int k n)) (.int k n) := .v rfl
end Go.Proofs.YtghjfficeglmoaaDoor
namespace Go.Proofs.YtghjfficeglmoaaDoor
set_option linter.unusedSimpArgs false
open Go.ChangeShapes Go.WideShapes Go.ChangeAt Go.RowKit
set_option linter.unusedVariables false
theorem law_liftL {H : Type} {enc : TypeId × Value → H} {C : Checked} {os : Os} {f : FuncId} {fn : Func} {s : ChangeSpec} {bt : TypeId} {laid : List (String × DataW Unit)}
    (own : ownKnob C.prog.godebug = none) (started : os.Started) (noInit : C.prog.inits.idxOf? f = none) (hfn : C.prog.funcs[f]? = some fn)
    (witness : ∃ (w : World) (tape : Tape) (i : Input), w.os = os ∧ (w.forCall tape i).Shaped C.prog ∧ i.vars = [] ∧ Input.okWide C.prog (w.forCall tape i) .any w.heap.size f i ∧
      ((s.pre enc C.prog fn [] false (w.forCall tape i).memory i.args ∧ laidMetH C.prog laid (w.forCall tape i).memory) ∧ sizedMet enc C.prog fn (OpenSpec.ofChange s) false (w.forCall tape i).memory i.args) ∧ ({} : Assume).holds C.prog (lone (Frame.enter C.prog f i.args .normal) [] (w.forCall tape i)))
    (hl : laidOutB C.prog = true) (hts : ∀ t ∈ fn.params.toList, C.prog.readableRec t = true ∧ t < C.prog.types.size) (hvars : s.vars = []) (hvt : s.plain.varTypes C.prog = [])
    (hspec : ∀ (W : World) (args : Array Value) (ds : List (DataW H)) (ps : List MemPlace), DataW.TrodAll enc C.prog W 0 (fun _ => true) true fn.params.toList args.toList ds ps → s.fn H ds = { results := [.lit (.bool true)], args := ds })
    (hres : fn.resultTypes = #[bt]) (hbt : C.prog.underlying bt = some .bool)
    (walk : ∀ (W : World) (base : Nat) (args : Array Value) (ds : List (DataW H)) (ps : List MemPlace), laidMetH C.prog laid W →
      (∀ (j : Nat) t v, fn.params[j]? = some t → args[j]? = some v → Value.okWide C.prog W .any base t v) →
      DataW.TrodAll enc C.prog W 0 (fun _ => true) true fn.params.toList args.toList ds ps →
      (∀ n ∈ DataW.weightsEach C.prog fn.params.toList ds, n ≤ reachBytes) →
      Calls C.prog f args W fun e W' => e = .returned (.bool true) ∧ Below W.heap.size W W') :
    ReturnsInHanded {} C os f .any (fun w args => (s.pre enc C.prog fn [] false w args ∧ laidMetH C.prog laid w) ∧ sizedMet enc C.prog fn (OpenSpec.ofChange s) false w args) (s.post enc C.prog fn false true false false) := by
  refine returnsInHanded_of_change_and (X := fun w _ => laidMetH C.prog laid w) (fun _ _ _ hh h => h.of_heap hh) own started noInit hfn witness ?_
  intro W base args ds gs before hval hW _ hsz hL _
  have hlt : ∀ p ∈ before, p.block < W.heap.size := fun p hp => hW.lt p hp
  have hW0 := hW
  obtain ⟨p, q, hA, hV, rfl, hz, hn⟩ := hW0
  rw [hvars] at hV
  obtain ⟨rfl, rfl⟩ := trodVars_none hV
  have hsp := hspec W args ds p hA
  refine (walk W base args ds p hL hval hA ?_).mono fun e W' ⟨he, hb⟩ => ?_
  · intro n hn
    rw [hvt, List.append_nil, List.append_nil] at hsz
    exact of_decide_eq_true (List.all_eq_true.1 hsz n hn)
  · subst he
    refine ⟨_, rfl, ds, [], p ++ [], [], p, [], hW, ?_, ?_, ?_, World.keptBut_mono (fun x hx => ⟨hx, Or.inr (Or.inl (by simpa using hx))⟩) (hb.frame (· ∈ p ++ [])), fun h => by cases h⟩
    · rw [List.append_nil, hsp, hres]
      exact trodAll_mk1 (shut_bool hbt _)
    · rw [List.append_nil, hsp]
      exact trodAll_below hl hb hts (fun x hx => hlt x (by simpa using hx)) (fun x hx => by simpa using hlt x (by simpa using hx)) hA
    · rw [List.append_nil, hsp, hvars]
      rfl
theorem laidMet_tail {P : Program} {x : String × DataW Unit} {l : List (String × DataW Unit)} {W : World} (h : laidMet P (x :: l) W) : laidMet P l W := by
  obtain ⟨ps, ⟨g, t, cs, fuel, p, q, h1, h2, h3, h4, h5, h6⟩, hn, hb⟩ := h
  subst h6
  exact ⟨q, h5, (List.nodup_append.1 hn).2.1, fun b off hm => hb b off (List.mem_append_right _ hm)⟩
theorem block_of_tab {P : Program} {W : World} {name : String} {k : IntKind} {zs : List Int} {g : Nat} (h : Lib.TabIs P W name k zs) (hg : P.globalNamed name = some g) {us : List Value} (hu : us = zs.map fun z => Value.int k z) : g < W.heap.size ∧ ∃ ty m, W.heap[g]? = some (.cells us.toArray ty m) := by
  unfold Lib.TabIs World.var? at h
  rw [hg] at h
  simp only [Option.bind_some] at h
  split at h
  · rename_i cs ty m hb
    cases h
    exact ⟨(Array.getElem?_eq_some_iff.1 hb).1, ty, m, by rw [hb, hu]⟩
  · cases h
end Go.Proofs.YtghjfficeglmoaaDoor
namespace Go.Proofs.YtghjfficeglmoaaDoor
open Go.RowKit
theorem own_none : ownKnob Tryd.prog.godebug = none := by kernel_rfl
theorem gl_of_laid {rest : List (String × DataW Unit)} {W : World} (h : laidMet Tryd.prog (("math/bits.deBruijn32tab", Rows.laid_math_bits_deBruijn32tab) :: ("math/bits.deBruijn64tab", Rows.laid_math_bits_deBruijn64tab) :: ("internal/strconv.uint64pow10", Rows.laid_internal_strconv_uint64pow10) :: rest) W) : GlOk (entry W) fun _ => False := by
  have b0 := block_of_tab (g := 1) (us := [.int .u8 0, .int .u8 1, .int .u8 28, .int .u8 2, .int .u8 29, .int .u8 14, .int .u8 24, .int .u8 3, .int .u8 30, .int .u8 22, .int .u8 20, .int .u8 15, .int .u8 25, .int .u8 17, .int .u8 4, .int .u8 8, .int .u8 31, .int .u8 27, .int .u8 13, .int .u8 23, .int .u8 21, .int .u8 19, .int .u8 16, .int .u8 7, .int .u8 26, .int .u8 12, .int .u8 18, .int .u8 6, .int .u8 11, .int .u8 5, .int .u8 10, .int .u8 9]) (Lib.tabIs_of_head (k := .u8) (zs := [0, 1, 28, 2, 29, 14, 24, 3, 30, 22, 20, 15, 25, 17, 4, 8, 31, 27, 13, 23, 21, 19, 16, 7, 26, 12, 18, 6, 11, 5, 10, 9]) (g := 1) (t := 99) (e := 5) (n := 32) (by kernel_rfl) (by kernel_rfl) Tryd.underlying99 Tryd.underlying5 (by kernel_rfl) (by kernel_rfl) h) (by kernel_rfl) rfl
  have b1 := block_of_tab (g := 2) (us := [.int .u8 0, .int .u8 1, .int .u8 56, .int .u8 2, .int .u8 57, .int .u8 49, .int .u8 28, .int .u8 3, .int .u8 61, .int .u8 58, .int .u8 42, .int .u8 50, .int .u8 38, .int .u8 29, .int .u8 17, .int .u8 4, .int .u8 62, .int .u8 47, .int .u8 59, .int .u8 36, .int .u8 45, .int .u8 43, .int .u8 51, .int .u8 22, .int .u8 53, .int .u8 39, .int .u8 33, .int .u8 30, .int .u8 24, .int .u8 18, .int .u8 12, .int .u8 5, .int .u8 63, .int .u8 55, .int .u8 48, .int .u8 27, .int .u8 60, .int .u8 41, .int .u8 37, .int .u8 16, .int .u8 46, .int .u8 35, .int .u8 44, .int .u8 21, .int .u8 52, .int .u8 32, .int .u8 23, .int .u8 11, .int .u8 54, .int .u8 26, .int .u8 40, .int .u8 15, .int .u8 34, .int .u8 20, .int .u8 31, .int .u8 10, .int .u8 25, .int .u8 14, .int .u8 19, .int .u8 9, .int .u8 13, .int .u8 8, .int .u8 7, .int .u8 6]) (Lib.tabIs_of_head (k := .u8) (zs := [0, 1, 56, 2, 57, 49, 28, 3, 61, 58, 42, 50, 38, 29, 17, 4, 62, 47, 59, 36, 45, 43, 51, 22, 53, 39, 33, 30, 24, 18, 12, 5, 63, 55, 48, 27, 60, 41, 37, 16, 46, 35, 44, 21, 52, 32, 23, 11, 54, 26, 40, 15, 34, 20, 31, 10, 25, 14, 19, 9, 13, 8, 7, 6]) (g := 2) (t := 100) (e := 5) (n := 64) (by kernel_rfl) (by kernel_rfl) Tryd.underlying100 Tryd.underlying5 (by kernel_rfl) (by kernel_rfl) (laidMet_tail h)) (by kernel_rfl) rfl
  have b2 := block_of_tab (g := 0) (us := [.int .u64 1, .int .u64 10, .int .u64 100, .int .u64 1000, .int .u64 10000, .int .u64 100000, .int .u64 1000000, .int .u64 10000000, .int .u64 100000000, .int .u64 1000000000, .int .u64 10000000000, .int .u64 100000000000, .int .u64 1000000000000, .int .u64 10000000000000, .int .u64 100000000000000, .int .u64 1000000000000000, .int .u64 10000000000000000, .int .u64 100000000000000000, .int .u64 1000000000000000000, .int .u64 10000000000000000000]) (Lib.tabIs_of_head (k := .u64) (zs := [1, 10, 100, 1000, 10000, 100000, 1000000, 10000000, 100000000, 1000000000, 10000000000, 100000000000, 1000000000000, 10000000000000, 100000000000000, 1000000000000000, 10000000000000000, 100000000000000000, 1000000000000000000, 10000000000000000000]) (g := 0) (t := 94) (e := 69) (n := 20) (by kernel_rfl) (by kernel_rfl) Tryd.underlying94 Tryd.underlying69 (by kernel_rfl) (by kernel_rfl) (laidMet_tail (laidMet_tail h))) (by kernel_rfl) rfl
  refine ⟨?_, fun g hg => ?_⟩
  rotate_left
  · simp [ETab] at hg
  intro g us hg
  simp only [GTab, qj] at hg
  repeat' split at hg
  all_goals first | cases hg; done | skip
  all_goals (subst_vars; cases hg)
  all_goals first | exact ⟨b0.1, fun h => h, b0.2⟩ | exact ⟨b1.1, fun h => h, b1.2⟩ | exact ⟨b2.1, fun h => h, b2.2⟩
noncomputable def worldA (os : Os) : World :=
  let w0 := World.holding Tryd.prog os ⟨#[], #[], []⟩
  { w0 with heap := ((((((w0.heap).modify 1 fun | .cells _ t frozen => .cells #[.int .u8 0, .int .u8 1, .int .u8 28, .int .u8 2, .int .u8 29, .int .u8 14, .int .u8 24, .int .u8 3, .int .u8 30, .int .u8 22, .int .u8 20, .int .u8 15, .int .u8 25, .int .u8 17, .int .u8 4, .int .u8 8, .int .u8 31, .int .u8 27, .int .u8 13, .int .u8 23, .int .u8 21, .int .u8 19, .int .u8 16, .int .u8 7, .int .u8 26, .int .u8 12, .int .u8 18, .int .u8 6, .int .u8 11, .int .u8 5, .int .u8 10, .int .u8 9] t frozen | o => o)).modify 2 fun | .cells _ t frozen => .cells #[.int .u8 0, .int .u8 1, .int .u8 56, .int .u8 2, .int .u8 57, .int .u8 49, .int .u8 28, .int .u8 3, .int .u8 61, .int .u8 58, .int .u8 42, .int .u8 50, .int .u8 38, .int .u8 29, .int .u8 17, .int .u8 4, .int .u8 62, .int .u8 47, .int .u8 59, .int .u8 36, .int .u8 45, .int .u8 43, .int .u8 51, .int .u8 22, .int .u8 53, .int .u8 39, .int .u8 33, .int .u8 30, .int .u8 24, .int .u8 18, .int .u8 12, .int .u8 5, .int .u8 63, .int .u8 55, .int .u8 48, .int .u8 27, .int .u8 60, .int .u8 41, .int .u8 37, .int .u8 16, .int .u8 46, .int .u8 35, .int .u8 44, .int .u8 21, .int .u8 52, .int .u8 32, .int .u8 23, .int .u8 11, .int .u8 54, .int .u8 26, .int .u8 40, .int .u8 15, .int .u8 34, .int .u8 20, .int .u8 31, .int .u8 10, .int .u8 25, .int .u8 14, .int .u8 19, .int .u8 9, .int .u8 13, .int .u8 8, .int .u8 7, .int .u8 6] t frozen | o => o)).modify 0 fun | .cells _ t frozen => .cells #[.int .u64 1, .int .u64 10, .int .u64 100, .int .u64 1000, .int .u64 10000, .int .u64 100000, .int .u64 1000000, .int .u64 10000000, .int .u64 100000000, .int .u64 1000000000, .int .u64 10000000000, .int .u64 100000000000, .int .u64 1000000000000, .int .u64 10000000000000, .int .u64 100000000000000, .int .u64 1000000000000000, .int .u64 10000000000000000, .int .u64 100000000000000000, .int .u64 1000000000000000000, .int .u64 10000000000000000000] t frozen | o => o) }
theorem worldA_met (os : Os) (args : Array Value) : laidMet Tryd.prog [("math/bits.deBruijn32tab", Rows.laid_math_bits_deBruijn32tab), ("math/bits.deBruijn64tab", Rows.laid_math_bits_deBruijn64tab), ("internal/strconv.uint64pow10", Rows.laid_internal_strconv_uint64pow10)] ((worldA os).forCall (fun _ _ => 0) ⟨#[], args, []⟩).memory :=
  laidMet_of_run' 100 (by kernel_rfl) (by kernel_rfl)
end Go.Proofs.YtghjfficeglmoaaDoor
