/-
  Layer 12's laws: what they make their expressions with, by shades.
-/
import Derived.Test.YtjpcchipejmocaaSh
import Derived.Test.YtjpcchipejmocaaExV
import Derived.Test.YtjpcchipejmocaaExT
import Derived.Test.YtjpcchipejmocaaExprRuns
import Derived.Test.YtjpcchipejmocaaWithin
namespace Go.Proofs.Ytjpcchipejmocaa
open Go.RowKit
set_option maxHeartbeats 1000000
theorem num_h (n : Int) : Holds Try.prog 15 [pI n] (.p (.agg (numV n).pv)) [] := by
  refine .ofW ?_
  refine holdsC_of (T := TTab) ttab_ok Try.func15 (by kernel_rfl) rfl rfl rfl ?_
  (repeat refine sw_seq ?_); refine sw_region ?_
  repeat (first | refine sR (h := ?_) | refine sK (h := ?_) | refine sT (h := aM (h := ?_)) | refine sT (h := aB (h := ?_)) | refine sT (h := aA (h := ?_)) | refine sT (h := aS (h := ?_)) | refine sT (h := aL (h := ?_)))
  refine swt_nil ?_
  (repeat refine sw_seq ?_); refine sw_region ?_
  repeat (first | refine sR (h := ?_) | refine sK (h := ?_) | refine sT (h := aM (h := ?_)) | refine sT (h := aB (h := ?_)) | refine sT (h := aA (h := ?_)) | refine sT (h := aS (h := ?_)) | refine sT (h := aL (h := ?_)))
  refine swt_nil ?_
  (repeat refine sw_seq ?_); refine sw_ret ?_
  exact ⟨Or.inr rfl, _, _, [], _, Wk.refl _, rfl, rfl, .refl _, rfl, rfl⟩
theorem lit_h (v : Val) : Holds Try.prog 14 [.agg v.pv] (.p (.agg (litN v).pv)) [] := by
  refine .ofW ?_
  refine holdsC_of (T := TTab) ttab_ok Try.func14 (by kernel_rfl) rfl rfl rfl ?_
  (repeat refine sw_seq ?_); refine sw_region ?_
  repeat (first | refine sR (h := ?_) | refine sK (h := ?_) | refine sT (h := aM (h := ?_)) | refine sT (h := aB (h := ?_)) | refine sT (h := aA (h := ?_)) | refine sT (h := aS (h := ?_)) | refine sT (h := aL (h := ?_)))
  refine swt_nil ?_
  (repeat refine sw_seq ?_); refine sw_region ?_
  repeat (first | refine sR (h := ?_) | refine sK (h := ?_) | refine sT (h := aM (h := ?_)) | refine sT (h := aB (h := ?_)) | refine sT (h := aA (h := ?_)) | refine sT (h := aS (h := ?_)) | refine sT (h := aL (h := ?_)))
  refine swt_nil ?_
  (repeat refine sw_seq ?_); refine sw_ret ?_
  exact ⟨Or.inr rfl, _, _, [], _, Wk.refl _, rfl, rfl, .refl _, rfl, rfl⟩
theorem op_h (n : Int) : Holds Try.prog 16 [pI n] (.p (.agg (nOpE n).pv)) [] := by
  refine .ofW ?_
  refine holdsC_of (T := TTab) ttab_ok Try.func16 (by kernel_rfl) rfl rfl rfl ?_
  (repeat refine sw_seq ?_); refine sw_region ?_
  repeat (first | refine sR (h := ?_) | refine sK (h := ?_) | refine sT (h := aM (h := ?_)) | refine sT (h := aB (h := ?_)) | refine sT (h := aA (h := ?_)) | refine sT (h := aS (h := ?_)) | refine sT (h := aL (h := ?_)))
  refine swt_nil ?_
  (repeat refine sw_seq ?_); refine sw_region ?_
  repeat (first | refine sR (h := ?_) | refine sK (h := ?_) | refine sT (h := aM (h := ?_)) | refine sT (h := aB (h := ?_)) | refine sT (h := aA (h := ?_)) | refine sT (h := aS (h := ?_)) | refine sT (h := aL (h := ?_)))
  refine swt_nil ?_
  (repeat refine sw_seq ?_); refine sw_ret ?_
  exact ⟨Or.inr rfl, _, _, [], _, Wk.refl _, rfl, rfl, .refl _, rfl, rfl⟩
theorem attrN_h (c : Int) (s : ByteArray) : Holds Try.prog 25 [pI c, pS s] (.p (.agg (atN c s).pv)) [] := by
  refine .ofW ?_
  refine holdsC_of (T := TTab) ttab_ok Try.func25 (by kernel_rfl) rfl rfl rfl ?_
  (repeat refine sw_seq ?_); refine sw_region ?_
  repeat (first | refine sR (h := ?_) | refine sK (h := ?_) | refine sT (h := aM (h := ?_)) | refine sT (h := aB (h := ?_)) | refine sT (h := aA (h := ?_)) | refine sT (h := aS (h := ?_)) | refine sT (h := aL (h := ?_)))
  refine swt_nil ?_
  (repeat refine sw_seq ?_); refine sw_region ?_
  repeat (first | refine sR (h := ?_) | refine sK (h := ?_) | refine sT (h := aM (h := ?_)) | refine sT (h := aB (h := ?_)) | refine sT (h := aA (h := ?_)) | refine sT (h := aS (h := ?_)) | refine sT (h := aL (h := ?_)))
  refine swt_nil ?_
  (repeat refine sw_seq ?_); refine sw_ret ?_
  exact ⟨Or.inr rfl, _, _, [], _, Wk.refl _, rfl, rfl, .refl _, rfl, rfl⟩
theorem truthV_h (b : Bool) : Holds Try.prog 18 [pB b] (.p (.agg (truthS b).pv)) [] := by
  refine .ofW ?_
  refine holdsC_of (T := TTab) ttab_ok Try.func18 (by kernel_rfl) rfl rfl rfl ?_
  (repeat refine sw_seq ?_); refine sw_region ?_
  repeat (first | refine sR (h := ?_) | refine sK (h := ?_) | refine sT (h := aM (h := ?_)) | refine sT (h := aB (h := ?_)) | refine sT (h := aA (h := ?_)) | refine sT (h := aS (h := ?_)) | refine sT (h := aL (h := ?_)))
  refine swt_nil ?_
  (repeat refine sw_seq ?_); refine sw_region ?_
  repeat (first | refine sR (h := ?_) | refine sK (h := ?_) | refine sT (h := aM (h := ?_)) | refine sT (h := aB (h := ?_)) | refine sT (h := aA (h := ?_)) | refine sT (h := aS (h := ?_)) | refine sT (h := aL (h := ?_)))
  refine swt_nil ?_
  cases b with
  | true =>
    (repeat refine sw_seq ?_); refine sw_cond rfl (fun h => ?_) (fun h => ?_)
    · (repeat refine sw_seq ?_); refine sw_region ?_
      repeat (first | refine sR (h := ?_) | refine sK (h := ?_) | refine sT (h := aM (h := ?_)) | refine sT (h := aB (h := ?_)) | refine sT (h := aA (h := ?_)) | refine sT (h := aS (h := ?_)) | refine sT (h := aL (h := ?_)))
      refine swt_nil ?_
      (repeat refine sw_seq ?_); refine sw_ret ?_
      exact ⟨Or.inr rfl, _, _, [], _, Wk.refl _, rfl, rfl, .refl _, rfl, rfl⟩
    · cases h
  | false =>
    (repeat refine sw_seq ?_); refine sw_cond rfl (fun h => ?_) (fun h => ?_)
    · cases h
    · refine sw_skip ?_
      (repeat refine sw_seq ?_); refine sw_region ?_
      repeat (first | refine sR (h := ?_) | refine sK (h := ?_) | refine sT (h := aM (h := ?_)) | refine sT (h := aB (h := ?_)) | refine sT (h := aA (h := ?_)) | refine sT (h := aS (h := ?_)) | refine sT (h := aL (h := ?_)))
      refine swt_nil ?_
      (repeat refine sw_seq ?_); refine sw_ret ?_
      exact ⟨Or.inr rfl, _, _, [], _, Wk.refl _, rfl, rfl, .refl _, rfl, rfl⟩
theorem numV_fit {n : Int} (h : R64 n) : (numV n).Fit := num_fit h
theorem litN_fit {v : Val} (h : v.Fit) : (litN v).Fit := ⟨⟨by show _ ≤ (1 : Int); omega, by show (1 : Int) ≤ _; omega⟩, h, ⟨⟨by show _ ≤ (0 : Int); omega, by show (0 : Int) ≤ _; omega⟩, by show (⟨#[]⟩ : ByteArray).size ≤ reachBytes; decide⟩⟩
theorem nOpE_fit {n : Int} (h : 0 ≤ n ∧ n ≤ 100) : (nOpE n).Fit := ⟨⟨by show _ ≤ n; omega, by show n ≤ _; omega⟩, noVal_fit, ⟨⟨by show _ ≤ (0 : Int); omega, by show (0 : Int) ≤ _; omega⟩, by show (⟨#[]⟩ : ByteArray).size ≤ reachBytes; decide⟩⟩
theorem atN_fit {c : Int} {s : ByteArray} (h : 0 ≤ c ∧ c ≤ 100) (hs : s.size ≤ reachBytes) : (atN c s).Fit := ⟨⟨by show _ ≤ (2 : Int); omega, by show (2 : Int) ≤ _; omega⟩, noVal_fit, ⟨⟨by show _ ≤ c; omega, by show c ≤ _; omega⟩, hs⟩⟩
theorem valueN_h (l : List Nod) (hf : ∀ x ∈ l, x.Fit) {r : Val × Int} (h : valueS l [] = r) : Holds Try.prog 17 [nodsP l, .v (.slice none 0 0)] (.tup [.p (.agg r.1.pv), .p (pI r.2)]) [] := by
  subst h
  exact (value_h l [] hf (by simp) (Nat.zero_le _) (by simp)).cv (.cons (.refl _) (.cons (.nil 3) .nil))
theorem eqL_val (x y : Val) : eqL x.pv y.pv = some (sameV x y) := by
  have h : eqL x.pv y.pv = some ((x.kind == y.kind) && ((x.n == y.n) && ((x.s.toList == y.s.toList) && true))) := rfl
  rw [h, beq_bytes2, Bool.and_true]
  congr 1
  rw [Bool.eq_iff_iff]
  simp [sameV, and_assoc]
theorem opR_eqV {T : TT} {K : List Nat} {st : St} {o : Op} {t t' : TypeId} {a b : Operand} (x y : Val) (ho : o = .binOp .eql t a b t') {n m : Nat} {d : Ty} {z : List Value} (ht : lk t T = some ⟨n, m, d, z, true⟩) (ha : evS st a = some (.p (.agg x.pv))) (hb : evS st b = some (.p (.agg y.pv))) : opR T K st o = some (typedL x.pv z = true, .p (pB (sameV x y))) := by
  subst ho
  show rBin T .eql t (evS st a) (evS st b) = _
  rw [ha, hb]
  unfold rBin
  simp only [ht, eqL_val]
theorem opR_neV {T : TT} {K : List Nat} {st : St} {o : Op} {t t' : TypeId} {a b : Operand} (x y : Val) (ho : o = .binOp .neq t a b t') {n m : Nat} {d : Ty} {z : List Value} (ht : lk t T = some ⟨n, m, d, z, true⟩) (ha : evS st a = some (.p (.agg x.pv))) (hb : evS st b = some (.p (.agg y.pv))) : opR T K st o = some (typedL x.pv z = true, .p (pB (!sameV x y))) := by
  subst ho
  show rBin T .neq t (evS st a) (evS st b) = _
  rw [ha, hb]
  unfold rBin
  simp only [ht, eqL_val]
theorem sameV_refl (x : Val) : sameV x x = true := by simp [sameV]
end Go.Proofs.Ytjpcchipejmocaa
