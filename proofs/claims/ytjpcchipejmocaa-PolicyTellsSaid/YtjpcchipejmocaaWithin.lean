/-
  bailiffbook.Within, by shades; a slice cut to its first few.
-/
import Derived.Test.YtjpcchipejmocaaSh
import Derived.Test.YtjpcchipejmocaaValH
namespace Go.Proofs.Ytjpcchipejmocaa
set_option linter.unusedVariables false
set_option linter.unusedSimpArgs false
open Go.RowKit
set_option maxHeartbeats 1000000
theorem within_h (n lo hi : Int) (hn : R64 n) (h1 : 0 ≤ lo) (h2 : lo ≤ hi) (h3 : hi ≤ 4611686018427387904) : Holds Try.prog 13 [pI n, pI lo, pI hi] (.p (pI (lo + n % (hi - lo + 1)))) [] := by
  obtain ⟨hn, hn'⟩ := hn
  have r0 := Int.emod_nonneg n (show hi - lo + 1 ≠ 0 by omega)
  have r1 := Int.emod_lt_of_pos n (show 0 < hi - lo + 1 by omega)
  have e : (n.tmod (hi - lo + 1) = n % (hi - lo + 1) ∧ 0 ≤ n % (hi - lo + 1)) ∨ (n.tmod (hi - lo + 1) = n % (hi - lo + 1) - (hi - lo + 1) ∧ n % (hi - lo + 1) - (hi - lo + 1) < 0) := by
    rw [Int.tmod_eq_emod]
    have hab : ((hi - lo + 1).natAbs : Int) = hi - lo + 1 := by omega
    split
    · left; omega
    · right; omega
  generalize hr : n % (hi - lo + 1) = r at *
  have w1 : IntKind.i64.wrap (IntKind.i64.wrap (hi - lo) + 1) = hi - lo + 1 := by
    rw [IntWalk.i64_in (hi - lo) (by omega), IntWalk.i64_in _ (by omega)]
  refine holds_of (ts := [6]) Try.func13 (by kernel_rfl) rfl rfl rfl ?_
  (repeat refine sw_seq ?_); refine sw_region ?_
  repeat (first | refine sR (h := ?_) | refine sK (h := ?_) | refine sT (h := aM (h := ?_)) | refine sT (h := aB (h := ?_)) | refine sT (h := aA (h := ?_)) | refine sT (h := aS (h := ?_)) | refine sT (h := aL (h := ?_)))
  refine swt_nil ?_
  (repeat refine sw_seq ?_); refine sw_region ?_
  repeat (first | refine sR (h := ?_) | refine sK (h := ?_) | refine sT (h := aM (h := ?_)) | refine sT (h := aB (h := ?_)) | refine sT (h := aA (h := ?_)) | refine sT (h := aS (h := ?_)) | refine sT (h := aL (h := ?_)))
  rw [w1]
  refine swt_read ttab_ok rfl rfl (by omega) rfl ?_
  repeat (first | refine sR (h := ?_) | refine sK (h := ?_) | refine sT (h := aM (h := ?_)) | refine sT (h := aB (h := ?_)) | refine sT (h := aA (h := ?_)) | refine sT (h := aS (h := ?_)) | refine sT (h := aL (h := ?_)))
  refine swt_nil ?_
  (repeat refine sw_seq ?_); refine sw_region ?_
  repeat (first | refine sR (h := ?_) | refine sK (h := ?_) | refine sT (h := aM (h := ?_)) | refine sT (h := aB (h := ?_)) | refine sT (h := aA (h := ?_)) | refine sT (h := aS (h := ?_)) | refine sT (h := aL (h := ?_)))
  refine swt_nil ?_
  (repeat refine sw_seq ?_); refine sw_cond rfl (fun h => ?_) (fun h => ?_)
  · rcases e with ⟨e, hneg⟩ | ⟨e, hneg⟩
    · rw [e] at h; simp at h; omega
    · (repeat refine sw_seq ?_); refine sw_region ?_
      repeat (first | refine sR (h := ?_) | refine sK (h := ?_) | refine sT (h := aM (h := ?_)) | refine sT (h := aB (h := ?_)) | refine sT (h := aA (h := ?_)) | refine sT (h := aS (h := ?_)) | refine sT (h := aL (h := ?_)))
      refine swt_nil ?_
      (repeat refine sw_seq ?_); refine sw_region ?_
      repeat (first | refine sR (h := ?_) | refine sK (h := ?_) | refine sT (h := aM (h := ?_)) | refine sT (h := aB (h := ?_)) | refine sT (h := aA (h := ?_)) | refine sT (h := aS (h := ?_)) | refine sT (h := aL (h := ?_)))
      refine swt_nil ?_
      (repeat refine sw_seq ?_); refine sw_ret ?_
      refine fin_i rfl ?_
      rw [e, IntWalk.i64_in (r - (hi - lo + 1) + hi) (by omega), IntWalk.i64_in (r - (hi - lo + 1) + hi - lo) (by omega), IntWalk.i64_in (r - (hi - lo + 1) + hi - lo + 1) (by omega), IntWalk.i64_in _ (by omega)]
      omega
  · rcases e with ⟨e, hneg⟩ | ⟨e, hneg⟩
    · refine sw_skip ?_
      (repeat refine sw_seq ?_); refine sw_region ?_
      repeat (first | refine sR (h := ?_) | refine sK (h := ?_) | refine sT (h := aM (h := ?_)) | refine sT (h := aB (h := ?_)) | refine sT (h := aA (h := ?_)) | refine sT (h := aS (h := ?_)) | refine sT (h := aL (h := ?_)))
      refine swt_nil ?_
      (repeat refine sw_seq ?_); refine sw_ret ?_
      refine fin_i rfl ?_
      rw [e, IntWalk.i64_in _ (by omega)]
    · rw [e] at h; simp at h; omega
theorem slice_min {α : Type} (f : α → List PV) (l : List α) (N : Int) (n : Nat) (hN : N = n) : ((l.map f).drop (Int.toNat 0)).take (Int.toNat (if N < (l.map f).length then N else (l.map f).length) - Int.toNat 0) = (l.take n).map f := by
  subst hN
  simp only [List.length_map, Int.toNat_zero, List.drop_zero, Nat.sub_zero]
  rw [List.map_take]
  split
  · rfl
  · rw [List.take_of_length_le (by simp), List.take_of_length_le (by simp; omega)]
end Go.Proofs.Ytjpcchipejmocaa
