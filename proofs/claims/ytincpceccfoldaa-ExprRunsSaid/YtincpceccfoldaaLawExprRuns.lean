/-
  The statement ExprRuns: for every input the call returns true, and each argument reads behind it as before.
-/
import Derived.Test.YtincpceccfoldaaExprRuns
import Derived.Test.YtincpceccfoldaaLawKit
import Derived.Test.YtincpceccfoldaaData
namespace Go.Proofs.Ytincpceccfoldaa
open Go.ChangeShapes Go.WideShapes Go.ChangeAt Go.RowKit
set_option linter.unusedVariables false
set_option maxRecDepth 100000
theorem exprRuns_lifted (os : Os) (started : os.Started) (H : Type) (enc : TypeId × Value → H) :
    ReturnsInHanded {} Try.checked os 11 .any (Rows.exprRunsSpec.pre6 enc Try.prog Try.f11 Rows.exprRunsRow.domain false) (Rows.exprRunsSpec.post enc Try.prog Try.f11 false true false false) := by
  refine law_lift (C := Try.checked) (bt := 4) (by kernel_rfl) started (by kernel_rfl) Try.func11 (ChangeSpec.witness6 (enc := enc) (C := Try.checked) false ⟨#[], #[], []⟩ 8 (by kernel_rfl) (by kernel_rfl) (by kernel_rfl) (by kernel_rfl)) (by kernel_rfl) ?_ rfl rfl ?_ (by kernel_rfl) Try.underlying4 ?_
  · intro t ht
    rw [Try.params11] at ht; cases ht
  · intro W args ds ps hA
    rw [Try.params11] at hA
    obtain ⟨_, rfl, rfl⟩ := trodAll_nil hA
    rfl
  · intro W base args ds ps hval hA hw
    rw [Try.params11] at hA hval hw
    obtain ⟨hargs, rfl, rfl⟩ := trodAll_nil hA
    obtain rfl : args = #[] := by cases args; simp_all
    exact law_calls exprRuns_h .nil
theorem exprRuns_proved : Rows.ExprRunsSaid :=
  OpenClaim.holds_of_wide 11 Try.f11 rfl rfl rfl rfl rfl rfl rfl ⟨rfl, rfl, rfl, rfl, rfl⟩ rfl rfl rfl rfl rfl (by kernel_rfl) Try.func11 (by kernel_rfl)
    (of_decide_eq_true (by kernel_rfl)) (by unfold Func.isWrapper; first | (rw [if_pos (by decide +kernel)]; kernel_rfl) | (rw [if_neg (by decide +kernel)]; exact ⟨rfl, rfl⟩))
    (fun os started H enc _ => exprRuns_lifted os started H enc)
#print axioms exprRuns_proved
end Go.Proofs.Ytincpceccfoldaa
