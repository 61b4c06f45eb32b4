/-
  The statement PolicyRuns: for every input the call returns true, and each argument reads behind it as before.
-/
import Derived.Test.YtincpceccfoldaaPolRuns
import Derived.Test.YtincpceccfoldaaLawKit
import Derived.Test.YtincpceccfoldaaData
namespace Go.Proofs.Ytincpceccfoldaa
open Go.ChangeShapes Go.WideShapes Go.ChangeAt Go.RowKit
set_option linter.unusedVariables false
set_option maxRecDepth 100000
theorem policyRuns_lifted (os : Os) (started : os.Started) (H : Type) (enc : TypeId × Value → H) :
    ReturnsInHanded {} Try.checked os 3 .any (Rows.policyRunsSpec.pre6 enc Try.prog Try.f3 Rows.policyRunsRow.domain false) (Rows.policyRunsSpec.post enc Try.prog Try.f3 false true false false) := by
  refine law_lift (C := Try.checked) (bt := 4) (by kernel_rfl) started (by kernel_rfl) Try.func3 (ChangeSpec.witness6 (enc := enc) (C := Try.checked) false ⟨#[], #[], []⟩ 8 (by kernel_rfl) (by kernel_rfl) (by kernel_rfl) (by kernel_rfl)) (by kernel_rfl) ?_ rfl rfl ?_ (by kernel_rfl) Try.underlying4 ?_
  · intro t ht
    rw [Try.params3] at ht; cases ht
  · intro W args ds ps hA
    rw [Try.params3] at hA
    obtain ⟨_, rfl, rfl⟩ := trodAll_nil hA
    rfl
  · intro W base args ds ps hval hA hw
    rw [Try.params3] at hA hval hw
    obtain ⟨hargs, rfl, rfl⟩ := trodAll_nil hA
    obtain rfl : args = #[] := by cases args; simp_all
    exact law_calls polRuns_h .nil
theorem policyRuns_proved : Rows.PolicyRunsSaid :=
  OpenClaim.holds_of_wide 3 Try.f3 rfl rfl rfl rfl rfl rfl rfl ⟨rfl, rfl, rfl, rfl, rfl⟩ rfl rfl rfl rfl rfl (by kernel_rfl) Try.func3 (by kernel_rfl)
    (of_decide_eq_true (by kernel_rfl)) (by unfold Func.isWrapper; first | (rw [if_pos (by decide +kernel)]; kernel_rfl) | (rw [if_neg (by decide +kernel)]; exact ⟨rfl, rfl⟩))
    (fun os started H enc _ => policyRuns_lifted os started H enc)
#print axioms policyRuns_proved
end Go.Proofs.Ytincpceccfoldaa
