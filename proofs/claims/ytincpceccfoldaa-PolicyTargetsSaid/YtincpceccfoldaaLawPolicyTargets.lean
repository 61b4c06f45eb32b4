/-
  The statement PolicyTargets: for every input the call returns true, and each argument reads behind it as before.
-/
import Derived.Test.YtincpceccfoldaaPolTargets
import Derived.Test.YtincpceccfoldaaLawKit
import Derived.Test.YtincpceccfoldaaData3
namespace Go.Proofs.Ytincpceccfoldaa
open Go.ChangeShapes Go.WideShapes Go.ChangeAt Go.RowKit
set_option linter.unusedVariables false
set_option maxRecDepth 100000
theorem policyTargets_lifted (os : Os) (started : os.Started) (H : Type) (enc : TypeId × Value → H) :
    ReturnsInHanded {} Try.checked os 8 .any (Rows.policyTargetsSpec.pre6 enc Try.prog Try.f8 Rows.policyTargetsRow.domain false) (Rows.policyTargetsSpec.post enc Try.prog Try.f8 false true false false) := by
  refine law_lift (C := Try.checked) (bt := 4) (by kernel_rfl) started (by kernel_rfl) Try.func8 (ChangeSpec.witness6 (enc := enc) (C := Try.checked) false ⟨#[], #[.slice none 0 0, .slice none 0 0], []⟩ 8 (by kernel_rfl) (by kernel_rfl) (by kernel_rfl) (by kernel_rfl)) (by kernel_rfl) ?_ rfl rfl ?_ (by kernel_rfl) Try.underlying4 ?_
  · intro t ht
    rw [Try.params8] at ht
    simp only [List.mem_cons, List.not_mem_nil, or_false] at ht
    rcases ht with rfl | rfl
    all_goals exact ⟨by kernel_rfl, of_decide_eq_true (by kernel_rfl)⟩
  · intro W args ds ps hA
    rw [Try.params8] at hA
    obtain ⟨v0, vs0, d0, ds0, p0, q0, _, rfl, rfl, h0, r0⟩ := trodAll_cons hA
    obtain ⟨v1, vs1, d1, ds1, p1, q1, _, rfl, rfl, h1, r1⟩ := trodAll_cons r0
    obtain ⟨_, rfl, rfl⟩ := trodAll_nil r1
    rfl
  · intro W base args ds ps hval hA hw
    rw [Try.params8] at hA hval hw
    obtain ⟨v0, vs0, d0, ds0, p0, q0, hargs, rfl, rfl, h0, r0⟩ := trodAll_cons hA
    obtain ⟨v1, vs1, d1, ds1, p1, q1, rfl, rfl, rfl, h1, r1⟩ := trodAll_cons r0
    obtain ⟨rfl, rfl, rfl⟩ := trodAll_nil r1
    obtain rfl : args = #[v0, v1] := by cases args; simp_all
    obtain ⟨t, At, ct, rfl, ht, ct', st⟩ := arg_sl opens_tar Try.underlying29 (hval 0 29 v0 rfl rfl) h0 (fun n hn => hw n (DataW.weights_mem_each (j := 0) rfl rfl n hn))
    obtain ⟨u, Au, cu, rfl, hu, cu', su⟩ := arg_sl opens_tar Try.underlying29 (hval 1 29 v1 rfl rfl) h1 (fun n hn => hw n (DataW.weights_mem_each (j := 1) rfl rfl n hn))
    exact law_calls (polTargets_h t u (tgt_fit st) (tgt_fit su)) (.cons (tgt_rel st ht ct') (.cons (tgt_rel su hu cu') .nil))
theorem policyTargets_proved : Rows.PolicyTargetsSaid :=
  OpenClaim.holds_of_wide 8 Try.f8 rfl rfl rfl rfl rfl rfl rfl ⟨rfl, rfl, rfl, rfl, rfl⟩ rfl rfl rfl rfl rfl (by kernel_rfl) Try.func8 (by kernel_rfl)
    (of_decide_eq_true (by kernel_rfl)) (by unfold Func.isWrapper; first | (rw [if_pos (by decide +kernel)]; kernel_rfl) | (rw [if_neg (by decide +kernel)]; exact ⟨rfl, rfl⟩))
    (fun os started H enc _ => policyTargets_lifted os started H enc)
#print axioms policyTargets_proved
end Go.Proofs.Ytincpceccfoldaa
