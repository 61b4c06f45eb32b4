/-
  The statement EvalRuns: for every input the call returns true; the row's listed variables are tied to the program's text.
-/
import Derived.Test.YtiiagdnmbpdlaaaGreatDoorEvalRuns
import Derived.Test.YtiiagdnmbpdlaaaGreatDoorLaid
import Derived.Test.YtiiagdnmbpdlaaaGreatDoorCards
import Derived.Test.YtiiagdnmbpdlaaaGreatDoorTie
import Derived.SevenTiedAt
namespace Go.Proofs.YtiiagdnmbpdlaaaGreatDoor
open Go.ChangeShapes Go.WideShapes Go.ChangeAt Go.RowKit
set_option linter.unusedVariables false
set_option maxRecDepth 100000
theorem evalRuns_lifted (os : Os) (started : os.Started) (H : Type) (enc : TypeId × Value → H) :
    ReturnsInHanded {} Tryz.checked os 4 .any (fun w args => (Rows.evalRunsSpec.pre enc Tryz.prog Tryz.f4 [] false w args ∧ laidMetH Tryz.prog Rows.evalRunsRow.laid w) ∧ sizedMet enc Tryz.prog Tryz.f4 (OpenSpec.ofChange Rows.evalRunsSpec) false w args) (Rows.evalRunsSpec.post enc Tryz.prog Tryz.f4 false true false false) := by
  refine law_liftL (C := Tryz.checked) (laid := Rows.evalRunsRow.laid) (bt := 4) own_none started (by kernel_rfl) Tryz.func4 (ChangeSpec.witness_at (enc := enc) (C := Tryz.checked) (os := os) (X := fun w _ => laidMetH Tryz.prog Rows.evalRunsRow.laid w) false (worldB os) #[] 8 rfl (by kernel_rfl) (by kernel_rfl) (by kernel_rfl) (by kernel_rfl) (by kernel_rfl) (laidMetH_of_parts (worldB_met os _) rfl)) (by kernel_rfl) ?_ rfl rfl ?_ (by kernel_rfl) Tryz.underlying4 ?_
  · intro t ht
    rw [Tryz.params4] at ht; cases ht
  · intro W args ds ps hA
    rw [Tryz.params4] at hA
    obtain ⟨_, rfl, rfl⟩ := trodAll_nil hA
    rfl
  · intro W base args ds ps hL0 hval hA hw
    have hL := gl_of_laid (W := W) (by exact hL0)
    rw [Tryz.params4] at hA hval hw
    obtain ⟨hargs, rfl, rfl⟩ := trodAll_nil hA
    obtain rfl : args = #[] := by cases args; simp_all
    exact law_callsG hL evalRuns_h .nil
theorem evalRuns_row : Rows.EvalRunsSaid :=
  OpenClaim.holds_of_wide 4 Tryz.f4 rfl rfl rfl rfl rfl rfl rfl ⟨rfl, rfl, rfl, rfl, rfl⟩ rfl rfl rfl rfl rfl (by kernel_rfl) Tryz.func4 (by kernel_rfl)
    (of_decide_eq_true (by kernel_rfl)) (by unfold Func.isWrapper; first | (rw [if_pos (by decide +kernel)]; kernel_rfl) | (rw [if_neg (by decide +kernel)]; exact ⟨rfl, rfl⟩))
    (fun os started H enc _ => evalRuns_lifted os started H enc)
theorem evalRuns_proved : Rows.EvalRunsCardSaid :=
  Claim7.holds_tied_plain_at .later [] Rows.evalRunsCard.laidKinds true Rows.evalRunsCard.stood.harness true
    evalRuns_row (fun _ h => by cases h) (by kernel_rfl) (fun _ h => by cases h) evalRuns_row_tie rfl ⟨rfl, rfl⟩ (by kernel_rfl) rfl
    (fun f fn hf hfn => by
      obtain rfl : f = 4 := Option.some.inj ((show Tryz.prog.funcNamed "bailiff/bailifflaw14.EvalRuns" = some 4 by kernel_rfl).symm.trans hf) |>.symm
      obtain rfl : fn = Tryz.f4 := (Option.some.inj (Tryz.func4.symm.trans hfn)).symm
      exact ⟨by kernel_rfl, fun j t ht => by
        rw [Tryz.params4] at ht
        simp at ht⟩)
    (by kernel_rfl)
#print axioms evalRuns_proved
end Go.Proofs.YtiiagdnmbpdlaaaGreatDoor
