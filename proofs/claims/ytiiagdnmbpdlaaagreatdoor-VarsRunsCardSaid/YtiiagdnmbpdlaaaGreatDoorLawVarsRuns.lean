/-
  The statement VarsRuns: for every input the call returns true; the row's listed variables are tied to the program's text.
-/
import Derived.Test.YtiiagdnmbpdlaaaGreatDoorVarsRuns
import Derived.Test.YtiiagdnmbpdlaaaGreatDoorLaid
import Derived.Test.YtiiagdnmbpdlaaaGreatDoorCards
import Derived.Test.YtiiagdnmbpdlaaaGreatDoorTie
import Derived.SevenTiedAt
namespace Go.Proofs.YtiiagdnmbpdlaaaGreatDoor
open Go.ChangeShapes Go.WideShapes Go.ChangeAt Go.RowKit
set_option linter.unusedVariables false
set_option maxRecDepth 100000
theorem varsRuns_lifted (os : Os) (started : os.Started) (H : Type) (enc : TypeId × Value → H) :
    ReturnsInHanded {} Tryz.checked os 3 .any (fun w args => (Rows.varsRunsSpec.pre enc Tryz.prog Tryz.f3 [] false w args ∧ laidMetH Tryz.prog Rows.varsRunsRow.laid w) ∧ sizedMet enc Tryz.prog Tryz.f3 (OpenSpec.ofChange Rows.varsRunsSpec) false w args) (Rows.varsRunsSpec.post enc Tryz.prog Tryz.f3 false true false false) := by
  refine law_liftL (C := Tryz.checked) (laid := Rows.varsRunsRow.laid) (bt := 4) own_none started (by kernel_rfl) Tryz.func3 (ChangeSpec.witness_at (enc := enc) (C := Tryz.checked) (os := os) (X := fun w _ => laidMetH Tryz.prog Rows.varsRunsRow.laid w) false (worldB os) #[] 8 rfl (by kernel_rfl) (by kernel_rfl) (by kernel_rfl) (by kernel_rfl) (by kernel_rfl) (laidMetH_of_parts (worldB_met os _) rfl)) (by kernel_rfl) ?_ rfl rfl ?_ (by kernel_rfl) Tryz.underlying4 ?_
  · intro t ht
    rw [Tryz.params3] at ht; cases ht
  · intro W args ds ps hA
    rw [Tryz.params3] at hA
    obtain ⟨_, rfl, rfl⟩ := trodAll_nil hA
    rfl
  · intro W base args ds ps hL0 hval hA hw
    have hL := gl_of_laid (W := W) (by exact hL0)
    rw [Tryz.params3] at hA hval hw
    obtain ⟨hargs, rfl, rfl⟩ := trodAll_nil hA
    obtain rfl : args = #[] := by cases args; simp_all
    exact law_callsG hL varsRuns_h .nil
theorem varsRuns_row : Rows.VarsRunsSaid :=
  OpenClaim.holds_of_wide 3 Tryz.f3 rfl rfl rfl rfl rfl rfl rfl ⟨rfl, rfl, rfl, rfl, rfl⟩ rfl rfl rfl rfl rfl (by kernel_rfl) Tryz.func3 (by kernel_rfl)
    (of_decide_eq_true (by kernel_rfl)) (by unfold Func.isWrapper; first | (rw [if_pos (by decide +kernel)]; kernel_rfl) | (rw [if_neg (by decide +kernel)]; exact ⟨rfl, rfl⟩))
    (fun os started H enc _ => varsRuns_lifted os started H enc)
theorem varsRuns_proved : Rows.VarsRunsCardSaid :=
  Claim7.holds_tied_plain_at .later [] Rows.varsRunsCard.laidKinds true Rows.varsRunsCard.stood.harness true
    varsRuns_row (fun _ h => by cases h) (by kernel_rfl) (fun _ h => by cases h) varsRuns_row_tie rfl ⟨rfl, rfl⟩ (by kernel_rfl) rfl
    (fun f fn hf hfn => by
      obtain rfl : f = 3 := Option.some.inj ((show Tryz.prog.funcNamed "bailiff/bailifflaw15.VarsRuns" = some 3 by kernel_rfl).symm.trans hf) |>.symm
      obtain rfl : fn = Tryz.f3 := (Option.some.inj (Tryz.func3.symm.trans hfn)).symm
      exact ⟨by kernel_rfl, fun j t ht => by
        rw [Tryz.params3] at ht
        simp at ht⟩)
    (by kernel_rfl)
#print axioms varsRuns_proved
end Go.Proofs.YtiiagdnmbpdlaaaGreatDoor
