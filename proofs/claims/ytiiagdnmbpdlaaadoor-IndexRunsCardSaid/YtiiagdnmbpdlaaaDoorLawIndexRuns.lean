/-
  The statement IndexRuns: for every input the call returns true; the row's listed variables are tied to the program's text.
-/
import Derived.Test.YtiiagdnmbpdlaaaDoorIndexRuns
import Derived.Test.YtiiagdnmbpdlaaaDoorLaid
import Derived.Test.YtiiagdnmbpdlaaaDoorCards
import Derived.Test.YtiiagdnmbpdlaaaDoorTie
import Derived.SevenTiedAt
namespace Go.Proofs.YtiiagdnmbpdlaaaDoor
open Go.ChangeShapes Go.WideShapes Go.ChangeAt Go.RowKit
set_option linter.unusedVariables false
set_option maxRecDepth 100000
theorem indexRuns_lifted (os : Os) (started : os.Started) (H : Type) (enc : TypeId × Value → H) :
    ReturnsInHanded {} Tryd.checked os 5 .any (fun w args => (Rows.indexRunsSpec.pre enc Tryd.prog Tryd.f5 [] false w args ∧ laidMetH Tryd.prog Rows.indexRunsRow.laid w) ∧ sizedMet enc Tryd.prog Tryd.f5 (OpenSpec.ofChange Rows.indexRunsSpec) false w args) (Rows.indexRunsSpec.post enc Tryd.prog Tryd.f5 false true false false) := by
  refine law_liftL (C := Tryd.checked) (laid := Rows.indexRunsRow.laid) (bt := 4) own_none started (by kernel_rfl) Tryd.func5 (ChangeSpec.witness_at (enc := enc) (C := Tryd.checked) (os := os) (X := fun w _ => laidMetH Tryd.prog Rows.indexRunsRow.laid w) false (worldB os) #[] 8 rfl (by kernel_rfl) (by kernel_rfl) (by kernel_rfl) (by kernel_rfl) (by kernel_rfl) (laidMetH_of_parts (worldB_met os _) rfl)) (by kernel_rfl) ?_ rfl rfl ?_ (by kernel_rfl) Tryd.underlying4 ?_
  · intro t ht
    rw [Tryd.params5] at ht; cases ht
  · intro W args ds ps hA
    rw [Tryd.params5] at hA
    obtain ⟨_, rfl, rfl⟩ := trodAll_nil hA
    rfl
  · intro W base args ds ps hL0 hval hA hw
    have hL := gl_of_laid (W := W) (by exact hL0)
    rw [Tryd.params5] at hA hval hw
    obtain ⟨hargs, rfl, rfl⟩ := trodAll_nil hA
    obtain rfl : args = #[] := by cases args; simp_all
    exact law_callsG hL indexRuns_h .nil
theorem indexRuns_row : Rows.IndexRunsSaid :=
  OpenClaim.holds_of_wide 5 Tryd.f5 rfl rfl rfl rfl rfl rfl rfl ⟨rfl, rfl, rfl, rfl, rfl⟩ rfl rfl rfl rfl rfl (by kernel_rfl) Tryd.func5 (by kernel_rfl)
    (of_decide_eq_true (by kernel_rfl)) (by unfold Func.isWrapper; first | (rw [if_pos (by decide +kernel)]; kernel_rfl) | (rw [if_neg (by decide +kernel)]; exact ⟨rfl, rfl⟩))
    (fun os started H enc _ => indexRuns_lifted os started H enc)
theorem indexRuns_proved : Rows.IndexRunsCardSaid :=
  Claim7.holds_tied_plain_at .later [] Rows.indexRunsCard.laidKinds true Rows.indexRunsCard.stood.harness true
    indexRuns_row (fun _ h => by cases h) (by kernel_rfl) (fun _ h => by cases h) indexRuns_row_tie rfl ⟨rfl, rfl⟩ (by kernel_rfl) rfl
    (fun f fn hf hfn => by
      obtain rfl : f = 5 := Option.some.inj ((show Tryd.prog.funcNamed "bailiff/bailifflaw18.IndexRuns" = some 5 by kernel_rfl).symm.trans hf) |>.symm
      obtain rfl : fn = Tryd.f5 := (Option.some.inj (Tryd.func5.symm.trans hfn)).symm
      exact ⟨by kernel_rfl, fun j t ht => by
        rw [Tryd.params5] at ht
        simp at ht⟩)
    (by kernel_rfl)
#print axioms indexRuns_proved
end Go.Proofs.YtiiagdnmbpdlaaaDoor
