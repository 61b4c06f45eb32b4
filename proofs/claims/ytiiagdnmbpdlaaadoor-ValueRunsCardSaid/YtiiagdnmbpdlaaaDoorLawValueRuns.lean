/-
  The statement ValueRuns: for every input the call returns true; the row's listed variables are tied to the program's text.
-/
import Derived.Test.YtiiagdnmbpdlaaaDoorValRuns
import Derived.Test.YtiiagdnmbpdlaaaDoorLaid
import Derived.Test.YtiiagdnmbpdlaaaDoorCards
import Derived.Test.YtiiagdnmbpdlaaaDoorTie
import Derived.SevenTiedAt
namespace Go.Proofs.YtiiagdnmbpdlaaaDoor
set_option linter.unusedSimpArgs false
open Go.ChangeShapes Go.WideShapes Go.ChangeAt Go.RowKit
set_option linter.unusedVariables false
set_option maxRecDepth 100000
theorem valueRuns_lifted (os : Os) (started : os.Started) (H : Type) (enc : TypeId × Value → H) :
    ReturnsInHanded {} Tryd.checked os 3 .any (fun w args => (Rows.valueRunsSpec.pre enc Tryd.prog Tryd.f3 [] false w args ∧ laidMetH Tryd.prog Rows.valueRunsRow.laid w) ∧ sizedMet enc Tryd.prog Tryd.f3 (OpenSpec.ofChange Rows.valueRunsSpec) false w args) (Rows.valueRunsSpec.post enc Tryd.prog Tryd.f3 false true false false) := by
  refine law_liftL (C := Tryd.checked) (laid := Rows.valueRunsRow.laid) (bt := 4) own_none started (by kernel_rfl) Tryd.func3 (ChangeSpec.witness_at (enc := enc) (C := Tryd.checked) (os := os) (X := fun w _ => laidMetH Tryd.prog Rows.valueRunsRow.laid w) false (worldA os) #[] 8 rfl (by kernel_rfl) (by kernel_rfl) (by kernel_rfl) (by kernel_rfl) (by kernel_rfl) (laidMetH_of_parts (worldA_met os _) rfl)) (by kernel_rfl) ?_ rfl rfl ?_ (by kernel_rfl) Tryd.underlying4 ?_
  · intro t ht
    rw [Tryd.params3] at ht; cases ht
  · intro W args ds ps hA
    rw [Tryd.params3] at hA
    obtain ⟨_, rfl, rfl⟩ := trodAll_nil hA
    rfl
  · intro W base args ds ps hL0 hval hA hw
    have hL := gl_of_laid (W := W) (by exact hL0)
    rw [Tryd.params3] at hA hval hw
    obtain ⟨hargs, rfl, rfl⟩ := trodAll_nil hA
    obtain rfl : args = #[] := by cases args; simp_all
    exact law_callsG hL valRuns_h .nil
theorem valueRuns_row : Rows.ValueRunsSaid :=
  OpenClaim.holds_of_wide 3 Tryd.f3 rfl rfl rfl rfl rfl rfl rfl ⟨rfl, rfl, rfl, rfl, rfl⟩ rfl rfl rfl rfl rfl (by kernel_rfl) Tryd.func3 (by kernel_rfl)
    (of_decide_eq_true (by kernel_rfl)) (by unfold Func.isWrapper; first | (rw [if_pos (by decide +kernel)]; kernel_rfl) | (rw [if_neg (by decide +kernel)]; exact ⟨rfl, rfl⟩))
    (fun os started H enc _ => valueRuns_lifted os started H enc)
theorem valueRuns_proved : Rows.ValueRunsCardSaid :=
  Claim7.holds_tied_plain_at .later [] Rows.valueRunsCard.laidKinds true Rows.valueRunsCard.stood.harness true
    valueRuns_row (fun _ h => by cases h) (by kernel_rfl) (fun _ h => by cases h) valueRuns_row_tie rfl ⟨rfl, rfl⟩ (by kernel_rfl) rfl
    (fun f fn hf hfn => by
      obtain rfl : f = 3 := Option.some.inj ((show Tryd.prog.funcNamed "bailiff/bailifflaw3.ValueRuns" = some 3 by kernel_rfl).symm.trans hf) |>.symm
      obtain rfl : fn = Tryd.f3 := (Option.some.inj (Tryd.func3.symm.trans hfn)).symm
      exact ⟨by kernel_rfl, fun j t ht => by
        rw [Tryd.params3] at ht
        simp at ht⟩)
    (by kernel_rfl)
#print axioms valueRuns_proved
end Go.Proofs.YtiiagdnmbpdlaaaDoor
