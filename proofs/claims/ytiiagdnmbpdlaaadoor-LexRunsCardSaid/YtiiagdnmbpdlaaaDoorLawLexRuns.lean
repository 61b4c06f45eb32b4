/-
  The statement LexRuns: for every input the call returns true; the row's listed variables are tied to the program's text.
-/
import Derived.Test.YtiiagdnmbpdlaaaDoorLexRuns
import Derived.Test.YtiiagdnmbpdlaaaDoorLaid
import Derived.Test.YtiiagdnmbpdlaaaDoorCards
import Derived.Test.YtiiagdnmbpdlaaaDoorTie
import Derived.SevenTiedAt
namespace Go.Proofs.YtiiagdnmbpdlaaaDoor
open Go.ChangeShapes Go.WideShapes Go.ChangeAt Go.RowKit
set_option linter.unusedVariables false
set_option maxRecDepth 100000
theorem lexRuns_lifted (os : Os) (started : os.Started) (H : Type) (enc : TypeId × Value → H) :
    ReturnsInHanded {} Tryd.checked os 4 .any (fun w args => (Rows.lexRunsSpec.pre enc Tryd.prog Tryd.f4 [] false w args ∧ laidMetH Tryd.prog Rows.lexRunsRow.laid w) ∧ sizedMet enc Tryd.prog Tryd.f4 (OpenSpec.ofChange Rows.lexRunsSpec) false w args) (Rows.lexRunsSpec.post enc Tryd.prog Tryd.f4 false true false false) := by
  refine law_liftL (C := Tryd.checked) (laid := Rows.lexRunsRow.laid) (bt := 4) own_none started (by kernel_rfl) Tryd.func4 (ChangeSpec.witness_at (enc := enc) (C := Tryd.checked) (os := os) (X := fun w _ => laidMetH Tryd.prog Rows.lexRunsRow.laid w) false (worldB os) #[] 8 rfl (by kernel_rfl) (by kernel_rfl) (by kernel_rfl) (by kernel_rfl) (by kernel_rfl) (laidMetH_of_parts (worldB_met os _) rfl)) (by kernel_rfl) ?_ rfl rfl ?_ (by kernel_rfl) Tryd.underlying4 ?_
  · intro t ht
    rw [Tryd.params4] at ht; cases ht
  · intro W args ds ps hA
    rw [Tryd.params4] at hA
    obtain ⟨_, rfl, rfl⟩ := trodAll_nil hA
    rfl
  · intro W base args ds ps hL0 hval hA hw
    have hL := gl_of_laid (W := W) (by exact hL0)
    rw [Tryd.params4] at hA hval hw
    obtain ⟨hargs, rfl, rfl⟩ := trodAll_nil hA
    obtain rfl : args = #[] := by cases args; simp_all
    exact law_callsG hL lexRuns_h .nil
theorem lexRuns_row : Rows.LexRunsSaid :=
  OpenClaim.holds_of_wide 4 Tryd.f4 rfl rfl rfl rfl rfl rfl rfl ⟨rfl, rfl, rfl, rfl, rfl⟩ rfl rfl rfl rfl rfl (by kernel_rfl) Tryd.func4 (by kernel_rfl)
    (of_decide_eq_true (by kernel_rfl)) (by unfold Func.isWrapper; first | (rw [if_pos (by decide +kernel)]; kernel_rfl) | (rw [if_neg (by decide +kernel)]; exact ⟨rfl, rfl⟩))
    (fun os started H enc _ => lexRuns_lifted os started H enc)
theorem lexRuns_proved : Rows.LexRunsCardSaid :=
  Claim7.holds_tied_plain_at .later [] Rows.lexRunsCard.laidKinds true Rows.lexRunsCard.stood.harness true
    lexRuns_row (fun _ h => by cases h) (by kernel_rfl) (fun _ h => by cases h) lexRuns_row_tie rfl ⟨rfl, rfl⟩ (by kernel_rfl) rfl
    (fun f fn hf hfn => by
      obtain rfl : f = 4 := Option.some.inj ((show Tryd.prog.funcNamed "bailiff/bailifflaw7.LexRuns" = some 4 by kernel_rfl).symm.trans hf) |>.symm
      obtain rfl : fn = Tryd.f4 := (Option.some.inj (Tryd.func4.symm.trans hfn)).symm
      exact ⟨by kernel_rfl, fun j t ht => by
        rw [Tryd.params4] at ht
        simp at ht⟩)
    (by kernel_rfl)
#print axioms lexRuns_proved
end Go.Proofs.YtiiagdnmbpdlaaaDoor
