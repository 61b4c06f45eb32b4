/-
  The statement CompileRuns: for every input the call returns true; the row's listed variables are tied to the program's text.
-/
import Derived.Test.YtkkbdgijfkocnaaGreatDoorPk1
import Derived.Test.YtkkbdgijfkocnaaGreatDoorPk2
import Derived.Test.YtkkbdgijfkocnaaGreatDoorPk3
import Derived.Test.YtkkbdgijfkocnaaGreatDoorPk4
import Derived.Test.YtkkbdgijfkocnaaGreatDoorPk5
import Derived.Test.YtkkbdgijfkocnaaGreatDoorPk6
import Derived.Test.YtkkbdgijfkocnaaGreatDoorCards
import Derived.Test.YtkkbdgijfkocnaaGreatDoorTie
import Derived.SevenTiedAt
namespace Go.Proofs.YtkkbdgijfkocnaaGreatDoor
set_option linter.unusedSimpArgs false
open Go.ChangeShapes Go.WideShapes Go.ChangeAt Go.RowKit
set_option linter.unusedVariables false
set_option maxRecDepth 100000
theorem compileRuns_lifted (os : Os) (started : os.Started) (H : Type) (enc : TypeId × Value → H) :
    ReturnsInHanded {} Tryz.checked os 3 .any (fun w args => (Rows.compileRunsSpec.pre enc Tryz.prog Tryz.f3 [] false w args ∧ laidMetH Tryz.prog Rows.compileRunsRow.laid w) ∧ sizedMet enc Tryz.prog Tryz.f3 (OpenSpec.ofChange Rows.compileRunsSpec) false w args) (Rows.compileRunsSpec.post enc Tryz.prog Tryz.f3 false true false false) := by
  refine law_liftL (C := Tryz.checked) (laid := Rows.compileRunsRow.laid) (bt := 4) own_none started (by kernel_rfl) Tryz.func3 (ChangeSpec.witness_at (enc := enc) (C := Tryz.checked) (os := os) (X := fun w _ => laidMetH Tryz.prog Rows.compileRunsRow.laid w) false (worldB os) #[] 8 rfl (by kernel_rfl) (by kernel_rfl) (by kernel_rfl) (by kernel_rfl) (by kernel_rfl) (laidMetH_of_parts (worldB_met os _) rfl)) (by kernel_rfl) ?_ rfl rfl ?_ (by kernel_rfl) Tryz.underlying4 ?_
  · intro t ht
    rw [Tryz.params3] at ht; cases ht
  · intro W args ds ps hA
    rw [Tryz.params3] at hA
    obtain ⟨_, rfl, rfl⟩ := trodAll_nil hA
    rfl
  · intro W base args ds ps hL0 hval hA hw
    have hL := gl_of_laid (W := W) (by exact hL0)
    rw [Tryz.params3] at hA hval hw
    obtain ⟨hargs, rfl, rfl⟩ := trodAll_nil hA
    obtain rfl : args = #[] := by cases args; simp_all
    exact law_callsG hL compileRuns_h .nil
theorem compileRuns_row : Rows.CompileRunsSaid :=
  OpenClaim.holds_of_wide 3 Tryz.f3 rfl rfl rfl rfl rfl rfl rfl ⟨rfl, rfl, rfl, rfl, rfl⟩ rfl rfl rfl rfl rfl (by kernel_rfl) Tryz.func3 (by kernel_rfl)
    (of_decide_eq_true (by kernel_rfl)) (by unfold Func.isWrapper; first | (rw [if_pos (by decide +kernel)]; kernel_rfl) | (rw [if_neg (by decide +kernel)]; exact ⟨rfl, rfl⟩))
    (fun os started H enc _ => compileRuns_lifted os started H enc)
theorem compileRuns_proved : Rows.CompileRunsCardSaid :=
  Claim7.holds_tied_plain_at .later [] Rows.compileRunsCard.laidKinds true Rows.compileRunsCard.stood.harness Rows.compileRunsCard.stood.looks
    compileRuns_row (fun _ h => by cases h) (by kernel_rfl) (fun _ h => by cases h) compileRuns_row_tie rfl ⟨rfl, rfl⟩ (by kernel_rfl) rfl
    (fun f fn hf hfn => by
      obtain rfl : f = 3 := Option.some.inj ((show Tryz.prog.funcNamed "bailiff/bailifflaw17.CompileRuns" = some 3 by kernel_rfl).symm.trans hf) |>.symm
      obtain rfl : fn = Tryz.f3 := (Option.some.inj (Tryz.func3.symm.trans hfn)).symm
      exact ⟨by kernel_rfl, fun j t ht => by
        rw [Tryz.params3] at ht
        simp at ht⟩)
    (by kernel_rfl)
#print axioms compileRuns_proved
end Go.Proofs.YtkkbdgijfkocnaaGreatDoor
