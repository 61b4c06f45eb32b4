/-
  The statement CompileConst: for every input the call returns true, and each argument reads behind it as before; the row's listed variables are tied to the program's text.
-/
import Derived.Test.YtkkbdgijfkocnaaGreatDoorPk1
import Derived.Test.YtkkbdgijfkocnaaGreatDoorPk2
import Derived.Test.YtkkbdgijfkocnaaGreatDoorPk3
import Derived.Test.YtkkbdgijfkocnaaGreatDoorPk4
import Derived.Test.YtkkbdgijfkocnaaGreatDoorPk5
import Derived.Test.YtkkbdgijfkocnaaGreatDoorPk6
import Derived.Test.YtkkbdgijfkocnaaGreatDoorCards
import Derived.Test.YtkkbdgijfkocnaaGreatDoorTie
import Derived.SevenTiedAt
namespace Go.Proofs.YtkkbdgijfkocnaaGreatDoor
set_option linter.unusedSimpArgs false
open Go.ChangeShapes Go.WideShapes Go.ChangeAt Go.RowKit
set_option linter.unusedVariables false
set_option maxRecDepth 100000
theorem compileConst_lifted (os : Os) (started : os.Started) (H : Type) (enc : TypeId × Value → H) :
    ReturnsInHanded {} Tryz.checked os 4 .any (fun w args => (Rows.compileConstSpec.pre enc Tryz.prog Tryz.f4 [] false w args ∧ laidMetH Tryz.prog Rows.compileConstRow.laid w) ∧ sizedMet enc Tryz.prog Tryz.f4 (OpenSpec.ofChange Rows.compileConstSpec) false w args) (Rows.compileConstSpec.post enc Tryz.prog Tryz.f4 false true false false) := by
  refine law_liftL (C := Tryz.checked) (laid := Rows.compileConstRow.laid) (bt := 4) own_none started (by kernel_rfl) Tryz.func4 (ChangeSpec.witness_at (enc := enc) (C := Tryz.checked) (os := os) (X := fun w _ => laidMetH Tryz.prog Rows.compileConstRow.laid w) false (worldB os) #[.agg #[.string .empty, .bool false, .int .i64 0, .slice none 0 0, .slice none 0 0, .slice none 0 0, .slice none 0 0]] 8 rfl (by kernel_rfl) (by kernel_rfl) (by kernel_rfl) (by kernel_rfl) (by kernel_rfl) (laidMetH_of_parts (worldB_met os _) rfl)) (by kernel_rfl) ?_ rfl rfl ?_ (by kernel_rfl) Tryz.underlying4 ?_
  · intro t ht
    rw [Tryz.params4] at ht
    simp only [List.mem_cons, List.not_mem_nil, or_false] at ht
    rcases ht with rfl
    all_goals exact ⟨by kernel_rfl, of_decide_eq_true (by kernel_rfl)⟩
  · intro W args ds ps hA
    rw [Tryz.params4] at hA
    obtain ⟨v0, vs0, d0, ds0, p0, q0, _, rfl, rfl, h0, r0⟩ := trodAll_cons hA
    obtain ⟨_, rfl, rfl⟩ := trodAll_nil r0
    rfl
  · intro W base args ds ps hL0 hval hA hw
    have hL := gl_of_laid (W := W) (by exact hL0)
    rw [Tryz.params4] at hA hval hw
    obtain ⟨v0, vs0, d0, ds0, p0, q0, hargs, rfl, rfl, h0, r0⟩ := trodAll_cons hA
    obtain ⟨rfl, rfl, rfl⟩ := trodAll_nil r0
    obtain rfl : args = #[v0] := by cases args; simp_all
    obtain ⟨p, csp, rfl, hp⟩ := arg_struct opens_pol Tryz.underlying32 (hval 0 32 v0 rfl rfl) h0 (fun n hn => hw n (DataW.weights_mem_each (j := 0) rfl rfl n hn))
    obtain ⟨n, hp⟩ := hp; exact law_callsG hL (compileConst_h compileRuns_h p (polF_of hp)) (.cons (rel_agg (pol_pv n hp)) .nil)
theorem compileConst_row : Rows.CompileConstSaid :=
  OpenClaim.holds_of_wide 4 Tryz.f4 rfl rfl rfl rfl rfl rfl rfl ⟨rfl, rfl, rfl, rfl, rfl⟩ rfl rfl rfl rfl rfl (by kernel_rfl) Tryz.func4 (by kernel_rfl)
    (of_decide_eq_true (by kernel_rfl)) (by unfold Func.isWrapper; first | (rw [if_pos (by decide +kernel)]; kernel_rfl) | (rw [if_neg (by decide +kernel)]; exact ⟨rfl, rfl⟩))
    (fun os started H enc _ => compileConst_lifted os started H enc)
theorem compileConst_proved : Rows.CompileConstCardSaid :=
  Claim7.holds_tied_plain_at .later [] Rows.compileConstCard.laidKinds true Rows.compileConstCard.stood.harness Rows.compileConstCard.stood.looks
    compileConst_row (fun _ h => by cases h) (by kernel_rfl) (fun _ h => by cases h) compileConst_row_tie rfl ⟨rfl, rfl⟩ (by kernel_rfl) rfl
    (fun f fn hf hfn => by
      obtain rfl : f = 4 := Option.some.inj ((show Tryz.prog.funcNamed "bailiff/bailifflaw17.CompileConst" = some 4 by kernel_rfl).symm.trans hf) |>.symm
      obtain rfl : fn = Tryz.f4 := (Option.some.inj (Tryz.func4.symm.trans hfn)).symm
      exact ⟨by kernel_rfl, fun j t ht => by
        rw [Tryz.params4] at ht
        have hm : t ∈ [32] := by simpa using Array.mem_of_getElem? ht
        have hall : ([32].all fun u => !Tryz.prog.wantsStandIn u) = true := by kernel_rfl
        exact (show Tryz.prog.wantsStandIn t = false by simpa using List.all_eq_true.1 hall t hm)⟩)
    (by kernel_rfl)
#print axioms compileConst_proved
end Go.Proofs.YtkkbdgijfkocnaaGreatDoor
