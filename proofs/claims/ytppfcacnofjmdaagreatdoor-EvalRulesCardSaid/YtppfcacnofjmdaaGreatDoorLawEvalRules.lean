/-
  The statement EvalRules: for every input the call returns true, and each argument reads behind it as before; the row's listed variables are tied to the program's text.
-/
import Derived.Test.YtppfcacnofjmdaaGreatDoorPk1
import Derived.Test.YtppfcacnofjmdaaGreatDoorPk2
import Derived.Test.YtppfcacnofjmdaaGreatDoorPk3
import Derived.Test.YtppfcacnofjmdaaGreatDoorPk4
import Derived.Test.YtppfcacnofjmdaaGreatDoorPk5
import Derived.Test.YtppfcacnofjmdaaGreatDoorPk6
import Derived.Test.YtppfcacnofjmdaaGreatDoorCards
import Derived.Test.YtppfcacnofjmdaaGreatDoorTie
import Derived.SevenTiedAt
namespace Go.Proofs.YtppfcacnofjmdaaGreatDoor
set_option linter.unusedSimpArgs false
open Go.ChangeShapes Go.WideShapes Go.ChangeAt Go.RowKit
set_option linter.unusedVariables false
set_option maxRecDepth 100000
theorem evalRules_lifted (os : Os) (started : os.Started) (H : Type) (enc : TypeId × Value → H) :
    ReturnsInHanded {} Tryz.checked os 5 .any (fun w args => (Rows.evalRulesSpec.pre enc Tryz.prog Tryz.f5 [] false w args ∧ laidMetH Tryz.prog Rows.evalRulesRow.laid w) ∧ sizedMet enc Tryz.prog Tryz.f5 (OpenSpec.ofChange Rows.evalRulesSpec) false w args) (Rows.evalRulesSpec.post enc Tryz.prog Tryz.f5 false true false false) := by
  refine law_liftL (C := Tryz.checked) (laid := Rows.evalRulesRow.laid) (bt := 4) own_none started (by kernel_rfl) Tryz.func5 (ChangeSpec.witness_at (enc := enc) (C := Tryz.checked) (os := os) (X := fun w _ => laidMetH Tryz.prog Rows.evalRulesRow.laid w) false (worldB os) #[.int .i64 0, .bool false, .int .i64 0, .bool false] 8 rfl (by kernel_rfl) (by kernel_rfl) (by kernel_rfl) (by kernel_rfl) (by kernel_rfl) (laidMetH_of_parts (worldB_met os _) rfl)) (by kernel_rfl) ?_ rfl rfl ?_ (by kernel_rfl) Tryz.underlying4 ?_
  · intro t ht
    rw [Tryz.params5] at ht
    simp only [List.mem_cons, List.not_mem_nil, or_false] at ht
    rcases ht with rfl | rfl | rfl | rfl
    all_goals exact ⟨by kernel_rfl, of_decide_eq_true (by kernel_rfl)⟩
  · intro W args ds ps hA
    rw [Tryz.params5] at hA
    obtain ⟨v0, vs0, d0, ds0, p0, q0, _, rfl, rfl, h0, r0⟩ := trodAll_cons hA
    obtain ⟨v1, vs1, d1, ds1, p1, q1, _, rfl, rfl, h1, r1⟩ := trodAll_cons r0
    obtain ⟨v2, vs2, d2, ds2, p2, q2, _, rfl, rfl, h2, r2⟩ := trodAll_cons r1
    obtain ⟨v3, vs3, d3, ds3, p3, q3, _, rfl, rfl, h3, r3⟩ := trodAll_cons r2
    obtain ⟨_, rfl, rfl⟩ := trodAll_nil r3
    rfl
  · intro W base args ds ps hL0 hval hA hw
    have hL := gl_of_laid (W := W) (by exact hL0)
    rw [Tryz.params5] at hA hval hw
    obtain ⟨v0, vs0, d0, ds0, p0, q0, hargs, rfl, rfl, h0, r0⟩ := trodAll_cons hA
    obtain ⟨v1, vs1, d1, ds1, p1, q1, rfl, rfl, rfl, h1, r1⟩ := trodAll_cons r0
    obtain ⟨v2, vs2, d2, ds2, p2, q2, rfl, rfl, rfl, h2, r2⟩ := trodAll_cons r1
    obtain ⟨v3, vs3, d3, ds3, p3, q3, rfl, rfl, rfl, h3, r3⟩ := trodAll_cons r2
    obtain ⟨rfl, rfl, rfl⟩ := trodAll_nil r3
    obtain rfl : args = #[v0, v1, v2, v3] := by cases args; simp_all
    obtain ⟨k, rfl, hk⟩ := arg_int Tryz.underlying3 (hval 0 3 v0 rfl rfl) h0
    obtain ⟨b, rfl⟩ := arg_bool Tryz.underlying4 (hval 1 4 v1 rfl rfl) h1
    obtain ⟨c, rfl, hc⟩ := arg_int Tryz.underlying3 (hval 2 3 v2 rfl rfl) h2
    obtain ⟨d, rfl⟩ := arg_bool Tryz.underlying4 (hval 3 4 v3 rfl rfl) h3
    exact law_callsG hL (evalRules_h k hk b c hc d) (.cons (rel_int _ _) (.cons (rel_bool _) (.cons (rel_int _ _) (.cons (rel_bool _) .nil))))
theorem evalRules_row : Rows.EvalRulesSaid :=
  OpenClaim.holds_of_wide 5 Tryz.f5 rfl rfl rfl rfl rfl rfl rfl ⟨rfl, rfl, rfl, rfl, rfl⟩ rfl rfl rfl rfl rfl (by kernel_rfl) Tryz.func5 (by kernel_rfl)
    (of_decide_eq_true (by kernel_rfl)) (by unfold Func.isWrapper; first | (rw [if_pos (by decide +kernel)]; kernel_rfl) | (rw [if_neg (by decide +kernel)]; exact ⟨rfl, rfl⟩))
    (fun os started H enc _ => evalRules_lifted os started H enc)
theorem evalRules_proved : Rows.EvalRulesCardSaid :=
  Claim7.holds_tied_plain_at .later [] Rows.evalRulesCard.laidKinds true Rows.evalRulesCard.stood.harness true
    evalRules_row (fun _ h => by cases h) (by kernel_rfl) (fun _ h => by cases h) evalRules_row_tie rfl ⟨rfl, rfl⟩ (by kernel_rfl) rfl
    (fun f fn hf hfn => by
      obtain rfl : f = 5 := Option.some.inj ((show Tryz.prog.funcNamed "bailiff/bailifflaw14.EvalRules" = some 5 by kernel_rfl).symm.trans hf) |>.symm
      obtain rfl : fn = Tryz.f5 := (Option.some.inj (Tryz.func5.symm.trans hfn)).symm
      exact ⟨by kernel_rfl, fun j t ht => by
        rw [Tryz.params5] at ht
        have hm : t ∈ [3, 4, 3, 4] := by simpa using Array.mem_of_getElem? ht
        have hall : ([3, 4, 3, 4].all fun u => !Tryz.prog.wantsStandIn u) = true := by kernel_rfl
        exact (show Tryz.prog.wantsStandIn t = false by simpa using List.all_eq_true.1 hall t hm)⟩)
    (by kernel_rfl)
#print axioms evalRules_proved
end Go.Proofs.YtppfcacnofjmdaaGreatDoor
