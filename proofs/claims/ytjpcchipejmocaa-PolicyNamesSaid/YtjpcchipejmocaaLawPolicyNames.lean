/-
  The statement PolicyNames: for every input the call returns true, and each argument reads behind it as before.
-/
import Derived.Test.YtjpcchipejmocaaPolNames
import Derived.Test.YtjpcchipejmocaaLawKit
namespace Go.Proofs.Ytjpcchipejmocaa
set_option linter.unusedSimpArgs false
open Go.ChangeShapes Go.WideShapes Go.ChangeAt Go.RowKit
set_option linter.unusedVariables false
set_option maxRecDepth 100000
theorem policyNames_lifted (os : Os) (started : os.Started) (H : Type) (enc : TypeId × Value → H) :
    ReturnsInHanded {} Try.checked os 11 .any (Rows.policyNamesSpec.pre6 enc Try.prog Try.f11 Rows.policyNamesRow.domain false) (Rows.policyNamesSpec.post enc Try.prog Try.f11 false true false false) := by
  refine law_lift (C := Try.checked) (bt := 4) (by kernel_rfl) started (by kernel_rfl) Try.func11 (ChangeSpec.witness6 (enc := enc) (C := Try.checked) false ⟨#[], #[.agg #[.string .empty, .bool false, .int .i64 0, .slice none 0 0, .slice none 0 0, .slice none 0 0, .slice none 0 0], .int .i64 0, .string .empty], []⟩ 8 (by kernel_rfl) (by kernel_rfl) (by kernel_rfl) (by kernel_rfl)) (by kernel_rfl) ?_ rfl rfl ?_ (by kernel_rfl) Try.underlying4 ?_
  · intro t ht
    rw [Try.params11] at ht
    simp only [List.mem_cons, List.not_mem_nil, or_false] at ht
    rcases ht with rfl | rfl | rfl
    all_goals exact ⟨by kernel_rfl, of_decide_eq_true (by kernel_rfl)⟩
  · intro W args ds ps hA
    rw [Try.params11] at hA
    obtain ⟨v0, vs0, d0, ds0, p0, q0, _, rfl, rfl, h0, r0⟩ := trodAll_cons hA
    obtain ⟨v1, vs1, d1, ds1, p1, q1, _, rfl, rfl, h1, r1⟩ := trodAll_cons r0
    obtain ⟨v2, vs2, d2, ds2, p2, q2, _, rfl, rfl, h2, r2⟩ := trodAll_cons r1
    obtain ⟨_, rfl, rfl⟩ := trodAll_nil r2
    rfl
  · intro W base args ds ps hval hA hw
    rw [Try.params11] at hA hval hw
    obtain ⟨v0, vs0, d0, ds0, p0, q0, hargs, rfl, rfl, h0, r0⟩ := trodAll_cons hA
    obtain ⟨v1, vs1, d1, ds1, p1, q1, rfl, rfl, rfl, h1, r1⟩ := trodAll_cons r0
    obtain ⟨v2, vs2, d2, ds2, p2, q2, rfl, rfl, rfl, h2, r2⟩ := trodAll_cons r1
    obtain ⟨rfl, rfl, rfl⟩ := trodAll_nil r2
    obtain rfl : args = #[v0, v1, v2] := by cases args; simp_all
    obtain ⟨p, csp, rfl, hp⟩ := arg_struct opens_pol Try.underlying64 (hval 0 64 v0 rfl rfl) h0 (fun n hn => hw n (DataW.weights_mem_each (j := 0) rfl rfl n hn))
    obtain ⟨k, rfl, hk⟩ := arg_int Try.underlying3 (hval 1 3 v1 rfl rfl) h1
    obtain ⟨s, rfl, hs⟩ := arg_str Try.underlying9 (hval 2 9 v2 rfl rfl) h2 (fun n hn => hw n (DataW.weights_mem_each (j := 2) rfl rfl n hn))
    obtain ⟨n, hp⟩ := hp; exact law_calls (polNames_h p (polF_of hp) k hk s hs) (.cons (rel_agg (pol_pv n hp)) (.cons (rel_int _ _) (.cons (rel_str _) .nil)))
theorem policyNames_proved : Rows.PolicyNamesSaid :=
  OpenClaim.holds_of_wide 11 Try.f11 rfl rfl rfl rfl rfl rfl rfl ⟨rfl, rfl, rfl, rfl, rfl⟩ rfl rfl rfl rfl rfl (by kernel_rfl) Try.func11 (by kernel_rfl)
    (of_decide_eq_true (by kernel_rfl)) (by unfold Func.isWrapper; first | (rw [if_pos (by decide +kernel)]; kernel_rfl) | (rw [if_neg (by decide +kernel)]; exact ⟨rfl, rfl⟩))
    (fun os started H enc _ => policyNames_lifted os started H enc)
#print axioms policyNames_proved
end Go.Proofs.Ytjpcchipejmocaa
