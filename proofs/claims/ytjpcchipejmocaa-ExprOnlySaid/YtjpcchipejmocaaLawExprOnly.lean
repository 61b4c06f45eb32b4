/-
  The statement ExprOnly: for every input the call returns true, and each argument reads behind it as before.
-/
import Derived.Test.YtjpcchipejmocaaExprOnly
import Derived.Test.YtjpcchipejmocaaLawKit
import Derived.Test.YtjpcchipejmocaaData3
namespace Go.Proofs.Ytjpcchipejmocaa
open Go.ChangeShapes Go.WideShapes Go.ChangeAt Go.RowKit
set_option linter.unusedVariables false
set_option maxRecDepth 100000
theorem exprOnly_lifted (os : Os) (started : os.Started) (H : Type) (enc : TypeId × Value → H) :
    ReturnsInHanded {} Try.checked os 8 .any (Rows.exprOnlySpec.pre6 enc Try.prog Try.f8 Rows.exprOnlyRow.domain false) (Rows.exprOnlySpec.post enc Try.prog Try.f8 false true false false) := by
  refine law_lift (C := Try.checked) (bt := 4) (by kernel_rfl) started (by kernel_rfl) Try.func8 (ChangeSpec.witness6 (enc := enc) (C := Try.checked) false ⟨#[], #[.slice none 0 0, .slice none 0 0, .agg #[.int .i64 0, .string .empty, .slice none 0 0]], []⟩ 8 (by kernel_rfl) (by kernel_rfl) (by kernel_rfl) (by kernel_rfl)) (by kernel_rfl) ?_ rfl rfl ?_ (by kernel_rfl) Try.underlying4 ?_
  · intro t ht
    rw [Try.params8] at ht
    simp only [List.mem_cons, List.not_mem_nil, or_false] at ht
    rcases ht with rfl | rfl | rfl
    all_goals exact ⟨by kernel_rfl, of_decide_eq_true (by kernel_rfl)⟩
  · intro W args ds ps hA
    rw [Try.params8] at hA
    obtain ⟨v0, vs0, d0, ds0, p0, q0, _, rfl, rfl, h0, r0⟩ := trodAll_cons hA
    obtain ⟨v1, vs1, d1, ds1, p1, q1, _, rfl, rfl, h1, r1⟩ := trodAll_cons r0
    obtain ⟨v2, vs2, d2, ds2, p2, q2, _, rfl, rfl, h2, r2⟩ := trodAll_cons r1
    obtain ⟨_, rfl, rfl⟩ := trodAll_nil r2
    rfl
  · intro W base args ds ps hval hA hw
    rw [Try.params8] at hA hval hw
    obtain ⟨v0, vs0, d0, ds0, p0, q0, hargs, rfl, rfl, h0, r0⟩ := trodAll_cons hA
    obtain ⟨v1, vs1, d1, ds1, p1, q1, rfl, rfl, rfl, h1, r1⟩ := trodAll_cons r0
    obtain ⟨v2, vs2, d2, ds2, p2, q2, rfl, rfl, rfl, h2, r2⟩ := trodAll_cons r1
    obtain ⟨rfl, rfl, rfl⟩ := trodAll_nil r2
    obtain rfl : args = #[v0, v1, v2] := by cases args; simp_all
    obtain ⟨l, Al, cl, rfl, hl, cl', sl⟩ := arg_sl opens_nods Try.underlying32 (hval 0 32 v0 rfl rfl) h0 (fun n hn => hw n (DataW.weights_mem_each (j := 0) rfl rfl n hn))
    obtain ⟨g, Ag, cg, rfl, hg, cg', sg⟩ := arg_sl opens_givs Try.underlying39 (hval 1 39 v1 rfl rfl) h1 (fun n hn => hw n (DataW.weights_mem_each (j := 1) rfl rfl n hn))
    obtain ⟨x, csx, rfl, hx⟩ := arg_struct opens_giv Try.underlying49 (hval 2 49 v2 rfl rfl) h2 (fun n hn => hw n (DataW.weights_mem_each (j := 2) rfl rfl n hn))
    exact law_calls (exprOnly_h l g x (sl.fit fun _ _ h => h.2) (sg.fit fun _ _ h => giv_fit h) (giv_fit hx)) (.cons (nods_rel sl hl cl') (.cons (givs_rel sg hg cg') (.cons (rel_agg (giv_pv hx)) .nil)))
theorem exprOnly_proved : Rows.ExprOnlySaid :=
  OpenClaim.holds_of_wide 8 Try.f8 rfl rfl rfl rfl rfl rfl rfl ⟨rfl, rfl, rfl, rfl, rfl⟩ rfl rfl rfl rfl rfl (by kernel_rfl) Try.func8 (by kernel_rfl)
    (of_decide_eq_true (by kernel_rfl)) (by unfold Func.isWrapper; first | (rw [if_pos (by decide +kernel)]; kernel_rfl) | (rw [if_neg (by decide +kernel)]; exact ⟨rfl, rfl⟩))
    (fun os started H enc _ => exprOnly_lifted os started H enc)
#print axioms exprOnly_proved
end Go.Proofs.Ytjpcchipejmocaa
