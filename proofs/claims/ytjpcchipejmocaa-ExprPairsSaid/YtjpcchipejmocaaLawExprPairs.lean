/-
  The statement ExprPairs: for every input the call returns true, and each argument reads behind it as before.
-/
import Derived.Test.YtjpcchipejmocaaExprPairs
import Derived.Test.YtjpcchipejmocaaLawKit
import Derived.Test.YtjpcchipejmocaaData3
namespace Go.Proofs.Ytjpcchipejmocaa
open Go.ChangeShapes Go.WideShapes Go.ChangeAt Go.RowKit
set_option linter.unusedVariables false
set_option maxRecDepth 100000
theorem exprPairs_lifted (os : Os) (started : os.Started) (H : Type) (enc : TypeId × Value → H) :
    ReturnsInHanded {} Try.checked os 7 .any (Rows.exprPairsSpec.pre6 enc Try.prog Try.f7 Rows.exprPairsRow.domain false) (Rows.exprPairsSpec.post enc Try.prog Try.f7 false true false false) := by
  refine law_lift (C := Try.checked) (bt := 4) (by kernel_rfl) started (by kernel_rfl) Try.func7 (ChangeSpec.witness6 (enc := enc) (C := Try.checked) false ⟨#[], #[.slice none 0 0, .slice none 0 0], []⟩ 8 (by kernel_rfl) (by kernel_rfl) (by kernel_rfl) (by kernel_rfl)) (by kernel_rfl) ?_ rfl rfl ?_ (by kernel_rfl) Try.underlying4 ?_
  · intro t ht
    rw [Try.params7] at ht
    simp only [List.mem_cons, List.not_mem_nil, or_false] at ht
    rcases ht with rfl | rfl
    all_goals exact ⟨by kernel_rfl, of_decide_eq_true (by kernel_rfl)⟩
  · intro W args ds ps hA
    rw [Try.params7] at hA
    obtain ⟨v0, vs0, d0, ds0, p0, q0, _, rfl, rfl, h0, r0⟩ := trodAll_cons hA
    obtain ⟨v1, vs1, d1, ds1, p1, q1, _, rfl, rfl, h1, r1⟩ := trodAll_cons r0
    obtain ⟨_, rfl, rfl⟩ := trodAll_nil r1
    rfl
  · intro W base args ds ps hval hA hw
    rw [Try.params7] at hA hval hw
    obtain ⟨v0, vs0, d0, ds0, p0, q0, hargs, rfl, rfl, h0, r0⟩ := trodAll_cons hA
    obtain ⟨v1, vs1, d1, ds1, p1, q1, rfl, rfl, rfl, h1, r1⟩ := trodAll_cons r0
    obtain ⟨rfl, rfl, rfl⟩ := trodAll_nil r1
    obtain rfl : args = #[v0, v1] := by cases args; simp_all
    obtain ⟨a, Aa, ca, rfl, ha, ca', sa⟩ := arg_sl opens_vals Try.underlying45 (hval 0 45 v0 rfl rfl) h0 (fun n hn => hw n (DataW.weights_mem_each (j := 0) rfl rfl n hn))
    obtain ⟨b, Ab, cb, rfl, hb, cb', sb⟩ := arg_sl opens_vals Try.underlying45 (hval 1 45 v1 rfl rfl) h1 (fun n hn => hw n (DataW.weights_mem_each (j := 1) rfl rfl n hn))
    exact law_calls (exprPairs_h a b (sa.fit fun _ _ h => h.2) (sb.fit fun _ _ h => h.2)) (.cons (rel_sl sa ha ca' (fun _ => ⟨rfl, rfl⟩) fun x _ cs hcs => val_pv hcs) (.cons (rel_sl sb hb cb' (fun _ => ⟨rfl, rfl⟩) fun x _ cs hcs => val_pv hcs) .nil))
theorem exprPairs_proved : Rows.ExprPairsSaid :=
  OpenClaim.holds_of_wide 7 Try.f7 rfl rfl rfl rfl rfl rfl rfl ⟨rfl, rfl, rfl, rfl, rfl⟩ rfl rfl rfl rfl rfl (by kernel_rfl) Try.func7 (by kernel_rfl)
    (of_decide_eq_true (by kernel_rfl)) (by unfold Func.isWrapper; first | (rw [if_pos (by decide +kernel)]; kernel_rfl) | (rw [if_neg (by decide +kernel)]; exact ⟨rfl, rfl⟩))
    (fun os started H enc _ => exprPairs_lifted os started H enc)
#print axioms exprPairs_proved
end Go.Proofs.Ytjpcchipejmocaa
