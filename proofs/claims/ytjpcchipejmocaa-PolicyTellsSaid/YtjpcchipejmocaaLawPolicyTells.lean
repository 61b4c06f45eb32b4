/-
  The statement PolicyTells: for every input the call returns true, and each argument reads behind it as before.
-/
import Derived.Test.YtjpcchipejmocaaPolTells
import Derived.Test.YtjpcchipejmocaaLawKit
namespace Go.Proofs.Ytjpcchipejmocaa
set_option linter.unusedSimpArgs false
open Go.ChangeShapes Go.WideShapes Go.ChangeAt Go.RowKit
set_option linter.unusedVariables false
set_option maxRecDepth 100000
theorem atr_pv {w : World} {x : Atr} : rPV (fun _ => True) w x.cells x.pv := by
  exact plain_rPV (xs := x.cells) (fun v hv => by simp [Atr.cells] at hv; rcases hv with rfl | rfl | rfl <;> rfl)
theorem policyTells_lifted (os : Os) (started : os.Started) (H : Type) (enc : TypeId × Value → H) :
    ReturnsInHanded {} Try.checked os 10 .any (Rows.policyTellsSpec.pre6 enc Try.prog Try.f10 Rows.policyTellsRow.domain false) (Rows.policyTellsSpec.post enc Try.prog Try.f10 false true false false) := by
  refine law_lift (C := Try.checked) (bt := 4) (by kernel_rfl) started (by kernel_rfl) Try.func10 (ChangeSpec.witness6 (enc := enc) (C := Try.checked) false ⟨#[], #[.agg #[.string .empty, .bool false, .int .i64 0, .slice none 0 0, .slice none 0 0, .slice none 0 0, .slice none 0 0], .agg #[.int .i64 0, .string .empty, .bool false], .slice none 0 0, .slice none 0 0], []⟩ 8 (by kernel_rfl) (by kernel_rfl) (by kernel_rfl) (by kernel_rfl)) (by kernel_rfl) ?_ rfl rfl ?_ (by kernel_rfl) Try.underlying4 ?_
  · intro t ht
    rw [Try.params10] at ht
    simp only [List.mem_cons, List.not_mem_nil, or_false] at ht
    rcases ht with rfl | rfl | rfl | rfl
    all_goals exact ⟨by kernel_rfl, of_decide_eq_true (by kernel_rfl)⟩
  · intro W args ds ps hA
    rw [Try.params10] at hA
    obtain ⟨v0, vs0, d0, ds0, p0, q0, _, rfl, rfl, h0, r0⟩ := trodAll_cons hA
    obtain ⟨v1, vs1, d1, ds1, p1, q1, _, rfl, rfl, h1, r1⟩ := trodAll_cons r0
    obtain ⟨v2, vs2, d2, ds2, p2, q2, _, rfl, rfl, h2, r2⟩ := trodAll_cons r1
    obtain ⟨v3, vs3, d3, ds3, p3, q3, _, rfl, rfl, h3, r3⟩ := trodAll_cons r2
    obtain ⟨_, rfl, rfl⟩ := trodAll_nil r3
    rfl
  · intro W base args ds ps hval hA hw
    rw [Try.params10] at hA hval hw
    obtain ⟨v0, vs0, d0, ds0, p0, q0, hargs, rfl, rfl, h0, r0⟩ := trodAll_cons hA
    obtain ⟨v1, vs1, d1, ds1, p1, q1, rfl, rfl, rfl, h1, r1⟩ := trodAll_cons r0
    obtain ⟨v2, vs2, d2, ds2, p2, q2, rfl, rfl, rfl, h2, r2⟩ := trodAll_cons r1
    obtain ⟨v3, vs3, d3, ds3, p3, q3, rfl, rfl, rfl, h3, r3⟩ := trodAll_cons r2
    obtain ⟨rfl, rfl, rfl⟩ := trodAll_nil r3
    obtain rfl : args = #[v0, v1, v2, v3] := by cases args; simp_all
    obtain ⟨p, csp, rfl, hp⟩ := arg_struct opens_pol Try.underlying64 (hval 0 64 v0 rfl rfl) h0 (fun n hn => hw n (DataW.weights_mem_each (j := 0) rfl rfl n hn))
    obtain ⟨a, csa, rfl, ha⟩ := arg_struct opens_atr Try.underlying26 (hval 1 26 v1 rfl rfl) h1 (fun n hn => hw n (DataW.weights_mem_each (j := 1) rfl rfl n hn))
    obtain ⟨l, Al, cl, rfl, hl, cl', sl⟩ := arg_sl opens_nods Try.underlying32 (hval 2 32 v2 rfl rfl) h2 (fun n hn => hw n (DataW.weights_mem_each (j := 2) rfl rfl n hn))
    obtain ⟨o, Ao, co, rfl, ho, co', so⟩ := arg_sl opens_obls Try.underlying62 (hval 3 62 v3 rfl rfl) h3 (fun n hn => hw n (DataW.weights_mem_each (j := 3) rfl rfl n hn))
    obtain ⟨n, hp⟩ := hp; obtain ⟨rfl, ha⟩ := ha; exact law_calls (polTells_h p (polF_of hp) a ha l (sl.fit fun _ _ h => h.2) o (so.fit fun _ _ h => h.2)) (.cons (rel_agg (pol_pv n hp)) (.cons (rel_agg atr_pv) (.cons (nods_rel sl hl cl') (.cons (obls_rel so ho co') .nil))))
theorem policyTells_proved : Rows.PolicyTellsSaid :=
  OpenClaim.holds_of_wide 10 Try.f10 rfl rfl rfl rfl rfl rfl rfl ⟨rfl, rfl, rfl, rfl, rfl⟩ rfl rfl rfl rfl rfl (by kernel_rfl) Try.func10 (by kernel_rfl)
    (of_decide_eq_true (by kernel_rfl)) (by unfold Func.isWrapper; first | (rw [if_pos (by decide +kernel)]; kernel_rfl) | (rw [if_neg (by decide +kernel)]; exact ⟨rfl, rfl⟩))
    (fun os started H enc _ => policyTells_lifted os started H enc)
#print axioms policyTells_proved
end Go.Proofs.Ytjpcchipejmocaa
