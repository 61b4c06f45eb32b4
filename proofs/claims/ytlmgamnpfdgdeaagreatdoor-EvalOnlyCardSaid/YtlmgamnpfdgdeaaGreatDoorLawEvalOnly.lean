/-
  The statement EvalOnly: for every input the call returns true, and each argument reads behind it as before; the row's listed variables are tied to the program's text.
-/
import Derived.Test.YtlmgamnpfdgdeaaGreatDoorPk1
import Derived.Test.YtlmgamnpfdgdeaaGreatDoorPk2
import Derived.Test.YtlmgamnpfdgdeaaGreatDoorPk3
import Derived.Test.YtlmgamnpfdgdeaaGreatDoorPk4
import Derived.Test.YtlmgamnpfdgdeaaGreatDoorPk5
import Derived.Test.YtlmgamnpfdgdeaaGreatDoorPk6
import Derived.Test.YtlmgamnpfdgdeaaGreatDoorCards
import Derived.Test.YtlmgamnpfdgdeaaGreatDoorTie
import Derived.SevenTiedAt
namespace Go.Proofs.YtlmgamnpfdgdeaaGreatDoor
set_option linter.unusedSimpArgs false
open Go.ChangeShapes Go.WideShapes Go.ChangeAt Go.RowKit
set_option linter.unusedVariables false
set_option maxRecDepth 100000
theorem evalOnly_lifted (os : Os) (started : os.Started) (H : Type) (enc : TypeId × Value → H) :
    ReturnsInHanded {} Tryz.checked os 3 .any (fun w args => (Rows.evalOnlySpec.pre enc Tryz.prog Tryz.f3 [] false w args ∧ laidMetH Tryz.prog Rows.evalOnlyRow.laid w) ∧ sizedMet enc Tryz.prog Tryz.f3 (OpenSpec.ofChange Rows.evalOnlySpec) false w args) (Rows.evalOnlySpec.post enc Tryz.prog Tryz.f3 false true false false) := by
  refine law_liftL (C := Tryz.checked) (laid := Rows.evalOnlyRow.laid) (bt := 4) own_none started (by kernel_rfl) Tryz.func3 (ChangeSpec.witness_at (enc := enc) (C := Tryz.checked) (os := os) (X := fun w _ => laidMetH Tryz.prog Rows.evalOnlyRow.laid w) false (worldB os) #[.agg #[.string .empty, .bool false, .int .i64 0, .slice none 0 0, .slice none 0 0, .slice none 0 0, .slice none 0 0], .slice none 0 0, .agg #[.int .i64 0, .int .i64 0, .string .empty]] 8 rfl (by kernel_rfl) (by kernel_rfl) (by kernel_rfl) (by kernel_rfl) (by kernel_rfl) (laidMetH_of_parts (worldB_met os _) rfl)) (by kernel_rfl) ?_ rfl rfl ?_ (by kernel_rfl) Tryz.underlying4 ?_
  · intro t ht
    rw [Tryz.params3] at ht
    simp only [List.mem_cons, List.not_mem_nil, or_false] at ht
    rcases ht with rfl | rfl | rfl
    all_goals exact ⟨by kernel_rfl, of_decide_eq_true (by kernel_rfl)⟩
  · intro W args ds ps hA
    rw [Tryz.params3] at hA
    obtain ⟨v0, vs0, d0, ds0, p0, q0, _, rfl, rfl, h0, r0⟩ := trodAll_cons hA
    obtain ⟨v1, vs1, d1, ds1, p1, q1, _, rfl, rfl, h1, r1⟩ := trodAll_cons r0
    obtain ⟨v2, vs2, d2, ds2, p2, q2, _, rfl, rfl, h2, r2⟩ := trodAll_cons r1
    obtain ⟨_, rfl, rfl⟩ := trodAll_nil r2
    rfl
  · intro W base args ds ps hL0 hval hA hw
    have hL := gl_of_laid (W := W) (by exact hL0)
    rw [Tryz.params3] at hA hval hw
    obtain ⟨v0, vs0, d0, ds0, p0, q0, hargs, rfl, rfl, h0, r0⟩ := trodAll_cons hA
    obtain ⟨v1, vs1, d1, ds1, p1, q1, rfl, rfl, rfl, h1, r1⟩ := trodAll_cons r0
    obtain ⟨v2, vs2, d2, ds2, p2, q2, rfl, rfl, rfl, h2, r2⟩ := trodAll_cons r1
    obtain ⟨rfl, rfl, rfl⟩ := trodAll_nil r2
    obtain rfl : args = #[v0, v1, v2] := by cases args; simp_all
    obtain ⟨p, csp, rfl, hp⟩ := arg_struct opens_pol Tryz.underlying28 (hval 0 28 v0 rfl rfl) h0 (fun n hn => hw n (DataW.weights_mem_each (j := 0) rfl rfl n hn))
    obtain ⟨g, Ag, cg, rfl, hg, cg', sg⟩ := arg_sl opens_givs Tryz.underlying29 (hval 1 29 v1 rfl rfl) h1 (fun n hn => hw n (DataW.weights_mem_each (j := 1) rfl rfl n hn))
    obtain ⟨v, csv, rfl, hv⟩ := arg_struct opens_val Tryz.underlying31 (hval 2 31 v2 rfl rfl) h2 (fun n hn => hw n (DataW.weights_mem_each (j := 2) rfl rfl n hn))
    obtain ⟨n, hp⟩ := hp; exact law_callsG hL (evalOnly_h p (polF_of hp) g (sg.fit fun _ _ h => giv_fit h) v hv.2) (.cons (rel_agg (pol_pv n hp)) (.cons (givs_rel sg hg cg') (.cons (rel_agg (val_pv hv)) .nil)))
theorem evalOnly_row : Rows.EvalOnlySaid :=
  OpenClaim.holds_of_wide 3 Tryz.f3 rfl rfl rfl rfl rfl rfl rfl ⟨rfl, rfl, rfl, rfl, rfl⟩ rfl rfl rfl rfl rfl (by kernel_rfl) Tryz.func3 (by kernel_rfl)
    (of_decide_eq_true (by kernel_rfl)) (by unfold Func.isWrapper; first | (rw [if_pos (by decide +kernel)]; kernel_rfl) | (rw [if_neg (by decide +kernel)]; exact ⟨rfl, rfl⟩))
    (fun os started H enc _ => evalOnly_lifted os started H enc)
theorem evalOnly_proved : Rows.EvalOnlyCardSaid :=
  Claim7.holds_tied_plain_at .later [] Rows.evalOnlyCard.laidKinds true Rows.evalOnlyCard.stood.harness Rows.evalOnlyCard.stood.looks
    evalOnly_row (fun _ h => by cases h) (by kernel_rfl) (fun _ h => by cases h) evalOnly_row_tie rfl ⟨rfl, rfl⟩ (by kernel_rfl) rfl
    (fun f fn hf hfn => by
      obtain rfl : f = 3 := Option.some.inj ((show Tryz.prog.funcNamed "bailiff/bailifflaw14.EvalOnly" = some 3 by kernel_rfl).symm.trans hf) |>.symm
      obtain rfl : fn = Tryz.f3 := (Option.some.inj (Tryz.func3.symm.trans hfn)).symm
      exact ⟨by kernel_rfl, fun j t ht => by
        rw [Tryz.params3] at ht
        have hm : t ∈ [28, 29, 31] := by simpa using Array.mem_of_getElem? ht
        have hall : ([28, 29, 31].all fun u => !Tryz.prog.wantsStandIn u) = true := by kernel_rfl
        exact (show Tryz.prog.wantsStandIn t = false by simpa using List.all_eq_true.1 hall t hm)⟩)
    (by kernel_rfl)
#print axioms evalOnly_proved
end Go.Proofs.YtlmgamnpfdgdeaaGreatDoor
