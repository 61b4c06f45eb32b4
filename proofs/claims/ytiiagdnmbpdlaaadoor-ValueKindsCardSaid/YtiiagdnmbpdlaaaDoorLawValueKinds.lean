/-
  The statement ValueKinds: for every input the call returns true, and each argument reads behind it as before; the row's listed variables are tied to the program's text.
-/
import Derived.Test.YtiiagdnmbpdlaaaDoorValKinds
import Derived.Test.YtiiagdnmbpdlaaaDoorLaid
import Derived.Test.YtiiagdnmbpdlaaaDoorData
import Derived.Test.YtiiagdnmbpdlaaaDoorConvV
import Derived.Test.YtiiagdnmbpdlaaaDoorCards
import Derived.Test.YtiiagdnmbpdlaaaDoorTie
import Derived.SevenTiedAt
namespace Go.Proofs.YtiiagdnmbpdlaaaDoor
set_option linter.unusedSimpArgs false
open Go.ChangeShapes Go.WideShapes Go.ChangeAt Go.RowKit
set_option linter.unusedVariables false
set_option maxRecDepth 100000
theorem valueKinds_lifted (os : Os) (started : os.Started) (H : Type) (enc : TypeId × Value → H) :
    ReturnsInHanded {} Tryd.checked os 9 .any (fun w args => (Rows.valueKindsSpec.pre enc Tryd.prog Tryd.f9 [] false w args ∧ laidMetH Tryd.prog Rows.valueKindsRow.laid w) ∧ sizedMet enc Tryd.prog Tryd.f9 (OpenSpec.ofChange Rows.valueKindsSpec) false w args) (Rows.valueKindsSpec.post enc Tryd.prog Tryd.f9 false true false false) := by
  refine law_liftL (C := Tryd.checked) (laid := Rows.valueKindsRow.laid) (bt := 4) own_none started (by kernel_rfl) Tryd.func9 (ChangeSpec.witness_at (enc := enc) (C := Tryd.checked) (os := os) (X := fun w _ => laidMetH Tryd.prog Rows.valueKindsRow.laid w) false (worldA os) #[.agg #[.int .i64 0, .int .i64 0, .string .empty], .agg #[.int .i64 0, .int .i64 0, .string .empty]] 8 rfl (by kernel_rfl) (by kernel_rfl) (by kernel_rfl) (by kernel_rfl) (by kernel_rfl) (laidMetH_of_parts (worldA_met os _) rfl)) (by kernel_rfl) ?_ rfl rfl ?_ (by kernel_rfl) Tryd.underlying4 ?_
  · intro t ht
    rw [Tryd.params9] at ht
    simp only [List.mem_cons, List.not_mem_nil, or_false] at ht
    rcases ht with rfl | rfl
    all_goals exact ⟨by kernel_rfl, of_decide_eq_true (by kernel_rfl)⟩
  · intro W args ds ps hA
    rw [Tryd.params9] at hA
    obtain ⟨v0, vs0, d0, ds0, p0, q0, _, rfl, rfl, h0, r0⟩ := trodAll_cons hA
    obtain ⟨v1, vs1, d1, ds1, p1, q1, _, rfl, rfl, h1, r1⟩ := trodAll_cons r0
    obtain ⟨_, rfl, rfl⟩ := trodAll_nil r1
    rfl
  · intro W base args ds ps hL0 hval hA hw
    have hL := gl_of_laid (W := W) (by exact hL0)
    rw [Tryd.params9] at hA hval hw
    obtain ⟨v0, vs0, d0, ds0, p0, q0, hargs, rfl, rfl, h0, r0⟩ := trodAll_cons hA
    obtain ⟨v1, vs1, d1, ds1, p1, q1, rfl, rfl, rfl, h1, r1⟩ := trodAll_cons r0
    obtain ⟨rfl, rfl, rfl⟩ := trodAll_nil r1
    obtain rfl : args = #[v0, v1] := by cases args; simp_all
    obtain ⟨a, csa, rfl, ha⟩ := arg_struct opens_val Tryd.underlying26 (hval 0 26 v0 rfl rfl) h0 (fun n hn => hw n (DataW.weights_mem_each (j := 0) rfl rfl n hn))
    obtain ⟨b, csb, rfl, hb⟩ := arg_struct opens_val Tryd.underlying26 (hval 1 26 v1 rfl rfl) h1 (fun n hn => hw n (DataW.weights_mem_each (j := 1) rfl rfl n hn))
    exact law_callsG hL (valKinds_h a b ha.2 hb.2) (.cons (rel_agg (val_pv ha)) (.cons (rel_agg (val_pv hb)) .nil))
theorem valueKinds_row : Rows.ValueKindsSaid :=
  OpenClaim.holds_of_wide 9 Tryd.f9 rfl rfl rfl rfl rfl rfl rfl ⟨rfl, rfl, rfl, rfl, rfl⟩ rfl rfl rfl rfl rfl (by kernel_rfl) Tryd.func9 (by kernel_rfl)
    (of_decide_eq_true (by kernel_rfl)) (by unfold Func.isWrapper; first | (rw [if_pos (by decide +kernel)]; kernel_rfl) | (rw [if_neg (by decide +kernel)]; exact ⟨rfl, rfl⟩))
    (fun os started H enc _ => valueKinds_lifted os started H enc)
theorem valueKinds_proved : Rows.ValueKindsCardSaid :=
  Claim7.holds_tied_plain_at .later [] Rows.valueKindsCard.laidKinds true Rows.valueKindsCard.stood.harness true
    valueKinds_row (fun _ h => by cases h) (by kernel_rfl) (fun _ h => by cases h) valueKinds_row_tie rfl ⟨rfl, rfl⟩ (by kernel_rfl) rfl
    (fun f fn hf hfn => by
      obtain rfl : f = 9 := Option.some.inj ((show Tryd.prog.funcNamed "bailiff/bailifflaw3.ValueKinds" = some 9 by kernel_rfl).symm.trans hf) |>.symm
      obtain rfl : fn = Tryd.f9 := (Option.some.inj (Tryd.func9.symm.trans hfn)).symm
      exact ⟨by kernel_rfl, fun j t ht => by
        rw [Tryd.params9] at ht
        have hm : t ∈ [26] := by simpa using Array.mem_of_getElem? ht
        have hall : ([26].all fun u => !Tryd.prog.wantsStandIn u) = true := by kernel_rfl
        exact (show Tryd.prog.wantsStandIn t = false by simpa using List.all_eq_true.1 hall t hm)⟩)
    (by kernel_rfl)
#print axioms valueKinds_proved
end Go.Proofs.YtiiagdnmbpdlaaaDoor
