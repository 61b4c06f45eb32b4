/-
  The statement ValueBags: for every input the call returns true, and each argument reads behind it as before; the row's listed variables are tied to the program's text.
-/
import Derived.Test.YtiiagdnmbpdlaaaDoorValBags
import Derived.Test.YtiiagdnmbpdlaaaDoorLaid
import Derived.Test.YtiiagdnmbpdlaaaDoorData
import Derived.Test.YtiiagdnmbpdlaaaDoorConvV
import Derived.Test.YtiiagdnmbpdlaaaDoorCards
import Derived.Test.YtiiagdnmbpdlaaaDoorTie
import Derived.SevenTiedAt
namespace Go.Proofs.YtiiagdnmbpdlaaaDoor
set_option linter.unusedSimpArgs false
open Go.ChangeShapes Go.WideShapes Go.ChangeAt Go.RowKit
set_option linter.unusedVariables false
set_option maxRecDepth 100000
theorem valueBags_lifted (os : Os) (started : os.Started) (H : Type) (enc : TypeId × Value → H) :
    ReturnsInHanded {} Tryd.checked os 8 .any (fun w args => (Rows.valueBagsSpec.pre enc Tryd.prog Tryd.f8 [] false w args ∧ laidMetH Tryd.prog Rows.valueBagsRow.laid w) ∧ sizedMet enc Tryd.prog Tryd.f8 (OpenSpec.ofChange Rows.valueBagsSpec) false w args) (Rows.valueBagsSpec.post enc Tryd.prog Tryd.f8 false true false false) := by
  refine law_liftL (C := Tryd.checked) (laid := Rows.valueBagsRow.laid) (bt := 4) own_none started (by kernel_rfl) Tryd.func8 (ChangeSpec.witness_at (enc := enc) (C := Tryd.checked) (os := os) (X := fun w _ => laidMetH Tryd.prog Rows.valueBagsRow.laid w) false (worldA os) #[.slice none 0 0, .agg #[.int .i64 0, .int .i64 0, .string .empty], .int .i64 0] 8 rfl (by kernel_rfl) (by kernel_rfl) (by kernel_rfl) (by kernel_rfl) (by kernel_rfl) (laidMetH_of_parts (worldA_met os _) rfl)) (by kernel_rfl) ?_ rfl rfl ?_ (by kernel_rfl) Tryd.underlying4 ?_
  · intro t ht
    rw [Tryd.params8] at ht
    simp only [List.mem_cons, List.not_mem_nil, or_false] at ht
    rcases ht with rfl | rfl | rfl
    all_goals exact ⟨by kernel_rfl, of_decide_eq_true (by kernel_rfl)⟩
  · intro W args ds ps hA
    rw [Tryd.params8] at hA
    obtain ⟨v0, vs0, d0, ds0, p0, q0, _, rfl, rfl, h0, r0⟩ := trodAll_cons hA
    obtain ⟨v1, vs1, d1, ds1, p1, q1, _, rfl, rfl, h1, r1⟩ := trodAll_cons r0
    obtain ⟨v2, vs2, d2, ds2, p2, q2, _, rfl, rfl, h2, r2⟩ := trodAll_cons r1
    obtain ⟨_, rfl, rfl⟩ := trodAll_nil r2
    rfl
  · intro W base args ds ps hL0 hval hA hw
    have hL := gl_of_laid (W := W) (by exact hL0)
    rw [Tryd.params8] at hA hval hw
    obtain ⟨v0, vs0, d0, ds0, p0, q0, hargs, rfl, rfl, h0, r0⟩ := trodAll_cons hA
    obtain ⟨v1, vs1, d1, ds1, p1, q1, rfl, rfl, rfl, h1, r1⟩ := trodAll_cons r0
    obtain ⟨v2, vs2, d2, ds2, p2, q2, rfl, rfl, rfl, h2, r2⟩ := trodAll_cons r1
    obtain ⟨rfl, rfl, rfl⟩ := trodAll_nil r2
    obtain rfl : args = #[v0, v1, v2] := by cases args; simp_all
    obtain ⟨l, Al, cl, rfl, hl, cl', sl⟩ := arg_sl opens_vals Tryd.underlying57 (hval 0 57 v0 rfl rfl) h0 (fun n hn => hw n (DataW.weights_mem_each (j := 0) rfl rfl n hn))
    obtain ⟨v, csv, rfl, hv⟩ := arg_struct opens_val Tryd.underlying26 (hval 1 26 v1 rfl rfl) h1 (fun n hn => hw n (DataW.weights_mem_each (j := 1) rfl rfl n hn))
    obtain ⟨n, rfl, hn⟩ := arg_int Tryd.underlying3 (hval 2 3 v2 rfl rfl) h2
    exact law_callsG hL (valBags_h l v n (sl.fit fun _ _ h => h.2) hv.2 hn) (.cons (rel_sl sl hl cl' (fun _ => ⟨rfl, rfl⟩) fun x _ cs hcs => val_pv hcs) (.cons (rel_agg (val_pv hv)) (.cons (rel_int _ _) .nil)))
theorem valueBags_row : Rows.ValueBagsSaid :=
  OpenClaim.holds_of_wide 8 Tryd.f8 rfl rfl rfl rfl rfl rfl rfl ⟨rfl, rfl, rfl, rfl, rfl⟩ rfl rfl rfl rfl rfl (by kernel_rfl) Tryd.func8 (by kernel_rfl)
    (of_decide_eq_true (by kernel_rfl)) (by unfold Func.isWrapper; first | (rw [if_pos (by decide +kernel)]; kernel_rfl) | (rw [if_neg (by decide +kernel)]; exact ⟨rfl, rfl⟩))
    (fun os started H enc _ => valueBags_lifted os started H enc)
theorem valueBags_proved : Rows.ValueBagsCardSaid :=
  Claim7.holds_tied_plain_at .later [] Rows.valueBagsCard.laidKinds true Rows.valueBagsCard.stood.harness true
    valueBags_row (fun _ h => by cases h) (by kernel_rfl) (fun _ h => by cases h) valueBags_row_tie rfl ⟨rfl, rfl⟩ (by kernel_rfl) rfl
    (fun f fn hf hfn => by
      obtain rfl : f = 8 := Option.some.inj ((show Tryd.prog.funcNamed "bailiff/bailifflaw3.ValueBags" = some 8 by kernel_rfl).symm.trans hf) |>.symm
      obtain rfl : fn = Tryd.f8 := (Option.some.inj (Tryd.func8.symm.trans hfn)).symm
      exact ⟨by kernel_rfl, fun j t ht => by
        rw [Tryd.params8] at ht
        have hm : t ∈ [57, 26, 3] := by simpa using Array.mem_of_getElem? ht
        have hall : ([57, 26, 3].all fun u => !Tryd.prog.wantsStandIn u) = true := by kernel_rfl
        exact (show Tryd.prog.wantsStandIn t = false by simpa using List.all_eq_true.1 hall t hm)⟩)
    (by kernel_rfl)
#print axioms valueBags_proved
end Go.Proofs.YtiiagdnmbpdlaaaDoor
