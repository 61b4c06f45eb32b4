/-
  The statement ValueReads: for every input the call returns true, and each argument reads behind it as before; the row's listed variables are tied to the program's text.
-/
import Derived.Test.YtghjfficeglmoaaDoorPk1
import Derived.Test.YtghjfficeglmoaaDoorPk2
import Derived.Test.YtghjfficeglmoaaDoorPk3
import Derived.Test.YtghjfficeglmoaaDoorCards
import Derived.Test.YtghjfficeglmoaaDoorTie
import Derived.SevenTiedAt
namespace Go.Proofs.YtghjfficeglmoaaDoor
set_option linter.unusedSimpArgs false
open Go.ChangeShapes Go.WideShapes Go.ChangeAt Go.RowKit
set_option linter.unusedVariables false
set_option maxRecDepth 100000
theorem valueReads_lifted (os : Os) (started : os.Started) (H : Type) (enc : TypeId × Value → H) :
    ReturnsInHanded {} Tryd.checked os 4 .any (fun w args => (Rows.valueReadsSpec.pre enc Tryd.prog Tryd.f4 [] false w args ∧ laidMetH Tryd.prog Rows.valueReadsRow.laid w) ∧ sizedMet enc Tryd.prog Tryd.f4 (OpenSpec.ofChange Rows.valueReadsSpec) false w args) (Rows.valueReadsSpec.post enc Tryd.prog Tryd.f4 false true false false) := by
  refine law_liftL (C := Tryd.checked) (laid := Rows.valueReadsRow.laid) (bt := 4) own_none started (by kernel_rfl) Tryd.func4 (ChangeSpec.witness_at (enc := enc) (C := Tryd.checked) (os := os) (X := fun w _ => laidMetH Tryd.prog Rows.valueReadsRow.laid w) false (worldA os) #[.slice none 0 0, .int .i64 0] 8 rfl (by kernel_rfl) (by kernel_rfl) (by kernel_rfl) (by kernel_rfl) (by kernel_rfl) (laidMetH_of_parts (worldA_met os _) rfl)) (by kernel_rfl) ?_ rfl rfl ?_ (by kernel_rfl) Tryd.underlying4 ?_
  · intro t ht
    rw [Tryd.params4] at ht
    simp only [List.mem_cons, List.not_mem_nil, or_false] at ht
    rcases ht with rfl | rfl
    all_goals exact ⟨by kernel_rfl, of_decide_eq_true (by kernel_rfl)⟩
  · intro W args ds ps hA
    rw [Tryd.params4] at hA
    obtain ⟨v0, vs0, d0, ds0, p0, q0, _, rfl, rfl, h0, r0⟩ := trodAll_cons hA
    obtain ⟨v1, vs1, d1, ds1, p1, q1, _, rfl, rfl, h1, r1⟩ := trodAll_cons r0
    obtain ⟨_, rfl, rfl⟩ := trodAll_nil r1
    rfl
  · intro W base args ds ps hL0 hval hA hw
    have hL := gl_of_laid (W := W) (by exact hL0)
    rw [Tryd.params4] at hA hval hw
    obtain ⟨v0, vs0, d0, ds0, p0, q0, hargs, rfl, rfl, h0, r0⟩ := trodAll_cons hA
    obtain ⟨v1, vs1, d1, ds1, p1, q1, rfl, rfl, rfl, h1, r1⟩ := trodAll_cons r0
    obtain ⟨rfl, rfl, rfl⟩ := trodAll_nil r1
    obtain rfl : args = #[v0, v1] := by cases args; simp_all
    obtain ⟨b, Ab, cb, rfl, hb, cb', sb⟩ := arg_sl opens_bytes Tryd.underlying34 (hval 0 34 v0 rfl rfl) h0 (fun n hn => hw n (DataW.weights_mem_each (j := 0) rfl rfl n hn))
    obtain ⟨n, rfl, hn⟩ := arg_int Tryd.underlying3 (hval 1 3 v1 rfl rfl) h1
    exact law_callsG hL (valReads_h b cb'.1 n hn) (.cons (rel_bytes sb hb cb') (.cons (rel_int _ _) .nil))
theorem valueReads_row : Rows.ValueReadsSaid :=
  OpenClaim.holds_of_wide 4 Tryd.f4 rfl rfl rfl rfl rfl rfl rfl ⟨rfl, rfl, rfl, rfl, rfl⟩ rfl rfl rfl rfl rfl (by kernel_rfl) Tryd.func4 (by kernel_rfl)
    (of_decide_eq_true (by kernel_rfl)) (by unfold Func.isWrapper; first | (rw [if_pos (by decide +kernel)]; kernel_rfl) | (rw [if_neg (by decide +kernel)]; exact ⟨rfl, rfl⟩))
    (fun os started H enc _ => valueReads_lifted os started H enc)
theorem valueReads_proved : Rows.ValueReadsCardSaid :=
  Claim7.holds_tied_plain_at .later [] Rows.valueReadsCard.laidKinds true Rows.valueReadsCard.stood.harness Rows.valueReadsCard.stood.looks
    valueReads_row (fun _ h => by cases h) (by kernel_rfl) (fun _ h => by cases h) valueReads_row_tie rfl ⟨rfl, rfl⟩ (by kernel_rfl) rfl
    (fun f fn hf hfn => by
      obtain rfl : f = 4 := Option.some.inj ((show Tryd.prog.funcNamed "bailiff/bailifflaw3.ValueReads" = some 4 by kernel_rfl).symm.trans hf) |>.symm
      obtain rfl : fn = Tryd.f4 := (Option.some.inj (Tryd.func4.symm.trans hfn)).symm
      exact ⟨by kernel_rfl, fun j t ht => by
        rw [Tryd.params4] at ht
        have hm : t ∈ [34, 3] := by simpa using Array.mem_of_getElem? ht
        have hall : ([34, 3].all fun u => !Tryd.prog.wantsStandIn u) = true := by kernel_rfl
        exact (show Tryd.prog.wantsStandIn t = false by simpa using List.all_eq_true.1 hall t hm)⟩)
    (by kernel_rfl)
#print axioms valueReads_proved
end Go.Proofs.YtghjfficeglmoaaDoor
