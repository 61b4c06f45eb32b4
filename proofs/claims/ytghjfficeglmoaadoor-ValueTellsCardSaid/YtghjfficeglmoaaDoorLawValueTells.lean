/-
  The statement ValueTells: for every input the call returns true, and each argument reads behind it as before; the row's listed variables are tied to the program's text.
-/
import Derived.Test.YtghjfficeglmoaaDoorPk1
import Derived.Test.YtghjfficeglmoaaDoorPk2
import Derived.Test.YtghjfficeglmoaaDoorPk3
import Derived.Test.YtghjfficeglmoaaDoorCards
import Derived.Test.YtghjfficeglmoaaDoorTie
import Derived.SevenTiedAt
namespace Go.Proofs.YtghjfficeglmoaaDoor
set_option linter.unusedSimpArgs false
open Go.ChangeShapes Go.WideShapes Go.ChangeAt Go.RowKit
set_option linter.unusedVariables false
set_option maxRecDepth 100000
theorem valueTells_lifted (os : Os) (started : os.Started) (H : Type) (enc : TypeId × Value → H) :
    ReturnsInHanded {} Tryd.checked os 3 .any (fun w args => (Rows.valueTellsSpec.pre enc Tryd.prog Tryd.f3 [] false w args ∧ laidMetH Tryd.prog Rows.valueTellsRow.laid w) ∧ sizedMet enc Tryd.prog Tryd.f3 (OpenSpec.ofChange Rows.valueTellsSpec) false w args) (Rows.valueTellsSpec.post enc Tryd.prog Tryd.f3 false true false false) := by
  refine law_liftL (C := Tryd.checked) (laid := Rows.valueTellsRow.laid) (bt := 4) own_none started (by kernel_rfl) Tryd.func3 (ChangeSpec.witness_at (enc := enc) (C := Tryd.checked) (os := os) (X := fun w _ => laidMetH Tryd.prog Rows.valueTellsRow.laid w) false (worldA os) #[.agg #[.int .i64 0, .int .i64 0, .string .empty], .agg #[.int .i64 0, .int .i64 0, .string .empty], .string .empty, .slice none 0 0] 8 rfl (by kernel_rfl) (by kernel_rfl) (by kernel_rfl) (by kernel_rfl) (by kernel_rfl) (laidMetH_of_parts (worldA_met os _) rfl)) (by kernel_rfl) ?_ rfl rfl ?_ (by kernel_rfl) Tryd.underlying4 ?_
  · intro t ht
    rw [Tryd.params3] at ht
    simp only [List.mem_cons, List.not_mem_nil, or_false] at ht
    rcases ht with rfl | rfl | rfl | rfl
    all_goals exact ⟨by kernel_rfl, of_decide_eq_true (by kernel_rfl)⟩
  · intro W args ds ps hA
    rw [Tryd.params3] at hA
    obtain ⟨v0, vs0, d0, ds0, p0, q0, _, rfl, rfl, h0, r0⟩ := trodAll_cons hA
    obtain ⟨v1, vs1, d1, ds1, p1, q1, _, rfl, rfl, h1, r1⟩ := trodAll_cons r0
    obtain ⟨v2, vs2, d2, ds2, p2, q2, _, rfl, rfl, h2, r2⟩ := trodAll_cons r1
    obtain ⟨v3, vs3, d3, ds3, p3, q3, _, rfl, rfl, h3, r3⟩ := trodAll_cons r2
    obtain ⟨_, rfl, rfl⟩ := trodAll_nil r3
    rfl
  · intro W base args ds ps hL0 hval hA hw
    have hL := gl_of_laid (W := W) (by exact hL0)
    rw [Tryd.params3] at hA hval hw
    obtain ⟨v0, vs0, d0, ds0, p0, q0, hargs, rfl, rfl, h0, r0⟩ := trodAll_cons hA
    obtain ⟨v1, vs1, d1, ds1, p1, q1, rfl, rfl, rfl, h1, r1⟩ := trodAll_cons r0
    obtain ⟨v2, vs2, d2, ds2, p2, q2, rfl, rfl, rfl, h2, r2⟩ := trodAll_cons r1
    obtain ⟨v3, vs3, d3, ds3, p3, q3, rfl, rfl, rfl, h3, r3⟩ := trodAll_cons r2
    obtain ⟨rfl, rfl, rfl⟩ := trodAll_nil r3
    obtain rfl : args = #[v0, v1, v2, v3] := by cases args; simp_all
    obtain ⟨a, csa, rfl, ha⟩ := arg_struct opens_val Tryd.underlying23 (hval 0 23 v0 rfl rfl) h0 (fun n hn => hw n (DataW.weights_mem_each (j := 0) rfl rfl n hn))
    obtain ⟨b, csb, rfl, hb⟩ := arg_struct opens_val Tryd.underlying23 (hval 1 23 v1 rfl rfl) h1 (fun n hn => hw n (DataW.weights_mem_each (j := 1) rfl rfl n hn))
    obtain ⟨s, rfl, hs⟩ := arg_str Tryd.underlying9 (hval 2 9 v2 rfl rfl) h2 (fun n hn => hw n (DataW.weights_mem_each (j := 2) rfl rfl n hn))
    obtain ⟨l, Al, cl, rfl, hl, cl', sl⟩ := arg_sl opens_vals Tryd.underlying24 (hval 3 24 v3 rfl rfl) h3 (fun n hn => hw n (DataW.weights_mem_each (j := 3) rfl rfl n hn))
    exact law_callsG hL (valTells_h a b s l ha.2 hb.2 hs cl'.1 (sl.fit fun _ _ h => h.2)) (.cons (rel_agg (val_pv ha)) (.cons (rel_agg (val_pv hb)) (.cons (rel_str _) (.cons (rel_sl sl hl cl' (fun _ => ⟨rfl, rfl⟩) fun x _ cs hcs => val_pv hcs) .nil))))
theorem valueTells_row : Rows.ValueTellsSaid :=
  OpenClaim.holds_of_wide 3 Tryd.f3 rfl rfl rfl rfl rfl rfl rfl ⟨rfl, rfl, rfl, rfl, rfl⟩ rfl rfl rfl rfl rfl (by kernel_rfl) Tryd.func3 (by kernel_rfl)
    (of_decide_eq_true (by kernel_rfl)) (by unfold Func.isWrapper; first | (rw [if_pos (by decide +kernel)]; kernel_rfl) | (rw [if_neg (by decide +kernel)]; exact ⟨rfl, rfl⟩))
    (fun os started H enc _ => valueTells_lifted os started H enc)
theorem valueTells_proved : Rows.ValueTellsCardSaid :=
  Claim7.holds_tied_plain_at .later [] Rows.valueTellsCard.laidKinds true Rows.valueTellsCard.stood.harness Rows.valueTellsCard.stood.looks
    valueTells_row (fun _ h => by cases h) (by kernel_rfl) (fun _ h => by cases h) valueTells_row_tie rfl ⟨rfl, rfl⟩ (by kernel_rfl) rfl
    (fun f fn hf hfn => by
      obtain rfl : f = 3 := Option.some.inj ((show Tryd.prog.funcNamed "bailiff/bailifflaw3.ValueTells" = some 3 by kernel_rfl).symm.trans hf) |>.symm
      obtain rfl : fn = Tryd.f3 := (Option.some.inj (Tryd.func3.symm.trans hfn)).symm
      exact ⟨by kernel_rfl, fun j t ht => by
        rw [Tryd.params3] at ht
        have hm : t ∈ [23, 23, 9, 24] := by simpa using Array.mem_of_getElem? ht
        have hall : ([23, 23, 9, 24].all fun u => !Tryd.prog.wantsStandIn u) = true := by kernel_rfl
        exact (show Tryd.prog.wantsStandIn t = false by simpa using List.all_eq_true.1 hall t hm)⟩)
    (by kernel_rfl)
#print axioms valueTells_proved
end Go.Proofs.YtghjfficeglmoaaDoor
