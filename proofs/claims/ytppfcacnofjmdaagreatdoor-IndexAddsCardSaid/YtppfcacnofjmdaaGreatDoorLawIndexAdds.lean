/-
  The statement IndexAdds: for every input the call returns true, and each argument reads behind it as before; the row's listed variables are tied to the program's text.
-/
import Derived.Test.YtppfcacnofjmdaaGreatDoorPk1
import Derived.Test.YtppfcacnofjmdaaGreatDoorPk2
import Derived.Test.YtppfcacnofjmdaaGreatDoorPk3
import Derived.Test.YtppfcacnofjmdaaGreatDoorPk4
import Derived.Test.YtppfcacnofjmdaaGreatDoorPk5
import Derived.Test.YtppfcacnofjmdaaGreatDoorPk6
import Derived.Test.YtppfcacnofjmdaaGreatDoorCards
import Derived.Test.YtppfcacnofjmdaaGreatDoorTie
import Derived.SevenTiedAt
namespace Go.Proofs.YtppfcacnofjmdaaGreatDoor
set_option linter.unusedSimpArgs false
open Go.ChangeShapes Go.WideShapes Go.ChangeAt Go.RowKit
set_option linter.unusedVariables false
set_option maxRecDepth 100000
theorem indexAdds_lifted (os : Os) (started : os.Started) (H : Type) (enc : TypeId × Value → H) :
    ReturnsInHanded {} Tryz.checked os 14 .any (fun w args => (Rows.indexAddsSpec.pre enc Tryz.prog Tryz.f14 [] false w args ∧ laidMetH Tryz.prog Rows.indexAddsRow.laid w) ∧ sizedMet enc Tryz.prog Tryz.f14 (OpenSpec.ofChange Rows.indexAddsSpec) false w args) (Rows.indexAddsSpec.post enc Tryz.prog Tryz.f14 false true false false) := by
  refine law_liftL (C := Tryz.checked) (laid := Rows.indexAddsRow.laid) (bt := 4) own_none started (by kernel_rfl) Tryz.func14 (ChangeSpec.witness_at (enc := enc) (C := Tryz.checked) (os := os) (X := fun w _ => laidMetH Tryz.prog Rows.indexAddsRow.laid w) false (worldB os) #[.agg #[.string .empty, .bool false, .int .i64 0, .slice none 0 0, .slice none 0 0, .slice none 0 0, .slice none 0 0], .slice none 0 0] 8 rfl (by kernel_rfl) (by kernel_rfl) (by kernel_rfl) (by kernel_rfl) (by kernel_rfl) (laidMetH_of_parts (worldB_met os _) rfl)) (by kernel_rfl) ?_ rfl rfl ?_ (by kernel_rfl) Tryz.underlying4 ?_
  · intro t ht
    rw [Tryz.params14] at ht
    simp only [List.mem_cons, List.not_mem_nil, or_false] at ht
    rcases ht with rfl | rfl
    all_goals exact ⟨by kernel_rfl, of_decide_eq_true (by kernel_rfl)⟩
  · intro W args ds ps hA
    rw [Tryz.params14] at hA
    obtain ⟨v0, vs0, d0, ds0, p0, q0, _, rfl, rfl, h0, r0⟩ := trodAll_cons hA
    obtain ⟨v1, vs1, d1, ds1, p1, q1, _, rfl, rfl, h1, r1⟩ := trodAll_cons r0
    obtain ⟨_, rfl, rfl⟩ := trodAll_nil r1
    rfl
  · intro W base args ds ps hL0 hval hA hw
    have hL := gl_of_laid (W := W) (by exact hL0)
    rw [Tryz.params14] at hA hval hw
    obtain ⟨v0, vs0, d0, ds0, p0, q0, hargs, rfl, rfl, h0, r0⟩ := trodAll_cons hA
    obtain ⟨v1, vs1, d1, ds1, p1, q1, rfl, rfl, rfl, h1, r1⟩ := trodAll_cons r0
    obtain ⟨rfl, rfl, rfl⟩ := trodAll_nil r1
    obtain rfl : args = #[v0, v1] := by cases args; simp_all
    obtain ⟨p, csp, rfl, hp⟩ := arg_struct opens_pol Tryz.underlying28 (hval 0 28 v0 rfl rfl) h0 (fun n hn => hw n (DataW.weights_mem_each (j := 0) rfl rfl n hn))
    obtain ⟨g, Ag, cg, rfl, hg, cg', sg⟩ := arg_sl opens_givs Tryz.underlying29 (hval 1 29 v1 rfl rfl) h1 (fun n hn => hw n (DataW.weights_mem_each (j := 1) rfl rfl n hn))
    obtain ⟨n, hp⟩ := hp; exact law_callsG hL (indexAdds_h p (polF_of hp) g (sg.fit fun _ _ h => giv_fit h)) (.cons (rel_agg (pol_pv n hp)) (.cons (givs_rel sg hg cg') .nil))
theorem indexAdds_row : Rows.IndexAddsSaid :=
  OpenClaim.holds_of_wide 14 Tryz.f14 rfl rfl rfl rfl rfl rfl rfl ⟨rfl, rfl, rfl, rfl, rfl⟩ rfl rfl rfl rfl rfl (by kernel_rfl) Tryz.func14 (by kernel_rfl)
    (of_decide_eq_true (by kernel_rfl)) (by unfold Func.isWrapper; first | (rw [if_pos (by decide +kernel)]; kernel_rfl) | (rw [if_neg (by decide +kernel)]; exact ⟨rfl, rfl⟩))
    (fun os started H enc _ => indexAdds_lifted os started H enc)
theorem indexAdds_proved : Rows.IndexAddsCardSaid :=
  Claim7.holds_tied_plain_at .later [] Rows.indexAddsCard.laidKinds true Rows.indexAddsCard.stood.harness true
    indexAdds_row (fun _ h => by cases h) (by kernel_rfl) (fun _ h => by cases h) indexAdds_row_tie rfl ⟨rfl, rfl⟩ (by kernel_rfl) rfl
    (fun f fn hf hfn => by
      obtain rfl : f = 14 := Option.some.inj ((show Tryz.prog.funcNamed "bailiff/bailifflaw18.IndexAdds" = some 14 by kernel_rfl).symm.trans hf) |>.symm
      obtain rfl : fn = Tryz.f14 := (Option.some.inj (Tryz.func14.symm.trans hfn)).symm
      exact ⟨by kernel_rfl, fun j t ht => by
        rw [Tryz.params14] at ht
        have hm : t ∈ [28, 29] := by simpa using Array.mem_of_getElem? ht
        have hall : ([28, 29].all fun u => !Tryz.prog.wantsStandIn u) = true := by kernel_rfl
        exact (show Tryz.prog.wantsStandIn t = false by simpa using List.all_eq_true.1 hall t hm)⟩)
    (by kernel_rfl)
#print axioms indexAdds_proved
end Go.Proofs.YtppfcacnofjmdaaGreatDoor
