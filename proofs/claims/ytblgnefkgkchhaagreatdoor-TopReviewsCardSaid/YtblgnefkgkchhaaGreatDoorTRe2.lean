/- Part 52. -/
import Derived.Test.YtblgnefkgkchhaaGreatDoorCards
import Derived.Test.YtblgnefkgkchhaaGreatDoorTie
import Derived.SevenTiedAt
import Derived.Test.YtblgnefkgkchhaaGreatDoorTRe1
set_option maxRecDepth 100000
set_option linter.unusedSimpArgs false
set_option linter.unusedVariables false
namespace Go.Proofs.YtblgnefkgkchhaaGreatDoor
open _root_.Go.Proofs.Tryz
open Go.ChangeShapes Go.WideShapes Go.ChangeAt Go.RowKit
theorem topReviews_lifted (os:Os) (started:os.Started) (H:Type) (enc:TypeId×Value->H):
 ReturnsInHanded {} checked os 5 .any (fun w args=>(Rows.topReviewsSpec.pre enc prog f5 [] false w args/\laidMetH prog Rows.topReviewsRow.laid w)/\sizedMet enc prog f5 (OpenSpec.ofChange Rows.topReviewsSpec) false w args) (Rows.topReviewsSpec.post enc prog f5 false true false false):=by
 refine law_liftL (C:=checked) (laid:=Rows.topReviewsRow.laid) (bt:=4) own_none started DG func5 (ChangeSpec.witness_at (enc:=enc) (C:=checked) (os:=os) (X:=fun w _=>laidMetH prog Rows.topReviewsRow.laid w) false (worldB os) #[.slice none 0 0] 8 rfl DG DG DG DG DG (laidMetH_of_parts (qaS os _) rfl)) DG ?_ rfl rfl ?_ DG underlying4 ?_
 · intro t ht;rw[params5]at ht;simp only[Y0,Xn,or_false]at ht;rcases ht with rfl
   all_goals exact⟨by kernel_rfl,YM DG⟩
 · intro W args ds ps hA;rw[params5]at hA;obtain⟨v0,vs0,d0,ds0,p0,q0,_,rfl,rfl,h0,r0⟩:=trodAll_cons hA;obtain⟨_,rfl,rfl⟩:=trodAll_nil r0;rfl
 · intro W base args ds ps hL0 hval hA hw;have hL:=qaP (W:=W) DM;rw[params5]at hA hval hw;obtain⟨v0,vs0,d0,ds0,p0,q0,hargs,rfl,rfl,h0,r0⟩:=trodAll_cons hA;obtain⟨rfl,rfl,rfl⟩:=trodAll_nil r0;obtain rfl:args=#[v0]:=by cases args;simp_all
   obtain⟨l,Al,cl,rfl,hl,cl',sl⟩:=arg_sl qag underlying22 (hval 0 22 v0 rfl rfl) h0 (fun n hn=>hw n (DataW.weights_mem_each (j:=0) rfl rfl n hn));exact qaN hL (topReviews_h l cl'.1) (.cons (strs_rel sl hl cl') .nil)
end Go.Proofs.YtblgnefkgkchhaaGreatDoor
