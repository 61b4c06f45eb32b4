/- Part 10. -/
import Derived.Test.YtblgnefkgkchhaaGreatDoorCards
import Derived.Test.YtblgnefkgkchhaaGreatDoorTie
import Derived.SevenTiedAt
import Derived.Test.YtblgnefkgkchhaaGreatDoorTPe9
set_option maxRecDepth 100000
set_option linter.unusedSimpArgs false
set_option linter.unusedVariables false
namespace Go.Proofs.YtblgnefkgkchhaaGreatDoor
open _root_.Go.Proofs.Tryz
open Go.ChangeShapes Go.WideShapes Go.ChangeAt Go.RowKit
theorem topPermit_lifted (os:Os) (started:os.Started) (H:Type) (enc:TypeId×Value->H):
 ReturnsInHanded {} checked os 3 .any (fun w args=>(Rows.topPermitSpec.pre enc prog f3 [] false w args/\laidMetH prog Rows.topPermitRow.laid w)/\sizedMet enc prog f3 (OpenSpec.ofChange Rows.topPermitSpec) false w args) (Rows.topPermitSpec.post enc prog f3 false true false false):=by
 refine law_liftL (C:=checked) (laid:=Rows.topPermitRow.laid) (bt:=4) own_none started Dh func3 (ChangeSpec.witness_at (enc:=enc) (C:=checked) (os:=os) (X:=fun w _=>laidMetH prog Rows.topPermitRow.laid w) false (worldB os) #[.slice none 0 0] 8 rfl Dh Dh Dh Dh Dh (laidMetH_of_parts (worldB_met os _) rfl)) Dh ?_ rfl rfl ?_ Dh underlying4 ?_
 · intro t ht;rw[params3]at ht;simp only[Y4,Xv,or_false]at ht;rcases ht with rfl
   all_goals exact⟨by kernel_rfl,YY Dh⟩
 · intro W args ds ps hA;rw[params3]at hA;obtain⟨v0,vs0,d0,ds0,p0,q0,_,rfl,rfl,h0,r0⟩:=trodAll_cons hA;obtain⟨_,rfl,rfl⟩:=trodAll_nil r0;rfl
 · intro W base args ds ps hL0 hval hA hw;have hL:=gl_of_laid (W:=W) (by exact hL0);rw[params3]at hA hval hw;obtain⟨v0,vs0,d0,ds0,p0,q0,hargs,rfl,rfl,h0,r0⟩:=trodAll_cons hA;obtain⟨rfl,rfl,rfl⟩:=trodAll_nil r0;obtain rfl:args=#[v0]:=by cases args;simp_all
   obtain⟨l,Al,cl,rfl,hl,cl',sl⟩:=arg_sl opens_strs underlying22 (hval 0 22 v0 rfl rfl) h0 (fun n hn=>hw n (DataW.weights_mem_each (j:=0) rfl rfl n hn));exact law_callsG hL (topPermit_h l cl'.1) (.cons (strs_rel sl hl cl') .nil)
end Go.Proofs.YtblgnefkgkchhaaGreatDoor
