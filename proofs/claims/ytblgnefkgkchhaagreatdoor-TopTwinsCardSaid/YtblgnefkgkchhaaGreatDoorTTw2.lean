/- Part 12. -/
import Derived.Test.YtblgnefkgkchhaaGreatDoorCards
import Derived.Test.YtblgnefkgkchhaaGreatDoorTie
import Derived.SevenTiedAt
import Derived.Test.YtblgnefkgkchhaaGreatDoorTTw1
set_option maxRecDepth 100000
set_option linter.unusedSimpArgs false
set_option linter.unusedVariables false
namespace Go.Proofs.YtblgnefkgkchhaaGreatDoor
open _root_.Go.Proofs.Tryz
open Go.ChangeShapes Go.WideShapes Go.ChangeAt Go.RowKit
theorem topTwins_lifted (os:Os) (started:os.Started) (H:Type) (enc:TypeId×Value->H):
 ReturnsInHanded {} checked os 9 .any (fun w args=>(Rows.topTwinsSpec.pre enc prog f9 [] false w args/\laidMetH prog Rows.topTwinsRow.laid w)/\sizedMet enc prog f9 (OpenSpec.ofChange Rows.topTwinsSpec) false w args) (Rows.topTwinsSpec.post enc prog f9 false true false false):=by
 refine law_liftL (C:=checked) (laid:=Rows.topTwinsRow.laid) (bt:=4) own_none started DG func9 (ChangeSpec.witness_at (enc:=enc) (C:=checked) (os:=os) (X:=fun w _=>laidMetH prog Rows.topTwinsRow.laid w) false (worldB os) #[.slice none 0 0,.slice none 0 0] 8 rfl DG DG DG DG DG (laidMetH_of_parts (qaS os _) rfl)) DG ?_ rfl rfl ?_ DG underlying4 ?_
 · intro t ht;rw[params9]at ht;simp only[Y0,Xn,or_false]at ht;rcases ht with rfl|rfl
   all_goals exact⟨by kernel_rfl,YM DG⟩
 · intro W args ds ps hA;rw[params9]at hA;obtain⟨v0,vs0,d0,ds0,p0,q0,_,rfl,rfl,h0,r0⟩:=trodAll_cons hA;obtain⟨v1,vs1,d1,ds1,p1,q1,_,rfl,rfl,h1,r1⟩:=trodAll_cons r0;obtain⟨_,rfl,rfl⟩:=trodAll_nil r1;rfl
 · intro W base args ds ps hL0 hval hA hw;have hL:=qaP (W:=W) DM;rw[params9]at hA hval hw;obtain⟨v0,vs0,d0,ds0,p0,q0,hargs,rfl,rfl,h0,r0⟩:=trodAll_cons hA;obtain⟨v1,vs1,d1,ds1,p1,q1,rfl,rfl,rfl,h1,r1⟩:=trodAll_cons r0;obtain⟨rfl,rfl,rfl⟩:=trodAll_nil r1;obtain rfl:args=#[v0,v1]:=by cases args;simp_all
   obtain⟨l,Al,cl,rfl,hl,cl',sl⟩:=arg_sl qag underlying22 (hval 0 22 v0 rfl rfl) h0 (fun n hn=>hw n (DataW.weights_mem_each (j:=0) rfl rfl n hn));obtain⟨g,Ag,cg,rfl,hg,cg',sg⟩:=arg_sl qag underlying22 (hval 1 22 v1 rfl rfl) h1 (fun n hn=>hw n (DataW.weights_mem_each (j:=1) rfl rfl n hn));exact qaN hL (topTwins_h l g cl'.1 cg'.1) (.cons (strs_rel sl hl cl') (.cons (strs_rel sg hg cg') .nil))
end Go.Proofs.YtblgnefkgkchhaaGreatDoor
