/- Part 10. -/
import Derived.Test.YtblgnefkgkchhaaGreatDoorCards
import Derived.Test.YtblgnefkgkchhaaGreatDoorTie
import Derived.SevenTiedAt
import Derived.Test.YtblgnefkgkchhaaGreatDoorTSy9
set_option maxRecDepth 100000
set_option linter.unusedSimpArgs false
set_option linter.unusedVariables false
namespace Go.Proofs.YtblgnefkgkchhaaGreatDoor
open _root_.Go.Proofs.Tryz
open Go.ChangeShapes Go.WideShapes Go.ChangeAt Go.RowKit
theorem topSyntax_lifted (os:Os) (started:os.Started) (H:Type) (enc:TypeId×Value->H):
 ReturnsInHanded {} checked os 6 .any (fun w args=>(Rows.topSyntaxSpec.pre enc prog f6 [] false w args/\laidMetH prog Rows.topSyntaxRow.laid w)/\sizedMet enc prog f6 (OpenSpec.ofChange Rows.topSyntaxSpec) false w args) (Rows.topSyntaxSpec.post enc prog f6 false true false false):=by
 refine law_liftL (C:=checked) (laid:=Rows.topSyntaxRow.laid) (bt:=4) own_none started EY func6 (ChangeSpec.witness_at (enc:=enc) (C:=checked) (os:=os) (X:=fun w _=>laidMetH prog Rows.topSyntaxRow.laid w) false (worldB os) #[.slice none 0 0,.string .empty] 8 rfl EY EY EY EY EY (laidMetH_of_parts (worldB_met os _) rfl)) EY ?_ rfl rfl ?_ EY underlying4 ?_
 · intro t ht;rw[params6]at ht;simp only[Y2,Xt,or_false]at ht;rcases ht with rfl|rfl
   all_goals exact⟨by kernel_rfl,Y0 EY⟩
 · intro W args ds ps hA;rw[params6]at hA;obtain⟨v0,vs0,d0,ds0,p0,q0,_,rfl,rfl,h0,r0⟩:=trodAll_cons hA;obtain⟨v1,vs1,d1,ds1,p1,q1,_,rfl,rfl,h1,r1⟩:=trodAll_cons r0;obtain⟨_,rfl,rfl⟩:=trodAll_nil r1;rfl
 · intro W base args ds ps hL0 hval hA hw;have hL:=gl_of_laid (W:=W) (by exact hL0);rw[params6]at hA hval hw;obtain⟨v0,vs0,d0,ds0,p0,q0,hargs,rfl,rfl,h0,r0⟩:=trodAll_cons hA;obtain⟨v1,vs1,d1,ds1,p1,q1,rfl,rfl,rfl,h1,r1⟩:=trodAll_cons r0;obtain⟨rfl,rfl,rfl⟩:=trodAll_nil r1;obtain rfl:args=#[v0,v1]:=by cases args;simp_all
   obtain⟨l,Al,cl,rfl,hl,cl',sl⟩:=arg_sl opens_strs underlying22 (hval 0 22 v0 rfl rfl) h0 (fun n hn=>hw n (DataW.weights_mem_each (j:=0) rfl rfl n hn));obtain⟨g,rfl,hg⟩:=arg_str underlying9 (hval 1 9 v1 rfl rfl) h1 (fun n hn=>hw n (DataW.weights_mem_each (j:=1) rfl rfl n hn));exact law_callsG hL (topSyntax_h l cl'.1 g) (.cons (strs_rel sl hl cl') (.cons (.v rfl) .nil))
end Go.Proofs.YtblgnefkgkchhaaGreatDoor
