/-
  The statement TopReviews: for every input the call returns true, and each argument reads behind it as before; the row's listed variables are tied to the program's text.
-/
import Derived.Test.YtblgnefkgkchhaaGreatDoorTRe7
import Derived.Test.YtblgnefkgkchhaaGreatDoorTRe8
import Derived.Test.YtblgnefkgkchhaaGreatDoorTRe9
import Derived.Test.YtblgnefkgkchhaaGreatDoorTRe10
import Derived.Test.YtblgnefkgkchhaaGreatDoorCards
import Derived.Test.YtblgnefkgkchhaaGreatDoorTie
import Derived.SevenTiedAt
set_option maxRecDepth 100000
namespace Go.Proofs.YtblgnefkgkchhaaGreatDoor
open _root_.Go.Proofs.Tryz
set_option linter.unusedSimpArgs false
open Go.ChangeShapes Go.WideShapes Go.ChangeAt Go.RowKit
set_option linter.unusedVariables false
theorem topReviews_proved:Rows.TopReviewsCardSaid:=
 Claim7.holds_tied_plain_at .later [] Rows.topReviewsCard.laidKinds true Rows.topReviewsCard.stood.harness Rows.topReviewsCard.stood.looks
  topReviews_row (fun _ h=>by cases h) DG (fun _ h=>by cases h) topReviews_row_tie rfl ⟨rfl,rfl⟩ reviews_main rfl
  (fun f fn hf hfn=>by
   obtain rfl:f=5:=YS (reviews_named.symm.trans hf) |>.symm;obtain rfl:fn=f5:=(YS (func5.symm.trans hfn)).symm;exact⟨by kernel_rfl,fun j t ht=>by
    rw[params5]at ht;have hm:t∈[22]:=by simpa using Array.mem_of_getElem? ht
    have hall:([22].all fun u=>!prog.wantsStandIn u)=true:=by kernel_rfl
    exact(show prog.wantsStandIn t=false by simpa using YE.1 hall t hm)⟩)
  reviews_goes
#print axioms topReviews_proved
end Go.Proofs.YtblgnefkgkchhaaGreatDoor
