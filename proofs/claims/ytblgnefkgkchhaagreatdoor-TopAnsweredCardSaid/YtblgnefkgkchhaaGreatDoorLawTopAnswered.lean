/-
  The statement TopAnswered: for every input the call returns true, and each argument reads behind it as before; the row's listed variables are tied to the program's text.
-/
import Derived.Test.YtblgnefkgkchhaaGreatDoorTAn7
import Derived.Test.YtblgnefkgkchhaaGreatDoorTAn8
import Derived.Test.YtblgnefkgkchhaaGreatDoorTAn9
import Derived.Test.YtblgnefkgkchhaaGreatDoorTAn10
import Derived.Test.YtblgnefkgkchhaaGreatDoorCards
import Derived.Test.YtblgnefkgkchhaaGreatDoorTie
import Derived.SevenTiedAt
set_option maxRecDepth 100000
namespace Go.Proofs.YtblgnefkgkchhaaGreatDoor
open _root_.Go.Proofs.Tryz
set_option linter.unusedSimpArgs false
open Go.ChangeShapes Go.WideShapes Go.ChangeAt Go.RowKit
set_option linter.unusedVariables false
theorem topAnswered_proved:Rows.TopAnsweredCardSaid:=
 Claim7.holds_tied_plain_at .later [] Rows.topAnsweredCard.laidKinds true Rows.topAnsweredCard.stood.harness Rows.topAnsweredCard.stood.looks
  topAnswered_row (fun _ h=>by cases h) DG (fun _ h=>by cases h) topAnswered_row_tie rfl ⟨rfl,rfl⟩ answered_main rfl
  (fun f fn hf hfn=>by
   obtain rfl:f=11:=YS (answered_named.symm.trans hf) |>.symm;obtain rfl:fn=f11:=(YS (func11.symm.trans hfn)).symm;exact⟨by kernel_rfl,fun j t ht=>by
    rw[params11]at ht;have hm:t∈[22]:=by simpa using Array.mem_of_getElem? ht
    have hall:([22].all fun u=>!prog.wantsStandIn u)=true:=by kernel_rfl
    exact(show prog.wantsStandIn t=false by simpa using YE.1 hall t hm)⟩)
  answered_goes
#print axioms topAnswered_proved
end Go.Proofs.YtblgnefkgkchhaaGreatDoor
