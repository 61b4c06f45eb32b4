/-
  The statement TopDecided: for every input the call returns true, and each argument reads behind it as before; the row's listed variables are tied to the program's text.
-/
import Derived.Test.YtblgnefkgkchhaaGreatDoorTDe7
import Derived.Test.YtblgnefkgkchhaaGreatDoorTDe8
import Derived.Test.YtblgnefkgkchhaaGreatDoorTDe9
import Derived.Test.YtblgnefkgkchhaaGreatDoorTDe10
import Derived.Test.YtblgnefkgkchhaaGreatDoorCards
import Derived.Test.YtblgnefkgkchhaaGreatDoorTie
import Derived.SevenTiedAt
set_option maxRecDepth 100000
namespace Go.Proofs.YtblgnefkgkchhaaGreatDoor
open _root_.Go.Proofs.Tryz
set_option linter.unusedSimpArgs false
open Go.ChangeShapes Go.WideShapes Go.ChangeAt Go.RowKit
set_option linter.unusedVariables false
theorem topDecided_proved:Rows.TopDecidedCardSaid:=
 Claim7.holds_tied_plain_at .later [] Rows.topDecidedCard.laidKinds true Rows.topDecidedCard.stood.harness Rows.topDecidedCard.stood.looks
  topDecided_row (fun _ h=>by cases h) DG (fun _ h=>by cases h) topDecided_row_tie rfl ⟨rfl,rfl⟩ decided_main rfl
  (fun f fn hf hfn=>by
   obtain rfl:f=12:=YS (decided_named.symm.trans hf) |>.symm;obtain rfl:fn=f12:=(YS (func12.symm.trans hfn)).symm;exact⟨by kernel_rfl,fun j t ht=>by
    rw[params12]at ht;have hm:t∈[22]:=by simpa using Array.mem_of_getElem? ht
    have hall:([22].all fun u=>!prog.wantsStandIn u)=true:=by kernel_rfl
    exact(show prog.wantsStandIn t=false by simpa using YE.1 hall t hm)⟩)
  decided_goes
#print axioms topDecided_proved
end Go.Proofs.YtblgnefkgkchhaaGreatDoor
