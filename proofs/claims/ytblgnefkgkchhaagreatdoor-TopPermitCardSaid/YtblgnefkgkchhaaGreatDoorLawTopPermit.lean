/-
  The statement TopPermit: for every input the call returns true, and each argument reads behind it as before; the row's listed variables are tied to the program's text.
-/
import Derived.Test.YtblgnefkgkchhaaGreatDoorTPe15
import Derived.Test.YtblgnefkgkchhaaGreatDoorTPe16
import Derived.Test.YtblgnefkgkchhaaGreatDoorTPe17
import Derived.Test.YtblgnefkgkchhaaGreatDoorTPe18
import Derived.Test.YtblgnefkgkchhaaGreatDoorCards
import Derived.Test.YtblgnefkgkchhaaGreatDoorTie
import Derived.SevenTiedAt
set_option maxRecDepth 100000
namespace Go.Proofs.YtblgnefkgkchhaaGreatDoor
open _root_.Go.Proofs.Tryz
set_option linter.unusedSimpArgs false
open Go.ChangeShapes Go.WideShapes Go.ChangeAt Go.RowKit
set_option linter.unusedVariables false
theorem topPermit_proved:Rows.TopPermitCardSaid:=
 Claim7.holds_tied_plain_at .later [] Rows.topPermitCard.laidKinds true Rows.topPermitCard.stood.harness Rows.topPermitCard.stood.looks
  topPermit_row (fun _ h=>by cases h) Dh (fun _ h=>by cases h) topPermit_row_tie rfl ⟨rfl,rfl⟩ permit_main rfl
  (fun f fn hf hfn=>by
   obtain rfl:f=3:=Y5 (permit_named.symm.trans hf) |>.symm;obtain rfl:fn=f3:=(Y5 (func3.symm.trans hfn)).symm;exact⟨by kernel_rfl,fun j t ht=>by
    rw[params3]at ht;have hm:t∈[22]:=by simpa using Array.mem_of_getElem? ht
    have hall:([22].all fun u=>!prog.wantsStandIn u)=true:=by kernel_rfl
    exact(show prog.wantsStandIn t=false by simpa using YF.1 hall t hm)⟩)
  permit_goes
#print axioms topPermit_proved
end Go.Proofs.YtblgnefkgkchhaaGreatDoor
