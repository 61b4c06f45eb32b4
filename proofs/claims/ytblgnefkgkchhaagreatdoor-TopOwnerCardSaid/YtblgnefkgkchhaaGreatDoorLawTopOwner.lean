/-
  The statement TopOwner: for every input the call returns true, and each argument reads behind it as before; the row's listed variables are tied to the program's text.
-/
import Derived.Test.YtblgnefkgkchhaaGreatDoorTOw15
import Derived.Test.YtblgnefkgkchhaaGreatDoorTOw16
import Derived.Test.YtblgnefkgkchhaaGreatDoorTOw17
import Derived.Test.YtblgnefkgkchhaaGreatDoorTOw18
import Derived.Test.YtblgnefkgkchhaaGreatDoorCards
import Derived.Test.YtblgnefkgkchhaaGreatDoorTie
import Derived.SevenTiedAt
set_option maxRecDepth 100000
namespace Go.Proofs.YtblgnefkgkchhaaGreatDoor
open _root_.Go.Proofs.Tryz
set_option linter.unusedSimpArgs false
open Go.ChangeShapes Go.WideShapes Go.ChangeAt Go.RowKit
set_option linter.unusedVariables false
theorem topOwner_proved:Rows.TopOwnerCardSaid:=
 Claim7.holds_tied_plain_at .later [] Rows.topOwnerCard.laidKinds true Rows.topOwnerCard.stood.harness Rows.topOwnerCard.stood.looks
  topOwner_row (fun _ h=>by cases h) EF (fun _ h=>by cases h) topOwner_row_tie rfl ⟨rfl,rfl⟩ owner_main rfl
  (fun f fn hf hfn=>by
   obtain rfl:f=8:=Y6 (owner_named.symm.trans hf) |>.symm;obtain rfl:fn=f8:=(Y6 (func8.symm.trans hfn)).symm;exact⟨by kernel_rfl,fun j t ht=>by
    rw[params8]at ht;have hm:t∈[22]:=by simpa using Array.mem_of_getElem? ht
    have hall:([22].all fun u=>!prog.wantsStandIn u)=true:=by kernel_rfl
    exact(show prog.wantsStandIn t=false by simpa using YF.1 hall t hm)⟩)
  owner_goes
#print axioms topOwner_proved
end Go.Proofs.YtblgnefkgkchhaaGreatDoor
