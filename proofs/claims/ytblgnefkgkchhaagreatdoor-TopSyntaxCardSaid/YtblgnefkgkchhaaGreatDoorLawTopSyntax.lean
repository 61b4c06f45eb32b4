/-
  The statement TopSyntax: for every input the call returns true, and each argument reads behind it as before; the row's listed variables are tied to the program's text.
-/
import Derived.Test.YtblgnefkgkchhaaGreatDoorTSy15
import Derived.Test.YtblgnefkgkchhaaGreatDoorTSy16
import Derived.Test.YtblgnefkgkchhaaGreatDoorTSy17
import Derived.Test.YtblgnefkgkchhaaGreatDoorTSy18
import Derived.Test.YtblgnefkgkchhaaGreatDoorCards
import Derived.Test.YtblgnefkgkchhaaGreatDoorTie
import Derived.SevenTiedAt
set_option maxRecDepth 100000
namespace Go.Proofs.YtblgnefkgkchhaaGreatDoor
open _root_.Go.Proofs.Tryz
set_option linter.unusedSimpArgs false
open Go.ChangeShapes Go.WideShapes Go.ChangeAt Go.RowKit
set_option linter.unusedVariables false
theorem topSyntax_proved:Rows.TopSyntaxCardSaid:=
 Claim7.holds_tied_plain_at .later [] Rows.topSyntaxCard.laidKinds true Rows.topSyntaxCard.stood.harness Rows.topSyntaxCard.stood.looks
  topSyntax_row (fun _ h=>by cases h) EY (fun _ h=>by cases h) topSyntax_row_tie rfl ⟨rfl,rfl⟩ syntax_main rfl
  (fun f fn hf hfn=>by
   obtain rfl:f=6:=Y5 (syntax_named.symm.trans hf) |>.symm;obtain rfl:fn=f6:=(Y5 (func6.symm.trans hfn)).symm;exact⟨by kernel_rfl,fun j t ht=>by
    rw[params6]at ht;have hm:t∈[22,9]:=by simpa using Array.mem_of_getElem? ht
    have hall:([22,9].all fun u=>!prog.wantsStandIn u)=true:=by kernel_rfl
    exact(show prog.wantsStandIn t=false by simpa using YG.1 hall t hm)⟩)
  syntax_goes
#print axioms topSyntax_proved
end Go.Proofs.YtblgnefkgkchhaaGreatDoor
