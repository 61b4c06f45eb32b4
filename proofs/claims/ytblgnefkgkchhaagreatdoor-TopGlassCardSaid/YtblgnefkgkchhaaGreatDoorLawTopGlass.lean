/-
  The statement TopGlass: for every input the call returns true, and each argument reads behind it as before; the row's listed variables are tied to the program's text.
-/
import Derived.Test.YtblgnefkgkchhaaGreatDoorTGl7
import Derived.Test.YtblgnefkgkchhaaGreatDoorTGl8
import Derived.Test.YtblgnefkgkchhaaGreatDoorTGl9
import Derived.Test.YtblgnefkgkchhaaGreatDoorTGl10
import Derived.Test.YtblgnefkgkchhaaGreatDoorCards
import Derived.Test.YtblgnefkgkchhaaGreatDoorTie
import Derived.SevenTiedAt
set_option maxRecDepth 100000
namespace Go.Proofs.YtblgnefkgkchhaaGreatDoor
open _root_.Go.Proofs.Tryz
set_option linter.unusedSimpArgs false
open Go.ChangeShapes Go.WideShapes Go.ChangeAt Go.RowKit
set_option linter.unusedVariables false
theorem topGlass_proved:Rows.TopGlassCardSaid:=
 Claim7.holds_tied_plain_at .later [] Rows.topGlassCard.laidKinds true Rows.topGlassCard.stood.harness Rows.topGlassCard.stood.looks
  topGlass_row (fun _ h=>by cases h) DG (fun _ h=>by cases h) topGlass_row_tie rfl ⟨rfl,rfl⟩ glass_main rfl
  (fun f fn hf hfn=>by
   obtain rfl:f=4:=YS (glass_named.symm.trans hf) |>.symm;obtain rfl:fn=f4:=(YS (func4.symm.trans hfn)).symm;exact⟨by kernel_rfl,fun j t ht=>by
    rw[params4]at ht;have hm:t∈[22]:=by simpa using Array.mem_of_getElem? ht
    have hall:([22].all fun u=>!prog.wantsStandIn u)=true:=by kernel_rfl
    exact(show prog.wantsStandIn t=false by simpa using YE.1 hall t hm)⟩)
  glass_goes
#print axioms topGlass_proved
end Go.Proofs.YtblgnefkgkchhaaGreatDoor
