/-
  The statement TopTwins: for every input the call returns true, and each argument reads behind it as before; the row's listed variables are tied to the program's text.
-/
import Derived.Test.YtblgnefkgkchhaaGreatDoorTTw7
import Derived.Test.YtblgnefkgkchhaaGreatDoorTTw8
import Derived.Test.YtblgnefkgkchhaaGreatDoorTTw9
import Derived.Test.YtblgnefkgkchhaaGreatDoorTTw10
import Derived.Test.YtblgnefkgkchhaaGreatDoorCards
import Derived.Test.YtblgnefkgkchhaaGreatDoorTie
import Derived.SevenTiedAt
set_option maxRecDepth 100000
namespace Go.Proofs.YtblgnefkgkchhaaGreatDoor
open _root_.Go.Proofs.Tryz
set_option linter.unusedSimpArgs false
open Go.ChangeShapes Go.WideShapes Go.ChangeAt Go.RowKit
set_option linter.unusedVariables false
theorem topTwins_proved:Rows.TopTwinsCardSaid:=
 Claim7.holds_tied_plain_at .later [] Rows.topTwinsCard.laidKinds true Rows.topTwinsCard.stood.harness Rows.topTwinsCard.stood.looks
  topTwins_row (fun _ h=>by cases h) DG (fun _ h=>by cases h) topTwins_row_tie rfl ⟨rfl,rfl⟩ twins_main rfl
  (fun f fn hf hfn=>by
   obtain rfl:f=9:=YS (twins_named.symm.trans hf) |>.symm;obtain rfl:fn=f9:=(YS (func9.symm.trans hfn)).symm;exact⟨by kernel_rfl,fun j t ht=>by
    rw[params9]at ht;have hm:t∈[22]:=by simpa using Array.mem_of_getElem? ht
    have hall:([22].all fun u=>!prog.wantsStandIn u)=true:=by kernel_rfl
    exact(show prog.wantsStandIn t=false by simpa using YE.1 hall t hm)⟩)
  twins_goes
#print axioms topTwins_proved
end Go.Proofs.YtblgnefkgkchhaaGreatDoor
