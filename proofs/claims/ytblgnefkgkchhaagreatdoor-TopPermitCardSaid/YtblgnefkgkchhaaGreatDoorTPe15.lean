/- Part 15. -/
import Derived.Test.YtblgnefkgkchhaaGreatDoorTie
import Derived.SevenTiedAt
import Derived.Test.YtblgnefkgkchhaaGreatDoorTPe10
import Derived.Test.YtblgnefkgkchhaaGreatDoorTPe11
import Derived.Test.YtblgnefkgkchhaaGreatDoorTPe12
import Derived.Test.YtblgnefkgkchhaaGreatDoorTPe13
import Derived.Test.YtblgnefkgkchhaaGreatDoorTPe14
set_option maxRecDepth 100000
set_option linter.unusedSimpArgs false
set_option linter.unusedVariables false
namespace Go.Proofs.YtblgnefkgkchhaaGreatDoor
open _root_.Go.Proofs.Tryz
open Go.ChangeShapes Go.WideShapes Go.ChangeAt Go.RowKit
theorem topPermit_facts:joinedFacts Tryz.pinned.checked.prog 3 f3 Rows.topPermitSpec Rows.topPermitRow=true:=by
 unfold joinedFacts;rw[permit_inPlace,permit_unfollowed,permit_recurses,permit_varsNamed];kernel_rfl
theorem topPermit_row:Rows.TopPermitSaid:=
 OpenClaim.holds_of_wide 3 f3 rfl rfl rfl rfl rfl rfl rfl ⟨rfl,rfl,rfl,rfl,rfl⟩ rfl rfl rfl rfl rfl Dh func3 topPermit_facts
  (YY Dh) (by unfold Func.isWrapper;first|(rw[Yh EY];kernel_rfl)|(rw[Yc EY];exact⟨rfl,rfl⟩))
  (fun os started H enc _=>topPermit_lifted os started H enc)
end Go.Proofs.YtblgnefkgkchhaaGreatDoor
