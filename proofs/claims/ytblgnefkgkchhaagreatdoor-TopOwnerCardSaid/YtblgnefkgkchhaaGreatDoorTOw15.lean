/- Part 15. -/
import Derived.Test.YtblgnefkgkchhaaGreatDoorTie
import Derived.SevenTiedAt
import Derived.Test.YtblgnefkgkchhaaGreatDoorTOw10
import Derived.Test.YtblgnefkgkchhaaGreatDoorTOw11
import Derived.Test.YtblgnefkgkchhaaGreatDoorTOw12
import Derived.Test.YtblgnefkgkchhaaGreatDoorTOw13
import Derived.Test.YtblgnefkgkchhaaGreatDoorTOw14
set_option maxRecDepth 100000
set_option linter.unusedSimpArgs false
set_option linter.unusedVariables false
namespace Go.Proofs.YtblgnefkgkchhaaGreatDoor
open _root_.Go.Proofs.Tryz
open Go.ChangeShapes Go.WideShapes Go.ChangeAt Go.RowKit
theorem topOwner_facts:joinedFacts Tryz.pinned.checked.prog 8 f8 Rows.topOwnerSpec Rows.topOwnerRow=true:=by
 unfold joinedFacts;rw[owner_inPlace,owner_unfollowed,owner_recurses,owner_varsNamed];kernel_rfl
theorem topOwner_row:Rows.TopOwnerSaid:=
 OpenClaim.holds_of_wide 8 f8 rfl rfl rfl rfl rfl rfl rfl ⟨rfl,rfl,rfl,rfl,rfl⟩ rfl rfl rfl rfl rfl EF func8 topOwner_facts
  (Y0 EF) (by unfold Func.isWrapper;first|(rw[Yg Ep];kernel_rfl)|(rw[Yc Ep];exact⟨rfl,rfl⟩))
  (fun os started H enc _=>topOwner_lifted os started H enc)
end Go.Proofs.YtblgnefkgkchhaaGreatDoor
