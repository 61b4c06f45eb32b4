/- Part 27. -/
import Derived.Test.YtblgnefkgkchhaaGreatDoorTie
import Derived.SevenTiedAt
import Derived.Test.YtblgnefkgkchhaaGreatDoorTDe2
import Derived.Test.YtblgnefkgkchhaaGreatDoorTDe3
import Derived.Test.YtblgnefkgkchhaaGreatDoorTDe4
import Derived.Test.YtblgnefkgkchhaaGreatDoorTDe5
import Derived.Test.YtblgnefkgkchhaaGreatDoorTDe6
set_option maxRecDepth 100000
set_option linter.unusedSimpArgs false
set_option linter.unusedVariables false
namespace Go.Proofs.YtblgnefkgkchhaaGreatDoor
open _root_.Go.Proofs.Tryz
open Go.ChangeShapes Go.WideShapes Go.ChangeAt Go.RowKit
theorem topDecided_facts:joinedFacts Tryz.pinned.checked.prog 12 f12 Rows.topDecidedSpec Rows.topDecidedRow=true:=by
 unfold joinedFacts;rw[decided_inPlace,decided_unfollowed,decided_recurses,decided_varsNamed];kernel_rfl
theorem topDecided_row:Rows.TopDecidedSaid:=
 OpenClaim.holds_of_wide 12 f12 rfl rfl rfl rfl rfl rfl rfl ⟨rfl,rfl,rfl,rfl,rfl⟩ rfl rfl rfl rfl rfl DG func12 topDecided_facts
  (YM DG) Et
  (fun os started H enc _=>topDecided_lifted os started H enc)
end Go.Proofs.YtblgnefkgkchhaaGreatDoor
