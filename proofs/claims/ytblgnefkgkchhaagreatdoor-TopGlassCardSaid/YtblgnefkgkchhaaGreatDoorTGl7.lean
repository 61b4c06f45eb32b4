/- Part 47. -/
import Derived.Test.YtblgnefkgkchhaaGreatDoorTie
import Derived.SevenTiedAt
import Derived.Test.YtblgnefkgkchhaaGreatDoorTGl2
import Derived.Test.YtblgnefkgkchhaaGreatDoorTGl3
import Derived.Test.YtblgnefkgkchhaaGreatDoorTGl4
import Derived.Test.YtblgnefkgkchhaaGreatDoorTGl5
import Derived.Test.YtblgnefkgkchhaaGreatDoorTGl6
set_option maxRecDepth 100000
set_option linter.unusedSimpArgs false
set_option linter.unusedVariables false
namespace Go.Proofs.YtblgnefkgkchhaaGreatDoor
open _root_.Go.Proofs.Tryz
open Go.ChangeShapes Go.WideShapes Go.ChangeAt Go.RowKit
theorem topGlass_facts:joinedFacts Tryz.pinned.checked.prog 4 f4 Rows.topGlassSpec Rows.topGlassRow=true:=by
 unfold joinedFacts;rw[glass_inPlace,glass_unfollowed,glass_recurses,glass_varsNamed];kernel_rfl
theorem topGlass_row:Rows.TopGlassSaid:=
 OpenClaim.holds_of_wide 4 f4 rfl rfl rfl rfl rfl rfl rfl ⟨rfl,rfl,rfl,rfl,rfl⟩ rfl rfl rfl rfl rfl DG func4 topGlass_facts
  (YM DG) Et
  (fun os started H enc _=>topGlass_lifted os started H enc)
end Go.Proofs.YtblgnefkgkchhaaGreatDoor
