/- Part 37. -/
import Derived.Test.YtblgnefkgkchhaaGreatDoorTie
import Derived.SevenTiedAt
import Derived.Test.YtblgnefkgkchhaaGreatDoorTAn2
import Derived.Test.YtblgnefkgkchhaaGreatDoorTAn3
import Derived.Test.YtblgnefkgkchhaaGreatDoorTAn4
import Derived.Test.YtblgnefkgkchhaaGreatDoorTAn5
import Derived.Test.YtblgnefkgkchhaaGreatDoorTAn6
set_option maxRecDepth 100000
set_option linter.unusedSimpArgs false
set_option linter.unusedVariables false
namespace Go.Proofs.YtblgnefkgkchhaaGreatDoor
open _root_.Go.Proofs.Tryz
open Go.ChangeShapes Go.WideShapes Go.ChangeAt Go.RowKit
theorem topAnswered_facts:joinedFacts Tryz.pinned.checked.prog 11 f11 Rows.topAnsweredSpec Rows.topAnsweredRow=true:=by
 unfold joinedFacts;rw[answered_inPlace,answered_unfollowed,answered_recurses,answered_varsNamed];kernel_rfl
theorem topAnswered_row:Rows.TopAnsweredSaid:=
 OpenClaim.holds_of_wide 11 f11 rfl rfl rfl rfl rfl rfl rfl ⟨rfl,rfl,rfl,rfl,rfl⟩ rfl rfl rfl rfl rfl DG func11 topAnswered_facts
  (YM DG) Et
  (fun os started H enc _=>topAnswered_lifted os started H enc)
end Go.Proofs.YtblgnefkgkchhaaGreatDoor
