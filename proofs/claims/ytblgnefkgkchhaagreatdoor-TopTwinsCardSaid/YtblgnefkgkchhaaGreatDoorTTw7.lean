/- Part 17. -/
import Derived.Test.YtblgnefkgkchhaaGreatDoorTie
import Derived.SevenTiedAt
import Derived.Test.YtblgnefkgkchhaaGreatDoorTTw2
import Derived.Test.YtblgnefkgkchhaaGreatDoorTTw3
import Derived.Test.YtblgnefkgkchhaaGreatDoorTTw4
import Derived.Test.YtblgnefkgkchhaaGreatDoorTTw5
import Derived.Test.YtblgnefkgkchhaaGreatDoorTTw6
set_option maxRecDepth 100000
set_option linter.unusedSimpArgs false
set_option linter.unusedVariables false
namespace Go.Proofs.YtblgnefkgkchhaaGreatDoor
open _root_.Go.Proofs.Tryz
open Go.ChangeShapes Go.WideShapes Go.ChangeAt Go.RowKit
theorem topTwins_facts:joinedFacts Tryz.pinned.checked.prog 9 f9 Rows.topTwinsSpec Rows.topTwinsRow=true:=by
 unfold joinedFacts;rw[twins_inPlace,twins_unfollowed,twins_recurses,twins_varsNamed];kernel_rfl
theorem topTwins_row:Rows.TopTwinsSaid:=
 OpenClaim.holds_of_wide 9 f9 rfl rfl rfl rfl rfl rfl rfl ⟨rfl,rfl,rfl,rfl,rfl⟩ rfl rfl rfl rfl rfl DG func9 topTwins_facts
  (YM DG) Et
  (fun os started H enc _=>topTwins_lifted os started H enc)
end Go.Proofs.YtblgnefkgkchhaaGreatDoor
