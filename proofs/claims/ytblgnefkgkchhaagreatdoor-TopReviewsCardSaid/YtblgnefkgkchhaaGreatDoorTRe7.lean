/- Part 57. -/
import Derived.Test.YtblgnefkgkchhaaGreatDoorTie
import Derived.SevenTiedAt
import Derived.Test.YtblgnefkgkchhaaGreatDoorTRe2
import Derived.Test.YtblgnefkgkchhaaGreatDoorTRe3
import Derived.Test.YtblgnefkgkchhaaGreatDoorTRe4
import Derived.Test.YtblgnefkgkchhaaGreatDoorTRe5
import Derived.Test.YtblgnefkgkchhaaGreatDoorTRe6
set_option maxRecDepth 100000
set_option linter.unusedSimpArgs false
set_option linter.unusedVariables false
namespace Go.Proofs.YtblgnefkgkchhaaGreatDoor
open _root_.Go.Proofs.Tryz
open Go.ChangeShapes Go.WideShapes Go.ChangeAt Go.RowKit
theorem topReviews_facts:joinedFacts Tryz.pinned.checked.prog 5 f5 Rows.topReviewsSpec Rows.topReviewsRow=true:=by
 unfold joinedFacts;rw[reviews_inPlace,reviews_unfollowed,reviews_recurses,reviews_varsNamed];kernel_rfl
theorem topReviews_row:Rows.TopReviewsSaid:=
 OpenClaim.holds_of_wide 5 f5 rfl rfl rfl rfl rfl rfl rfl ⟨rfl,rfl,rfl,rfl,rfl⟩ rfl rfl rfl rfl rfl DG func5 topReviews_facts
  (YM DG) Et
  (fun os started H enc _=>topReviews_lifted os started H enc)
end Go.Proofs.YtblgnefkgkchhaaGreatDoor
