/- Part 15. -/
import Derived.Test.YtblgnefkgkchhaaGreatDoorTie
import Derived.SevenTiedAt
import Derived.Test.YtblgnefkgkchhaaGreatDoorTSy10
import Derived.Test.YtblgnefkgkchhaaGreatDoorTSy11
import Derived.Test.YtblgnefkgkchhaaGreatDoorTSy12
import Derived.Test.YtblgnefkgkchhaaGreatDoorTSy13
import Derived.Test.YtblgnefkgkchhaaGreatDoorTSy14
set_option maxRecDepth 100000
set_option linter.unusedSimpArgs false
set_option linter.unusedVariables false
namespace Go.Proofs.YtblgnefkgkchhaaGreatDoor
open _root_.Go.Proofs.Tryz
open Go.ChangeShapes Go.WideShapes Go.ChangeAt Go.RowKit
theorem topSyntax_facts:joinedFacts Tryz.pinned.checked.prog 6 f6 Rows.topSyntaxSpec Rows.topSyntaxRow=true:=by
 unfold joinedFacts;rw[syntax_inPlace,syntax_unfollowed,syntax_recurses,syntax_varsNamed];kernel_rfl
theorem topSyntax_row:Rows.TopSyntaxSaid:=
 OpenClaim.holds_of_wide 6 f6 rfl rfl rfl rfl rfl rfl rfl ⟨rfl,rfl,rfl,rfl,rfl⟩ rfl rfl rfl rfl rfl EY func6 topSyntax_facts
  (Y0 EY) (by unfold Func.isWrapper;first|(rw[Yh EH];kernel_rfl)|(rw[Yc EH];exact⟨rfl,rfl⟩))
  (fun os started H enc _=>topSyntax_lifted os started H enc)
end Go.Proofs.YtblgnefkgkchhaaGreatDoor
