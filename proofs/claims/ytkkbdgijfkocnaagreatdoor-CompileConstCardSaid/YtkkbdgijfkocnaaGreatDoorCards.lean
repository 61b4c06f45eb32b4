/-
  DERIVED. GIVEN WITH THE SEED: THE CARDS: each row of YtkkbdgijfkocnaaGreatDoorRows.lean that lists a variable, with what it lists TIED to the program's text (the seventh form; the later family's looks); each row that meets fmt, with fmt's text TOLD by the authors' own Lean function (tested against real Go, not proved from fmt's source: count such statements apart). THE CARD IS WHAT COUNTS. Prove the row's statement (the work); the ties are given (YtkkbdgijfkocnaaGreatDoorTie.lean); close each card by the builder's one call (the guide's Derived/Test/ToyasCard.lean, 'card_holds'). Laid BY PROGRAM, IN A SANDBOX (cutbox-door.mjs). By AI agents, Wed Nov 11 2026. No macro, syntax, notation, axiom, sorry.
-/
import Derived.Test.YtkkbdgijfkocnaaGreatDoorRows
import GoSem.ClaimSeven
namespace Go.Proofs.YtkkbdgijfkocnaaGreatDoor
namespace Rows

/-- THE TIED CARD OF 'bailifflaw17.CompileRuns'. -/
def compileRunsCard : Claim7 := { stood := { row := compileRunsRow, standIns := [], harness := (true, "f5936237a335ce4f04107ba80bcb72e9adae11d84ab0cd27bf75f1544843af69"), looks := true }, kinds := [], alts := [], laidByText := true, laidKinds := [.data, .data, .data, .sentinel, .sentinel], laidTests := true, laidLooks := .later }
def CompileRunsCardSaid : Prop := Claim7.holds Tryz.pinned (.plain (OpenSpec.ofChange compileRunsSpec)) compileRunsCard

/-- THE TIED CARD OF 'bailifflaw17.CompileConst'. -/
def compileConstCard : Claim7 := { stood := { row := compileConstRow, standIns := [], harness := (true, "f5936237a335ce4f04107ba80bcb72e9adae11d84ab0cd27bf75f1544843af69"), looks := true }, kinds := [], alts := [], laidByText := true, laidKinds := [.data, .data, .data, .sentinel, .sentinel], laidTests := true, laidLooks := .later }
def CompileConstCardSaid : Prop := Claim7.holds Tryz.pinned (.plain (OpenSpec.ofChange compileConstSpec)) compileConstCard

/-- THE TIED CARD OF 'bailifflaw18.IndexAgrees'. -/
def indexAgreesCard : Claim7 := { stood := { row := indexAgreesRow, standIns := [], harness := (true, "f5936237a335ce4f04107ba80bcb72e9adae11d84ab0cd27bf75f1544843af69"), looks := true }, kinds := [], alts := [], laidByText := true, laidKinds := [.data, .data, .data, .sentinel, .sentinel], laidTests := true, laidLooks := .later }
def IndexAgreesCardSaid : Prop := Claim7.holds Tryz.pinned (.plain (OpenSpec.ofChange indexAgreesSpec)) indexAgreesCard

/-- THE SECOND FORM's CARD OF 'bailifflaw17.CompileRuns'. -/
def compileRunsUptoCard : Claim7 := { stood := { row := compileRunsUptoRow, standIns := [], harness := (true, "f5936237a335ce4f04107ba80bcb72e9adae11d84ab0cd27bf75f1544843af69"), looks := true }, kinds := [], alts := [], laidByText := true, laidKinds := [.data, .data, .data, .sentinel, .sentinel], laidTests := true, laidLooks := .later }
def CompileRunsUptoCardSaid : Prop := Claim7.holds Tryz.pinned (.plain (OpenSpec.upto compileRunsSpec)) compileRunsUptoCard

/-- THE SECOND FORM's CARD OF 'bailifflaw17.CompileConst'. -/
def compileConstUptoCard : Claim7 := { stood := { row := compileConstUptoRow, standIns := [], harness := (true, "f5936237a335ce4f04107ba80bcb72e9adae11d84ab0cd27bf75f1544843af69"), looks := true }, kinds := [], alts := [], laidByText := true, laidKinds := [.data, .data, .data, .sentinel, .sentinel], laidTests := true, laidLooks := .later }
def CompileConstUptoCardSaid : Prop := Claim7.holds Tryz.pinned (.plain (OpenSpec.upto compileConstSpec)) compileConstUptoCard

/-- THE SECOND FORM's CARD OF 'bailifflaw18.IndexAgrees'. -/
def indexAgreesUptoCard : Claim7 := { stood := { row := indexAgreesUptoRow, standIns := [], harness := (true, "f5936237a335ce4f04107ba80bcb72e9adae11d84ab0cd27bf75f1544843af69"), looks := true }, kinds := [], alts := [], laidByText := true, laidKinds := [.data, .data, .data, .sentinel, .sentinel], laidTests := true, laidLooks := .later }
def IndexAgreesUptoCardSaid : Prop := Claim7.holds Tryz.pinned (.plain (OpenSpec.upto indexAgreesSpec)) indexAgreesUptoCard
end Rows
end Go.Proofs.YtkkbdgijfkocnaaGreatDoor
