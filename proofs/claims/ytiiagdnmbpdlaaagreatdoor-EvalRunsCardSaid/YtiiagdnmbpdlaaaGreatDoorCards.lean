/-
  DERIVED. GIVEN WITH THE SEED: THE CARDS: each row of YtiiagdnmbpdlaaaGreatDoorRows.lean that lists a variable, with what it lists TIED to the program's text (the seventh form; the later family's looks); each row that meets fmt, with fmt's text TOLD by the authors' own Lean function (tested against real Go, not proved from fmt's source: count such statements apart). THE CARD IS WHAT COUNTS. Prove the row's statement (the work); the ties are given (YtiiagdnmbpdlaaaGreatDoorTie.lean); close each card by the builder's one call (the guide's Derived/Test/ToyasCard.lean, 'card_holds'). Laid BY PROGRAM, IN A SANDBOX (cutbox-door.mjs). By AI agents, Wed Nov 11 2026. No macro, syntax, notation, axiom, sorry.
-/
import Derived.Test.YtiiagdnmbpdlaaaGreatDoorRows
import GoSem.ClaimSeven
namespace Go.Proofs.YtiiagdnmbpdlaaaGreatDoor
namespace Rows

/-- THE TIED CARD OF 'bailifflaw15.VarsRuns'. -/
def varsRunsCard : Claim7 := { stood := { row := varsRunsRow, standIns := [], harness := (true, "e33e571863b08695a477c77d73cf8047afbc653b4a33d7634a5c2cff00013ce5"), looks := true }, kinds := [], alts := [], laidByText := true, laidKinds := [.data, .data, .data, .sentinel, .sentinel], laidTests := true, laidLooks := .later }
def VarsRunsCardSaid : Prop := Claim7.holds Tryz.pinned (.plain (OpenSpec.ofChange varsRunsSpec)) varsRunsCard

/-- THE TIED CARD OF 'bailifflaw14.EvalRuns'. -/
def evalRunsCard : Claim7 := { stood := { row := evalRunsRow, standIns := [], harness := (true, "e33e571863b08695a477c77d73cf8047afbc653b4a33d7634a5c2cff00013ce5"), looks := true }, kinds := [], alts := [], laidByText := true, laidKinds := [.data, .data, .data, .sentinel, .sentinel], laidTests := true, laidLooks := .later }
def EvalRunsCardSaid : Prop := Claim7.holds Tryz.pinned (.plain (OpenSpec.ofChange evalRunsSpec)) evalRunsCard

/-- THE TIED CARD OF 'bailifflaw17.CompileRuns'. -/
def compileRunsCard : Claim7 := { stood := { row := compileRunsRow, standIns := [], harness := (true, "e33e571863b08695a477c77d73cf8047afbc653b4a33d7634a5c2cff00013ce5"), looks := true }, kinds := [], alts := [], laidByText := true, laidKinds := [.data, .data, .data, .sentinel, .sentinel], laidTests := true, laidLooks := .later }
def CompileRunsCardSaid : Prop := Claim7.holds Tryz.pinned (.plain (OpenSpec.ofChange compileRunsSpec)) compileRunsCard

/-- THE SECOND FORM's CARD OF 'bailifflaw15.VarsRuns'. -/
def varsRunsUptoCard : Claim7 := { stood := { row := varsRunsUptoRow, standIns := [], harness := (true, "e33e571863b08695a477c77d73cf8047afbc653b4a33d7634a5c2cff00013ce5"), looks := true }, kinds := [], alts := [], laidByText := true, laidKinds := [.data, .data, .data, .sentinel, .sentinel], laidTests := true, laidLooks := .later }
def VarsRunsUptoCardSaid : Prop := Claim7.holds Tryz.pinned (.plain (OpenSpec.upto varsRunsSpec)) varsRunsUptoCard

/-- THE SECOND FORM's CARD OF 'bailifflaw14.EvalRuns'. -/
def evalRunsUptoCard : Claim7 := { stood := { row := evalRunsUptoRow, standIns := [], harness := (true, "e33e571863b08695a477c77d73cf8047afbc653b4a33d7634a5c2cff00013ce5"), looks := true }, kinds := [], alts := [], laidByText := true, laidKinds := [.data, .data, .data, .sentinel, .sentinel], laidTests := true, laidLooks := .later }
def EvalRunsUptoCardSaid : Prop := Claim7.holds Tryz.pinned (.plain (OpenSpec.upto evalRunsSpec)) evalRunsUptoCard

/-- THE SECOND FORM's CARD OF 'bailifflaw17.CompileRuns'. -/
def compileRunsUptoCard : Claim7 := { stood := { row := compileRunsUptoRow, standIns := [], harness := (true, "e33e571863b08695a477c77d73cf8047afbc653b4a33d7634a5c2cff00013ce5"), looks := true }, kinds := [], alts := [], laidByText := true, laidKinds := [.data, .data, .data, .sentinel, .sentinel], laidTests := true, laidLooks := .later }
def CompileRunsUptoCardSaid : Prop := Claim7.holds Tryz.pinned (.plain (OpenSpec.upto compileRunsSpec)) compileRunsUptoCard
end Rows
end Go.Proofs.YtiiagdnmbpdlaaaGreatDoor
