/-
  DERIVED. GIVEN WITH THE SEED: THE CARDS: each row of YtppfcacnofjmdaaGreatDoorRows.lean that lists a variable, with what it lists TIED to the program's text (the seventh form; the later family's looks); each row that meets fmt, with fmt's text TOLD by the authors' own Lean function (tested against real Go, not proved from fmt's source: count such statements apart). THE CARD IS WHAT COUNTS. Prove the row's statement (the work); the ties are given (YtppfcacnofjmdaaGreatDoorTie.lean); close each card by the builder's one call (the guide's Derived/Test/ToyasCard.lean, 'card_holds'). Laid BY PROGRAM, IN A SANDBOX (cutbox-door.mjs). By AI agents, Wed Nov 11 2026. No macro, syntax, notation, axiom, sorry.
-/
import Derived.Test.YtppfcacnofjmdaaGreatDoorRows
import GoSem.ClaimSeven
namespace Go.Proofs.YtppfcacnofjmdaaGreatDoor
namespace Rows

/-- THE TIED CARD OF 'bailifflaw14.EvalSure'. -/
def evalSureCard : Claim7 := { stood := { row := evalSureRow, standIns := [], harness := (true, "eb4cdbea9a948442ab5f70a90ede8c4744c9dd95b9e23a012536d6f2f9ccfd24"), looks := true }, kinds := [], alts := [], laidByText := true, laidKinds := [.data, .data, .data, .sentinel, .sentinel], laidTests := true, laidLooks := .later }
def EvalSureCardSaid : Prop := Claim7.holds Tryz.pinned (.plain (OpenSpec.ofChange evalSureSpec)) evalSureCard

/-- THE TIED CARD OF 'bailifflaw14.EvalSets'. -/
def evalSetsCard : Claim7 := { stood := { row := evalSetsRow, standIns := [], harness := (true, "eb4cdbea9a948442ab5f70a90ede8c4744c9dd95b9e23a012536d6f2f9ccfd24"), looks := true }, kinds := [], alts := [], laidByText := true, laidKinds := [.data, .data, .data, .sentinel, .sentinel], laidTests := true, laidLooks := .later }
def EvalSetsCardSaid : Prop := Claim7.holds Tryz.pinned (.plain (OpenSpec.ofChange evalSetsSpec)) evalSetsCard

/-- THE TIED CARD OF 'bailifflaw14.EvalRules'. -/
def evalRulesCard : Claim7 := { stood := { row := evalRulesRow, standIns := [], harness := (true, "eb4cdbea9a948442ab5f70a90ede8c4744c9dd95b9e23a012536d6f2f9ccfd24"), looks := true }, kinds := [], alts := [], laidByText := true, laidKinds := [.data, .data, .data, .sentinel, .sentinel], laidTests := true, laidLooks := .later }
def EvalRulesCardSaid : Prop := Claim7.holds Tryz.pinned (.plain (OpenSpec.ofChange evalRulesSpec)) evalRulesCard

/-- THE TIED CARD OF 'bailifflaw14.EvalFirst'. -/
def evalFirstCard : Claim7 := { stood := { row := evalFirstRow, standIns := [], harness := (true, "eb4cdbea9a948442ab5f70a90ede8c4744c9dd95b9e23a012536d6f2f9ccfd24"), looks := true }, kinds := [], alts := [], laidByText := true, laidKinds := [.data, .data, .data, .sentinel, .sentinel], laidTests := true, laidLooks := .later }
def EvalFirstCardSaid : Prop := Claim7.holds Tryz.pinned (.plain (OpenSpec.ofChange evalFirstSpec)) evalFirstCard

/-- THE TIED CARD OF 'bailifflaw14.EvalTargets'. -/
def evalTargetsCard : Claim7 := { stood := { row := evalTargetsRow, standIns := [], harness := (true, "eb4cdbea9a948442ab5f70a90ede8c4744c9dd95b9e23a012536d6f2f9ccfd24"), looks := true }, kinds := [], alts := [], laidByText := true, laidKinds := [.data, .data, .data, .sentinel, .sentinel], laidTests := true, laidLooks := .later }
def EvalTargetsCardSaid : Prop := Claim7.holds Tryz.pinned (.plain (OpenSpec.ofChange evalTargetsSpec)) evalTargetsCard

/-- THE TIED CARD OF 'bailifflaw14.EvalUnless'. -/
def evalUnlessCard : Claim7 := { stood := { row := evalUnlessRow, standIns := [], harness := (true, "eb4cdbea9a948442ab5f70a90ede8c4744c9dd95b9e23a012536d6f2f9ccfd24"), looks := true }, kinds := [], alts := [], laidByText := true, laidKinds := [.data, .data, .data, .sentinel, .sentinel], laidTests := true, laidLooks := .later }
def EvalUnlessCardSaid : Prop := Claim7.holds Tryz.pinned (.plain (OpenSpec.ofChange evalUnlessSpec)) evalUnlessCard

/-- THE TIED CARD OF 'bailifflaw15.VarsFew'. -/
def varsFewCard : Claim7 := { stood := { row := varsFewRow, standIns := [], harness := (true, "eb4cdbea9a948442ab5f70a90ede8c4744c9dd95b9e23a012536d6f2f9ccfd24"), looks := true }, kinds := [], alts := [], laidByText := true, laidKinds := [.data, .data, .data, .sentinel, .sentinel], laidTests := true, laidLooks := .later }
def VarsFewCardSaid : Prop := Claim7.holds Tryz.pinned (.plain (OpenSpec.ofChange varsFewSpec)) varsFewCard

/-- THE TIED CARD OF 'bailifflaw15.VarsAsks'. -/
def varsAsksCard : Claim7 := { stood := { row := varsAsksRow, standIns := [], harness := (true, "eb4cdbea9a948442ab5f70a90ede8c4744c9dd95b9e23a012536d6f2f9ccfd24"), looks := true }, kinds := [], alts := [], laidByText := true, laidKinds := [.data, .data, .data, .sentinel, .sentinel], laidTests := true, laidLooks := .later }
def VarsAsksCardSaid : Prop := Claim7.holds Tryz.pinned (.plain (OpenSpec.ofChange varsAsksSpec)) varsAsksCard

/-- THE TIED CARD OF 'bailifflaw15.VarsAll'. -/
def varsAllCard : Claim7 := { stood := { row := varsAllRow, standIns := [], harness := (true, "eb4cdbea9a948442ab5f70a90ede8c4744c9dd95b9e23a012536d6f2f9ccfd24"), looks := true }, kinds := [], alts := [], laidByText := true, laidKinds := [.data, .data, .data, .sentinel, .sentinel], laidTests := true, laidLooks := .later }
def VarsAllCardSaid : Prop := Claim7.holds Tryz.pinned (.plain (OpenSpec.ofChange varsAllSpec)) varsAllCard

/-- THE TIED CARD OF 'bailifflaw18.IndexKeys'. -/
def indexKeysCard : Claim7 := { stood := { row := indexKeysRow, standIns := [], harness := (true, "eb4cdbea9a948442ab5f70a90ede8c4744c9dd95b9e23a012536d6f2f9ccfd24"), looks := true }, kinds := [], alts := [], laidByText := true, laidKinds := [.data, .data, .data, .sentinel, .sentinel], laidTests := true, laidLooks := .later }
def IndexKeysCardSaid : Prop := Claim7.holds Tryz.pinned (.plain (OpenSpec.ofChange indexKeysSpec)) indexKeysCard

/-- THE TIED CARD OF 'bailifflaw18.IndexLoses'. -/
def indexLosesCard : Claim7 := { stood := { row := indexLosesRow, standIns := [], harness := (true, "eb4cdbea9a948442ab5f70a90ede8c4744c9dd95b9e23a012536d6f2f9ccfd24"), looks := true }, kinds := [], alts := [], laidByText := true, laidKinds := [.data, .data, .data, .sentinel, .sentinel], laidTests := true, laidLooks := .later }
def IndexLosesCardSaid : Prop := Claim7.holds Tryz.pinned (.plain (OpenSpec.ofChange indexLosesSpec)) indexLosesCard

/-- THE TIED CARD OF 'bailifflaw18.IndexAdds'. -/
def indexAddsCard : Claim7 := { stood := { row := indexAddsRow, standIns := [], harness := (true, "eb4cdbea9a948442ab5f70a90ede8c4744c9dd95b9e23a012536d6f2f9ccfd24"), looks := true }, kinds := [], alts := [], laidByText := true, laidKinds := [.data, .data, .data, .sentinel, .sentinel], laidTests := true, laidLooks := .later }
def IndexAddsCardSaid : Prop := Claim7.holds Tryz.pinned (.plain (OpenSpec.ofChange indexAddsSpec)) indexAddsCard

/-- THE SECOND FORM's CARD OF 'bailifflaw14.EvalSure'. -/
def evalSureUptoCard : Claim7 := { stood := { row := evalSureUptoRow, standIns := [], harness := (true, "eb4cdbea9a948442ab5f70a90ede8c4744c9dd95b9e23a012536d6f2f9ccfd24"), looks := true }, kinds := [], alts := [], laidByText := true, laidKinds := [.data, .data, .data, .sentinel, .sentinel], laidTests := true, laidLooks := .later }
def EvalSureUptoCardSaid : Prop := Claim7.holds Tryz.pinned (.plain (OpenSpec.upto evalSureSpec)) evalSureUptoCard

/-- THE SECOND FORM's CARD OF 'bailifflaw14.EvalSets'. -/
def evalSetsUptoCard : Claim7 := { stood := { row := evalSetsUptoRow, standIns := [], harness := (true, "eb4cdbea9a948442ab5f70a90ede8c4744c9dd95b9e23a012536d6f2f9ccfd24"), looks := true }, kinds := [], alts := [], laidByText := true, laidKinds := [.data, .data, .data, .sentinel, .sentinel], laidTests := true, laidLooks := .later }
def EvalSetsUptoCardSaid : Prop := Claim7.holds Tryz.pinned (.plain (OpenSpec.upto evalSetsSpec)) evalSetsUptoCard

/-- THE SECOND FORM's CARD OF 'bailifflaw14.EvalRules'. -/
def evalRulesUptoCard : Claim7 := { stood := { row := evalRulesUptoRow, standIns := [], harness := (true, "eb4cdbea9a948442ab5f70a90ede8c4744c9dd95b9e23a012536d6f2f9ccfd24"), looks := true }, kinds := [], alts := [], laidByText := true, laidKinds := [.data, .data, .data, .sentinel, .sentinel], laidTests := true, laidLooks := .later }
def EvalRulesUptoCardSaid : Prop := Claim7.holds Tryz.pinned (.plain (OpenSpec.upto evalRulesSpec)) evalRulesUptoCard

/-- THE SECOND FORM's CARD OF 'bailifflaw14.EvalFirst'. -/
def evalFirstUptoCard : Claim7 := { stood := { row := evalFirstUptoRow, standIns := [], harness := (true, "eb4cdbea9a948442ab5f70a90ede8c4744c9dd95b9e23a012536d6f2f9ccfd24"), looks := true }, kinds := [], alts := [], laidByText := true, laidKinds := [.data, .data, .data, .sentinel, .sentinel], laidTests := true, laidLooks := .later }
def EvalFirstUptoCardSaid : Prop := Claim7.holds Tryz.pinned (.plain (OpenSpec.upto evalFirstSpec)) evalFirstUptoCard

/-- THE SECOND FORM's CARD OF 'bailifflaw14.EvalTargets'. -/
def evalTargetsUptoCard : Claim7 := { stood := { row := evalTargetsUptoRow, standIns := [], harness := (true, "eb4cdbea9a948442ab5f70a90ede8c4744c9dd95b9e23a012536d6f2f9ccfd24"), looks := true }, kinds := [], alts := [], laidByText := true, laidKinds := [.data, .data, .data, .sentinel, .sentinel], laidTests := true, laidLooks := .later }
def EvalTargetsUptoCardSaid : Prop := Claim7.holds Tryz.pinned (.plain (OpenSpec.upto evalTargetsSpec)) evalTargetsUptoCard

/-- THE SECOND FORM's CARD OF 'bailifflaw14.EvalUnless'. -/
def evalUnlessUptoCard : Claim7 := { stood := { row := evalUnlessUptoRow, standIns := [], harness := (true, "eb4cdbea9a948442ab5f70a90ede8c4744c9dd95b9e23a012536d6f2f9ccfd24"), looks := true }, kinds := [], alts := [], laidByText := true, laidKinds := [.data, .data, .data, .sentinel, .sentinel], laidTests := true, laidLooks := .later }
def EvalUnlessUptoCardSaid : Prop := Claim7.holds Tryz.pinned (.plain (OpenSpec.upto evalUnlessSpec)) evalUnlessUptoCard

/-- THE SECOND FORM's CARD OF 'bailifflaw15.VarsFew'. -/
def varsFewUptoCard : Claim7 := { stood := { row := varsFewUptoRow, standIns := [], harness := (true, "eb4cdbea9a948442ab5f70a90ede8c4744c9dd95b9e23a012536d6f2f9ccfd24"), looks := true }, kinds := [], alts := [], laidByText := true, laidKinds := [.data, .data, .data, .sentinel, .sentinel], laidTests := true, laidLooks := .later }
def VarsFewUptoCardSaid : Prop := Claim7.holds Tryz.pinned (.plain (OpenSpec.upto varsFewSpec)) varsFewUptoCard

/-- THE SECOND FORM's CARD OF 'bailifflaw15.VarsAsks'. -/
def varsAsksUptoCard : Claim7 := { stood := { row := varsAsksUptoRow, standIns := [], harness := (true, "eb4cdbea9a948442ab5f70a90ede8c4744c9dd95b9e23a012536d6f2f9ccfd24"), looks := true }, kinds := [], alts := [], laidByText := true, laidKinds := [.data, .data, .data, .sentinel, .sentinel], laidTests := true, laidLooks := .later }
def VarsAsksUptoCardSaid : Prop := Claim7.holds Tryz.pinned (.plain (OpenSpec.upto varsAsksSpec)) varsAsksUptoCard

/-- THE SECOND FORM's CARD OF 'bailifflaw15.VarsAll'. -/
def varsAllUptoCard : Claim7 := { stood := { row := varsAllUptoRow, standIns := [], harness := (true, "eb4cdbea9a948442ab5f70a90ede8c4744c9dd95b9e23a012536d6f2f9ccfd24"), looks := true }, kinds := [], alts := [], laidByText := true, laidKinds := [.data, .data, .data, .sentinel, .sentinel], laidTests := true, laidLooks := .later }
def VarsAllUptoCardSaid : Prop := Claim7.holds Tryz.pinned (.plain (OpenSpec.upto varsAllSpec)) varsAllUptoCard

/-- THE SECOND FORM's CARD OF 'bailifflaw18.IndexKeys'. -/
def indexKeysUptoCard : Claim7 := { stood := { row := indexKeysUptoRow, standIns := [], harness := (true, "eb4cdbea9a948442ab5f70a90ede8c4744c9dd95b9e23a012536d6f2f9ccfd24"), looks := true }, kinds := [], alts := [], laidByText := true, laidKinds := [.data, .data, .data, .sentinel, .sentinel], laidTests := true, laidLooks := .later }
def IndexKeysUptoCardSaid : Prop := Claim7.holds Tryz.pinned (.plain (OpenSpec.upto indexKeysSpec)) indexKeysUptoCard

/-- THE SECOND FORM's CARD OF 'bailifflaw18.IndexLoses'. -/
def indexLosesUptoCard : Claim7 := { stood := { row := indexLosesUptoRow, standIns := [], harness := (true, "eb4cdbea9a948442ab5f70a90ede8c4744c9dd95b9e23a012536d6f2f9ccfd24"), looks := true }, kinds := [], alts := [], laidByText := true, laidKinds := [.data, .data, .data, .sentinel, .sentinel], laidTests := true, laidLooks := .later }
def IndexLosesUptoCardSaid : Prop := Claim7.holds Tryz.pinned (.plain (OpenSpec.upto indexLosesSpec)) indexLosesUptoCard

/-- THE SECOND FORM's CARD OF 'bailifflaw18.IndexAdds'. -/
def indexAddsUptoCard : Claim7 := { stood := { row := indexAddsUptoRow, standIns := [], harness := (true, "eb4cdbea9a948442ab5f70a90ede8c4744c9dd95b9e23a012536d6f2f9ccfd24"), looks := true }, kinds := [], alts := [], laidByText := true, laidKinds := [.data, .data, .data, .sentinel, .sentinel], laidTests := true, laidLooks := .later }
def IndexAddsUptoCardSaid : Prop := Claim7.holds Tryz.pinned (.plain (OpenSpec.upto indexAddsSpec)) indexAddsUptoCard
end Rows
end Go.Proofs.YtppfcacnofjmdaaGreatDoor
