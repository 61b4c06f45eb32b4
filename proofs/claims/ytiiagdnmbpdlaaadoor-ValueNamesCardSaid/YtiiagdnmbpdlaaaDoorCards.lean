/-
  DERIVED. GIVEN WITH THE SEED: THE CARDS: each row of YtiiagdnmbpdlaaaDoorRows.lean that lists a variable, with what it lists TIED to the program's text (the seventh form; the later family's looks); each row that meets fmt, with fmt's text TOLD by the authors' own Lean function (tested against real Go, not proved from fmt's source: count such statements apart). THE CARD IS WHAT COUNTS. Prove the row's statement (the work); the ties are given (YtiiagdnmbpdlaaaDoorTie.lean); close each card by the builder's one call (the guide's Derived/Test/ToyasCard.lean, 'card_holds'). Laid BY PROGRAM, IN A SANDBOX (cutbox-door.mjs). By AI agents, Wed Nov 11 2026. No macro, syntax, notation, axiom, sorry.
-/
import Derived.Test.YtiiagdnmbpdlaaaDoorRows
import GoSem.ClaimSeven
namespace Go.Proofs.YtiiagdnmbpdlaaaDoor
namespace Rows

/-- THE TIED CARD OF 'bailifflaw3.ValueRuns'. -/
def valueRunsCard : Claim7 := { stood := { row := valueRunsRow, standIns := [], harness := (true, "85dca3b487aa8bdacd8bf8131725fc933a0934bcbe1dace84f643cb825621033"), looks := true }, kinds := [], alts := [], laidByText := true, laidKinds := [.data, .data, .data], laidTests := true, laidLooks := .later }
def ValueRunsCardSaid : Prop := Claim7.holds Tryd.pinned (.plain (OpenSpec.ofChange valueRunsSpec)) valueRunsCard

/-- THE TIED CARD OF 'bailifflaw7.LexRuns'. -/
def lexRunsCard : Claim7 := { stood := { row := lexRunsRow, standIns := [], harness := (true, "85dca3b487aa8bdacd8bf8131725fc933a0934bcbe1dace84f643cb825621033"), looks := true }, kinds := [], alts := [], laidByText := true, laidKinds := [.data, .data, .data, .sentinel, .sentinel], laidTests := true, laidLooks := .later }
def LexRunsCardSaid : Prop := Claim7.holds Tryd.pinned (.plain (OpenSpec.ofChange lexRunsSpec)) lexRunsCard

/-- THE TIED CARD OF 'bailifflaw18.IndexRuns'. -/
def indexRunsCard : Claim7 := { stood := { row := indexRunsRow, standIns := [], harness := (true, "85dca3b487aa8bdacd8bf8131725fc933a0934bcbe1dace84f643cb825621033"), looks := true }, kinds := [], alts := [], laidByText := true, laidKinds := [.data, .data, .data, .sentinel, .sentinel], laidTests := true, laidLooks := .later }
def IndexRunsCardSaid : Prop := Claim7.holds Tryd.pinned (.plain (OpenSpec.ofChange indexRunsSpec)) indexRunsCard

/-- THE TIED CARD OF 'bailifflaw3.ValueOrder'. -/
def valueOrderCard : Claim7 := { stood := { row := valueOrderRow, standIns := [], harness := (true, "85dca3b487aa8bdacd8bf8131725fc933a0934bcbe1dace84f643cb825621033"), looks := true }, kinds := [], alts := [], laidByText := true, laidKinds := [.data, .data, .data], laidTests := true, laidLooks := .later }
def ValueOrderCardSaid : Prop := Claim7.holds Tryd.pinned (.plain (OpenSpec.ofChange valueOrderSpec)) valueOrderCard

/-- THE TIED CARD OF 'bailifflaw3.ValueNames'. -/
def valueNamesCard : Claim7 := { stood := { row := valueNamesRow, standIns := [], harness := (true, "85dca3b487aa8bdacd8bf8131725fc933a0934bcbe1dace84f643cb825621033"), looks := true }, kinds := [], alts := [], laidByText := true, laidKinds := [.data, .data, .data], laidTests := true, laidLooks := .later }
def ValueNamesCardSaid : Prop := Claim7.holds Tryd.pinned (.plain (OpenSpec.ofChange valueNamesSpec)) valueNamesCard

/-- THE TIED CARD OF 'bailifflaw3.ValueBags'. -/
def valueBagsCard : Claim7 := { stood := { row := valueBagsRow, standIns := [], harness := (true, "85dca3b487aa8bdacd8bf8131725fc933a0934bcbe1dace84f643cb825621033"), looks := true }, kinds := [], alts := [], laidByText := true, laidKinds := [.data, .data, .data], laidTests := true, laidLooks := .later }
def ValueBagsCardSaid : Prop := Claim7.holds Tryd.pinned (.plain (OpenSpec.ofChange valueBagsSpec)) valueBagsCard

/-- THE TIED CARD OF 'bailifflaw3.ValueKinds'. -/
def valueKindsCard : Claim7 := { stood := { row := valueKindsRow, standIns := [], harness := (true, "85dca3b487aa8bdacd8bf8131725fc933a0934bcbe1dace84f643cb825621033"), looks := true }, kinds := [], alts := [], laidByText := true, laidKinds := [.data, .data, .data], laidTests := true, laidLooks := .later }
def ValueKindsCardSaid : Prop := Claim7.holds Tryd.pinned (.plain (OpenSpec.ofChange valueKindsSpec)) valueKindsCard

/-- THE TIED CARD OF 'bailifflaw3.ValueReads'. -/
def valueReadsCard : Claim7 := { stood := { row := valueReadsRow, standIns := [], harness := (true, "85dca3b487aa8bdacd8bf8131725fc933a0934bcbe1dace84f643cb825621033"), looks := true }, kinds := [], alts := [], laidByText := true, laidKinds := [.data, .data, .data], laidTests := true, laidLooks := .later }
def ValueReadsCardSaid : Prop := Claim7.holds Tryd.pinned (.plain (OpenSpec.ofChange valueReadsSpec)) valueReadsCard

/-- THE TIED CARD OF 'bailifflaw3.ValueBack'. -/
def valueBackCard : Claim7 := { stood := { row := valueBackRow, standIns := [], harness := (true, "85dca3b487aa8bdacd8bf8131725fc933a0934bcbe1dace84f643cb825621033"), looks := true }, kinds := [], alts := [], laidByText := true, laidKinds := [.data, .data, .data], laidTests := true, laidLooks := .later }
def ValueBackCardSaid : Prop := Claim7.holds Tryd.pinned (.plain (OpenSpec.ofChange valueBackSpec)) valueBackCard

/-- THE SECOND FORM's CARD OF 'bailifflaw3.ValueRuns'. -/
def valueRunsUptoCard : Claim7 := { stood := { row := valueRunsUptoRow, standIns := [], harness := (true, "85dca3b487aa8bdacd8bf8131725fc933a0934bcbe1dace84f643cb825621033"), looks := true }, kinds := [], alts := [], laidByText := true, laidKinds := [.data, .data, .data], laidTests := true, laidLooks := .later }
def ValueRunsUptoCardSaid : Prop := Claim7.holds Tryd.pinned (.plain (OpenSpec.upto valueRunsSpec)) valueRunsUptoCard

/-- THE SECOND FORM's CARD OF 'bailifflaw7.LexRuns'. -/
def lexRunsUptoCard : Claim7 := { stood := { row := lexRunsUptoRow, standIns := [], harness := (true, "85dca3b487aa8bdacd8bf8131725fc933a0934bcbe1dace84f643cb825621033"), looks := true }, kinds := [], alts := [], laidByText := true, laidKinds := [.data, .data, .data, .sentinel, .sentinel], laidTests := true, laidLooks := .later }
def LexRunsUptoCardSaid : Prop := Claim7.holds Tryd.pinned (.plain (OpenSpec.upto lexRunsSpec)) lexRunsUptoCard

/-- THE SECOND FORM's CARD OF 'bailifflaw18.IndexRuns'. -/
def indexRunsUptoCard : Claim7 := { stood := { row := indexRunsUptoRow, standIns := [], harness := (true, "85dca3b487aa8bdacd8bf8131725fc933a0934bcbe1dace84f643cb825621033"), looks := true }, kinds := [], alts := [], laidByText := true, laidKinds := [.data, .data, .data, .sentinel, .sentinel], laidTests := true, laidLooks := .later }
def IndexRunsUptoCardSaid : Prop := Claim7.holds Tryd.pinned (.plain (OpenSpec.upto indexRunsSpec)) indexRunsUptoCard

/-- THE SECOND FORM's CARD OF 'bailifflaw3.ValueOrder'. -/
def valueOrderUptoCard : Claim7 := { stood := { row := valueOrderUptoRow, standIns := [], harness := (true, "85dca3b487aa8bdacd8bf8131725fc933a0934bcbe1dace84f643cb825621033"), looks := true }, kinds := [], alts := [], laidByText := true, laidKinds := [.data, .data, .data], laidTests := true, laidLooks := .later }
def ValueOrderUptoCardSaid : Prop := Claim7.holds Tryd.pinned (.plain (OpenSpec.upto valueOrderSpec)) valueOrderUptoCard

/-- THE SECOND FORM's CARD OF 'bailifflaw3.ValueNames'. -/
def valueNamesUptoCard : Claim7 := { stood := { row := valueNamesUptoRow, standIns := [], harness := (true, "85dca3b487aa8bdacd8bf8131725fc933a0934bcbe1dace84f643cb825621033"), looks := true }, kinds := [], alts := [], laidByText := true, laidKinds := [.data, .data, .data], laidTests := true, laidLooks := .later }
def ValueNamesUptoCardSaid : Prop := Claim7.holds Tryd.pinned (.plain (OpenSpec.upto valueNamesSpec)) valueNamesUptoCard

/-- THE SECOND FORM's CARD OF 'bailifflaw3.ValueBags'. -/
def valueBagsUptoCard : Claim7 := { stood := { row := valueBagsUptoRow, standIns := [], harness := (true, "85dca3b487aa8bdacd8bf8131725fc933a0934bcbe1dace84f643cb825621033"), looks := true }, kinds := [], alts := [], laidByText := true, laidKinds := [.data, .data, .data], laidTests := true, laidLooks := .later }
def ValueBagsUptoCardSaid : Prop := Claim7.holds Tryd.pinned (.plain (OpenSpec.upto valueBagsSpec)) valueBagsUptoCard

/-- THE SECOND FORM's CARD OF 'bailifflaw3.ValueKinds'. -/
def valueKindsUptoCard : Claim7 := { stood := { row := valueKindsUptoRow, standIns := [], harness := (true, "85dca3b487aa8bdacd8bf8131725fc933a0934bcbe1dace84f643cb825621033"), looks := true }, kinds := [], alts := [], laidByText := true, laidKinds := [.data, .data, .data], laidTests := true, laidLooks := .later }
def ValueKindsUptoCardSaid : Prop := Claim7.holds Tryd.pinned (.plain (OpenSpec.upto valueKindsSpec)) valueKindsUptoCard

/-- THE SECOND FORM's CARD OF 'bailifflaw3.ValueReads'. -/
def valueReadsUptoCard : Claim7 := { stood := { row := valueReadsUptoRow, standIns := [], harness := (true, "85dca3b487aa8bdacd8bf8131725fc933a0934bcbe1dace84f643cb825621033"), looks := true }, kinds := [], alts := [], laidByText := true, laidKinds := [.data, .data, .data], laidTests := true, laidLooks := .later }
def ValueReadsUptoCardSaid : Prop := Claim7.holds Tryd.pinned (.plain (OpenSpec.upto valueReadsSpec)) valueReadsUptoCard

/-- THE SECOND FORM's CARD OF 'bailifflaw3.ValueBack'. -/
def valueBackUptoCard : Claim7 := { stood := { row := valueBackUptoRow, standIns := [], harness := (true, "85dca3b487aa8bdacd8bf8131725fc933a0934bcbe1dace84f643cb825621033"), looks := true }, kinds := [], alts := [], laidByText := true, laidKinds := [.data, .data, .data], laidTests := true, laidLooks := .later }
def ValueBackUptoCardSaid : Prop := Claim7.holds Tryd.pinned (.plain (OpenSpec.upto valueBackSpec)) valueBackUptoCard
end Rows
end Go.Proofs.YtiiagdnmbpdlaaaDoor
