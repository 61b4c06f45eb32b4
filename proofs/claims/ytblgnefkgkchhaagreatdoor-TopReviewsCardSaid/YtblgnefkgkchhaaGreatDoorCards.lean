/-
  DERIVED. GIVEN WITH THE SEED: THE CARDS: each row of YtblgnefkgkchhaaGreatDoorRows.lean that lists a variable, with what it lists TIED to the program's text (the seventh form; the later family's looks); each row that meets fmt, with fmt's text TOLD by the authors' own Lean function (tested against real Go, not proved from fmt's source: count such statements apart). THE CARD IS WHAT COUNTS. Prove the row's statement (the work); the ties are given (YtblgnefkgkchhaaGreatDoorTie.lean); close each card by the builder's one call (the guide's Derived/Test/ToyasCard.lean, 'card_holds'). Laid BY PROGRAM, IN A SANDBOX (cutbox-door.mjs). By AI agents, Wed Nov 11 2026. No macro, syntax, notation, axiom, sorry.
-/
import Derived.Test.YtblgnefkgkchhaaGreatDoorRows
import GoSem.ClaimSeven
namespace Go.Proofs.YtblgnefkgkchhaaGreatDoor
namespace Rows

/-- THE TIED CARD OF 'bailifftop.TopPermit'. -/
def topPermitCard : Claim7 := { stood := { row := topPermitRow, standIns := [], harness := (true, "4138acc1df9cca8a2a143884d447da3240f009309307c10c6f1a93f9119f35c4"), looks := true }, kinds := [], alts := [], laidByText := true, laidKinds := [.data, .data, .data, .sentinel, .sentinel], laidTests := true, laidLooks := .later }
def TopPermitCardSaid : Prop := Claim7.holds Tryz.pinned (.plain (OpenSpec.ofChange topPermitSpec)) topPermitCard

/-- THE TIED CARD OF 'bailifftop.TopGlass'. -/
def topGlassCard : Claim7 := { stood := { row := topGlassRow, standIns := [], harness := (true, "4138acc1df9cca8a2a143884d447da3240f009309307c10c6f1a93f9119f35c4"), looks := true }, kinds := [], alts := [], laidByText := true, laidKinds := [.data, .data, .data, .sentinel, .sentinel], laidTests := true, laidLooks := .later }
def TopGlassCardSaid : Prop := Claim7.holds Tryz.pinned (.plain (OpenSpec.ofChange topGlassSpec)) topGlassCard

/-- THE TIED CARD OF 'bailifftop.TopReviews'. -/
def topReviewsCard : Claim7 := { stood := { row := topReviewsRow, standIns := [], harness := (true, "4138acc1df9cca8a2a143884d447da3240f009309307c10c6f1a93f9119f35c4"), looks := true }, kinds := [], alts := [], laidByText := true, laidKinds := [.data, .data, .data, .sentinel, .sentinel], laidTests := true, laidLooks := .later }
def TopReviewsCardSaid : Prop := Claim7.holds Tryz.pinned (.plain (OpenSpec.ofChange topReviewsSpec)) topReviewsCard

/-- THE TIED CARD OF 'bailifftop.TopSyntax'. -/
def topSyntaxCard : Claim7 := { stood := { row := topSyntaxRow, standIns := [], harness := (true, "4138acc1df9cca8a2a143884d447da3240f009309307c10c6f1a93f9119f35c4"), looks := true }, kinds := [], alts := [], laidByText := true, laidKinds := [.data, .data, .data, .sentinel, .sentinel], laidTests := true, laidLooks := .later }
def TopSyntaxCardSaid : Prop := Claim7.holds Tryz.pinned (.plain (OpenSpec.ofChange topSyntaxSpec)) topSyntaxCard

/-- THE TIED CARD OF 'bailifftop.TopFull'. -/
def topFullCard : Claim7 := { stood := { row := topFullRow, standIns := [], harness := (true, "4138acc1df9cca8a2a143884d447da3240f009309307c10c6f1a93f9119f35c4"), looks := true }, kinds := [], alts := [], laidByText := true, laidKinds := [.data, .data, .data, .sentinel, .sentinel], laidTests := true, laidLooks := .later }
def TopFullCardSaid : Prop := Claim7.holds Tryz.pinned (.plain (OpenSpec.ofChange topFullSpec)) topFullCard

/-- THE TIED CARD OF 'bailifftop.TopOwner'. -/
def topOwnerCard : Claim7 := { stood := { row := topOwnerRow, standIns := [], harness := (true, "4138acc1df9cca8a2a143884d447da3240f009309307c10c6f1a93f9119f35c4"), looks := true }, kinds := [], alts := [], laidByText := true, laidKinds := [.data, .data, .data, .sentinel, .sentinel], laidTests := true, laidLooks := .later }
def TopOwnerCardSaid : Prop := Claim7.holds Tryz.pinned (.plain (OpenSpec.ofChange topOwnerSpec)) topOwnerCard

/-- THE TIED CARD OF 'bailifftop.TopTwins'. -/
def topTwinsCard : Claim7 := { stood := { row := topTwinsRow, standIns := [], harness := (true, "4138acc1df9cca8a2a143884d447da3240f009309307c10c6f1a93f9119f35c4"), looks := true }, kinds := [], alts := [], laidByText := true, laidKinds := [.data, .data, .data, .sentinel, .sentinel], laidTests := true, laidLooks := .later }
def TopTwinsCardSaid : Prop := Claim7.holds Tryz.pinned (.plain (OpenSpec.ofChange topTwinsSpec)) topTwinsCard

/-- THE TIED CARD OF 'bailifftop.TopBytes'. -/
def topBytesCard : Claim7 := { stood := { row := topBytesRow, standIns := [], harness := (true, "4138acc1df9cca8a2a143884d447da3240f009309307c10c6f1a93f9119f35c4"), looks := true }, kinds := [], alts := [], laidByText := true, laidKinds := [.data, .data, .data, .sentinel, .sentinel], laidTests := true, laidLooks := .later }
def TopBytesCardSaid : Prop := Claim7.holds Tryz.pinned (.plain (OpenSpec.ofChange topBytesSpec)) topBytesCard

/-- THE TIED CARD OF 'bailifftop.TopAnswered'. -/
def topAnsweredCard : Claim7 := { stood := { row := topAnsweredRow, standIns := [], harness := (true, "4138acc1df9cca8a2a143884d447da3240f009309307c10c6f1a93f9119f35c4"), looks := true }, kinds := [], alts := [], laidByText := true, laidKinds := [.data, .data, .data, .sentinel, .sentinel], laidTests := true, laidLooks := .later }
def TopAnsweredCardSaid : Prop := Claim7.holds Tryz.pinned (.plain (OpenSpec.ofChange topAnsweredSpec)) topAnsweredCard

/-- THE TIED CARD OF 'bailifftop.TopDecided'. -/
def topDecidedCard : Claim7 := { stood := { row := topDecidedRow, standIns := [], harness := (true, "4138acc1df9cca8a2a143884d447da3240f009309307c10c6f1a93f9119f35c4"), looks := true }, kinds := [], alts := [], laidByText := true, laidKinds := [.data, .data, .data, .sentinel, .sentinel], laidTests := true, laidLooks := .later }
def TopDecidedCardSaid : Prop := Claim7.holds Tryz.pinned (.plain (OpenSpec.ofChange topDecidedSpec)) topDecidedCard

/-- THE SECOND FORM's CARD OF 'bailifftop.TopPermit'. -/
def topPermitUptoCard : Claim7 := { stood := { row := topPermitUptoRow, standIns := [], harness := (true, "4138acc1df9cca8a2a143884d447da3240f009309307c10c6f1a93f9119f35c4"), looks := true }, kinds := [], alts := [], laidByText := true, laidKinds := [.data, .data, .data, .sentinel, .sentinel], laidTests := true, laidLooks := .later }
def TopPermitUptoCardSaid : Prop := Claim7.holds Tryz.pinned (.plain (OpenSpec.upto topPermitSpec)) topPermitUptoCard

/-- THE SECOND FORM's CARD OF 'bailifftop.TopGlass'. -/
def topGlassUptoCard : Claim7 := { stood := { row := topGlassUptoRow, standIns := [], harness := (true, "4138acc1df9cca8a2a143884d447da3240f009309307c10c6f1a93f9119f35c4"), looks := true }, kinds := [], alts := [], laidByText := true, laidKinds := [.data, .data, .data, .sentinel, .sentinel], laidTests := true, laidLooks := .later }
def TopGlassUptoCardSaid : Prop := Claim7.holds Tryz.pinned (.plain (OpenSpec.upto topGlassSpec)) topGlassUptoCard

/-- THE SECOND FORM's CARD OF 'bailifftop.TopReviews'. -/
def topReviewsUptoCard : Claim7 := { stood := { row := topReviewsUptoRow, standIns := [], harness := (true, "4138acc1df9cca8a2a143884d447da3240f009309307c10c6f1a93f9119f35c4"), looks := true }, kinds := [], alts := [], laidByText := true, laidKinds := [.data, .data, .data, .sentinel, .sentinel], laidTests := true, laidLooks := .later }
def TopReviewsUptoCardSaid : Prop := Claim7.holds Tryz.pinned (.plain (OpenSpec.upto topReviewsSpec)) topReviewsUptoCard

/-- THE SECOND FORM's CARD OF 'bailifftop.TopSyntax'. -/
def topSyntaxUptoCard : Claim7 := { stood := { row := topSyntaxUptoRow, standIns := [], harness := (true, "4138acc1df9cca8a2a143884d447da3240f009309307c10c6f1a93f9119f35c4"), looks := true }, kinds := [], alts := [], laidByText := true, laidKinds := [.data, .data, .data, .sentinel, .sentinel], laidTests := true, laidLooks := .later }
def TopSyntaxUptoCardSaid : Prop := Claim7.holds Tryz.pinned (.plain (OpenSpec.upto topSyntaxSpec)) topSyntaxUptoCard

/-- THE SECOND FORM's CARD OF 'bailifftop.TopFull'. -/
def topFullUptoCard : Claim7 := { stood := { row := topFullUptoRow, standIns := [], harness := (true, "4138acc1df9cca8a2a143884d447da3240f009309307c10c6f1a93f9119f35c4"), looks := true }, kinds := [], alts := [], laidByText := true, laidKinds := [.data, .data, .data, .sentinel, .sentinel], laidTests := true, laidLooks := .later }
def TopFullUptoCardSaid : Prop := Claim7.holds Tryz.pinned (.plain (OpenSpec.upto topFullSpec)) topFullUptoCard

/-- THE SECOND FORM's CARD OF 'bailifftop.TopOwner'. -/
def topOwnerUptoCard : Claim7 := { stood := { row := topOwnerUptoRow, standIns := [], harness := (true, "4138acc1df9cca8a2a143884d447da3240f009309307c10c6f1a93f9119f35c4"), looks := true }, kinds := [], alts := [], laidByText := true, laidKinds := [.data, .data, .data, .sentinel, .sentinel], laidTests := true, laidLooks := .later }
def TopOwnerUptoCardSaid : Prop := Claim7.holds Tryz.pinned (.plain (OpenSpec.upto topOwnerSpec)) topOwnerUptoCard

/-- THE SECOND FORM's CARD OF 'bailifftop.TopTwins'. -/
def topTwinsUptoCard : Claim7 := { stood := { row := topTwinsUptoRow, standIns := [], harness := (true, "4138acc1df9cca8a2a143884d447da3240f009309307c10c6f1a93f9119f35c4"), looks := true }, kinds := [], alts := [], laidByText := true, laidKinds := [.data, .data, .data, .sentinel, .sentinel], laidTests := true, laidLooks := .later }
def TopTwinsUptoCardSaid : Prop := Claim7.holds Tryz.pinned (.plain (OpenSpec.upto topTwinsSpec)) topTwinsUptoCard

/-- THE SECOND FORM's CARD OF 'bailifftop.TopBytes'. -/
def topBytesUptoCard : Claim7 := { stood := { row := topBytesUptoRow, standIns := [], harness := (true, "4138acc1df9cca8a2a143884d447da3240f009309307c10c6f1a93f9119f35c4"), looks := true }, kinds := [], alts := [], laidByText := true, laidKinds := [.data, .data, .data, .sentinel, .sentinel], laidTests := true, laidLooks := .later }
def TopBytesUptoCardSaid : Prop := Claim7.holds Tryz.pinned (.plain (OpenSpec.upto topBytesSpec)) topBytesUptoCard

/-- THE SECOND FORM's CARD OF 'bailifftop.TopAnswered'. -/
def topAnsweredUptoCard : Claim7 := { stood := { row := topAnsweredUptoRow, standIns := [], harness := (true, "4138acc1df9cca8a2a143884d447da3240f009309307c10c6f1a93f9119f35c4"), looks := true }, kinds := [], alts := [], laidByText := true, laidKinds := [.data, .data, .data, .sentinel, .sentinel], laidTests := true, laidLooks := .later }
def TopAnsweredUptoCardSaid : Prop := Claim7.holds Tryz.pinned (.plain (OpenSpec.upto topAnsweredSpec)) topAnsweredUptoCard

/-- THE SECOND FORM's CARD OF 'bailifftop.TopDecided'. -/
def topDecidedUptoCard : Claim7 := { stood := { row := topDecidedUptoRow, standIns := [], harness := (true, "4138acc1df9cca8a2a143884d447da3240f009309307c10c6f1a93f9119f35c4"), looks := true }, kinds := [], alts := [], laidByText := true, laidKinds := [.data, .data, .data, .sentinel, .sentinel], laidTests := true, laidLooks := .later }
def TopDecidedUptoCardSaid : Prop := Claim7.holds Tryz.pinned (.plain (OpenSpec.upto topDecidedSpec)) topDecidedUptoCard
end Rows
end Go.Proofs.YtblgnefkgkchhaaGreatDoor
