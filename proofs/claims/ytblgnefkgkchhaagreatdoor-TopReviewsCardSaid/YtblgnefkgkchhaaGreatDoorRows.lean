/-
  NARROWER THAN 'FOR EVERY INPUT', by the rows' own cells (each row's printed sentence says how): TopPermit: laid · TopGlass: laid · TopReviews: laid · TopSyntax: laid · TopFull: laid · TopOwner: laid · TopTwins: laid · TopBytes: laid · TopAnswered: laid · TopDecided: laid.
  DERIVED. THE GIVEN ROWS OF THIS SEAT. 10 by the template 'for every input the law returns true; each argument reads behind the call as it read before'; 0 by the template 'total and deterministic' (their statements: YtblgnefkgkchhaaGreatDoorTotals.lean).
  GIVEN WITH THE SEED: the statements are not yours to turn. If you find one false, say at which input.
  Laid BY PROGRAM, IN A SANDBOX (cutbox-rows.mjs): the forced cells as the released guide's own fill.sh prints them over the translation 0f0a81458c4fef4c… (all of the seat's roots in one cut). By AI agents, Wed Nov 11 2026. No macro, syntax, notation, axiom, sorry.
-/
import Derived.Test.YtblgnefkgkchhaaGreatDoorChecked
import GoSem.Claim
import GoSem.ClaimJoined
import GoSem.ClaimMapViews
import Derived.JoinedTies
import Derived.KernelRfl
namespace Go.Proofs.YtblgnefkgkchhaaGreatDoor
/- THE CELL 'sum', in the pinned program and in every row, IS THE sha256 OF THE DUMP (.gsa) THAT YtblgnefkgkchhaaGreatDoorProg.lean LOADS. Nothing in Lean hashes anything: it is a label: what it is worth is what the hold of that sum in a sandbox is worth. -/
noncomputable def Tryz.pinned : Pinned := { name := "ytblgnefkgkchhaagreatdoor", sum := "0f0a81458c4fef4c8852f748aeaec0d2369c6c7115b3340e7470fed5b6c72f5f", checked := Tryz.checked }
namespace Rows
def none {H : Type} : Left H := { results := [], args := [] }

/- WHAT THE LISTED PACKAGE-LEVEL VARIABLES READ AS WHEN THE CALL BEGINS. Each datum BY PROGRAM (the guide's laid-datum.mjs) off the statement by which the dump's own 'gosem.cut.vars' lays the variable. In a bare row this is a premise. The card (YtblgnefkgkchhaaGreatDoorCards.lean) ties it to the program's text. -/
def laid_math_bits_deBruijn32tab {H : Type} : DataW H := .agg [.lit (.int .u8 0), .lit (.int .u8 1), .lit (.int .u8 28), .lit (.int .u8 2), .lit (.int .u8 29), .lit (.int .u8 14), .lit (.int .u8 24), .lit (.int .u8 3), .lit (.int .u8 30), .lit (.int .u8 22), .lit (.int .u8 20), .lit (.int .u8 15), .lit (.int .u8 25), .lit (.int .u8 17), .lit (.int .u8 4), .lit (.int .u8 8), .lit (.int .u8 31), .lit (.int .u8 27), .lit (.int .u8 13), .lit (.int .u8 23), .lit (.int .u8 21), .lit (.int .u8 19), .lit (.int .u8 16), .lit (.int .u8 7), .lit (.int .u8 26), .lit (.int .u8 12), .lit (.int .u8 18), .lit (.int .u8 6), .lit (.int .u8 11), .lit (.int .u8 5), .lit (.int .u8 10), .lit (.int .u8 9)]
def laid_math_bits_deBruijn64tab {H : Type} : DataW H := .agg [.lit (.int .u8 0), .lit (.int .u8 1), .lit (.int .u8 56), .lit (.int .u8 2), .lit (.int .u8 57), .lit (.int .u8 49), .lit (.int .u8 28), .lit (.int .u8 3), .lit (.int .u8 61), .lit (.int .u8 58), .lit (.int .u8 42), .lit (.int .u8 50), .lit (.int .u8 38), .lit (.int .u8 29), .lit (.int .u8 17), .lit (.int .u8 4), .lit (.int .u8 62), .lit (.int .u8 47), .lit (.int .u8 59), .lit (.int .u8 36), .lit (.int .u8 45), .lit (.int .u8 43), .lit (.int .u8 51), .lit (.int .u8 22), .lit (.int .u8 53), .lit (.int .u8 39), .lit (.int .u8 33), .lit (.int .u8 30), .lit (.int .u8 24), .lit (.int .u8 18), .lit (.int .u8 12), .lit (.int .u8 5), .lit (.int .u8 63), .lit (.int .u8 55), .lit (.int .u8 48), .lit (.int .u8 27), .lit (.int .u8 60), .lit (.int .u8 41), .lit (.int .u8 37), .lit (.int .u8 16), .lit (.int .u8 46), .lit (.int .u8 35), .lit (.int .u8 44), .lit (.int .u8 21), .lit (.int .u8 52), .lit (.int .u8 32), .lit (.int .u8 23), .lit (.int .u8 11), .lit (.int .u8 54), .lit (.int .u8 26), .lit (.int .u8 40), .lit (.int .u8 15), .lit (.int .u8 34), .lit (.int .u8 20), .lit (.int .u8 31), .lit (.int .u8 10), .lit (.int .u8 25), .lit (.int .u8 14), .lit (.int .u8 19), .lit (.int .u8 9), .lit (.int .u8 13), .lit (.int .u8 8), .lit (.int .u8 7), .lit (.int .u8 6)]
def laid_internal_strconv_uint64pow10 {H : Type} : DataW H := .agg [.lit (.int .u64 1), .lit (.int .u64 10), .lit (.int .u64 100), .lit (.int .u64 1000), .lit (.int .u64 10000), .lit (.int .u64 100000), .lit (.int .u64 1000000), .lit (.int .u64 10000000), .lit (.int .u64 100000000), .lit (.int .u64 1000000000), .lit (.int .u64 10000000000), .lit (.int .u64 100000000000), .lit (.int .u64 1000000000000), .lit (.int .u64 10000000000000), .lit (.int .u64 100000000000000), .lit (.int .u64 1000000000000000), .lit (.int .u64 10000000000000000), .lit (.int .u64 100000000000000000), .lit (.int .u64 1000000000000000000), .lit (.int .u64 10000000000000000000)]
def laid_strconv_ErrRange {H : Type} : DataW H := .iface "*errors.errorString" (.ptr (.agg [.lit (.string [118, 97, 108, 117, 101, 32, 111, 117, 116, 32, 111, 102, 32, 114, 97, 110, 103, 101])]))
def laid_strconv_ErrSyntax {H : Type} : DataW H := .iface "*errors.errorString" (.ptr (.agg [.lit (.string [105, 110, 118, 97, 108, 105, 100, 32, 115, 121, 110, 116, 97, 120])]))

/-- 'bailifftop.TopPermit': WHATEVER THE INPUT: true; the input reads as it did. -/
def topPermitSpec : ChangeSpec := { name := "topPermit", fn := fun _ => fun
  | [d] => { results := [.lit (.bool true)], args := [d] }
  | _ => none }
def topPermitRow : OpenClaim := { program := "ytblgnefkgkchhaagreatdoor", sum := "0f0a81458c4fef4c8852f748aeaec0d2369c6c7115b3340e7470fed5b6c72f5f", func := "bailiff/bailifftop.TopPermit", spec := "topPermit", inPlace := ["internal/bytealg.IndexByteString", "slices.overlaps[bailiff/api.Case]", "slices.overlaps[bailiff/api.Field]", "internal/bytealg.IndexString", "internal/abi.NoEscape"], unfollowed := true, recurses := true, named := ["strconv.ErrSyntax", "strconv.ErrRange", "internal/strconv.uint64pow10", "math/bits.deBruijn32tab", "math/bits.deBruijn64tab", "internal/bytealg.MaxLen"], apart := false, laid := [("math/bits.deBruijn32tab", laid_math_bits_deBruijn32tab), ("math/bits.deBruijn64tab", laid_math_bits_deBruijn64tab), ("internal/strconv.uint64pow10", laid_internal_strconv_uint64pow10), ("strconv.ErrRange", laid_strconv_ErrRange), ("strconv.ErrSyntax", laid_strconv_ErrSyntax)] }
def TopPermitSaid : Prop := topPermitRow.holds Tryz.pinned (OpenSpec.ofChange topPermitSpec)

/-- ITS FALSE NEIGHBOUR: 'it returns false'. Refute it at one input. -/
def topPermitWrong : ChangeSpec := { name := "topPermit", fn := fun _ => fun
  | [d] => { results := [.lit (.bool false)], args := [d] }
  | _ => none }
def TopPermitWrongFalsely : Prop := topPermitRow.holds Tryz.pinned (OpenSpec.ofChange topPermitWrong)

/-- 'bailifftop.TopGlass': WHATEVER THE INPUT: true; the input reads as it did. -/
def topGlassSpec : ChangeSpec := { name := "topGlass", fn := fun _ => fun
  | [d] => { results := [.lit (.bool true)], args := [d] }
  | _ => none }
def topGlassRow : OpenClaim := { program := "ytblgnefkgkchhaagreatdoor", sum := "0f0a81458c4fef4c8852f748aeaec0d2369c6c7115b3340e7470fed5b6c72f5f", func := "bailiff/bailifftop.TopGlass", spec := "topGlass", inPlace := ["internal/bytealg.IndexByteString", "slices.overlaps[bailiff/api.Case]", "slices.overlaps[bailiff/api.Field]", "internal/bytealg.IndexString", "internal/abi.NoEscape"], unfollowed := true, recurses := true, named := ["strconv.ErrSyntax", "strconv.ErrRange", "internal/strconv.uint64pow10", "math/bits.deBruijn32tab", "math/bits.deBruijn64tab", "internal/bytealg.MaxLen"], apart := false, laid := [("math/bits.deBruijn32tab", laid_math_bits_deBruijn32tab), ("math/bits.deBruijn64tab", laid_math_bits_deBruijn64tab), ("internal/strconv.uint64pow10", laid_internal_strconv_uint64pow10), ("strconv.ErrRange", laid_strconv_ErrRange), ("strconv.ErrSyntax", laid_strconv_ErrSyntax)] }
def TopGlassSaid : Prop := topGlassRow.holds Tryz.pinned (OpenSpec.ofChange topGlassSpec)

/-- ITS FALSE NEIGHBOUR: 'it returns false'. Refute it at one input. -/
def topGlassWrong : ChangeSpec := { name := "topGlass", fn := fun _ => fun
  | [d] => { results := [.lit (.bool false)], args := [d] }
  | _ => none }
def TopGlassWrongFalsely : Prop := topGlassRow.holds Tryz.pinned (OpenSpec.ofChange topGlassWrong)

/-- 'bailifftop.TopReviews': WHATEVER THE INPUT: true; the input reads as it did. -/
def topReviewsSpec : ChangeSpec := { name := "topReviews", fn := fun _ => fun
  | [d] => { results := [.lit (.bool true)], args := [d] }
  | _ => none }
def topReviewsRow : OpenClaim := { program := "ytblgnefkgkchhaagreatdoor", sum := "0f0a81458c4fef4c8852f748aeaec0d2369c6c7115b3340e7470fed5b6c72f5f", func := "bailiff/bailifftop.TopReviews", spec := "topReviews", inPlace := ["internal/bytealg.IndexByteString", "slices.overlaps[bailiff/api.Case]", "slices.overlaps[bailiff/api.Field]", "internal/bytealg.IndexString", "internal/abi.NoEscape"], unfollowed := true, recurses := true, named := ["strconv.ErrSyntax", "strconv.ErrRange", "internal/strconv.uint64pow10", "math/bits.deBruijn32tab", "math/bits.deBruijn64tab", "internal/bytealg.MaxLen"], apart := false, laid := [("math/bits.deBruijn32tab", laid_math_bits_deBruijn32tab), ("math/bits.deBruijn64tab", laid_math_bits_deBruijn64tab), ("internal/strconv.uint64pow10", laid_internal_strconv_uint64pow10), ("strconv.ErrRange", laid_strconv_ErrRange), ("strconv.ErrSyntax", laid_strconv_ErrSyntax)] }
def TopReviewsSaid : Prop := topReviewsRow.holds Tryz.pinned (OpenSpec.ofChange topReviewsSpec)

/-- ITS FALSE NEIGHBOUR: 'it returns false'. Refute it at one input. -/
def topReviewsWrong : ChangeSpec := { name := "topReviews", fn := fun _ => fun
  | [d] => { results := [.lit (.bool false)], args := [d] }
  | _ => none }
def TopReviewsWrongFalsely : Prop := topReviewsRow.holds Tryz.pinned (OpenSpec.ofChange topReviewsWrong)

/-- 'bailifftop.TopSyntax': WHATEVER THE INPUT: true; the input reads as it did. -/
def topSyntaxSpec : ChangeSpec := { name := "topSyntax", fn := fun _ => fun
  | [d1, d2] => { results := [.lit (.bool true)], args := [d1, d2] }
  | _ => none }
def topSyntaxRow : OpenClaim := { program := "ytblgnefkgkchhaagreatdoor", sum := "0f0a81458c4fef4c8852f748aeaec0d2369c6c7115b3340e7470fed5b6c72f5f", func := "bailiff/bailifftop.TopSyntax", spec := "topSyntax", inPlace := ["internal/bytealg.IndexByteString", "slices.overlaps[bailiff/api.Case]", "slices.overlaps[bailiff/api.Field]", "internal/bytealg.IndexString", "internal/abi.NoEscape"], unfollowed := true, recurses := true, named := ["strconv.ErrSyntax", "strconv.ErrRange", "internal/strconv.uint64pow10", "math/bits.deBruijn32tab", "math/bits.deBruijn64tab", "internal/bytealg.MaxLen"], apart := false, laid := [("math/bits.deBruijn32tab", laid_math_bits_deBruijn32tab), ("math/bits.deBruijn64tab", laid_math_bits_deBruijn64tab), ("internal/strconv.uint64pow10", laid_internal_strconv_uint64pow10), ("strconv.ErrRange", laid_strconv_ErrRange), ("strconv.ErrSyntax", laid_strconv_ErrSyntax)] }
def TopSyntaxSaid : Prop := topSyntaxRow.holds Tryz.pinned (OpenSpec.ofChange topSyntaxSpec)

/-- ITS FALSE NEIGHBOUR: 'it returns false'. Refute it at one input. -/
def topSyntaxWrong : ChangeSpec := { name := "topSyntax", fn := fun _ => fun
  | [d1, d2] => { results := [.lit (.bool false)], args := [d1, d2] }
  | _ => none }
def TopSyntaxWrongFalsely : Prop := topSyntaxRow.holds Tryz.pinned (OpenSpec.ofChange topSyntaxWrong)

/-- 'bailifftop.TopFull': WHATEVER THE INPUT: true; the input reads as it did. -/
def topFullSpec : ChangeSpec := { name := "topFull", fn := fun _ => fun
  | [d1, d2] => { results := [.lit (.bool true)], args := [d1, d2] }
  | _ => none }
def topFullRow : OpenClaim := { program := "ytblgnefkgkchhaagreatdoor", sum := "0f0a81458c4fef4c8852f748aeaec0d2369c6c7115b3340e7470fed5b6c72f5f", func := "bailiff/bailifftop.TopFull", spec := "topFull", inPlace := ["internal/bytealg.IndexByteString", "slices.overlaps[bailiff/api.Case]", "slices.overlaps[bailiff/api.Field]", "internal/bytealg.IndexString", "internal/abi.NoEscape"], unfollowed := true, recurses := true, named := ["strconv.ErrSyntax", "strconv.ErrRange", "internal/strconv.uint64pow10", "math/bits.deBruijn32tab", "math/bits.deBruijn64tab", "internal/bytealg.MaxLen"], apart := false, laid := [("math/bits.deBruijn32tab", laid_math_bits_deBruijn32tab), ("math/bits.deBruijn64tab", laid_math_bits_deBruijn64tab), ("internal/strconv.uint64pow10", laid_internal_strconv_uint64pow10), ("strconv.ErrRange", laid_strconv_ErrRange), ("strconv.ErrSyntax", laid_strconv_ErrSyntax)] }
def TopFullSaid : Prop := topFullRow.holds Tryz.pinned (OpenSpec.ofChange topFullSpec)

/-- ITS FALSE NEIGHBOUR: 'it returns false'. Refute it at one input. -/
def topFullWrong : ChangeSpec := { name := "topFull", fn := fun _ => fun
  | [d1, d2] => { results := [.lit (.bool false)], args := [d1, d2] }
  | _ => none }
def TopFullWrongFalsely : Prop := topFullRow.holds Tryz.pinned (OpenSpec.ofChange topFullWrong)

/-- 'bailifftop.TopOwner': WHATEVER THE INPUT: true; the input reads as it did. -/
def topOwnerSpec : ChangeSpec := { name := "topOwner", fn := fun _ => fun
  | [d] => { results := [.lit (.bool true)], args := [d] }
  | _ => none }
def topOwnerRow : OpenClaim := { program := "ytblgnefkgkchhaagreatdoor", sum := "0f0a81458c4fef4c8852f748aeaec0d2369c6c7115b3340e7470fed5b6c72f5f", func := "bailiff/bailifftop.TopOwner", spec := "topOwner", inPlace := ["internal/bytealg.IndexByteString", "slices.overlaps[bailiff/api.Case]", "slices.overlaps[bailiff/api.Field]", "internal/bytealg.IndexString", "internal/abi.NoEscape"], unfollowed := true, recurses := true, named := ["strconv.ErrSyntax", "strconv.ErrRange", "internal/strconv.uint64pow10", "math/bits.deBruijn32tab", "math/bits.deBruijn64tab", "internal/bytealg.MaxLen"], apart := false, laid := [("math/bits.deBruijn32tab", laid_math_bits_deBruijn32tab), ("math/bits.deBruijn64tab", laid_math_bits_deBruijn64tab), ("internal/strconv.uint64pow10", laid_internal_strconv_uint64pow10), ("strconv.ErrRange", laid_strconv_ErrRange), ("strconv.ErrSyntax", laid_strconv_ErrSyntax)] }
def TopOwnerSaid : Prop := topOwnerRow.holds Tryz.pinned (OpenSpec.ofChange topOwnerSpec)

/-- ITS FALSE NEIGHBOUR: 'it returns false'. Refute it at one input. -/
def topOwnerWrong : ChangeSpec := { name := "topOwner", fn := fun _ => fun
  | [d] => { results := [.lit (.bool false)], args := [d] }
  | _ => none }
def TopOwnerWrongFalsely : Prop := topOwnerRow.holds Tryz.pinned (OpenSpec.ofChange topOwnerWrong)

/-- 'bailifftop.TopTwins': WHATEVER THE INPUT: true; the input reads as it did. -/
def topTwinsSpec : ChangeSpec := { name := "topTwins", fn := fun _ => fun
  | [d1, d2] => { results := [.lit (.bool true)], args := [d1, d2] }
  | _ => none }
def topTwinsRow : OpenClaim := { program := "ytblgnefkgkchhaagreatdoor", sum := "0f0a81458c4fef4c8852f748aeaec0d2369c6c7115b3340e7470fed5b6c72f5f", func := "bailiff/bailifftop.TopTwins", spec := "topTwins", inPlace := ["internal/bytealg.IndexByteString", "slices.overlaps[bailiff/api.Case]", "slices.overlaps[bailiff/api.Field]", "internal/bytealg.IndexString", "internal/abi.NoEscape"], unfollowed := true, recurses := true, named := ["strconv.ErrSyntax", "strconv.ErrRange", "internal/strconv.uint64pow10", "math/bits.deBruijn32tab", "math/bits.deBruijn64tab", "internal/bytealg.MaxLen"], apart := false, laid := [("math/bits.deBruijn32tab", laid_math_bits_deBruijn32tab), ("math/bits.deBruijn64tab", laid_math_bits_deBruijn64tab), ("internal/strconv.uint64pow10", laid_internal_strconv_uint64pow10), ("strconv.ErrRange", laid_strconv_ErrRange), ("strconv.ErrSyntax", laid_strconv_ErrSyntax)] }
def TopTwinsSaid : Prop := topTwinsRow.holds Tryz.pinned (OpenSpec.ofChange topTwinsSpec)

/-- ITS FALSE NEIGHBOUR: 'it returns false'. Refute it at one input. -/
def topTwinsWrong : ChangeSpec := { name := "topTwins", fn := fun _ => fun
  | [d1, d2] => { results := [.lit (.bool false)], args := [d1, d2] }
  | _ => none }
def TopTwinsWrongFalsely : Prop := topTwinsRow.holds Tryz.pinned (OpenSpec.ofChange topTwinsWrong)

/-- 'bailifftop.TopBytes': WHATEVER THE INPUT: true; the input reads as it did. -/
def topBytesSpec : ChangeSpec := { name := "topBytes", fn := fun _ => fun
  | [d1, d2] => { results := [.lit (.bool true)], args := [d1, d2] }
  | _ => none }
def topBytesRow : OpenClaim := { program := "ytblgnefkgkchhaagreatdoor", sum := "0f0a81458c4fef4c8852f748aeaec0d2369c6c7115b3340e7470fed5b6c72f5f", func := "bailiff/bailifftop.TopBytes", spec := "topBytes", inPlace := ["internal/bytealg.IndexByteString", "slices.overlaps[bailiff/api.Case]", "slices.overlaps[bailiff/api.Field]", "internal/bytealg.IndexString", "internal/abi.NoEscape"], unfollowed := true, recurses := true, named := ["strconv.ErrSyntax", "strconv.ErrRange", "internal/strconv.uint64pow10", "math/bits.deBruijn32tab", "math/bits.deBruijn64tab", "internal/bytealg.MaxLen"], apart := false, laid := [("math/bits.deBruijn32tab", laid_math_bits_deBruijn32tab), ("math/bits.deBruijn64tab", laid_math_bits_deBruijn64tab), ("internal/strconv.uint64pow10", laid_internal_strconv_uint64pow10), ("strconv.ErrRange", laid_strconv_ErrRange), ("strconv.ErrSyntax", laid_strconv_ErrSyntax)] }
def TopBytesSaid : Prop := topBytesRow.holds Tryz.pinned (OpenSpec.ofChange topBytesSpec)

/-- ITS FALSE NEIGHBOUR: 'it returns false'. Refute it at one input. -/
def topBytesWrong : ChangeSpec := { name := "topBytes", fn := fun _ => fun
  | [d1, d2] => { results := [.lit (.bool false)], args := [d1, d2] }
  | _ => none }
def TopBytesWrongFalsely : Prop := topBytesRow.holds Tryz.pinned (OpenSpec.ofChange topBytesWrong)

/-- 'bailifftop.TopAnswered': WHATEVER THE INPUT: true; the input reads as it did. -/
def topAnsweredSpec : ChangeSpec := { name := "topAnswered", fn := fun _ => fun
  | [d] => { results := [.lit (.bool true)], args := [d] }
  | _ => none }
def topAnsweredRow : OpenClaim := { program := "ytblgnefkgkchhaagreatdoor", sum := "0f0a81458c4fef4c8852f748aeaec0d2369c6c7115b3340e7470fed5b6c72f5f", func := "bailiff/bailifftop.TopAnswered", spec := "topAnswered", inPlace := ["internal/bytealg.IndexByteString", "slices.overlaps[bailiff/api.Case]", "slices.overlaps[bailiff/api.Field]", "internal/bytealg.IndexString", "internal/abi.NoEscape"], unfollowed := true, recurses := true, named := ["strconv.ErrSyntax", "strconv.ErrRange", "internal/strconv.uint64pow10", "math/bits.deBruijn32tab", "math/bits.deBruijn64tab", "internal/bytealg.MaxLen"], apart := false, laid := [("math/bits.deBruijn32tab", laid_math_bits_deBruijn32tab), ("math/bits.deBruijn64tab", laid_math_bits_deBruijn64tab), ("internal/strconv.uint64pow10", laid_internal_strconv_uint64pow10), ("strconv.ErrRange", laid_strconv_ErrRange), ("strconv.ErrSyntax", laid_strconv_ErrSyntax)] }
def TopAnsweredSaid : Prop := topAnsweredRow.holds Tryz.pinned (OpenSpec.ofChange topAnsweredSpec)

/-- ITS FALSE NEIGHBOUR: 'it returns false'. Refute it at one input. -/
def topAnsweredWrong : ChangeSpec := { name := "topAnswered", fn := fun _ => fun
  | [d] => { results := [.lit (.bool false)], args := [d] }
  | _ => none }
def TopAnsweredWrongFalsely : Prop := topAnsweredRow.holds Tryz.pinned (OpenSpec.ofChange topAnsweredWrong)

/-- 'bailifftop.TopDecided': WHATEVER THE INPUT: true; the input reads as it did. -/
def topDecidedSpec : ChangeSpec := { name := "topDecided", fn := fun _ => fun
  | [d] => { results := [.lit (.bool true)], args := [d] }
  | _ => none }
def topDecidedRow : OpenClaim := { program := "ytblgnefkgkchhaagreatdoor", sum := "0f0a81458c4fef4c8852f748aeaec0d2369c6c7115b3340e7470fed5b6c72f5f", func := "bailiff/bailifftop.TopDecided", spec := "topDecided", inPlace := ["internal/bytealg.IndexByteString", "slices.overlaps[bailiff/api.Case]", "slices.overlaps[bailiff/api.Field]", "internal/bytealg.IndexString", "internal/abi.NoEscape"], unfollowed := true, recurses := true, named := ["strconv.ErrSyntax", "strconv.ErrRange", "internal/strconv.uint64pow10", "math/bits.deBruijn32tab", "math/bits.deBruijn64tab", "internal/bytealg.MaxLen"], apart := false, laid := [("math/bits.deBruijn32tab", laid_math_bits_deBruijn32tab), ("math/bits.deBruijn64tab", laid_math_bits_deBruijn64tab), ("internal/strconv.uint64pow10", laid_internal_strconv_uint64pow10), ("strconv.ErrRange", laid_strconv_ErrRange), ("strconv.ErrSyntax", laid_strconv_ErrSyntax)] }
def TopDecidedSaid : Prop := topDecidedRow.holds Tryz.pinned (OpenSpec.ofChange topDecidedSpec)

/-- ITS FALSE NEIGHBOUR: 'it returns false'. Refute it at one input. -/
def topDecidedWrong : ChangeSpec := { name := "topDecided", fn := fun _ => fun
  | [d] => { results := [.lit (.bool false)], args := [d] }
  | _ => none }
def TopDecidedWrongFalsely : Prop := topDecidedRow.holds Tryz.pinned (OpenSpec.ofChange topDecidedWrong)

/- THE SECOND FORM. 'bulk': how many values and letters a reading holds, each counted each time it is reached (what is shared counts as often as it is met; a slice's spare places count too). A statement '..UptoSaid' is the law's where the arguments, and the package variables that the reading takes, are together of bulk at most 1048576: NARROWER than '..Said'. Prove '..Said' where nothing that the law and all that it calls make is longer than what came in: it says more and counts as full. Else prove '..UptoSaid'. A law counts once. -/
mutual
def uptoBulk {H : Type} : DataW H → Nat
  | .lit (.string bytes) => bytes.length + 1
  | .lit _ => 1
  | .nil => 1
  | .ptr d => uptoBulk d + 1
  | .slice elems spare => uptoBulkAll elems + uptoBulkAll spare + 1
  | .agg parts => uptoBulkAll parts + 1
  | .iface _ d => uptoBulk d + 1
  | .map entries => uptoBulkEntries entries + 1
  | .held _ => 1
def uptoBulkAll {H : Type} : List (DataW H) → Nat
  | [] => 0
  | d :: r => uptoBulk d + uptoBulkAll r
def uptoBulkEntries {H : Type} : List (Lit × DataW H) → Nat
  | [] => 0
  | x :: r => uptoBulkEntry x + uptoBulkEntries r
def uptoBulkEntry {H : Type} : Lit × DataW H → Nat
  | (.string bytes, d) => bytes.length + uptoBulk d + 1
  | (_, d) => uptoBulk d + 1
 end
def uptoSmall : (H : Type) → List (DataW H) → Bool := fun _ ds => decide (uptoBulkAll ds ≤ 1048576)
def OpenSpec.upto (s : _root_.Go.ChangeSpec) : _root_.Go.OpenSpec := { _root_.Go.OpenSpec.ofChange s with cond := some uptoSmall }

/-- 'bailifftop.TopPermit', WHERE WHAT IT READS IS OF BULK AT MOST 1048576: true; the input reads as it did. -/
def topPermitUptoRow : OpenClaim := { program := "ytblgnefkgkchhaagreatdoor", sum := "0f0a81458c4fef4c8852f748aeaec0d2369c6c7115b3340e7470fed5b6c72f5f", func := "bailiff/bailifftop.TopPermit", spec := "topPermit", inPlace := ["internal/bytealg.IndexByteString", "slices.overlaps[bailiff/api.Case]", "slices.overlaps[bailiff/api.Field]", "internal/bytealg.IndexString", "internal/abi.NoEscape"], unfollowed := true, recurses := true, named := ["strconv.ErrSyntax", "strconv.ErrRange", "internal/strconv.uint64pow10", "math/bits.deBruijn32tab", "math/bits.deBruijn64tab", "internal/bytealg.MaxLen"], apart := false, laid := [("math/bits.deBruijn32tab", laid_math_bits_deBruijn32tab), ("math/bits.deBruijn64tab", laid_math_bits_deBruijn64tab), ("internal/strconv.uint64pow10", laid_internal_strconv_uint64pow10), ("strconv.ErrRange", laid_strconv_ErrRange), ("strconv.ErrSyntax", laid_strconv_ErrSyntax)], narrowed := true }
def TopPermitUptoSaid : Prop := topPermitUptoRow.holds Tryz.pinned (OpenSpec.upto topPermitSpec)

/-- 'bailifftop.TopGlass', WHERE WHAT IT READS IS OF BULK AT MOST 1048576: true; the input reads as it did. -/
def topGlassUptoRow : OpenClaim := { program := "ytblgnefkgkchhaagreatdoor", sum := "0f0a81458c4fef4c8852f748aeaec0d2369c6c7115b3340e7470fed5b6c72f5f", func := "bailiff/bailifftop.TopGlass", spec := "topGlass", inPlace := ["internal/bytealg.IndexByteString", "slices.overlaps[bailiff/api.Case]", "slices.overlaps[bailiff/api.Field]", "internal/bytealg.IndexString", "internal/abi.NoEscape"], unfollowed := true, recurses := true, named := ["strconv.ErrSyntax", "strconv.ErrRange", "internal/strconv.uint64pow10", "math/bits.deBruijn32tab", "math/bits.deBruijn64tab", "internal/bytealg.MaxLen"], apart := false, laid := [("math/bits.deBruijn32tab", laid_math_bits_deBruijn32tab), ("math/bits.deBruijn64tab", laid_math_bits_deBruijn64tab), ("internal/strconv.uint64pow10", laid_internal_strconv_uint64pow10), ("strconv.ErrRange", laid_strconv_ErrRange), ("strconv.ErrSyntax", laid_strconv_ErrSyntax)], narrowed := true }
def TopGlassUptoSaid : Prop := topGlassUptoRow.holds Tryz.pinned (OpenSpec.upto topGlassSpec)

/-- 'bailifftop.TopReviews', WHERE WHAT IT READS IS OF BULK AT MOST 1048576: true; the input reads as it did. -/
def topReviewsUptoRow : OpenClaim := { program := "ytblgnefkgkchhaagreatdoor", sum := "0f0a81458c4fef4c8852f748aeaec0d2369c6c7115b3340e7470fed5b6c72f5f", func := "bailiff/bailifftop.TopReviews", spec := "topReviews", inPlace := ["internal/bytealg.IndexByteString", "slices.overlaps[bailiff/api.Case]", "slices.overlaps[bailiff/api.Field]", "internal/bytealg.IndexString", "internal/abi.NoEscape"], unfollowed := true, recurses := true, named := ["strconv.ErrSyntax", "strconv.ErrRange", "internal/strconv.uint64pow10", "math/bits.deBruijn32tab", "math/bits.deBruijn64tab", "internal/bytealg.MaxLen"], apart := false, laid := [("math/bits.deBruijn32tab", laid_math_bits_deBruijn32tab), ("math/bits.deBruijn64tab", laid_math_bits_deBruijn64tab), ("internal/strconv.uint64pow10", laid_internal_strconv_uint64pow10), ("strconv.ErrRange", laid_strconv_ErrRange), ("strconv.ErrSyntax", laid_strconv_ErrSyntax)], narrowed := true }
def TopReviewsUptoSaid : Prop := topReviewsUptoRow.holds Tryz.pinned (OpenSpec.upto topReviewsSpec)

/-- 'bailifftop.TopSyntax', WHERE WHAT IT READS IS OF BULK AT MOST 1048576: true; the input reads as it did. -/
def topSyntaxUptoRow : OpenClaim := { program := "ytblgnefkgkchhaagreatdoor", sum := "0f0a81458c4fef4c8852f748aeaec0d2369c6c7115b3340e7470fed5b6c72f5f", func := "bailiff/bailifftop.TopSyntax", spec := "topSyntax", inPlace := ["internal/bytealg.IndexByteString", "slices.overlaps[bailiff/api.Case]", "slices.overlaps[bailiff/api.Field]", "internal/bytealg.IndexString", "internal/abi.NoEscape"], unfollowed := true, recurses := true, named := ["strconv.ErrSyntax", "strconv.ErrRange", "internal/strconv.uint64pow10", "math/bits.deBruijn32tab", "math/bits.deBruijn64tab", "internal/bytealg.MaxLen"], apart := false, laid := [("math/bits.deBruijn32tab", laid_math_bits_deBruijn32tab), ("math/bits.deBruijn64tab", laid_math_bits_deBruijn64tab), ("internal/strconv.uint64pow10", laid_internal_strconv_uint64pow10), ("strconv.ErrRange", laid_strconv_ErrRange), ("strconv.ErrSyntax", laid_strconv_ErrSyntax)], narrowed := true }
def TopSyntaxUptoSaid : Prop := topSyntaxUptoRow.holds Tryz.pinned (OpenSpec.upto topSyntaxSpec)

/-- 'bailifftop.TopFull', WHERE WHAT IT READS IS OF BULK AT MOST 1048576: true; the input reads as it did. -/
def topFullUptoRow : OpenClaim := { program := "ytblgnefkgkchhaagreatdoor", sum := "0f0a81458c4fef4c8852f748aeaec0d2369c6c7115b3340e7470fed5b6c72f5f", func := "bailiff/bailifftop.TopFull", spec := "topFull", inPlace := ["internal/bytealg.IndexByteString", "slices.overlaps[bailiff/api.Case]", "slices.overlaps[bailiff/api.Field]", "internal/bytealg.IndexString", "internal/abi.NoEscape"], unfollowed := true, recurses := true, named := ["strconv.ErrSyntax", "strconv.ErrRange", "internal/strconv.uint64pow10", "math/bits.deBruijn32tab", "math/bits.deBruijn64tab", "internal/bytealg.MaxLen"], apart := false, laid := [("math/bits.deBruijn32tab", laid_math_bits_deBruijn32tab), ("math/bits.deBruijn64tab", laid_math_bits_deBruijn64tab), ("internal/strconv.uint64pow10", laid_internal_strconv_uint64pow10), ("strconv.ErrRange", laid_strconv_ErrRange), ("strconv.ErrSyntax", laid_strconv_ErrSyntax)], narrowed := true }
def TopFullUptoSaid : Prop := topFullUptoRow.holds Tryz.pinned (OpenSpec.upto topFullSpec)

/-- 'bailifftop.TopOwner', WHERE WHAT IT READS IS OF BULK AT MOST 1048576: true; the input reads as it did. -/
def topOwnerUptoRow : OpenClaim := { program := "ytblgnefkgkchhaagreatdoor", sum := "0f0a81458c4fef4c8852f748aeaec0d2369c6c7115b3340e7470fed5b6c72f5f", func := "bailiff/bailifftop.TopOwner", spec := "topOwner", inPlace := ["internal/bytealg.IndexByteString", "slices.overlaps[bailiff/api.Case]", "slices.overlaps[bailiff/api.Field]", "internal/bytealg.IndexString", "internal/abi.NoEscape"], unfollowed := true, recurses := true, named := ["strconv.ErrSyntax", "strconv.ErrRange", "internal/strconv.uint64pow10", "math/bits.deBruijn32tab", "math/bits.deBruijn64tab", "internal/bytealg.MaxLen"], apart := false, laid := [("math/bits.deBruijn32tab", laid_math_bits_deBruijn32tab), ("math/bits.deBruijn64tab", laid_math_bits_deBruijn64tab), ("internal/strconv.uint64pow10", laid_internal_strconv_uint64pow10), ("strconv.ErrRange", laid_strconv_ErrRange), ("strconv.ErrSyntax", laid_strconv_ErrSyntax)], narrowed := true }
def TopOwnerUptoSaid : Prop := topOwnerUptoRow.holds Tryz.pinned (OpenSpec.upto topOwnerSpec)

/-- 'bailifftop.TopTwins', WHERE WHAT IT READS IS OF BULK AT MOST 1048576: true; the input reads as it did. -/
def topTwinsUptoRow : OpenClaim := { program := "ytblgnefkgkchhaagreatdoor", sum := "0f0a81458c4fef4c8852f748aeaec0d2369c6c7115b3340e7470fed5b6c72f5f", func := "bailiff/bailifftop.TopTwins", spec := "topTwins", inPlace := ["internal/bytealg.IndexByteString", "slices.overlaps[bailiff/api.Case]", "slices.overlaps[bailiff/api.Field]", "internal/bytealg.IndexString", "internal/abi.NoEscape"], unfollowed := true, recurses := true, named := ["strconv.ErrSyntax", "strconv.ErrRange", "internal/strconv.uint64pow10", "math/bits.deBruijn32tab", "math/bits.deBruijn64tab", "internal/bytealg.MaxLen"], apart := false, laid := [("math/bits.deBruijn32tab", laid_math_bits_deBruijn32tab), ("math/bits.deBruijn64tab", laid_math_bits_deBruijn64tab), ("internal/strconv.uint64pow10", laid_internal_strconv_uint64pow10), ("strconv.ErrRange", laid_strconv_ErrRange), ("strconv.ErrSyntax", laid_strconv_ErrSyntax)], narrowed := true }
def TopTwinsUptoSaid : Prop := topTwinsUptoRow.holds Tryz.pinned (OpenSpec.upto topTwinsSpec)

/-- 'bailifftop.TopBytes', WHERE WHAT IT READS IS OF BULK AT MOST 1048576: true; the input reads as it did. -/
def topBytesUptoRow : OpenClaim := { program := "ytblgnefkgkchhaagreatdoor", sum := "0f0a81458c4fef4c8852f748aeaec0d2369c6c7115b3340e7470fed5b6c72f5f", func := "bailiff/bailifftop.TopBytes", spec := "topBytes", inPlace := ["internal/bytealg.IndexByteString", "slices.overlaps[bailiff/api.Case]", "slices.overlaps[bailiff/api.Field]", "internal/bytealg.IndexString", "internal/abi.NoEscape"], unfollowed := true, recurses := true, named := ["strconv.ErrSyntax", "strconv.ErrRange", "internal/strconv.uint64pow10", "math/bits.deBruijn32tab", "math/bits.deBruijn64tab", "internal/bytealg.MaxLen"], apart := false, laid := [("math/bits.deBruijn32tab", laid_math_bits_deBruijn32tab), ("math/bits.deBruijn64tab", laid_math_bits_deBruijn64tab), ("internal/strconv.uint64pow10", laid_internal_strconv_uint64pow10), ("strconv.ErrRange", laid_strconv_ErrRange), ("strconv.ErrSyntax", laid_strconv_ErrSyntax)], narrowed := true }
def TopBytesUptoSaid : Prop := topBytesUptoRow.holds Tryz.pinned (OpenSpec.upto topBytesSpec)

/-- 'bailifftop.TopAnswered', WHERE WHAT IT READS IS OF BULK AT MOST 1048576: true; the input reads as it did. -/
def topAnsweredUptoRow : OpenClaim := { program := "ytblgnefkgkchhaagreatdoor", sum := "0f0a81458c4fef4c8852f748aeaec0d2369c6c7115b3340e7470fed5b6c72f5f", func := "bailiff/bailifftop.TopAnswered", spec := "topAnswered", inPlace := ["internal/bytealg.IndexByteString", "slices.overlaps[bailiff/api.Case]", "slices.overlaps[bailiff/api.Field]", "internal/bytealg.IndexString", "internal/abi.NoEscape"], unfollowed := true, recurses := true, named := ["strconv.ErrSyntax", "strconv.ErrRange", "internal/strconv.uint64pow10", "math/bits.deBruijn32tab", "math/bits.deBruijn64tab", "internal/bytealg.MaxLen"], apart := false, laid := [("math/bits.deBruijn32tab", laid_math_bits_deBruijn32tab), ("math/bits.deBruijn64tab", laid_math_bits_deBruijn64tab), ("internal/strconv.uint64pow10", laid_internal_strconv_uint64pow10), ("strconv.ErrRange", laid_strconv_ErrRange), ("strconv.ErrSyntax", laid_strconv_ErrSyntax)], narrowed := true }
def TopAnsweredUptoSaid : Prop := topAnsweredUptoRow.holds Tryz.pinned (OpenSpec.upto topAnsweredSpec)

/-- 'bailifftop.TopDecided', WHERE WHAT IT READS IS OF BULK AT MOST 1048576: true; the input reads as it did. -/
def topDecidedUptoRow : OpenClaim := { program := "ytblgnefkgkchhaagreatdoor", sum := "0f0a81458c4fef4c8852f748aeaec0d2369c6c7115b3340e7470fed5b6c72f5f", func := "bailiff/bailifftop.TopDecided", spec := "topDecided", inPlace := ["internal/bytealg.IndexByteString", "slices.overlaps[bailiff/api.Case]", "slices.overlaps[bailiff/api.Field]", "internal/bytealg.IndexString", "internal/abi.NoEscape"], unfollowed := true, recurses := true, named := ["strconv.ErrSyntax", "strconv.ErrRange", "internal/strconv.uint64pow10", "math/bits.deBruijn32tab", "math/bits.deBruijn64tab", "internal/bytealg.MaxLen"], apart := false, laid := [("math/bits.deBruijn32tab", laid_math_bits_deBruijn32tab), ("math/bits.deBruijn64tab", laid_math_bits_deBruijn64tab), ("internal/strconv.uint64pow10", laid_internal_strconv_uint64pow10), ("strconv.ErrRange", laid_strconv_ErrRange), ("strconv.ErrSyntax", laid_strconv_ErrSyntax)], narrowed := true }
def TopDecidedUptoSaid : Prop := topDecidedUptoRow.holds Tryz.pinned (OpenSpec.upto topDecidedSpec)

end Rows
end Go.Proofs.YtblgnefkgkchhaaGreatDoor
