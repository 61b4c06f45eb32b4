/-
  NARROWER THAN 'FOR EVERY INPUT', by the rows' own cells (each row's printed sentence says how): EvalSure: loops, laid · EvalSets: loops, laid · EvalRules: laid · EvalFirst: loops, laid · EvalTargets: loops, laid · EvalUnless: loops, laid · VarsFew: loops, laid · VarsAsks: laid · VarsAll: loops, laid · IndexKeys: loops, laid · IndexLoses: loops, laid · IndexAdds: loops, laid.
  DERIVED. THE GIVEN ROWS OF THIS SEAT. 12 by the template 'for every input the law returns true; each argument reads behind the call as it read before'; 0 by the template 'total and deterministic' (their statements: YtppfcacnofjmdaaGreatDoorTotals.lean).
  GIVEN WITH THE SEED: the statements are not yours to turn. If you find one false, say at which input.
  Laid BY PROGRAM, IN A SANDBOX (cutbox-rows.mjs): the forced cells as the released guide's own fill.sh prints them over the translation 32149d157c4a1f05… (all of the seat's roots in one cut). By AI agents, Wed Nov 11 2026. No macro, syntax, notation, axiom, sorry.
-/
import Derived.Test.YtppfcacnofjmdaaGreatDoorChecked
import GoSem.Claim
import GoSem.ClaimJoined
import GoSem.ClaimMapViews
import Derived.JoinedTies
import Derived.KernelRfl
namespace Go.Proofs.YtppfcacnofjmdaaGreatDoor
/- THE CELL 'sum', in the pinned program and in every row, IS THE sha256 OF THE DUMP (.gsa) THAT YtppfcacnofjmdaaGreatDoorProg.lean LOADS. Nothing in Lean hashes anything: it is a label: what it is worth is what the hold of that sum in a sandbox is worth. -/
noncomputable def Tryz.pinned : Pinned := { name := "ytppfcacnofjmdaagreatdoor", sum := "32149d157c4a1f050f58e0379e22cd0f734583e88f565be3d326d3e7f8877613", checked := Tryz.checked }
namespace Rows
def none {H : Type} : Left H := { results := [], args := [] }

/- WHAT THE LISTED PACKAGE-LEVEL VARIABLES READ AS WHEN THE CALL BEGINS. Each datum BY PROGRAM (the guide's laid-datum.mjs) off the statement by which the dump's own 'gosem.cut.vars' lays the variable. In a bare row this is a premise. The card (YtppfcacnofjmdaaGreatDoorCards.lean) ties it to the program's text. -/
def laid_math_bits_deBruijn32tab {H : Type} : DataW H := .agg [.lit (.int .u8 0), .lit (.int .u8 1), .lit (.int .u8 28), .lit (.int .u8 2), .lit (.int .u8 29), .lit (.int .u8 14), .lit (.int .u8 24), .lit (.int .u8 3), .lit (.int .u8 30), .lit (.int .u8 22), .lit (.int .u8 20), .lit (.int .u8 15), .lit (.int .u8 25), .lit (.int .u8 17), .lit (.int .u8 4), .lit (.int .u8 8), .lit (.int .u8 31), .lit (.int .u8 27), .lit (.int .u8 13), .lit (.int .u8 23), .lit (.int .u8 21), .lit (.int .u8 19), .lit (.int .u8 16), .lit (.int .u8 7), .lit (.int .u8 26), .lit (.int .u8 12), .lit (.int .u8 18), .lit (.int .u8 6), .lit (.int .u8 11), .lit (.int .u8 5), .lit (.int .u8 10), .lit (.int .u8 9)]
def laid_math_bits_deBruijn64tab {H : Type} : DataW H := .agg [.lit (.int .u8 0), .lit (.int .u8 1), .lit (.int .u8 56), .lit (.int .u8 2), .lit (.int .u8 57), .lit (.int .u8 49), .lit (.int .u8 28), .lit (.int .u8 3), .lit (.int .u8 61), .lit (.int .u8 58), .lit (.int .u8 42), .lit (.int .u8 50), .lit (.int .u8 38), .lit (.int .u8 29), .lit (.int .u8 17), .lit (.int .u8 4), .lit (.int .u8 62), .lit (.int .u8 47), .lit (.int .u8 59), .lit (.int .u8 36), .lit (.int .u8 45), .lit (.int .u8 43), .lit (.int .u8 51), .lit (.int .u8 22), .lit (.int .u8 53), .lit (.int .u8 39), .lit (.int .u8 33), .lit (.int .u8 30), .lit (.int .u8 24), .lit (.int .u8 18), .lit (.int .u8 12), .lit (.int .u8 5), .lit (.int .u8 63), .lit (.int .u8 55), .lit (.int .u8 48), .lit (.int .u8 27), .lit (.int .u8 60), .lit (.int .u8 41), .lit (.int .u8 37), .lit (.int .u8 16), .lit (.int .u8 46), .lit (.int .u8 35), .lit (.int .u8 44), .lit (.int .u8 21), .lit (.int .u8 52), .lit (.int .u8 32), .lit (.int .u8 23), .lit (.int .u8 11), .lit (.int .u8 54), .lit (.int .u8 26), .lit (.int .u8 40), .lit (.int .u8 15), .lit (.int .u8 34), .lit (.int .u8 20), .lit (.int .u8 31), .lit (.int .u8 10), .lit (.int .u8 25), .lit (.int .u8 14), .lit (.int .u8 19), .lit (.int .u8 9), .lit (.int .u8 13), .lit (.int .u8 8), .lit (.int .u8 7), .lit (.int .u8 6)]
def laid_internal_strconv_uint64pow10 {H : Type} : DataW H := .agg [.lit (.int .u64 1), .lit (.int .u64 10), .lit (.int .u64 100), .lit (.int .u64 1000), .lit (.int .u64 10000), .lit (.int .u64 100000), .lit (.int .u64 1000000), .lit (.int .u64 10000000), .lit (.int .u64 100000000), .lit (.int .u64 1000000000), .lit (.int .u64 10000000000), .lit (.int .u64 100000000000), .lit (.int .u64 1000000000000), .lit (.int .u64 10000000000000), .lit (.int .u64 100000000000000), .lit (.int .u64 1000000000000000), .lit (.int .u64 10000000000000000), .lit (.int .u64 100000000000000000), .lit (.int .u64 1000000000000000000), .lit (.int .u64 10000000000000000000)]
def laid_strconv_ErrRange {H : Type} : DataW H := .iface "*errors.errorString" (.ptr (.agg [.lit (.string [118, 97, 108, 117, 101, 32, 111, 117, 116, 32, 111, 102, 32, 114, 97, 110, 103, 101])]))
def laid_strconv_ErrSyntax {H : Type} : DataW H := .iface "*errors.errorString" (.ptr (.agg [.lit (.string [105, 110, 118, 97, 108, 105, 100, 32, 115, 121, 110, 116, 97, 120])]))

/-- 'bailifflaw14.EvalSure': WHATEVER THE INPUT: true; the input reads as it did. -/
def evalSureSpec : ChangeSpec := { name := "evalSure", fn := fun _ => fun
  | [d1, d2] => { results := [.lit (.bool true)], args := [d1, d2] }
  | _ => none }
def evalSureRow : OpenClaim := { program := "ytppfcacnofjmdaagreatdoor", sum := "32149d157c4a1f050f58e0379e22cd0f734583e88f565be3d326d3e7f8877613", func := "bailiff/bailifflaw14.EvalSure", spec := "evalSure", inPlace := ["internal/bytealg.IndexByteString"], unfollowed := true, recurses := true, named := ["strconv.ErrSyntax", "strconv.ErrRange", "internal/strconv.uint64pow10", "math/bits.deBruijn32tab", "math/bits.deBruijn64tab"], loops := true, apart := false, laid := [("math/bits.deBruijn32tab", laid_math_bits_deBruijn32tab), ("math/bits.deBruijn64tab", laid_math_bits_deBruijn64tab), ("internal/strconv.uint64pow10", laid_internal_strconv_uint64pow10), ("strconv.ErrRange", laid_strconv_ErrRange), ("strconv.ErrSyntax", laid_strconv_ErrSyntax)] }
def EvalSureSaid : Prop := evalSureRow.holds Tryz.pinned (OpenSpec.ofChange evalSureSpec)

/-- ITS FALSE NEIGHBOUR: 'it returns false'. Refute it at one input. -/
def evalSureWrong : ChangeSpec := { name := "evalSure", fn := fun _ => fun
  | [d1, d2] => { results := [.lit (.bool false)], args := [d1, d2] }
  | _ => none }
def EvalSureWrongFalsely : Prop := evalSureRow.holds Tryz.pinned (OpenSpec.ofChange evalSureWrong)

/-- 'bailifflaw14.EvalSets': WHATEVER THE INPUT: true; the input reads as it did. -/
def evalSetsSpec : ChangeSpec := { name := "evalSets", fn := fun _ => fun
  | [d1, d2, d3] => { results := [.lit (.bool true)], args := [d1, d2, d3] }
  | _ => none }
def evalSetsRow : OpenClaim := { program := "ytppfcacnofjmdaagreatdoor", sum := "32149d157c4a1f050f58e0379e22cd0f734583e88f565be3d326d3e7f8877613", func := "bailiff/bailifflaw14.EvalSets", spec := "evalSets", inPlace := ["internal/bytealg.IndexByteString"], unfollowed := true, recurses := true, named := ["strconv.ErrSyntax", "strconv.ErrRange", "internal/strconv.uint64pow10", "math/bits.deBruijn32tab", "math/bits.deBruijn64tab"], loops := true, apart := false, laid := [("math/bits.deBruijn32tab", laid_math_bits_deBruijn32tab), ("math/bits.deBruijn64tab", laid_math_bits_deBruijn64tab), ("internal/strconv.uint64pow10", laid_internal_strconv_uint64pow10), ("strconv.ErrRange", laid_strconv_ErrRange), ("strconv.ErrSyntax", laid_strconv_ErrSyntax)] }
def EvalSetsSaid : Prop := evalSetsRow.holds Tryz.pinned (OpenSpec.ofChange evalSetsSpec)

/-- ITS FALSE NEIGHBOUR: 'it returns false'. Refute it at one input. -/
def evalSetsWrong : ChangeSpec := { name := "evalSets", fn := fun _ => fun
  | [d1, d2, d3] => { results := [.lit (.bool false)], args := [d1, d2, d3] }
  | _ => none }
def EvalSetsWrongFalsely : Prop := evalSetsRow.holds Tryz.pinned (OpenSpec.ofChange evalSetsWrong)

/-- 'bailifflaw14.EvalRules': WHATEVER THE INPUT: true; the input reads as it did. -/
def evalRulesSpec : ChangeSpec := { name := "evalRules", fn := fun _ => fun
  | [d1, d2, d3, d4] => { results := [.lit (.bool true)], args := [d1, d2, d3, d4] }
  | _ => none }
def evalRulesRow : OpenClaim := { program := "ytppfcacnofjmdaagreatdoor", sum := "32149d157c4a1f050f58e0379e22cd0f734583e88f565be3d326d3e7f8877613", func := "bailiff/bailifflaw14.EvalRules", spec := "evalRules", inPlace := ["internal/bytealg.IndexByteString"], unfollowed := true, recurses := true, named := ["strconv.ErrSyntax", "strconv.ErrRange", "internal/strconv.uint64pow10", "math/bits.deBruijn32tab", "math/bits.deBruijn64tab"], apart := false, laid := [("math/bits.deBruijn32tab", laid_math_bits_deBruijn32tab), ("math/bits.deBruijn64tab", laid_math_bits_deBruijn64tab), ("internal/strconv.uint64pow10", laid_internal_strconv_uint64pow10), ("strconv.ErrRange", laid_strconv_ErrRange), ("strconv.ErrSyntax", laid_strconv_ErrSyntax)] }
def EvalRulesSaid : Prop := evalRulesRow.holds Tryz.pinned (OpenSpec.ofChange evalRulesSpec)

/-- ITS FALSE NEIGHBOUR: 'it returns false'. Refute it at one input. -/
def evalRulesWrong : ChangeSpec := { name := "evalRules", fn := fun _ => fun
  | [d1, d2, d3, d4] => { results := [.lit (.bool false)], args := [d1, d2, d3, d4] }
  | _ => none }
def EvalRulesWrongFalsely : Prop := evalRulesRow.holds Tryz.pinned (OpenSpec.ofChange evalRulesWrong)

/-- 'bailifflaw14.EvalFirst': WHATEVER THE INPUT: true; the input reads as it did. -/
def evalFirstSpec : ChangeSpec := { name := "evalFirst", fn := fun _ => fun
  | [d1, d2, d3, d4] => { results := [.lit (.bool true)], args := [d1, d2, d3, d4] }
  | _ => none }
def evalFirstRow : OpenClaim := { program := "ytppfcacnofjmdaagreatdoor", sum := "32149d157c4a1f050f58e0379e22cd0f734583e88f565be3d326d3e7f8877613", func := "bailiff/bailifflaw14.EvalFirst", spec := "evalFirst", inPlace := ["internal/bytealg.IndexByteString"], unfollowed := true, recurses := true, named := ["strconv.ErrSyntax", "strconv.ErrRange", "internal/strconv.uint64pow10", "math/bits.deBruijn32tab", "math/bits.deBruijn64tab"], loops := true, apart := false, laid := [("math/bits.deBruijn32tab", laid_math_bits_deBruijn32tab), ("math/bits.deBruijn64tab", laid_math_bits_deBruijn64tab), ("internal/strconv.uint64pow10", laid_internal_strconv_uint64pow10), ("strconv.ErrRange", laid_strconv_ErrRange), ("strconv.ErrSyntax", laid_strconv_ErrSyntax)] }
def EvalFirstSaid : Prop := evalFirstRow.holds Tryz.pinned (OpenSpec.ofChange evalFirstSpec)

/-- ITS FALSE NEIGHBOUR: 'it returns false'. Refute it at one input. -/
def evalFirstWrong : ChangeSpec := { name := "evalFirst", fn := fun _ => fun
  | [d1, d2, d3, d4] => { results := [.lit (.bool false)], args := [d1, d2, d3, d4] }
  | _ => none }
def EvalFirstWrongFalsely : Prop := evalFirstRow.holds Tryz.pinned (OpenSpec.ofChange evalFirstWrong)

/-- 'bailifflaw14.EvalTargets': WHATEVER THE INPUT: true; the input reads as it did. -/
def evalTargetsSpec : ChangeSpec := { name := "evalTargets", fn := fun _ => fun
  | [d1, d2] => { results := [.lit (.bool true)], args := [d1, d2] }
  | _ => none }
def evalTargetsRow : OpenClaim := { program := "ytppfcacnofjmdaagreatdoor", sum := "32149d157c4a1f050f58e0379e22cd0f734583e88f565be3d326d3e7f8877613", func := "bailiff/bailifflaw14.EvalTargets", spec := "evalTargets", inPlace := ["internal/bytealg.IndexByteString"], unfollowed := true, recurses := true, named := ["strconv.ErrSyntax", "strconv.ErrRange", "internal/strconv.uint64pow10", "math/bits.deBruijn32tab", "math/bits.deBruijn64tab"], loops := true, apart := false, laid := [("math/bits.deBruijn32tab", laid_math_bits_deBruijn32tab), ("math/bits.deBruijn64tab", laid_math_bits_deBruijn64tab), ("internal/strconv.uint64pow10", laid_internal_strconv_uint64pow10), ("strconv.ErrRange", laid_strconv_ErrRange), ("strconv.ErrSyntax", laid_strconv_ErrSyntax)] }
def EvalTargetsSaid : Prop := evalTargetsRow.holds Tryz.pinned (OpenSpec.ofChange evalTargetsSpec)

/-- ITS FALSE NEIGHBOUR: 'it returns false'. Refute it at one input. -/
def evalTargetsWrong : ChangeSpec := { name := "evalTargets", fn := fun _ => fun
  | [d1, d2] => { results := [.lit (.bool false)], args := [d1, d2] }
  | _ => none }
def EvalTargetsWrongFalsely : Prop := evalTargetsRow.holds Tryz.pinned (OpenSpec.ofChange evalTargetsWrong)

/-- 'bailifflaw14.EvalUnless': WHATEVER THE INPUT: true; the input reads as it did. -/
def evalUnlessSpec : ChangeSpec := { name := "evalUnless", fn := fun _ => fun
  | [d1, d2, d3] => { results := [.lit (.bool true)], args := [d1, d2, d3] }
  | _ => none }
def evalUnlessRow : OpenClaim := { program := "ytppfcacnofjmdaagreatdoor", sum := "32149d157c4a1f050f58e0379e22cd0f734583e88f565be3d326d3e7f8877613", func := "bailiff/bailifflaw14.EvalUnless", spec := "evalUnless", inPlace := ["internal/bytealg.IndexByteString"], unfollowed := true, recurses := true, named := ["strconv.ErrSyntax", "strconv.ErrRange", "internal/strconv.uint64pow10", "math/bits.deBruijn32tab", "math/bits.deBruijn64tab"], loops := true, apart := false, laid := [("math/bits.deBruijn32tab", laid_math_bits_deBruijn32tab), ("math/bits.deBruijn64tab", laid_math_bits_deBruijn64tab), ("internal/strconv.uint64pow10", laid_internal_strconv_uint64pow10), ("strconv.ErrRange", laid_strconv_ErrRange), ("strconv.ErrSyntax", laid_strconv_ErrSyntax)] }
def EvalUnlessSaid : Prop := evalUnlessRow.holds Tryz.pinned (OpenSpec.ofChange evalUnlessSpec)

/-- ITS FALSE NEIGHBOUR: 'it returns false'. Refute it at one input. -/
def evalUnlessWrong : ChangeSpec := { name := "evalUnless", fn := fun _ => fun
  | [d1, d2, d3] => { results := [.lit (.bool false)], args := [d1, d2, d3] }
  | _ => none }
def EvalUnlessWrongFalsely : Prop := evalUnlessRow.holds Tryz.pinned (OpenSpec.ofChange evalUnlessWrong)

/-- 'bailifflaw15.VarsFew': WHATEVER THE INPUT: true; the input reads as it did. -/
def varsFewSpec : ChangeSpec := { name := "varsFew", fn := fun _ => fun
  | [d] => { results := [.lit (.bool true)], args := [d] }
  | _ => none }
def varsFewRow : OpenClaim := { program := "ytppfcacnofjmdaagreatdoor", sum := "32149d157c4a1f050f58e0379e22cd0f734583e88f565be3d326d3e7f8877613", func := "bailiff/bailifflaw15.VarsFew", spec := "varsFew", inPlace := ["internal/bytealg.IndexByteString"], unfollowed := true, recurses := true, named := ["strconv.ErrSyntax", "strconv.ErrRange", "internal/strconv.uint64pow10", "math/bits.deBruijn32tab", "math/bits.deBruijn64tab"], loops := true, apart := false, laid := [("math/bits.deBruijn32tab", laid_math_bits_deBruijn32tab), ("math/bits.deBruijn64tab", laid_math_bits_deBruijn64tab), ("internal/strconv.uint64pow10", laid_internal_strconv_uint64pow10), ("strconv.ErrRange", laid_strconv_ErrRange), ("strconv.ErrSyntax", laid_strconv_ErrSyntax)] }
def VarsFewSaid : Prop := varsFewRow.holds Tryz.pinned (OpenSpec.ofChange varsFewSpec)

/-- ITS FALSE NEIGHBOUR: 'it returns false'. Refute it at one input. -/
def varsFewWrong : ChangeSpec := { name := "varsFew", fn := fun _ => fun
  | [d] => { results := [.lit (.bool false)], args := [d] }
  | _ => none }
def VarsFewWrongFalsely : Prop := varsFewRow.holds Tryz.pinned (OpenSpec.ofChange varsFewWrong)

/-- 'bailifflaw15.VarsAsks': WHATEVER THE INPUT: true; the input reads as it did. -/
def varsAsksSpec : ChangeSpec := { name := "varsAsks", fn := fun _ => fun
  | [d1, d2, d3] => { results := [.lit (.bool true)], args := [d1, d2, d3] }
  | _ => none }
def varsAsksRow : OpenClaim := { program := "ytppfcacnofjmdaagreatdoor", sum := "32149d157c4a1f050f58e0379e22cd0f734583e88f565be3d326d3e7f8877613", func := "bailiff/bailifflaw15.VarsAsks", spec := "varsAsks", inPlace := ["internal/bytealg.IndexByteString"], unfollowed := true, recurses := true, named := ["strconv.ErrSyntax", "strconv.ErrRange", "internal/strconv.uint64pow10", "math/bits.deBruijn32tab", "math/bits.deBruijn64tab"], apart := false, laid := [("math/bits.deBruijn32tab", laid_math_bits_deBruijn32tab), ("math/bits.deBruijn64tab", laid_math_bits_deBruijn64tab), ("internal/strconv.uint64pow10", laid_internal_strconv_uint64pow10), ("strconv.ErrRange", laid_strconv_ErrRange), ("strconv.ErrSyntax", laid_strconv_ErrSyntax)] }
def VarsAsksSaid : Prop := varsAsksRow.holds Tryz.pinned (OpenSpec.ofChange varsAsksSpec)

/-- ITS FALSE NEIGHBOUR: 'it returns false'. Refute it at one input. -/
def varsAsksWrong : ChangeSpec := { name := "varsAsks", fn := fun _ => fun
  | [d1, d2, d3] => { results := [.lit (.bool false)], args := [d1, d2, d3] }
  | _ => none }
def VarsAsksWrongFalsely : Prop := varsAsksRow.holds Tryz.pinned (OpenSpec.ofChange varsAsksWrong)

/-- 'bailifflaw15.VarsAll': WHATEVER THE INPUT: true; the input reads as it did. -/
def varsAllSpec : ChangeSpec := { name := "varsAll", fn := fun _ => fun
  | [d1, d2, d3] => { results := [.lit (.bool true)], args := [d1, d2, d3] }
  | _ => none }
def varsAllRow : OpenClaim := { program := "ytppfcacnofjmdaagreatdoor", sum := "32149d157c4a1f050f58e0379e22cd0f734583e88f565be3d326d3e7f8877613", func := "bailiff/bailifflaw15.VarsAll", spec := "varsAll", inPlace := ["internal/bytealg.IndexByteString"], unfollowed := true, recurses := true, named := ["strconv.ErrSyntax", "strconv.ErrRange", "internal/strconv.uint64pow10", "math/bits.deBruijn32tab", "math/bits.deBruijn64tab"], loops := true, apart := false, laid := [("math/bits.deBruijn32tab", laid_math_bits_deBruijn32tab), ("math/bits.deBruijn64tab", laid_math_bits_deBruijn64tab), ("internal/strconv.uint64pow10", laid_internal_strconv_uint64pow10), ("strconv.ErrRange", laid_strconv_ErrRange), ("strconv.ErrSyntax", laid_strconv_ErrSyntax)] }
def VarsAllSaid : Prop := varsAllRow.holds Tryz.pinned (OpenSpec.ofChange varsAllSpec)

/-- ITS FALSE NEIGHBOUR: 'it returns false'. Refute it at one input. -/
def varsAllWrong : ChangeSpec := { name := "varsAll", fn := fun _ => fun
  | [d1, d2, d3] => { results := [.lit (.bool false)], args := [d1, d2, d3] }
  | _ => none }
def VarsAllWrongFalsely : Prop := varsAllRow.holds Tryz.pinned (OpenSpec.ofChange varsAllWrong)

/-- 'bailifflaw18.IndexKeys': WHATEVER THE INPUT: true; the input reads as it did. -/
def indexKeysSpec : ChangeSpec := { name := "indexKeys", fn := fun _ => fun
  | [d1, d2] => { results := [.lit (.bool true)], args := [d1, d2] }
  | _ => none }
def indexKeysRow : OpenClaim := { program := "ytppfcacnofjmdaagreatdoor", sum := "32149d157c4a1f050f58e0379e22cd0f734583e88f565be3d326d3e7f8877613", func := "bailiff/bailifflaw18.IndexKeys", spec := "indexKeys", inPlace := ["internal/bytealg.IndexByteString"], unfollowed := true, recurses := true, named := ["strconv.ErrSyntax", "strconv.ErrRange", "internal/strconv.uint64pow10", "math/bits.deBruijn32tab", "math/bits.deBruijn64tab"], loops := true, apart := false, laid := [("math/bits.deBruijn32tab", laid_math_bits_deBruijn32tab), ("math/bits.deBruijn64tab", laid_math_bits_deBruijn64tab), ("internal/strconv.uint64pow10", laid_internal_strconv_uint64pow10), ("strconv.ErrRange", laid_strconv_ErrRange), ("strconv.ErrSyntax", laid_strconv_ErrSyntax)] }
def IndexKeysSaid : Prop := indexKeysRow.holds Tryz.pinned (OpenSpec.ofChange indexKeysSpec)

/-- ITS FALSE NEIGHBOUR: 'it returns false'. Refute it at one input. -/
def indexKeysWrong : ChangeSpec := { name := "indexKeys", fn := fun _ => fun
  | [d1, d2] => { results := [.lit (.bool false)], args := [d1, d2] }
  | _ => none }
def IndexKeysWrongFalsely : Prop := indexKeysRow.holds Tryz.pinned (OpenSpec.ofChange indexKeysWrong)

/-- 'bailifflaw18.IndexLoses': WHATEVER THE INPUT: true; the input reads as it did. -/
def indexLosesSpec : ChangeSpec := { name := "indexLoses", fn := fun _ => fun
  | [d1, d2] => { results := [.lit (.bool true)], args := [d1, d2] }
  | _ => none }
def indexLosesRow : OpenClaim := { program := "ytppfcacnofjmdaagreatdoor", sum := "32149d157c4a1f050f58e0379e22cd0f734583e88f565be3d326d3e7f8877613", func := "bailiff/bailifflaw18.IndexLoses", spec := "indexLoses", inPlace := ["internal/bytealg.IndexByteString"], unfollowed := true, recurses := true, named := ["strconv.ErrSyntax", "strconv.ErrRange", "internal/strconv.uint64pow10", "math/bits.deBruijn32tab", "math/bits.deBruijn64tab"], loops := true, apart := false, laid := [("math/bits.deBruijn32tab", laid_math_bits_deBruijn32tab), ("math/bits.deBruijn64tab", laid_math_bits_deBruijn64tab), ("internal/strconv.uint64pow10", laid_internal_strconv_uint64pow10), ("strconv.ErrRange", laid_strconv_ErrRange), ("strconv.ErrSyntax", laid_strconv_ErrSyntax)] }
def IndexLosesSaid : Prop := indexLosesRow.holds Tryz.pinned (OpenSpec.ofChange indexLosesSpec)

/-- ITS FALSE NEIGHBOUR: 'it returns false'. Refute it at one input. -/
def indexLosesWrong : ChangeSpec := { name := "indexLoses", fn := fun _ => fun
  | [d1, d2] => { results := [.lit (.bool false)], args := [d1, d2] }
  | _ => none }
def IndexLosesWrongFalsely : Prop := indexLosesRow.holds Tryz.pinned (OpenSpec.ofChange indexLosesWrong)

/-- 'bailifflaw18.IndexAdds': WHATEVER THE INPUT: true; the input reads as it did. -/
def indexAddsSpec : ChangeSpec := { name := "indexAdds", fn := fun _ => fun
  | [d1, d2] => { results := [.lit (.bool true)], args := [d1, d2] }
  | _ => none }
def indexAddsRow : OpenClaim := { program := "ytppfcacnofjmdaagreatdoor", sum := "32149d157c4a1f050f58e0379e22cd0f734583e88f565be3d326d3e7f8877613", func := "bailiff/bailifflaw18.IndexAdds", spec := "indexAdds", inPlace := ["internal/bytealg.IndexByteString"], unfollowed := true, recurses := true, named := ["strconv.ErrSyntax", "strconv.ErrRange", "internal/strconv.uint64pow10", "math/bits.deBruijn32tab", "math/bits.deBruijn64tab"], loops := true, apart := false, laid := [("math/bits.deBruijn32tab", laid_math_bits_deBruijn32tab), ("math/bits.deBruijn64tab", laid_math_bits_deBruijn64tab), ("internal/strconv.uint64pow10", laid_internal_strconv_uint64pow10), ("strconv.ErrRange", laid_strconv_ErrRange), ("strconv.ErrSyntax", laid_strconv_ErrSyntax)] }
def IndexAddsSaid : Prop := indexAddsRow.holds Tryz.pinned (OpenSpec.ofChange indexAddsSpec)

/-- ITS FALSE NEIGHBOUR: 'it returns false'. Refute it at one input. -/
def indexAddsWrong : ChangeSpec := { name := "indexAdds", fn := fun _ => fun
  | [d1, d2] => { results := [.lit (.bool false)], args := [d1, d2] }
  | _ => none }
def IndexAddsWrongFalsely : Prop := indexAddsRow.holds Tryz.pinned (OpenSpec.ofChange indexAddsWrong)

/- THE SECOND FORM. 'bulk': how many values and letters a reading holds, each counted each time it is reached (what is shared counts as often as it is met; a slice's spare places count too). A statement '..UptoSaid' is the law's where the arguments, and the package variables that the reading takes, are together of bulk at most 1048576: NARROWER than '..Said'. Prove '..Said' where nothing that the law and all that it calls make is longer than what came in: it says more and counts as full. Else prove '..UptoSaid'. A law counts once. -/
mutual
def uptoBulk {H : Type} : DataW H → Nat
  | .lit (.string bytes) => bytes.length + 1
  | .lit _ => 1
  | .nil => 1
  | .ptr d => uptoBulk d + 1
  | .slice elems spare => uptoBulkAll elems + uptoBulkAll spare + 1
  | .agg parts => uptoBulkAll parts + 1
  | .iface _ d => uptoBulk d + 1
  | .map entries => uptoBulkEntries entries + 1
  | .held _ => 1
def uptoBulkAll {H : Type} : List (DataW H) → Nat
  | [] => 0
  | d :: r => uptoBulk d + uptoBulkAll r
def uptoBulkEntries {H : Type} : List (Lit × DataW H) → Nat
  | [] => 0
  | x :: r => uptoBulkEntry x + uptoBulkEntries r
def uptoBulkEntry {H : Type} : Lit × DataW H → Nat
  | (.string bytes, d) => bytes.length + uptoBulk d + 1
  | (_, d) => uptoBulk d + 1
 end
def uptoSmall : (H : Type) → List (DataW H) → Bool := fun _ ds => decide (uptoBulkAll ds ≤ 1048576)
def OpenSpec.upto (s : _root_.Go.ChangeSpec) : _root_.Go.OpenSpec := { _root_.Go.OpenSpec.ofChange s with cond := some uptoSmall }

/-- 'bailifflaw14.EvalSure', WHERE WHAT IT READS IS OF BULK AT MOST 1048576: true; the input reads as it did. -/
def evalSureUptoRow : OpenClaim := { program := "ytppfcacnofjmdaagreatdoor", sum := "32149d157c4a1f050f58e0379e22cd0f734583e88f565be3d326d3e7f8877613", func := "bailiff/bailifflaw14.EvalSure", spec := "evalSure", inPlace := ["internal/bytealg.IndexByteString"], unfollowed := true, recurses := true, named := ["strconv.ErrSyntax", "strconv.ErrRange", "internal/strconv.uint64pow10", "math/bits.deBruijn32tab", "math/bits.deBruijn64tab"], loops := true, apart := false, laid := [("math/bits.deBruijn32tab", laid_math_bits_deBruijn32tab), ("math/bits.deBruijn64tab", laid_math_bits_deBruijn64tab), ("internal/strconv.uint64pow10", laid_internal_strconv_uint64pow10), ("strconv.ErrRange", laid_strconv_ErrRange), ("strconv.ErrSyntax", laid_strconv_ErrSyntax)], narrowed := true }
def EvalSureUptoSaid : Prop := evalSureUptoRow.holds Tryz.pinned (OpenSpec.upto evalSureSpec)

/-- 'bailifflaw14.EvalSets', WHERE WHAT IT READS IS OF BULK AT MOST 1048576: true; the input reads as it did. -/
def evalSetsUptoRow : OpenClaim := { program := "ytppfcacnofjmdaagreatdoor", sum := "32149d157c4a1f050f58e0379e22cd0f734583e88f565be3d326d3e7f8877613", func := "bailiff/bailifflaw14.EvalSets", spec := "evalSets", inPlace := ["internal/bytealg.IndexByteString"], unfollowed := true, recurses := true, named := ["strconv.ErrSyntax", "strconv.ErrRange", "internal/strconv.uint64pow10", "math/bits.deBruijn32tab", "math/bits.deBruijn64tab"], loops := true, apart := false, laid := [("math/bits.deBruijn32tab", laid_math_bits_deBruijn32tab), ("math/bits.deBruijn64tab", laid_math_bits_deBruijn64tab), ("internal/strconv.uint64pow10", laid_internal_strconv_uint64pow10), ("strconv.ErrRange", laid_strconv_ErrRange), ("strconv.ErrSyntax", laid_strconv_ErrSyntax)], narrowed := true }
def EvalSetsUptoSaid : Prop := evalSetsUptoRow.holds Tryz.pinned (OpenSpec.upto evalSetsSpec)

/-- 'bailifflaw14.EvalRules', WHERE WHAT IT READS IS OF BULK AT MOST 1048576: true; the input reads as it did. -/
def evalRulesUptoRow : OpenClaim := { program := "ytppfcacnofjmdaagreatdoor", sum := "32149d157c4a1f050f58e0379e22cd0f734583e88f565be3d326d3e7f8877613", func := "bailiff/bailifflaw14.EvalRules", spec := "evalRules", inPlace := ["internal/bytealg.IndexByteString"], unfollowed := true, recurses := true, named := ["strconv.ErrSyntax", "strconv.ErrRange", "internal/strconv.uint64pow10", "math/bits.deBruijn32tab", "math/bits.deBruijn64tab"], apart := false, laid := [("math/bits.deBruijn32tab", laid_math_bits_deBruijn32tab), ("math/bits.deBruijn64tab", laid_math_bits_deBruijn64tab), ("internal/strconv.uint64pow10", laid_internal_strconv_uint64pow10), ("strconv.ErrRange", laid_strconv_ErrRange), ("strconv.ErrSyntax", laid_strconv_ErrSyntax)], narrowed := true }
def EvalRulesUptoSaid : Prop := evalRulesUptoRow.holds Tryz.pinned (OpenSpec.upto evalRulesSpec)

/-- 'bailifflaw14.EvalFirst', WHERE WHAT IT READS IS OF BULK AT MOST 1048576: true; the input reads as it did. -/
def evalFirstUptoRow : OpenClaim := { program := "ytppfcacnofjmdaagreatdoor", sum := "32149d157c4a1f050f58e0379e22cd0f734583e88f565be3d326d3e7f8877613", func := "bailiff/bailifflaw14.EvalFirst", spec := "evalFirst", inPlace := ["internal/bytealg.IndexByteString"], unfollowed := true, recurses := true, named := ["strconv.ErrSyntax", "strconv.ErrRange", "internal/strconv.uint64pow10", "math/bits.deBruijn32tab", "math/bits.deBruijn64tab"], loops := true, apart := false, laid := [("math/bits.deBruijn32tab", laid_math_bits_deBruijn32tab), ("math/bits.deBruijn64tab", laid_math_bits_deBruijn64tab), ("internal/strconv.uint64pow10", laid_internal_strconv_uint64pow10), ("strconv.ErrRange", laid_strconv_ErrRange), ("strconv.ErrSyntax", laid_strconv_ErrSyntax)], narrowed := true }
def EvalFirstUptoSaid : Prop := evalFirstUptoRow.holds Tryz.pinned (OpenSpec.upto evalFirstSpec)

/-- 'bailifflaw14.EvalTargets', WHERE WHAT IT READS IS OF BULK AT MOST 1048576: true; the input reads as it did. -/
def evalTargetsUptoRow : OpenClaim := { program := "ytppfcacnofjmdaagreatdoor", sum := "32149d157c4a1f050f58e0379e22cd0f734583e88f565be3d326d3e7f8877613", func := "bailiff/bailifflaw14.EvalTargets", spec := "evalTargets", inPlace := ["internal/bytealg.IndexByteString"], unfollowed := true, recurses := true, named := ["strconv.ErrSyntax", "strconv.ErrRange", "internal/strconv.uint64pow10", "math/bits.deBruijn32tab", "math/bits.deBruijn64tab"], loops := true, apart := false, laid := [("math/bits.deBruijn32tab", laid_math_bits_deBruijn32tab), ("math/bits.deBruijn64tab", laid_math_bits_deBruijn64tab), ("internal/strconv.uint64pow10", laid_internal_strconv_uint64pow10), ("strconv.ErrRange", laid_strconv_ErrRange), ("strconv.ErrSyntax", laid_strconv_ErrSyntax)], narrowed := true }
def EvalTargetsUptoSaid : Prop := evalTargetsUptoRow.holds Tryz.pinned (OpenSpec.upto evalTargetsSpec)

/-- 'bailifflaw14.EvalUnless', WHERE WHAT IT READS IS OF BULK AT MOST 1048576: true; the input reads as it did. -/
def evalUnlessUptoRow : OpenClaim := { program := "ytppfcacnofjmdaagreatdoor", sum := "32149d157c4a1f050f58e0379e22cd0f734583e88f565be3d326d3e7f8877613", func := "bailiff/bailifflaw14.EvalUnless", spec := "evalUnless", inPlace := ["internal/bytealg.IndexByteString"], unfollowed := true, recurses := true, named := ["strconv.ErrSyntax", "strconv.ErrRange", "internal/strconv.uint64pow10", "math/bits.deBruijn32tab", "math/bits.deBruijn64tab"], loops := true, apart := false, laid := [("math/bits.deBruijn32tab", laid_math_bits_deBruijn32tab), ("math/bits.deBruijn64tab", laid_math_bits_deBruijn64tab), ("internal/strconv.uint64pow10", laid_internal_strconv_uint64pow10), ("strconv.ErrRange", laid_strconv_ErrRange), ("strconv.ErrSyntax", laid_strconv_ErrSyntax)], narrowed := true }
def EvalUnlessUptoSaid : Prop := evalUnlessUptoRow.holds Tryz.pinned (OpenSpec.upto evalUnlessSpec)

/-- 'bailifflaw15.VarsFew', WHERE WHAT IT READS IS OF BULK AT MOST 1048576: true; the input reads as it did. -/
def varsFewUptoRow : OpenClaim := { program := "ytppfcacnofjmdaagreatdoor", sum := "32149d157c4a1f050f58e0379e22cd0f734583e88f565be3d326d3e7f8877613", func := "bailiff/bailifflaw15.VarsFew", spec := "varsFew", inPlace := ["internal/bytealg.IndexByteString"], unfollowed := true, recurses := true, named := ["strconv.ErrSyntax", "strconv.ErrRange", "internal/strconv.uint64pow10", "math/bits.deBruijn32tab", "math/bits.deBruijn64tab"], loops := true, apart := false, laid := [("math/bits.deBruijn32tab", laid_math_bits_deBruijn32tab), ("math/bits.deBruijn64tab", laid_math_bits_deBruijn64tab), ("internal/strconv.uint64pow10", laid_internal_strconv_uint64pow10), ("strconv.ErrRange", laid_strconv_ErrRange), ("strconv.ErrSyntax", laid_strconv_ErrSyntax)], narrowed := true }
def VarsFewUptoSaid : Prop := varsFewUptoRow.holds Tryz.pinned (OpenSpec.upto varsFewSpec)

/-- 'bailifflaw15.VarsAsks', WHERE WHAT IT READS IS OF BULK AT MOST 1048576: true; the input reads as it did. -/
def varsAsksUptoRow : OpenClaim := { program := "ytppfcacnofjmdaagreatdoor", sum := "32149d157c4a1f050f58e0379e22cd0f734583e88f565be3d326d3e7f8877613", func := "bailiff/bailifflaw15.VarsAsks", spec := "varsAsks", inPlace := ["internal/bytealg.IndexByteString"], unfollowed := true, recurses := true, named := ["strconv.ErrSyntax", "strconv.ErrRange", "internal/strconv.uint64pow10", "math/bits.deBruijn32tab", "math/bits.deBruijn64tab"], apart := false, laid := [("math/bits.deBruijn32tab", laid_math_bits_deBruijn32tab), ("math/bits.deBruijn64tab", laid_math_bits_deBruijn64tab), ("internal/strconv.uint64pow10", laid_internal_strconv_uint64pow10), ("strconv.ErrRange", laid_strconv_ErrRange), ("strconv.ErrSyntax", laid_strconv_ErrSyntax)], narrowed := true }
def VarsAsksUptoSaid : Prop := varsAsksUptoRow.holds Tryz.pinned (OpenSpec.upto varsAsksSpec)

/-- 'bailifflaw15.VarsAll', WHERE WHAT IT READS IS OF BULK AT MOST 1048576: true; the input reads as it did. -/
def varsAllUptoRow : OpenClaim := { program := "ytppfcacnofjmdaagreatdoor", sum := "32149d157c4a1f050f58e0379e22cd0f734583e88f565be3d326d3e7f8877613", func := "bailiff/bailifflaw15.VarsAll", spec := "varsAll", inPlace := ["internal/bytealg.IndexByteString"], unfollowed := true, recurses := true, named := ["strconv.ErrSyntax", "strconv.ErrRange", "internal/strconv.uint64pow10", "math/bits.deBruijn32tab", "math/bits.deBruijn64tab"], loops := true, apart := false, laid := [("math/bits.deBruijn32tab", laid_math_bits_deBruijn32tab), ("math/bits.deBruijn64tab", laid_math_bits_deBruijn64tab), ("internal/strconv.uint64pow10", laid_internal_strconv_uint64pow10), ("strconv.ErrRange", laid_strconv_ErrRange), ("strconv.ErrSyntax", laid_strconv_ErrSyntax)], narrowed := true }
def VarsAllUptoSaid : Prop := varsAllUptoRow.holds Tryz.pinned (OpenSpec.upto varsAllSpec)

/-- 'bailifflaw18.IndexKeys', WHERE WHAT IT READS IS OF BULK AT MOST 1048576: true; the input reads as it did. -/
def indexKeysUptoRow : OpenClaim := { program := "ytppfcacnofjmdaagreatdoor", sum := "32149d157c4a1f050f58e0379e22cd0f734583e88f565be3d326d3e7f8877613", func := "bailiff/bailifflaw18.IndexKeys", spec := "indexKeys", inPlace := ["internal/bytealg.IndexByteString"], unfollowed := true, recurses := true, named := ["strconv.ErrSyntax", "strconv.ErrRange", "internal/strconv.uint64pow10", "math/bits.deBruijn32tab", "math/bits.deBruijn64tab"], loops := true, apart := false, laid := [("math/bits.deBruijn32tab", laid_math_bits_deBruijn32tab), ("math/bits.deBruijn64tab", laid_math_bits_deBruijn64tab), ("internal/strconv.uint64pow10", laid_internal_strconv_uint64pow10), ("strconv.ErrRange", laid_strconv_ErrRange), ("strconv.ErrSyntax", laid_strconv_ErrSyntax)], narrowed := true }
def IndexKeysUptoSaid : Prop := indexKeysUptoRow.holds Tryz.pinned (OpenSpec.upto indexKeysSpec)

/-- 'bailifflaw18.IndexLoses', WHERE WHAT IT READS IS OF BULK AT MOST 1048576: true; the input reads as it did. -/
def indexLosesUptoRow : OpenClaim := { program := "ytppfcacnofjmdaagreatdoor", sum := "32149d157c4a1f050f58e0379e22cd0f734583e88f565be3d326d3e7f8877613", func := "bailiff/bailifflaw18.IndexLoses", spec := "indexLoses", inPlace := ["internal/bytealg.IndexByteString"], unfollowed := true, recurses := true, named := ["strconv.ErrSyntax", "strconv.ErrRange", "internal/strconv.uint64pow10", "math/bits.deBruijn32tab", "math/bits.deBruijn64tab"], loops := true, apart := false, laid := [("math/bits.deBruijn32tab", laid_math_bits_deBruijn32tab), ("math/bits.deBruijn64tab", laid_math_bits_deBruijn64tab), ("internal/strconv.uint64pow10", laid_internal_strconv_uint64pow10), ("strconv.ErrRange", laid_strconv_ErrRange), ("strconv.ErrSyntax", laid_strconv_ErrSyntax)], narrowed := true }
def IndexLosesUptoSaid : Prop := indexLosesUptoRow.holds Tryz.pinned (OpenSpec.upto indexLosesSpec)

/-- 'bailifflaw18.IndexAdds', WHERE WHAT IT READS IS OF BULK AT MOST 1048576: true; the input reads as it did. -/
def indexAddsUptoRow : OpenClaim := { program := "ytppfcacnofjmdaagreatdoor", sum := "32149d157c4a1f050f58e0379e22cd0f734583e88f565be3d326d3e7f8877613", func := "bailiff/bailifflaw18.IndexAdds", spec := "indexAdds", inPlace := ["internal/bytealg.IndexByteString"], unfollowed := true, recurses := true, named := ["strconv.ErrSyntax", "strconv.ErrRange", "internal/strconv.uint64pow10", "math/bits.deBruijn32tab", "math/bits.deBruijn64tab"], loops := true, apart := false, laid := [("math/bits.deBruijn32tab", laid_math_bits_deBruijn32tab), ("math/bits.deBruijn64tab", laid_math_bits_deBruijn64tab), ("internal/strconv.uint64pow10", laid_internal_strconv_uint64pow10), ("strconv.ErrRange", laid_strconv_ErrRange), ("strconv.ErrSyntax", laid_strconv_ErrSyntax)], narrowed := true }
def IndexAddsUptoSaid : Prop := indexAddsUptoRow.holds Tryz.pinned (OpenSpec.upto indexAddsSpec)

end Rows
end Go.Proofs.YtppfcacnofjmdaaGreatDoor
