/-
  NARROWER THAN 'FOR EVERY INPUT', by the rows' own cells (each row's printed sentence says how): PolicyCounts: loops · PolicyTells: loops · PolicyNames: loops.
  DERIVED. THE GIVEN ROWS OF THIS SEAT. 10 by the template 'for every input the law returns true; each argument reads behind the call as it read before'; 0 by the template 'total and deterministic' (their statements: YtjpcchipejmocaaTotals.lean).
  GIVEN WITH THE SEED: the statements are not yours to turn. If you find one false, say at which input.
  Laid BY PROGRAM, IN A SANDBOX (cutbox-rows.mjs): the forced cells as the released guide's own fill.sh prints them over the translation 4d31702a7719587b… (all of the seat's roots in one cut). By AI agents, Wed Nov 11 2026. No macro, syntax, notation, axiom, sorry.
-/
import Derived.Test.YtjpcchipejmocaaChecked
import GoSem.Claim
import GoSem.ClaimJoined
import GoSem.ClaimMapViews
import Derived.JoinedTies
import Derived.KernelRfl
namespace Go.Proofs.Ytjpcchipejmocaa
/- THE CELL 'sum', in the pinned program and in every row, IS THE sha256 OF THE DUMP (.gsa) THAT YtjpcchipejmocaaProg.lean LOADS. Nothing in Lean hashes anything: it is a label: what it is worth is what the hold of that sum in a sandbox is worth. -/
noncomputable def Try.pinned : Pinned := { name := "ytjpcchipejmocaa", sum := "4d31702a7719587bf037baa14c5ac7566d4c80050a3a37f3c0306221f9949188", checked := Try.checked }
namespace Rows
def none {H : Type} : Left H := { results := [], args := [] }

/-- 'bailifflaw12.ExprSums': WHATEVER THE INPUT: true; the input reads as it did. -/
def exprSumsSpec : ChangeSpec := { name := "exprSums", fn := fun _ => fun
  | [d1, d2, d3] => { results := [.lit (.bool true)], args := [d1, d2, d3] }
  | _ => none }
def exprSumsRow : OpenClaim := { program := "ytjpcchipejmocaa", sum := "4d31702a7719587bf037baa14c5ac7566d4c80050a3a37f3c0306221f9949188", func := "bailiff/bailifflaw12.ExprSums", spec := "exprSums", unfollowed := true, recurses := true, apart := false }
def ExprSumsSaid : Prop := exprSumsRow.holds Try.pinned (OpenSpec.ofChange exprSumsSpec)

/-- ITS FALSE NEIGHBOUR: 'it returns false'. Refute it at one input. -/
def exprSumsWrong : ChangeSpec := { name := "exprSums", fn := fun _ => fun
  | [d1, d2, d3] => { results := [.lit (.bool false)], args := [d1, d2, d3] }
  | _ => none }
def ExprSumsWrongFalsely : Prop := exprSumsRow.holds Try.pinned (OpenSpec.ofChange exprSumsWrong)

/-- 'bailifflaw12.ExprTruths': WHATEVER THE INPUT: true; the input reads as it did. -/
def exprTruthsSpec : ChangeSpec := { name := "exprTruths", fn := fun _ => fun
  | [d1, d2, d3] => { results := [.lit (.bool true)], args := [d1, d2, d3] }
  | _ => none }
def exprTruthsRow : OpenClaim := { program := "ytjpcchipejmocaa", sum := "4d31702a7719587bf037baa14c5ac7566d4c80050a3a37f3c0306221f9949188", func := "bailiff/bailifflaw12.ExprTruths", spec := "exprTruths", unfollowed := true, recurses := true, apart := false }
def ExprTruthsSaid : Prop := exprTruthsRow.holds Try.pinned (OpenSpec.ofChange exprTruthsSpec)

/-- ITS FALSE NEIGHBOUR: 'it returns false'. Refute it at one input. -/
def exprTruthsWrong : ChangeSpec := { name := "exprTruths", fn := fun _ => fun
  | [d1, d2, d3] => { results := [.lit (.bool false)], args := [d1, d2, d3] }
  | _ => none }
def ExprTruthsWrongFalsely : Prop := exprTruthsRow.holds Try.pinned (OpenSpec.ofChange exprTruthsWrong)

/-- 'bailifflaw12.ExprPlain': WHATEVER THE INPUT: true; the input reads as it did. -/
def exprPlainSpec : ChangeSpec := { name := "exprPlain", fn := fun _ => fun
  | [d1, d2] => { results := [.lit (.bool true)], args := [d1, d2] }
  | _ => none }
def exprPlainRow : OpenClaim := { program := "ytjpcchipejmocaa", sum := "4d31702a7719587bf037baa14c5ac7566d4c80050a3a37f3c0306221f9949188", func := "bailiff/bailifflaw12.ExprPlain", spec := "exprPlain", unfollowed := true, recurses := true, apart := false }
def ExprPlainSaid : Prop := exprPlainRow.holds Try.pinned (OpenSpec.ofChange exprPlainSpec)

/-- ITS FALSE NEIGHBOUR: 'it returns false'. Refute it at one input. -/
def exprPlainWrong : ChangeSpec := { name := "exprPlain", fn := fun _ => fun
  | [d1, d2] => { results := [.lit (.bool false)], args := [d1, d2] }
  | _ => none }
def ExprPlainWrongFalsely : Prop := exprPlainRow.holds Try.pinned (OpenSpec.ofChange exprPlainWrong)

/-- 'bailifflaw12.ExprBags': WHATEVER THE INPUT: true; the input reads as it did. -/
def exprBagsSpec : ChangeSpec := { name := "exprBags", fn := fun _ => fun
  | [d1, d2] => { results := [.lit (.bool true)], args := [d1, d2] }
  | _ => none }
def exprBagsRow : OpenClaim := { program := "ytjpcchipejmocaa", sum := "4d31702a7719587bf037baa14c5ac7566d4c80050a3a37f3c0306221f9949188", func := "bailiff/bailifflaw12.ExprBags", spec := "exprBags", unfollowed := true, recurses := true, apart := false }
def ExprBagsSaid : Prop := exprBagsRow.holds Try.pinned (OpenSpec.ofChange exprBagsSpec)

/-- ITS FALSE NEIGHBOUR: 'it returns false'. Refute it at one input. -/
def exprBagsWrong : ChangeSpec := { name := "exprBags", fn := fun _ => fun
  | [d1, d2] => { results := [.lit (.bool false)], args := [d1, d2] }
  | _ => none }
def ExprBagsWrongFalsely : Prop := exprBagsRow.holds Try.pinned (OpenSpec.ofChange exprBagsWrong)

/-- 'bailifflaw12.ExprPairs': WHATEVER THE INPUT: true; the input reads as it did. -/
def exprPairsSpec : ChangeSpec := { name := "exprPairs", fn := fun _ => fun
  | [d1, d2] => { results := [.lit (.bool true)], args := [d1, d2] }
  | _ => none }
def exprPairsRow : OpenClaim := { program := "ytjpcchipejmocaa", sum := "4d31702a7719587bf037baa14c5ac7566d4c80050a3a37f3c0306221f9949188", func := "bailiff/bailifflaw12.ExprPairs", spec := "exprPairs", unfollowed := true, recurses := true, apart := false }
def ExprPairsSaid : Prop := exprPairsRow.holds Try.pinned (OpenSpec.ofChange exprPairsSpec)

/-- ITS FALSE NEIGHBOUR: 'it returns false'. Refute it at one input. -/
def exprPairsWrong : ChangeSpec := { name := "exprPairs", fn := fun _ => fun
  | [d1, d2] => { results := [.lit (.bool false)], args := [d1, d2] }
  | _ => none }
def ExprPairsWrongFalsely : Prop := exprPairsRow.holds Try.pinned (OpenSpec.ofChange exprPairsWrong)

/-- 'bailifflaw12.ExprOnly': WHATEVER THE INPUT: true; the input reads as it did. -/
def exprOnlySpec : ChangeSpec := { name := "exprOnly", fn := fun _ => fun
  | [d1, d2, d3] => { results := [.lit (.bool true)], args := [d1, d2, d3] }
  | _ => none }
def exprOnlyRow : OpenClaim := { program := "ytjpcchipejmocaa", sum := "4d31702a7719587bf037baa14c5ac7566d4c80050a3a37f3c0306221f9949188", func := "bailiff/bailifflaw12.ExprOnly", spec := "exprOnly", unfollowed := true, recurses := true, apart := false }
def ExprOnlySaid : Prop := exprOnlyRow.holds Try.pinned (OpenSpec.ofChange exprOnlySpec)

/-- ITS FALSE NEIGHBOUR: 'it returns false'. Refute it at one input. -/
def exprOnlyWrong : ChangeSpec := { name := "exprOnly", fn := fun _ => fun
  | [d1, d2, d3] => { results := [.lit (.bool false)], args := [d1, d2, d3] }
  | _ => none }
def ExprOnlyWrongFalsely : Prop := exprOnlyRow.holds Try.pinned (OpenSpec.ofChange exprOnlyWrong)

/-- 'bailifflaw8.PolicyCounts': WHATEVER THE INPUT: true; the input reads as it did. -/
def policyCountsSpec : ChangeSpec := { name := "policyCounts", fn := fun _ => fun
  | [d] => { results := [.lit (.bool true)], args := [d] }
  | _ => none }
def policyCountsRow : OpenClaim := { program := "ytjpcchipejmocaa", sum := "4d31702a7719587bf037baa14c5ac7566d4c80050a3a37f3c0306221f9949188", func := "bailiff/bailifflaw8.PolicyCounts", spec := "policyCounts", recurses := true, loops := true, apart := false }
def PolicyCountsSaid : Prop := policyCountsRow.holds Try.pinned (OpenSpec.ofChange policyCountsSpec)

/-- ITS FALSE NEIGHBOUR: 'it returns false'. Refute it at one input. -/
def policyCountsWrong : ChangeSpec := { name := "policyCounts", fn := fun _ => fun
  | [d] => { results := [.lit (.bool false)], args := [d] }
  | _ => none }
def PolicyCountsWrongFalsely : Prop := policyCountsRow.holds Try.pinned (OpenSpec.ofChange policyCountsWrong)

/-- 'bailifflaw8.PolicyTells': WHATEVER THE INPUT: true; the input reads as it did. -/
def policyTellsSpec : ChangeSpec := { name := "policyTells", fn := fun _ => fun
  | [d1, d2, d3, d4] => { results := [.lit (.bool true)], args := [d1, d2, d3, d4] }
  | _ => none }
def policyTellsRow : OpenClaim := { program := "ytjpcchipejmocaa", sum := "4d31702a7719587bf037baa14c5ac7566d4c80050a3a37f3c0306221f9949188", func := "bailiff/bailifflaw8.PolicyTells", spec := "policyTells", recurses := true, loops := true, apart := false }
def PolicyTellsSaid : Prop := policyTellsRow.holds Try.pinned (OpenSpec.ofChange policyTellsSpec)

/-- ITS FALSE NEIGHBOUR: 'it returns false'. Refute it at one input. -/
def policyTellsWrong : ChangeSpec := { name := "policyTells", fn := fun _ => fun
  | [d1, d2, d3, d4] => { results := [.lit (.bool false)], args := [d1, d2, d3, d4] }
  | _ => none }
def PolicyTellsWrongFalsely : Prop := policyTellsRow.holds Try.pinned (OpenSpec.ofChange policyTellsWrong)

/-- 'bailifflaw8.PolicyNames': WHATEVER THE INPUT: true; the input reads as it did. -/
def policyNamesSpec : ChangeSpec := { name := "policyNames", fn := fun _ => fun
  | [d1, d2, d3] => { results := [.lit (.bool true)], args := [d1, d2, d3] }
  | _ => none }
def policyNamesRow : OpenClaim := { program := "ytjpcchipejmocaa", sum := "4d31702a7719587bf037baa14c5ac7566d4c80050a3a37f3c0306221f9949188", func := "bailiff/bailifflaw8.PolicyNames", spec := "policyNames", recurses := true, loops := true, apart := false }
def PolicyNamesSaid : Prop := policyNamesRow.holds Try.pinned (OpenSpec.ofChange policyNamesSpec)

/-- ITS FALSE NEIGHBOUR: 'it returns false'. Refute it at one input. -/
def policyNamesWrong : ChangeSpec := { name := "policyNames", fn := fun _ => fun
  | [d1, d2, d3] => { results := [.lit (.bool false)], args := [d1, d2, d3] }
  | _ => none }
def PolicyNamesWrongFalsely : Prop := policyNamesRow.holds Try.pinned (OpenSpec.ofChange policyNamesWrong)

/-- 'bailifflaw8.PolicyDeep': WHATEVER THE INPUT: true; the input reads as it did. -/
def policyDeepSpec : ChangeSpec := { name := "policyDeep", fn := fun _ => fun
  | [d1, d2] => { results := [.lit (.bool true)], args := [d1, d2] }
  | _ => none }
def policyDeepRow : OpenClaim := { program := "ytjpcchipejmocaa", sum := "4d31702a7719587bf037baa14c5ac7566d4c80050a3a37f3c0306221f9949188", func := "bailiff/bailifflaw8.PolicyDeep", spec := "policyDeep", unfollowed := true, recurses := true, apart := false }
def PolicyDeepSaid : Prop := policyDeepRow.holds Try.pinned (OpenSpec.ofChange policyDeepSpec)

/-- ITS FALSE NEIGHBOUR: 'it returns false'. Refute it at one input. -/
def policyDeepWrong : ChangeSpec := { name := "policyDeep", fn := fun _ => fun
  | [d1, d2] => { results := [.lit (.bool false)], args := [d1, d2] }
  | _ => none }
def PolicyDeepWrongFalsely : Prop := policyDeepRow.holds Try.pinned (OpenSpec.ofChange policyDeepWrong)

/- THE SECOND FORM. 'bulk': how many values and letters a reading holds, each counted each time it is reached (what is shared counts as often as it is met; a slice's spare places count too). A statement '..UptoSaid' is the law's where the arguments, and the package variables that the reading takes, are together of bulk at most 1048576: NARROWER than '..Said'. Prove '..Said' where nothing that the law and all that it calls make is longer than what came in: it says more and counts as full. Else prove '..UptoSaid'. A law counts once. -/
mutual
def uptoBulk {H : Type} : DataW H → Nat
  | .lit (.string bytes) => bytes.length + 1
  | .lit _ => 1
  | .nil => 1
  | .ptr d => uptoBulk d + 1
  | .slice elems spare => uptoBulkAll elems + uptoBulkAll spare + 1
  | .agg parts => uptoBulkAll parts + 1
  | .iface _ d => uptoBulk d + 1
  | .map entries => uptoBulkEntries entries + 1
  | .held _ => 1
def uptoBulkAll {H : Type} : List (DataW H) → Nat
  | [] => 0
  | d :: r => uptoBulk d + uptoBulkAll r
def uptoBulkEntries {H : Type} : List (Lit × DataW H) → Nat
  | [] => 0
  | x :: r => uptoBulkEntry x + uptoBulkEntries r
def uptoBulkEntry {H : Type} : Lit × DataW H → Nat
  | (.string bytes, d) => bytes.length + uptoBulk d + 1
  | (_, d) => uptoBulk d + 1
 end
def uptoSmall : (H : Type) → List (DataW H) → Bool := fun _ ds => decide (uptoBulkAll ds ≤ 1048576)
def OpenSpec.upto (s : _root_.Go.ChangeSpec) : _root_.Go.OpenSpec := { _root_.Go.OpenSpec.ofChange s with cond := some uptoSmall }

/-- 'bailifflaw12.ExprSums', WHERE WHAT IT READS IS OF BULK AT MOST 1048576: true; the input reads as it did. -/
def exprSumsUptoRow : OpenClaim := { program := "ytjpcchipejmocaa", sum := "4d31702a7719587bf037baa14c5ac7566d4c80050a3a37f3c0306221f9949188", func := "bailiff/bailifflaw12.ExprSums", spec := "exprSums", unfollowed := true, recurses := true, apart := false, narrowed := true }
def ExprSumsUptoSaid : Prop := exprSumsUptoRow.holds Try.pinned (OpenSpec.upto exprSumsSpec)

/-- 'bailifflaw12.ExprTruths', WHERE WHAT IT READS IS OF BULK AT MOST 1048576: true; the input reads as it did. -/
def exprTruthsUptoRow : OpenClaim := { program := "ytjpcchipejmocaa", sum := "4d31702a7719587bf037baa14c5ac7566d4c80050a3a37f3c0306221f9949188", func := "bailiff/bailifflaw12.ExprTruths", spec := "exprTruths", unfollowed := true, recurses := true, apart := false, narrowed := true }
def ExprTruthsUptoSaid : Prop := exprTruthsUptoRow.holds Try.pinned (OpenSpec.upto exprTruthsSpec)

/-- 'bailifflaw12.ExprPlain', WHERE WHAT IT READS IS OF BULK AT MOST 1048576: true; the input reads as it did. -/
def exprPlainUptoRow : OpenClaim := { program := "ytjpcchipejmocaa", sum := "4d31702a7719587bf037baa14c5ac7566d4c80050a3a37f3c0306221f9949188", func := "bailiff/bailifflaw12.ExprPlain", spec := "exprPlain", unfollowed := true, recurses := true, apart := false, narrowed := true }
def ExprPlainUptoSaid : Prop := exprPlainUptoRow.holds Try.pinned (OpenSpec.upto exprPlainSpec)

/-- 'bailifflaw12.ExprBags', WHERE WHAT IT READS IS OF BULK AT MOST 1048576: true; the input reads as it did. -/
def exprBagsUptoRow : OpenClaim := { program := "ytjpcchipejmocaa", sum := "4d31702a7719587bf037baa14c5ac7566d4c80050a3a37f3c0306221f9949188", func := "bailiff/bailifflaw12.ExprBags", spec := "exprBags", unfollowed := true, recurses := true, apart := false, narrowed := true }
def ExprBagsUptoSaid : Prop := exprBagsUptoRow.holds Try.pinned (OpenSpec.upto exprBagsSpec)

/-- 'bailifflaw12.ExprPairs', WHERE WHAT IT READS IS OF BULK AT MOST 1048576: true; the input reads as it did. -/
def exprPairsUptoRow : OpenClaim := { program := "ytjpcchipejmocaa", sum := "4d31702a7719587bf037baa14c5ac7566d4c80050a3a37f3c0306221f9949188", func := "bailiff/bailifflaw12.ExprPairs", spec := "exprPairs", unfollowed := true, recurses := true, apart := false, narrowed := true }
def ExprPairsUptoSaid : Prop := exprPairsUptoRow.holds Try.pinned (OpenSpec.upto exprPairsSpec)

/-- 'bailifflaw12.ExprOnly', WHERE WHAT IT READS IS OF BULK AT MOST 1048576: true; the input reads as it did. -/
def exprOnlyUptoRow : OpenClaim := { program := "ytjpcchipejmocaa", sum := "4d31702a7719587bf037baa14c5ac7566d4c80050a3a37f3c0306221f9949188", func := "bailiff/bailifflaw12.ExprOnly", spec := "exprOnly", unfollowed := true, recurses := true, apart := false, narrowed := true }
def ExprOnlyUptoSaid : Prop := exprOnlyUptoRow.holds Try.pinned (OpenSpec.upto exprOnlySpec)

/-- 'bailifflaw8.PolicyCounts', WHERE WHAT IT READS IS OF BULK AT MOST 1048576: true; the input reads as it did. -/
def policyCountsUptoRow : OpenClaim := { program := "ytjpcchipejmocaa", sum := "4d31702a7719587bf037baa14c5ac7566d4c80050a3a37f3c0306221f9949188", func := "bailiff/bailifflaw8.PolicyCounts", spec := "policyCounts", recurses := true, loops := true, apart := false, narrowed := true }
def PolicyCountsUptoSaid : Prop := policyCountsUptoRow.holds Try.pinned (OpenSpec.upto policyCountsSpec)

/-- 'bailifflaw8.PolicyTells', WHERE WHAT IT READS IS OF BULK AT MOST 1048576: true; the input reads as it did. -/
def policyTellsUptoRow : OpenClaim := { program := "ytjpcchipejmocaa", sum := "4d31702a7719587bf037baa14c5ac7566d4c80050a3a37f3c0306221f9949188", func := "bailiff/bailifflaw8.PolicyTells", spec := "policyTells", recurses := true, loops := true, apart := false, narrowed := true }
def PolicyTellsUptoSaid : Prop := policyTellsUptoRow.holds Try.pinned (OpenSpec.upto policyTellsSpec)

/-- 'bailifflaw8.PolicyNames', WHERE WHAT IT READS IS OF BULK AT MOST 1048576: true; the input reads as it did. -/
def policyNamesUptoRow : OpenClaim := { program := "ytjpcchipejmocaa", sum := "4d31702a7719587bf037baa14c5ac7566d4c80050a3a37f3c0306221f9949188", func := "bailiff/bailifflaw8.PolicyNames", spec := "policyNames", recurses := true, loops := true, apart := false, narrowed := true }
def PolicyNamesUptoSaid : Prop := policyNamesUptoRow.holds Try.pinned (OpenSpec.upto policyNamesSpec)

/-- 'bailifflaw8.PolicyDeep', WHERE WHAT IT READS IS OF BULK AT MOST 1048576: true; the input reads as it did. -/
def policyDeepUptoRow : OpenClaim := { program := "ytjpcchipejmocaa", sum := "4d31702a7719587bf037baa14c5ac7566d4c80050a3a37f3c0306221f9949188", func := "bailiff/bailifflaw8.PolicyDeep", spec := "policyDeep", unfollowed := true, recurses := true, apart := false, narrowed := true }
def PolicyDeepUptoSaid : Prop := policyDeepUptoRow.holds Try.pinned (OpenSpec.upto policyDeepSpec)

end Rows
end Go.Proofs.Ytjpcchipejmocaa
