/-
  No cell of these rows narrows 'for every input' (looked for: loops, veiled, ifaces, maps, wideKeys, modest, calm, conditions, laid).
  DERIVED. THE GIVEN ROWS OF THIS SEAT. 12 by the template 'for every input the law returns true; each argument reads behind the call as it read before'; 0 by the template 'total and deterministic' (their statements: YtnienipaicckmaaTotals.lean).
  GIVEN WITH THE SEED: the statements are not yours to turn. If you find one false, say at which input.
  Laid BY PROGRAM, IN A SANDBOX (cutbox-rows.mjs): the forced cells as the released guide's own fill.sh prints them over the translation eaa13b88af3dd919… (all of the seat's roots in one cut). By AI agents, Wed Nov 11 2026. No macro, syntax, notation, axiom, sorry.
-/
import Derived.Test.YtnienipaicckmaaChecked
import GoSem.Claim
import GoSem.ClaimJoined
import GoSem.ClaimMapViews
import Derived.JoinedTies
import Derived.KernelRfl
namespace Go.Proofs.Ytnienipaicckmaa
/- THE CELL 'sum', in the pinned program and in every row, IS THE sha256 OF THE DUMP (.gsa) THAT YtnienipaicckmaaProg.lean LOADS. Nothing in Lean hashes anything: it is a label: what it is worth is what the hold of that sum in a sandbox is worth. -/
noncomputable def Try.pinned : Pinned := { name := "ytnienipaicckmaa", sum := "eaa13b88af3dd919d66c31727236b7bd4b1a56b29e513b51c3ed6e224ba1fe39", checked := Try.checked }
namespace Rows
def none {H : Type} : Left H := { results := [], args := [] }

/-- 'bailifflaw13.TargetRuns': WHATEVER THE INPUT: true; the input reads as it did. -/
def targetRunsSpec : ChangeSpec := { name := "targetRuns", fn := fun _ => fun
  | [] => { results := [.lit (.bool true)], args := [] }
  | _ => none }
def targetRunsRow : OpenClaim := { program := "ytnienipaicckmaa", sum := "eaa13b88af3dd919d66c31727236b7bd4b1a56b29e513b51c3ed6e224ba1fe39", func := "bailiff/bailifflaw13.TargetRuns", spec := "targetRuns", unfollowed := true, recurses := true, apart := false }
def TargetRunsSaid : Prop := targetRunsRow.holds Try.pinned (OpenSpec.ofChange targetRunsSpec)

/-- ITS FALSE NEIGHBOUR: 'it returns false'. Refute it at one input. -/
def targetRunsWrong : ChangeSpec := { name := "targetRuns", fn := fun _ => fun
  | [] => { results := [.lit (.bool false)], args := [] }
  | _ => none }
def TargetRunsWrongFalsely : Prop := targetRunsRow.holds Try.pinned (OpenSpec.ofChange targetRunsWrong)

/-- 'bailifflaw13.TargetSides': WHATEVER THE INPUT: true; the input reads as it did. -/
def targetSidesSpec : ChangeSpec := { name := "targetSides", fn := fun _ => fun
  | [d1, d2, d3] => { results := [.lit (.bool true)], args := [d1, d2, d3] }
  | _ => none }
def targetSidesRow : OpenClaim := { program := "ytnienipaicckmaa", sum := "eaa13b88af3dd919d66c31727236b7bd4b1a56b29e513b51c3ed6e224ba1fe39", func := "bailiff/bailifflaw13.TargetSides", spec := "targetSides", unfollowed := true, recurses := true, apart := false }
def TargetSidesSaid : Prop := targetSidesRow.holds Try.pinned (OpenSpec.ofChange targetSidesSpec)

/-- ITS FALSE NEIGHBOUR: 'it returns false'. Refute it at one input. -/
def targetSidesWrong : ChangeSpec := { name := "targetSides", fn := fun _ => fun
  | [d1, d2, d3] => { results := [.lit (.bool false)], args := [d1, d2, d3] }
  | _ => none }
def TargetSidesWrongFalsely : Prop := targetSidesRow.holds Try.pinned (OpenSpec.ofChange targetSidesWrong)

/-- 'bailifflaw13.TargetTells': WHATEVER THE INPUT: true; the input reads as it did. -/
def targetTellsSpec : ChangeSpec := { name := "targetTells", fn := fun _ => fun
  | [d1, d2, d3] => { results := [.lit (.bool true)], args := [d1, d2, d3] }
  | _ => none }
def targetTellsRow : OpenClaim := { program := "ytnienipaicckmaa", sum := "eaa13b88af3dd919d66c31727236b7bd4b1a56b29e513b51c3ed6e224ba1fe39", func := "bailiff/bailifflaw13.TargetTells", spec := "targetTells", unfollowed := true, recurses := true, apart := false }
def TargetTellsSaid : Prop := targetTellsRow.holds Try.pinned (OpenSpec.ofChange targetTellsSpec)

/-- ITS FALSE NEIGHBOUR: 'it returns false'. Refute it at one input. -/
def targetTellsWrong : ChangeSpec := { name := "targetTells", fn := fun _ => fun
  | [d1, d2, d3] => { results := [.lit (.bool false)], args := [d1, d2, d3] }
  | _ => none }
def TargetTellsWrongFalsely : Prop := targetTellsRow.holds Try.pinned (OpenSpec.ofChange targetTellsWrong)

/-- 'bailifflaw13.TargetGrows': WHATEVER THE INPUT: true; the input reads as it did. -/
def targetGrowsSpec : ChangeSpec := { name := "targetGrows", fn := fun _ => fun
  | [d1, d2, d3] => { results := [.lit (.bool true)], args := [d1, d2, d3] }
  | _ => none }
def targetGrowsRow : OpenClaim := { program := "ytnienipaicckmaa", sum := "eaa13b88af3dd919d66c31727236b7bd4b1a56b29e513b51c3ed6e224ba1fe39", func := "bailiff/bailifflaw13.TargetGrows", spec := "targetGrows", unfollowed := true, recurses := true, apart := false }
def TargetGrowsSaid : Prop := targetGrowsRow.holds Try.pinned (OpenSpec.ofChange targetGrowsSpec)

/-- ITS FALSE NEIGHBOUR: 'it returns false'. Refute it at one input. -/
def targetGrowsWrong : ChangeSpec := { name := "targetGrows", fn := fun _ => fun
  | [d1, d2, d3] => { results := [.lit (.bool false)], args := [d1, d2, d3] }
  | _ => none }
def TargetGrowsWrongFalsely : Prop := targetGrowsRow.holds Try.pinned (OpenSpec.ofChange targetGrowsWrong)

/-- 'bailifflaw13.TargetOrder': WHATEVER THE INPUT: true; the input reads as it did. -/
def targetOrderSpec : ChangeSpec := { name := "targetOrder", fn := fun _ => fun
  | [d1, d2] => { results := [.lit (.bool true)], args := [d1, d2] }
  | _ => none }
def targetOrderRow : OpenClaim := { program := "ytnienipaicckmaa", sum := "eaa13b88af3dd919d66c31727236b7bd4b1a56b29e513b51c3ed6e224ba1fe39", func := "bailiff/bailifflaw13.TargetOrder", spec := "targetOrder", unfollowed := true, recurses := true, apart := false }
def TargetOrderSaid : Prop := targetOrderRow.holds Try.pinned (OpenSpec.ofChange targetOrderSpec)

/-- ITS FALSE NEIGHBOUR: 'it returns false'. Refute it at one input. -/
def targetOrderWrong : ChangeSpec := { name := "targetOrder", fn := fun _ => fun
  | [d1, d2] => { results := [.lit (.bool false)], args := [d1, d2] }
  | _ => none }
def TargetOrderWrongFalsely : Prop := targetOrderRow.holds Try.pinned (OpenSpec.ofChange targetOrderWrong)

/-- 'bailifflaw6.FunRuns': WHATEVER THE INPUT: true; the input reads as it did. -/
def funRunsSpec : ChangeSpec := { name := "funRuns", fn := fun _ => fun
  | [] => { results := [.lit (.bool true)], args := [] }
  | _ => none }
def funRunsRow : OpenClaim := { program := "ytnienipaicckmaa", sum := "eaa13b88af3dd919d66c31727236b7bd4b1a56b29e513b51c3ed6e224ba1fe39", func := "bailiff/bailifflaw6.FunRuns", spec := "funRuns", unfollowed := true, recurses := true, apart := false }
def FunRunsSaid : Prop := funRunsRow.holds Try.pinned (OpenSpec.ofChange funRunsSpec)

/-- ITS FALSE NEIGHBOUR: 'it returns false'. Refute it at one input. -/
def funRunsWrong : ChangeSpec := { name := "funRuns", fn := fun _ => fun
  | [] => { results := [.lit (.bool false)], args := [] }
  | _ => none }
def FunRunsWrongFalsely : Prop := funRunsRow.holds Try.pinned (OpenSpec.ofChange funRunsWrong)

/-- 'bailifflaw6.FunTells': WHATEVER THE INPUT: true; the input reads as it did. -/
def funTellsSpec : ChangeSpec := { name := "funTells", fn := fun _ => fun
  | [d1, d2, d3, d4] => { results := [.lit (.bool true)], args := [d1, d2, d3, d4] }
  | _ => none }
def funTellsRow : OpenClaim := { program := "ytnienipaicckmaa", sum := "eaa13b88af3dd919d66c31727236b7bd4b1a56b29e513b51c3ed6e224ba1fe39", func := "bailiff/bailifflaw6.FunTells", spec := "funTells", unfollowed := true, recurses := true, apart := false }
def FunTellsSaid : Prop := funTellsRow.holds Try.pinned (OpenSpec.ofChange funTellsSpec)

/-- ITS FALSE NEIGHBOUR: 'it returns false'. Refute it at one input. -/
def funTellsWrong : ChangeSpec := { name := "funTells", fn := fun _ => fun
  | [d1, d2, d3, d4] => { results := [.lit (.bool false)], args := [d1, d2, d3, d4] }
  | _ => none }
def FunTellsWrongFalsely : Prop := funTellsRow.holds Try.pinned (OpenSpec.ofChange funTellsWrong)

/-- 'bailifflaw6.FunBack': WHATEVER THE INPUT: true; the input reads as it did. -/
def funBackSpec : ChangeSpec := { name := "funBack", fn := fun _ => fun
  | [d1, d2] => { results := [.lit (.bool true)], args := [d1, d2] }
  | _ => none }
def funBackRow : OpenClaim := { program := "ytnienipaicckmaa", sum := "eaa13b88af3dd919d66c31727236b7bd4b1a56b29e513b51c3ed6e224ba1fe39", func := "bailiff/bailifflaw6.FunBack", spec := "funBack", unfollowed := true, recurses := true, apart := false }
def FunBackSaid : Prop := funBackRow.holds Try.pinned (OpenSpec.ofChange funBackSpec)

/-- ITS FALSE NEIGHBOUR: 'it returns false'. Refute it at one input. -/
def funBackWrong : ChangeSpec := { name := "funBack", fn := fun _ => fun
  | [d1, d2] => { results := [.lit (.bool false)], args := [d1, d2] }
  | _ => none }
def FunBackWrongFalsely : Prop := funBackRow.holds Try.pinned (OpenSpec.ofChange funBackWrong)

/-- 'bailifflaw6.FunOver': WHATEVER THE INPUT: true; the input reads as it did. -/
def funOverSpec : ChangeSpec := { name := "funOver", fn := fun _ => fun
  | [d1, d2] => { results := [.lit (.bool true)], args := [d1, d2] }
  | _ => none }
def funOverRow : OpenClaim := { program := "ytnienipaicckmaa", sum := "eaa13b88af3dd919d66c31727236b7bd4b1a56b29e513b51c3ed6e224ba1fe39", func := "bailiff/bailifflaw6.FunOver", spec := "funOver", unfollowed := true, recurses := true, apart := false }
def FunOverSaid : Prop := funOverRow.holds Try.pinned (OpenSpec.ofChange funOverSpec)

/-- ITS FALSE NEIGHBOUR: 'it returns false'. Refute it at one input. -/
def funOverWrong : ChangeSpec := { name := "funOver", fn := fun _ => fun
  | [d1, d2] => { results := [.lit (.bool false)], args := [d1, d2] }
  | _ => none }
def FunOverWrongFalsely : Prop := funOverRow.holds Try.pinned (OpenSpec.ofChange funOverWrong)

/-- 'bailifflaw6.FunTruths': WHATEVER THE INPUT: true; the input reads as it did. -/
def funTruthsSpec : ChangeSpec := { name := "funTruths", fn := fun _ => fun
  | [d1, d2, d3, d4] => { results := [.lit (.bool true)], args := [d1, d2, d3, d4] }
  | _ => none }
def funTruthsRow : OpenClaim := { program := "ytnienipaicckmaa", sum := "eaa13b88af3dd919d66c31727236b7bd4b1a56b29e513b51c3ed6e224ba1fe39", func := "bailiff/bailifflaw6.FunTruths", spec := "funTruths", unfollowed := true, recurses := true, apart := false }
def FunTruthsSaid : Prop := funTruthsRow.holds Try.pinned (OpenSpec.ofChange funTruthsSpec)

/-- ITS FALSE NEIGHBOUR: 'it returns false'. Refute it at one input. -/
def funTruthsWrong : ChangeSpec := { name := "funTruths", fn := fun _ => fun
  | [d1, d2, d3, d4] => { results := [.lit (.bool false)], args := [d1, d2, d3, d4] }
  | _ => none }
def FunTruthsWrongFalsely : Prop := funTruthsRow.holds Try.pinned (OpenSpec.ofChange funTruthsWrong)

/-- 'bailifflaw6.FunErrors': WHATEVER THE INPUT: true; the input reads as it did. -/
def funErrorsSpec : ChangeSpec := { name := "funErrors", fn := fun _ => fun
  | [d1, d2, d3] => { results := [.lit (.bool true)], args := [d1, d2, d3] }
  | _ => none }
def funErrorsRow : OpenClaim := { program := "ytnienipaicckmaa", sum := "eaa13b88af3dd919d66c31727236b7bd4b1a56b29e513b51c3ed6e224ba1fe39", func := "bailiff/bailifflaw6.FunErrors", spec := "funErrors", unfollowed := true, recurses := true, apart := false }
def FunErrorsSaid : Prop := funErrorsRow.holds Try.pinned (OpenSpec.ofChange funErrorsSpec)

/-- ITS FALSE NEIGHBOUR: 'it returns false'. Refute it at one input. -/
def funErrorsWrong : ChangeSpec := { name := "funErrors", fn := fun _ => fun
  | [d1, d2, d3] => { results := [.lit (.bool false)], args := [d1, d2, d3] }
  | _ => none }
def FunErrorsWrongFalsely : Prop := funErrorsRow.holds Try.pinned (OpenSpec.ofChange funErrorsWrong)

/-- 'bailifflaw13.TargetOnly': WHATEVER THE INPUT: true; the input reads as it did. -/
def targetOnlySpec : ChangeSpec := { name := "targetOnly", fn := fun _ => fun
  | [d1, d2, d3] => { results := [.lit (.bool true)], args := [d1, d2, d3] }
  | _ => none }
def targetOnlyRow : OpenClaim := { program := "ytnienipaicckmaa", sum := "eaa13b88af3dd919d66c31727236b7bd4b1a56b29e513b51c3ed6e224ba1fe39", func := "bailiff/bailifflaw13.TargetOnly", spec := "targetOnly", unfollowed := true, recurses := true, apart := false }
def TargetOnlySaid : Prop := targetOnlyRow.holds Try.pinned (OpenSpec.ofChange targetOnlySpec)

/-- ITS FALSE NEIGHBOUR: 'it returns false'. Refute it at one input. -/
def targetOnlyWrong : ChangeSpec := { name := "targetOnly", fn := fun _ => fun
  | [d1, d2, d3] => { results := [.lit (.bool false)], args := [d1, d2, d3] }
  | _ => none }
def TargetOnlyWrongFalsely : Prop := targetOnlyRow.holds Try.pinned (OpenSpec.ofChange targetOnlyWrong)

/- THE SECOND FORM. 'bulk': how many values and letters a reading holds, each counted each time it is reached (what is shared counts as often as it is met; a slice's spare places count too). A statement '..UptoSaid' is the law's where the arguments, and the package variables that the reading takes, are together of bulk at most 1048576: NARROWER than '..Said'. Prove '..Said' where nothing that the law and all that it calls make is longer than what came in: it says more and counts as full. Else prove '..UptoSaid'. A law counts once. -/
mutual
def uptoBulk {H : Type} : DataW H → Nat
  | .lit (.string bytes) => bytes.length + 1
  | .lit _ => 1
  | .nil => 1
  | .ptr d => uptoBulk d + 1
  | .slice elems spare => uptoBulkAll elems + uptoBulkAll spare + 1
  | .agg parts => uptoBulkAll parts + 1
  | .iface _ d => uptoBulk d + 1
  | .map entries => uptoBulkEntries entries + 1
  | .held _ => 1
def uptoBulkAll {H : Type} : List (DataW H) → Nat
  | [] => 0
  | d :: r => uptoBulk d + uptoBulkAll r
def uptoBulkEntries {H : Type} : List (Lit × DataW H) → Nat
  | [] => 0
  | x :: r => uptoBulkEntry x + uptoBulkEntries r
def uptoBulkEntry {H : Type} : Lit × DataW H → Nat
  | (.string bytes, d) => bytes.length + uptoBulk d + 1
  | (_, d) => uptoBulk d + 1
 end
def uptoSmall : (H : Type) → List (DataW H) → Bool := fun _ ds => decide (uptoBulkAll ds ≤ 1048576)
def OpenSpec.upto (s : _root_.Go.ChangeSpec) : _root_.Go.OpenSpec := { _root_.Go.OpenSpec.ofChange s with cond := some uptoSmall }

/-- 'bailifflaw13.TargetRuns', WHERE WHAT IT READS IS OF BULK AT MOST 1048576: true; the input reads as it did. -/
def targetRunsUptoRow : OpenClaim := { program := "ytnienipaicckmaa", sum := "eaa13b88af3dd919d66c31727236b7bd4b1a56b29e513b51c3ed6e224ba1fe39", func := "bailiff/bailifflaw13.TargetRuns", spec := "targetRuns", unfollowed := true, recurses := true, apart := false, narrowed := true }
def TargetRunsUptoSaid : Prop := targetRunsUptoRow.holds Try.pinned (OpenSpec.upto targetRunsSpec)

/-- 'bailifflaw13.TargetSides', WHERE WHAT IT READS IS OF BULK AT MOST 1048576: true; the input reads as it did. -/
def targetSidesUptoRow : OpenClaim := { program := "ytnienipaicckmaa", sum := "eaa13b88af3dd919d66c31727236b7bd4b1a56b29e513b51c3ed6e224ba1fe39", func := "bailiff/bailifflaw13.TargetSides", spec := "targetSides", unfollowed := true, recurses := true, apart := false, narrowed := true }
def TargetSidesUptoSaid : Prop := targetSidesUptoRow.holds Try.pinned (OpenSpec.upto targetSidesSpec)

/-- 'bailifflaw13.TargetTells', WHERE WHAT IT READS IS OF BULK AT MOST 1048576: true; the input reads as it did. -/
def targetTellsUptoRow : OpenClaim := { program := "ytnienipaicckmaa", sum := "eaa13b88af3dd919d66c31727236b7bd4b1a56b29e513b51c3ed6e224ba1fe39", func := "bailiff/bailifflaw13.TargetTells", spec := "targetTells", unfollowed := true, recurses := true, apart := false, narrowed := true }
def TargetTellsUptoSaid : Prop := targetTellsUptoRow.holds Try.pinned (OpenSpec.upto targetTellsSpec)

/-- 'bailifflaw13.TargetGrows', WHERE WHAT IT READS IS OF BULK AT MOST 1048576: true; the input reads as it did. -/
def targetGrowsUptoRow : OpenClaim := { program := "ytnienipaicckmaa", sum := "eaa13b88af3dd919d66c31727236b7bd4b1a56b29e513b51c3ed6e224ba1fe39", func := "bailiff/bailifflaw13.TargetGrows", spec := "targetGrows", unfollowed := true, recurses := true, apart := false, narrowed := true }
def TargetGrowsUptoSaid : Prop := targetGrowsUptoRow.holds Try.pinned (OpenSpec.upto targetGrowsSpec)

/-- 'bailifflaw13.TargetOrder', WHERE WHAT IT READS IS OF BULK AT MOST 1048576: true; the input reads as it did. -/
def targetOrderUptoRow : OpenClaim := { program := "ytnienipaicckmaa", sum := "eaa13b88af3dd919d66c31727236b7bd4b1a56b29e513b51c3ed6e224ba1fe39", func := "bailiff/bailifflaw13.TargetOrder", spec := "targetOrder", unfollowed := true, recurses := true, apart := false, narrowed := true }
def TargetOrderUptoSaid : Prop := targetOrderUptoRow.holds Try.pinned (OpenSpec.upto targetOrderSpec)

/-- 'bailifflaw6.FunRuns', WHERE WHAT IT READS IS OF BULK AT MOST 1048576: true; the input reads as it did. -/
def funRunsUptoRow : OpenClaim := { program := "ytnienipaicckmaa", sum := "eaa13b88af3dd919d66c31727236b7bd4b1a56b29e513b51c3ed6e224ba1fe39", func := "bailiff/bailifflaw6.FunRuns", spec := "funRuns", unfollowed := true, recurses := true, apart := false, narrowed := true }
def FunRunsUptoSaid : Prop := funRunsUptoRow.holds Try.pinned (OpenSpec.upto funRunsSpec)

/-- 'bailifflaw6.FunTells', WHERE WHAT IT READS IS OF BULK AT MOST 1048576: true; the input reads as it did. -/
def funTellsUptoRow : OpenClaim := { program := "ytnienipaicckmaa", sum := "eaa13b88af3dd919d66c31727236b7bd4b1a56b29e513b51c3ed6e224ba1fe39", func := "bailiff/bailifflaw6.FunTells", spec := "funTells", unfollowed := true, recurses := true, apart := false, narrowed := true }
def FunTellsUptoSaid : Prop := funTellsUptoRow.holds Try.pinned (OpenSpec.upto funTellsSpec)

/-- 'bailifflaw6.FunBack', WHERE WHAT IT READS IS OF BULK AT MOST 1048576: true; the input reads as it did. -/
def funBackUptoRow : OpenClaim := { program := "ytnienipaicckmaa", sum := "eaa13b88af3dd919d66c31727236b7bd4b1a56b29e513b51c3ed6e224ba1fe39", func := "bailiff/bailifflaw6.FunBack", spec := "funBack", unfollowed := true, recurses := true, apart := false, narrowed := true }
def FunBackUptoSaid : Prop := funBackUptoRow.holds Try.pinned (OpenSpec.upto funBackSpec)

/-- 'bailifflaw6.FunOver', WHERE WHAT IT READS IS OF BULK AT MOST 1048576: true; the input reads as it did. -/
def funOverUptoRow : OpenClaim := { program := "ytnienipaicckmaa", sum := "eaa13b88af3dd919d66c31727236b7bd4b1a56b29e513b51c3ed6e224ba1fe39", func := "bailiff/bailifflaw6.FunOver", spec := "funOver", unfollowed := true, recurses := true, apart := false, narrowed := true }
def FunOverUptoSaid : Prop := funOverUptoRow.holds Try.pinned (OpenSpec.upto funOverSpec)

/-- 'bailifflaw6.FunTruths', WHERE WHAT IT READS IS OF BULK AT MOST 1048576: true; the input reads as it did. -/
def funTruthsUptoRow : OpenClaim := { program := "ytnienipaicckmaa", sum := "eaa13b88af3dd919d66c31727236b7bd4b1a56b29e513b51c3ed6e224ba1fe39", func := "bailiff/bailifflaw6.FunTruths", spec := "funTruths", unfollowed := true, recurses := true, apart := false, narrowed := true }
def FunTruthsUptoSaid : Prop := funTruthsUptoRow.holds Try.pinned (OpenSpec.upto funTruthsSpec)

/-- 'bailifflaw6.FunErrors', WHERE WHAT IT READS IS OF BULK AT MOST 1048576: true; the input reads as it did. -/
def funErrorsUptoRow : OpenClaim := { program := "ytnienipaicckmaa", sum := "eaa13b88af3dd919d66c31727236b7bd4b1a56b29e513b51c3ed6e224ba1fe39", func := "bailiff/bailifflaw6.FunErrors", spec := "funErrors", unfollowed := true, recurses := true, apart := false, narrowed := true }
def FunErrorsUptoSaid : Prop := funErrorsUptoRow.holds Try.pinned (OpenSpec.upto funErrorsSpec)

/-- 'bailifflaw13.TargetOnly', WHERE WHAT IT READS IS OF BULK AT MOST 1048576: true; the input reads as it did. -/
def targetOnlyUptoRow : OpenClaim := { program := "ytnienipaicckmaa", sum := "eaa13b88af3dd919d66c31727236b7bd4b1a56b29e513b51c3ed6e224ba1fe39", func := "bailiff/bailifflaw13.TargetOnly", spec := "targetOnly", unfollowed := true, recurses := true, apart := false, narrowed := true }
def TargetOnlyUptoSaid : Prop := targetOnlyUptoRow.holds Try.pinned (OpenSpec.upto targetOnlySpec)

end Rows
end Go.Proofs.Ytnienipaicckmaa
