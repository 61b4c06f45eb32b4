/-
  Layer 3 in plain words: a value in a bag.
-/
import Derived.Test.YtiiagdnmbpdlaaaDoorSpec
namespace Go.Proofs.YtiiagdnmbpdlaaaDoor
set_option linter.unusedVariables false
set_option linter.unusedSimpArgs false
def hasV (l : List Val) (v : Val) : Bool := l.any fun x => sameV v x
end Go.Proofs.YtiiagdnmbpdlaaaDoor
