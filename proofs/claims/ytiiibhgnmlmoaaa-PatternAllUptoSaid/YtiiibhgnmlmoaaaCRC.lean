/-
  The reference: affine forms: Eval.
-/
import Derived.Test.YtiiibhgnmlmoaaaCRB
import Derived.Test.YtiiibhgnmlmoaaaCLB
namespace Go.PI.Try
set_option linter.unnecessarySimpa false
open Go.Proofs Go.PI
set_option linter.unusedSimpArgs false
set_option linter.unusedVariables false
end Go.PI.Try
