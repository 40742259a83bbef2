/-
  The reference: affine forms: Scale, Add, Sub, Make.
-/
import Derived.Test.YtbelmkceegmdjaaGreatDoorCRB
import Derived.Test.YtbelmkceegmdjaaGreatDoorCLB
set_option linter.unusedVariables false
set_option linter.unusedSimpArgs false
set_option linter.unnecessarySimpa false
namespace Go.PI.Tryz
open Go.Proofs Go.PI
end Go.PI.Tryz
