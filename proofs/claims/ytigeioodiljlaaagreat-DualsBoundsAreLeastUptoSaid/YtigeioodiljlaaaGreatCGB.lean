/-
  Feeds of the reference: New, Next, Number, Form; variables.
-/
import Derived.Test.YtigeioodiljlaaaGreatCRC
import Derived.Test.YtigeioodiljlaaaGreatCPD
import Derived.Test.YtigeioodiljlaaaGreatCPE
set_option linter.unusedVariables false
set_option linter.unusedSimpArgs false
set_option linter.unnecessarySimpa false
namespace Go.PI.Tryz
open Go.Proofs Go.PI
theorem encF_varF (v : Int) : encF (varQ v) = .agg [.imm [encQ (v, 1)], .bool false, .imm [], .imm []] := by unfold encF varQ; rw [zCU]; rfl
theorem ok_rvar : FO 65 Tryz.f65 [.cell 2 29] 8 := mkO Tryz.func65 Tryz.ntmps65 Tryz.results65
theorem c_rvar (v : Int) : Fn 65 [.int .i64 v] (.data (encF (varQ v))) := by
 have c1 := zHY 1 (by decide);rw [show ((1 : Int) : Rat) = 1 by rfl] at c1;rw [encF_varF];refine zAO hmix hT ok_rvar (by simp) ?_;refine sts ?_;refine zAA c1 rfl ?_;refine sts ?_;exact zAB rfl rfl
end Go.PI.Tryz
