/-
  The reference's rows: Form.
-/
import Derived.Test.YtbelmkceegmdjaaGreatDoorCHA
import Derived.Test.YtbelmkceegmdjaaGreatDoorCGA
import Derived.Test.YtbelmkceegmdjaaGreatDoorCRC
import Derived.Test.YtbelmkceegmdjaaGreatDoorCPD
import Derived.Test.YtbelmkceegmdjaaGreatDoorCPE
import Derived.Test.YtbelmkceegmdjaaGreatDoorCKB
set_option linter.unusedVariables false
set_option linter.unusedSimpArgs false
set_option linter.unnecessarySimpa false
namespace Go.PI.Tryz
open Go.Proofs Go.PI
def RegL.all (r : RegL) := (r.lo, r.hi, r.rows)
theorem reg_ext {a b : RegL} : a = b ↔ a.lo = b.lo ∧ a.hi = b.hi ∧ a.rows = b.rows := by cases a; cases b; simp
instance : DecidableEq RegL := fun a b => decidable_of_iff (a.lo = b.lo ∧ a.hi = b.hi ∧ a.rows = b.rows) reg_ext.symm
set_option maxHeartbeats 0
set_option maxHeartbeats 0
set_option maxHeartbeats 0
theorem vUO (v : Int) : vB4 (vCN v) = .agg [.imm [vNZ (v, 1)], .bool false, .imm [], .imm []] := by unfold vB4 vCN; rw [vHJ]; rfl
theorem vS2 : FO 28 Tryz.f28 [.cell 2 46] 8 := mkO Tryz.func28 Tryz.ntmps28 Tryz.results28
theorem vZA (v : Int) : Fn 28 [.int .i64 v] (.data (vB4 (vCN v))) := by
 have c1 := vOB 1 (by decide);rw [show ((1 : Int) : Rat) = 1 by rfl] at c1;rw [vUO];refine zAO vBC hT vS2 (by simp) ?_;refine sts ?_;refine zAA c1 rfl ?_;refine sts ?_;exact zAB rfl rfl
set_option maxHeartbeats 0
end Go.PI.Tryz
