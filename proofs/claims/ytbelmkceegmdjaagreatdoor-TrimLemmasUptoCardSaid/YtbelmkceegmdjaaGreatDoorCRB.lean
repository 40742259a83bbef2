/-
  The reference: affine forms: Valid.
-/
import Derived.Test.YtbelmkceegmdjaaGreatDoorCNR
import Derived.Test.YtbelmkceegmdjaaGreatDoorCIB
import Derived.Test.YtbelmkceegmdjaaGreatDoorCPD
set_option linter.unusedVariables false
set_option linter.unusedSimpArgs false
set_option linter.unnecessarySimpa false
namespace Go.PI.Tryz
open Go.Proofs Go.PI
theorem vSZ : FO 89 Tryz.f89 [.cell 4 101] 16 := mkO Tryz.func89 Tryz.ntmps89 Tryz.results89
theorem vOD (b : Bool) (xs : List Int) (hx : okN xs) (hl : xs.length < 2147483646) : Fn 89 [.bool b, vBK xs] (.data (vB1 (cz (sg b (nv xs))))) := by
 rw [uG4];have ct := vOC xs hx (by omega);have hz : vBH (nv xs) = [] ↔ nv xs = 0 := ⟨zFX, fun h => by rw [h]; rfl⟩;refine zAO vBC hT vSZ (by simp) ?_;refine sts ?_;refine zAA ct rfl ?_
 (repeat' (first|refine stp ?_|with_reducible(refine brr ?_ ?_<;>intro h)));all_goals try(conv=>whnf)
 ·refine zAB rfl ?_
  subst h;have : (0 < (vBH (nv xs)).length) ↔ nv xs ≠ 0 := by rw [List.length_pos_iff, ne_eq, hz]
  simp [vB1, this]
 ·subst h
  exact zAB rfl rfl
theorem uCA : FO 50 Tryz.f50 [.cell 2 101] 14 := mkO Tryz.func50 Tryz.ntmps50 Tryz.results50
theorem uHC (x : Int) (hx : -9223372036854775808 ≤ x ∧ x < 9223372036854775808) : Fn 50 [.int .i64 x] (.data (vB1 (cz x))) := by
 have hle : x.natAbs < pw 2 := by rw [zA6, zA6, zDX]; omega
 have hl := zCH hle;refine zAO vBC hT uCA (by simp) ?_
 (repeat' (first|refine stp ?_|with_reducible(refine brr ?_ ?_<;>intro h)));all_goals try(conv=>whnf)
 ·refine zHL ?_
  refine sts ?_;refine zHL ?_;have e : (0 - x % 18446744073709551616) % 18446744073709551616 = ((x.natAbs : Nat) : Int) := by omega
  refine sts ?_;rw [e];refine zAA (uAP x.natAbs (by omega)) rfl ?_;refine sts ?_;have cm := vOD true (vBH x.natAbs) (zAW _) (by omega);rw [zAY, show sg true x.natAbs = x by unfold sg; rw [if_pos rfl]; omega] at cm;refine zAA cm rfl ?_;refine sts ?_;exact zAB rfl rfl
 ·refine zAA (uAP x.natAbs (by omega)) (by rw [Int.natAbs_of_nonneg (by omega)]; rfl) ?_
  refine sts ?_;have cm := vOD false (vBH x.natAbs) (zAW _) (by omega);rw [zAY, show sg false x.natAbs = x by unfold sg; rw [if_neg (by decide)]; omega] at cm;refine zAA cm rfl ?_;refine sts ?_;exact zAB rfl rfl
theorem uB8 : FO 29 Tryz.f29 [.cell 2 26] 11 := mkO Tryz.func29 Tryz.ntmps29 Tryz.results29
theorem vOB (x : Int) (hx : -9223372036854775808 ≤ x ∧ x < 9223372036854775808) : Fn 29 [.int .i64 x] (.data (vA8 (cr x))) := by
 refine zAO vBC hT uB8 (by simp) ?_;refine sts ?_;refine zAA (uHC x hx) rfl ?_;refine sts ?_;refine zAB rfl ?_;simp [vA8, cr, cz];exact decide_eq_decide.2 Iff.rfl
end Go.PI.Tryz
