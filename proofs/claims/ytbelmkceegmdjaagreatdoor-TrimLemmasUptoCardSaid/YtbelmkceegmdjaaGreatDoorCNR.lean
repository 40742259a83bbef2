/-
  The reference's natural numbers: Gcd.
-/
import Derived.Test.YtbelmkceegmdjaaGreatDoorCNA
import Derived.Test.YtbelmkceegmdjaaGreatDoorCPD
set_option linter.unusedVariables false
set_option linter.unusedSimpArgs false
set_option linter.unnecessarySimpa false
namespace Go.PI.Tryz
open Go.Proofs Go.PI
theorem vSY : FO 123 Tryz.f123 [.tmp 2] 23 := mkO Tryz.func123 Tryz.ntmps123 Tryz.results123
theorem vOC (xs : List Int) (ho : okN xs) (hl : xs.length < 2147483648) : Fn 123 [vBK xs] (.data (vBK (vBH (nv xs)))) := by
 refine zAO vBC hT vSY (by simp) ?_;refine sts ?_;refine zBB hT (fun n : Nat => [(0, vBK xs), (3, .int .i64 n)]) (fun n => n ≤ xs.length ∧ ∀ j, n ≤ j → j < xs.length → xs[j]! = 0) (fun n => n) xs.length ⟨Nat.le_refl _, fun j h1 h2 => by omega⟩ ?_ ?_
 ·exact ⟨zAE rfl rfl, zAC rfl (by simp), trivial⟩
 ·intro n ⟨hn, hz⟩
  (repeat' (first|refine stp ?_|with_reducible(refine brr ?_ ?_<;>intro h)));all_goals try(conv=>whnf)
  ·refine zA4 (j := n - 1) (by omega) (by omega) ?_
   (repeat' (first|refine stp ?_|with_reducible(refine brr ?_ ?_<;>intro h)));all_goals try(conv=>whnf)
   ·refine ⟨n - 1, ⟨⟨by omega, fun j h1 h2 => ?_⟩, by omega⟩, zAE rfl rfl, zAC rfl (by omega), trivial⟩
    by_cases e : j = n - 1
    ·subst e; assumption
    ·exact hz j (by omega) h2
   ·refine zBP (l' := xs.take n) (by simp) ?_
    refine sts ?_;refine zAB (zAM (f := PV.int .u32) (l := xs.take n) rfl rfl (by simp) (fun x => zC5 x)) ?_;rw [zH3 ho hn hz (Or.inr h)]
  ·have h0 : n = 0 := by omega
   subst h0;refine zBP (l' := []) (by simp) ?_;refine sts ?_;refine zAB (zAM (f := PV.int .u32) (l := []) rfl rfl (by simp) (fun x => zC5 x)) ?_;rw [← zH3 ho hn hz (Or.inl rfl)]; rfl
theorem uB9 : FO 90 Tryz.f90 [.tmp 2] 10 := mkO Tryz.func90 Tryz.ntmps90 Tryz.results90
theorem uAP (n : Nat) (hn : n < 18446744073709551616) : Fn 90 [.int .u64 n] (.data (vBK (vBH n))) := by
 refine zAO vBC hT uB9 (by simp) ?_;refine sts ?_;refine zC0 ?_;refine sts ?_;rw [zEZ];refine sts ?_;have hv : nv [(n : Int) % 4294967296, (n : Int) / 4294967296] = n := by simp only [nv]; omega
 have cm := vOC [(n : Int) % 4294967296, (n : Int) / 4294967296] (by intro x hx; simp only [List.mem_cons, List.not_mem_nil, or_false] at hx; omega) (by simp);rw [hv] at cm;refine zAA cm rfl ?_;refine sts ?_;exact zAB rfl rfl
end Go.PI.Tryz
