/-
  The laws TrimLemmas, TrimSplits.
-/
import Derived.Test.YtbelmkceegmdjaaGreatDoorCPD
import Derived.Test.YtbelmkceegmdjaaGreatDoorCTW
set_option linter.unusedVariables false
set_option linter.unusedSimpArgs false
set_option linter.unnecessarySimpa false
set_option maxHeartbeats 0
namespace Go.PI.Tryz
open Go.Proofs Go.PI
theorem uD5:zeroN.Sm:=.mk _ ⟨zdd,fun m hm=>by cases hm⟩ ⟨zdd,zdd⟩ zdd (fun k hk=>by cases hk) ⟨zdd,fun p hp=>by cases hp⟩
theorem uEB{q:QryL}{P V v:Nat}{n:NodeL}(h:inS q P V v n):(vPP q n).1.Sm:=by
 unfold vPP
 split
 ·exact(zI5 _ _ _ (Nat.lt_succ_self _) (Nat.le_refl _) (vIF _ n _ _ (Nat.lt_succ_self _) h.z) (vSM _ n _ (Nat.lt_succ_self _) h.tok)).1
 ·exact uD5
theorem zLM:FO 4 Tryz.f4 [.tmp 4] 38:=mkO Tryz.func4 Tryz.ntmps4 Tryz.results4
theorem vJ3(q:QryL)(n:NodeL)(Bq Bn:Nat)(hi:inB q n Bq Bn)(hr:NodeRg n):Fn 4 [vBK q,vA7 n] (.data (.bool true)):=by
 obtain⟨b,hb,cf⟩:=uCC q n (by have:=hi.wt; have:=hi.B; omega) hi.q.g.1.1 hi.q.r.2.2.2;cases b with
 | true =>
   obtain⟨f1,f2,f3,f4⟩:=hb rfl;have hS:=uDJ hi zom hr;have c1:=vJ2 q _ _ _ n hS;have c2:=vMJ q _ _ _ n hS zom;have ce:=vRE _ (vPP q n).1 (vPP q n).1 (Nat.lt_succ_self _) (uEB hS);rw[decide_eq_true rfl]at ce;generalize vPP q n=R at *
   refine zAL vBD hT zLM (by simp[vBK]) ?_;refine sns ?_;refine zAA zN3 rfl ?_;refine sns ?_;refine zAA cf rfl ?_;refine sns ?_;refine zAA c1 rfl ?_;refine sns ?_;refine zAA c2 rfl ?_
   (refine gon ?_ ?_<;>intro h)
   rotate_left
   ·exact absurd trivial h
   refine zAA ce rfl ?_;refine sns ?_;exact zAB rfl rfl
 | false =>
   refine zAL vBD hT zLM (by simp[vBK]) ?_;refine sns ?_;refine zAA zN3 rfl ?_;refine sns ?_;refine zAA cf rfl ?_;refine sns ?_;refine zAA zN3 rfl ?_;refine sns ?_;exact zAB rfl rfl
end Go.PI.Tryz
