/-
  The reference: affine forms: Valid.
-/
import Derived.Test.YtdgckinmcnjheaaGreatCNR
import Derived.Test.YtdgckinmcnjheaaGreatCIB
import Derived.Test.YtdgckinmcnjheaaGreatCPD
set_option linter.unusedVariables false
set_option linter.unusedSimpArgs false
set_option linter.unnecessarySimpa false
namespace Go.PI.Tryz
open Go.Proofs Go.PI
theorem vSF : FO 75 Tryz.f75 [.cell 4 76] 16 := mkO Tryz.func75 Tryz.ntmps75 Tryz.results75
theorem zG3 (b : Bool) (xs : List Int) (hx : okN xs) (hl : xs.length < 2147483646) : Fn 75 [.bool b, vA9 xs] (.data (vBB (cz (sg b (nv xs))))) := by
 rw [uE0];have ct := zCO xs hx (by omega);have hz : vA4 (nv xs) = [] ↔ nv xs = 0 := ⟨zCN, fun h => by rw [h]; rfl⟩;refine zAN vA6 hT vSF (by simp) ?_;refine sts ?_;refine zAA ct rfl ?_
 (repeat' (first|refine stp ?_|with_reducible(refine brr ?_ ?_<;>intro h)));all_goals try(conv=>whnf)
 ·refine zAB rfl ?_
  subst h;have : (0 < (vA4 (nv xs)).length) ↔ nv xs ≠ 0 := by rw [List.length_pos_iff, ne_eq, hz]
  simp [vBB, this]
 ·subst h
  exact zAB rfl rfl
theorem uDB : FO 38 Tryz.f38 [.cell 2 76] 14 := mkO Tryz.func38 Tryz.ntmps38 Tryz.results38
theorem vJE (x : Int) (hx : -9223372036854775808 ≤ x ∧ x < 9223372036854775808) : Fn 38 [.int .i64 x] (.data (vBB (cz x))) := by
 have hle : x.natAbs < pw 2 := by rw [zA0, zA0, zB8]; omega
 have hl := zBD hle;refine zAN vA6 hT uDB (by simp) ?_
 (repeat' (first|refine stp ?_|with_reducible(refine brr ?_ ?_<;>intro h)));all_goals try(conv=>whnf)
 ·refine zG7 ?_
  refine sts ?_;refine zG7 ?_;have e : (0 - x % 18446744073709551616) % 18446744073709551616 = ((x.natAbs : Nat) : Int) := by omega
  refine sts ?_;rw [e];refine zAA (vNI x.natAbs (by omega)) rfl ?_;refine sts ?_;have cm := zG3 true (vA4 x.natAbs) (zAM _) (by omega);rw [zAO, show sg true x.natAbs = x by unfold sg; rw [if_pos rfl]; omega] at cm;refine zAA cm rfl ?_;refine sts ?_;exact zAB rfl rfl
 ·refine zAA (vNI x.natAbs (by omega)) (by rw [Int.natAbs_of_nonneg (by omega)]; rfl) ?_
  refine sts ?_;have cm := zG3 false (vA4 x.natAbs) (zAM _) (by omega);rw [zAO, show sg false x.natAbs = x by unfold sg; rw [if_neg (by decide)]; omega] at cm;refine zAA cm rfl ?_;refine sts ?_;exact zAB rfl rfl
theorem vSE : FO 85 Tryz.f85 [.tmp 2] 16 := mkO Tryz.func85 Tryz.ntmps85 Tryz.results85
theorem vNJ (x : IntL) (hx : okN x.mag) (hl : x.mag.length < 2147483646) : Fn 85 [vBB x] (.data (.int .i64 (iv x).sign)) := by
 have cm := zG3 x.neg x.mag hx (by omega);have hz : vA4 (nv x.mag) = [] ↔ nv x.mag = 0 := ⟨zCN, fun h => by rw [h]; rfl⟩;rw [uE0] at cm;unfold iv;rw [vQ0];refine zAN vA6 hT vSE (by simp [vBB]) ?_;refine sts ?_;refine zAA cm rfl ?_
 (repeat' (first|refine stp ?_|with_reducible(refine brr ?_ ?_<;>intro h)));all_goals try(conv=>whnf)
 ·refine zAB rfl ?_
  rw [if_pos (hz.1 (List.length_eq_zero_iff.1 (by omega)))]
 ·refine zAB rfl ?_
  rw [if_neg h.2, h.1, if_pos rfl]
 ·have hn : nv x.mag ≠ 0 := fun e => by rw [hz.2 e] at *; simp at *
  have hb : x.neg = false := by simpa [hn] using h
  refine zAB rfl ?_;rw [if_neg hn, hb]; rfl
theorem vX6 : FO 73 Tryz.f73 [.cell 4 76] 46 := mkO Tryz.func73 Tryz.ntmps73 Tryz.results73
theorem uFF (x y : IntL) (hx : okN x.mag) (hy : okN y.mag) (hl : x.mag.length < 2147483644) (hl2 : y.mag.length < 2147483644) : Fn 73 [vBB x, vBB y] (.data (vBB (cz (iv x + iv y)))) := by
 have ca := vVG x.mag y.mag hx hy (by omega) (by omega);have cs1 := vLC x.mag y.mag hx hy (by omega) (by omega);have cs2 := vLC y.mag x.mag hy hx (by omega) (by omega);refine zAN vA6 hT vX6 (by simp [vBB]) ?_
 (repeat' (first|refine stp ?_|with_reducible(refine brr ?_ ?_<;>intro h)));all_goals try(conv=>whnf)
 ·refine zAA ca rfl ?_
  refine sts ?_;have cm := zG3 x.neg (vA4 (nv x.mag + nv y.mag)) (zAM _) (by have := zAT hx; have := zH9 hx hy; omega);rw [zAO] at cm;refine zAA cm rfl ?_;refine sts ?_;refine zAB rfl ?_;rw [show iv x + iv y = sg x.neg (nv x.mag + nv y.mag) by unfold iv; rw [← h]; unfold sg; split <;> omega]; rfl
 ·by_cases hlt : nv x.mag < nv y.mag
  ·unfold vP4 at cs1 cs2
   rw [if_pos hlt] at cs1;rw [if_neg (by omega)] at cs2;refine zAA cs1 rfl ?_;refine sts ?_;refine zAA cs2 rfl ?_;refine sts ?_;have cm := zG3 y.neg (vA4 (nv y.mag - nv x.mag)) (zAM _) (by have := zEZ hy (n := nv y.mag - nv x.mag) (by omega); omega);rw [zAO] at cm;refine zAA cm rfl ?_;refine sts ?_;refine zAB rfl ?_
   rw [show iv x + iv y = sg y.neg (nv y.mag - nv x.mag) by have : x.neg = !y.neg := by (cases hh : x.neg <;> cases hh' : y.neg <;> simp_all)
                                                            unfold iv; rw [this, zLC]; unfold sg; split <;> omega]
   rfl
  ·unfold vP4 at cs1
   rw [if_neg (by omega)] at cs1;refine zAA cs1 rfl ?_;refine sts ?_;have cm := zG3 x.neg (vA4 (nv x.mag - nv y.mag)) (zAM _) (by have := zEZ hx (n := nv x.mag - nv y.mag) (by omega); omega);rw [zAO] at cm;refine zAA cm rfl ?_;refine sts ?_;refine zAB rfl ?_
   rw [show iv x + iv y = sg x.neg (nv x.mag - nv y.mag) by have : y.neg = !x.neg := by (cases hh : x.neg <;> cases hh' : y.neg <;> simp_all)
                                                            unfold iv; rw [this, zLC]; unfold sg; split <;> omega]
   rfl
theorem vI2 {d : List Int} (h : okN d) : (vA4 (dn d)).length ≤ d.length + 1 := zBD (uEV h (Nat.le_succ _) (by omega))
theorem vXT : FO 48 Tryz.f48 [.tmp 2] 11 := mkO Tryz.func48 Tryz.ntmps48 Tryz.results48
theorem zMM (d : List Int) (hd : okN d) (hl : d.length < 2147483636) : Fn 48 [vA9 d] (.data (vA9 (vA4 (dn d)))) := by
 have cm := zCO d hd (by omega);have h2 := zAT hd;refine zAN vA6 hT vXT (by simp) ?_;refine sts ?_;refine zAA cm rfl ?_
 (repeat' (first|refine stp ?_|with_reducible(refine brr ?_ ?_<;>intro h)));all_goals try(conv=>whnf)
 ·have : nv d = 0 := zCN (List.length_eq_zero_iff.1 (by omega))
  refine zAB rfl ?_;rw [dn, if_pos this]; rfl
 ·have : nv d ≠ 0 := fun e => h (by rw [e]; rfl)
  refine zAB rfl ?_;rw [dn, if_neg this]
theorem vR5 : FO 74 Tryz.f74 [.cell 6 35] 49 := mkO Tryz.func74 Tryz.ntmps74 Tryz.results74
theorem zKY (b : Bool) (xs ys : List Int) (hx : okN xs) (hy : okN ys) (h0 : nv ys ≠ 0) (hl : xs.length < 2147483626) (hl2 : ys.length < 2147483626) : Fn 74 [.bool b, vA9 xs, vA9 ys] (.data (vAZ (cr (mkRat (sg b (nv xs)) (nv ys))))) := by
 have h1 := zAT hx;have h2 := zAT hy;have hone : ∀ n, vA4 n = [1] ↔ n = 1 := fun n => ⟨fun h => by rw [← zAO n, h]; rfl, fun h => by rw [h]; rfl⟩
 have hnil : ∀ n, vA4 n = [] ↔ n = 0 := fun n => ⟨zCN, fun h => by rw [h]; rfl⟩
 rw [uE1 _ _ h0];have cg := uFE xs ys hx hy (by omega) (by omega);have hg0 : Nat.gcd (nv xs) (nv ys) ≠ 0 := fun e => h0 (Nat.eq_zero_of_gcd_eq_zero_right e)
 have hg3 : Nat.gcd (nv xs) (nv ys) ∣ nv xs := Nat.gcd_dvd_left ..;have hgl : (vA4 (Nat.gcd (nv xs) (nv ys))).length ≤ (vA4 (nv ys)).length := zDA (Nat.gcd_le_right _ (by omega));generalize Nat.gcd (nv xs) (nv ys) = G at *
 have cd1 := zJQ xs (vA4 G) hx (zAM _) (by omega) (by omega);have cd2 := zJQ ys (vA4 G) hy (zAM _) (by omega) (by omega);rw [zAO, if_neg hg0, if_neg hg0] at cd1 cd2;have hl3 : (vA4 (nv ys / G)).length ≤ (vA4 (nv ys)).length := zDA (Nat.div_le_self ..)
 have hN0 : nv xs / G = 0 ↔ nv xs = 0 := by
  obtain ⟨k, hk⟩ := hg3;rw [hk, Nat.mul_div_cancel_left _ (by omega)];constructor
  ·intro e; rw [e]; rfl
  ·intro e; rcases Nat.mul_eq_zero.1 e with e | e
   ·exact absurd e hg0
   ·exact e
 generalize nv xs / G = A at *
 generalize nv ys / G = B at *
 have hA := hnil A;have hB := hone B;have hl4 : (vA4 A).length = 0 ↔ A = 0 := by rw [List.length_eq_zero_iff, hA]
 have hbA : (b && decide (nv xs ≠ 0)) = (b && decide ((vA4 A).length > 0)) := by congr 1; rw [decide_eq_decide]; omega
 rw [hbA];have hbB : (if B = 1 then [] else vA4 B) = (if vA4 B = [1] then [] else vA4 B) := by simp only [hB]
 rw [hbB];generalize vA4 A = LA at *
 generalize vA4 B = LB at *
 have hLB : LB = [1] ↔ ((LB.length : Int) = 1 ∧ LB[0]! = 1) := by
  constructor
  ·intro e; subst e; simp
  ·rintro ⟨e1, e2⟩
   obtain ⟨x, rfl⟩ := List.length_eq_one_iff.1 (show LB.length = 1 by omega)
   simpa using e2
 refine zAN vA6 hT vR5 (by simp) ?_;refine sts ?_;refine zAA cg rfl ?_;refine sts ?_;refine zAA cd1 rfl ?_;refine sts ?_;refine zAA cd2 rfl ?_
 (repeat' (first|refine stp ?_|with_reducible(refine brr ?_ ?_<;>intro h)));all_goals try(conv=>whnf)
 all_goals
  refine zAB rfl ?_;by_cases e : LB = [1]
  ·rw [if_pos e]
   first | exact absurd (hLB.1 e).1 (by assumption) | exact absurd (hLB.1 e).2 (by assumption) | (subst h; simp [vAZ])
  ·rw [if_neg e]
   first | exact absurd (hLB.2 ⟨by assumption, by assumption⟩) e | (subst h; simp [vAZ])
theorem vOW : FO 49 Tryz.f49 [.cell 2 35] 11 := mkO Tryz.func49 Tryz.ntmps49 Tryz.results49
theorem zFJ (x : RatL) (hx : okR x) (hl : x.num.length < 2147483616) (hl2 : x.den.length < 2147483616) : Fn 49 [vAZ x] (.data (vAZ (cr (qv x)))) := by
 have cu := zMM x.den hx.2 (by omega);have hl3 := vI2 hx.2;have cq := zKY x.neg x.num (vA4 (dn x.den)) hx.1 (zAM _) (by rw [zAO]; exact zCB _) (by omega) (by omega);rw [zAO] at cq;refine zAN vA6 hT vOW (by simp [vAZ]) ?_;refine sts ?_;refine zAA cu rfl ?_;refine sts ?_;refine zAA cq rfl ?_;refine sts ?_;exact zAB rfl rfl
theorem vR4 : FO 116 Tryz.f116 [.tmp 4] 24 := mkO Tryz.func116 Tryz.ntmps116 Tryz.results116
theorem vZY (x y : RatL) (hl1 : x.num.length < 2147483646) (hl2 : x.den.length < 2147483646) (hl3 : y.num.length < 2147483646) (hl4 : y.den.length < 2147483646) : Fn 116 [vAZ x, vAZ y] (.data (.bool (decide (x = y)))) := by
 have c1 := vNH x.num y.num (by omega) (by omega);have c2 := vNH x.den y.den (by omega) (by omega);have n1 : x = y ↔ x.neg = y.neg ∧ x.num = y.num ∧ x.den = y.den := by cases x; cases y; simp
 refine zAN vA6 hT vR4 (by simp [vAZ]) ?_
 (repeat' (first|refine stp ?_|with_reducible(refine brr ?_ ?_<;>intro h)));all_goals try(conv=>whnf)
 ·refine zAA c1 rfl ?_
  (repeat' (first|refine stp ?_|with_reducible(refine brr ?_ ?_<;>intro h)));all_goals try(conv=>whnf)
  ·refine zAA c2 rfl ?_
   refine sts ?_;refine zAB rfl (congrArg PV.bool ?_);rw [decide_eq_decide, n1]
   simp_all
  ·refine zAB rfl (congrArg PV.bool ?_)
   exact (decide_eq_false fun e => h (n1.1 e).2.1).symm
 ·refine zAB rfl (congrArg PV.bool ?_)
  exact (decide_eq_false fun e => h (n1.1 e).1).symm
theorem vOU : FO 162 Tryz.f162 [.tmp 2] 7 := mkO Tryz.func162 Tryz.ntmps162 Tryz.results162
theorem zML (x : RatL) (hx : okR x) (hl : x.num.length < 2147483616) (hl2 : x.den.length < 2147483616) : Fn 162 [vAZ x] (.data (.bool (decide (x = cr (qv x))))) := by
 have cc := zFJ x hx hl hl2;have hL := zAL (zES hx (k := max (max x.num.length x.den.length) 1) (by omega) (by omega) (by omega));have cs := vZY x (cr (qv x)) (by omega) (by omega) (by omega) (by omega);refine zAN vA6 hT vOU (by simp [vAZ]) ?_;refine sts ?_;refine zAA cc rfl ?_;refine sts ?_;refine zAA cs rfl ?_;refine sts ?_;exact zAB rfl rfl
theorem uC9 : FO 13 Tryz.f13 [.cell 2 35] 11 := mkO Tryz.func13 Tryz.ntmps13 Tryz.results13
theorem zF2 (x : Int) (hx : -9223372036854775808 ≤ x ∧ x < 9223372036854775808) : Fn 13 [.int .i64 x] (.data (vAZ (cr x))) := by
 refine zAN vA6 hT uC9 (by simp) ?_;refine sts ?_;refine zAA (vJE x hx) rfl ?_;refine sts ?_;refine zAB rfl ?_;simp [vAZ, cr, cz];exact decide_eq_decide.2 Iff.rfl
theorem vR6 : FO 68 Tryz.f68 [.cell 4 35, .tmp 5] 20 := mkO Tryz.func68 Tryz.ntmps68 Tryz.results68
theorem vNF (x y : IntL) (hx : okN x.mag) (hy : okN y.mag) (h0 : nv y.mag ≠ 0) (hl : x.mag.length < 2147483616) (hl2 : y.mag.length < 2147483616) : Fn 68 [vBB x, vBB y] (.data (.tup [vAZ (cr (mkRat (sg (x.neg != y.neg) (nv x.mag)) (nv y.mag))), .int .i64 0])) := by
 have cs := vNJ y hy (by omega);have cq := zKY (x.neg != y.neg) x.mag y.mag hx hy h0 (by omega) (by omega);have hs : (iv y).sign ≠ 0 := by unfold iv; rw [vQ0, if_neg h0]; split <;> decide
 refine zAN vA6 hT vR6 (by simp [vBB]) ?_;refine sts ?_;refine zAA cs rfl ?_
 (repeat' (first|refine stp ?_|with_reducible(refine brr ?_ ?_<;>intro h)));all_goals try(conv=>whnf)
 ·exact absurd h hs
 refine zAA cq rfl ?_;refine sts ?_;exact zAB rfl rfl
theorem vR7 : FO 32 Tryz.f32 [.cell 4 35, .tmp 5] 13 := mkO Tryz.func32 Tryz.ntmps32 Tryz.results32
theorem zIO (x y : Int) (hx : -9223372036854775808 ≤ x ∧ x < 9223372036854775808) (hy : 0 < y ∧ y < 9223372036854775808) : Fn 32 [.int .i64 x, .int .i64 y] (.data (.tup [vAZ (cr (mkRat x y.natAbs)), .int .i64 0])) := by
 have hle : x.natAbs < pw 2 := by rw [zA0, zA0, zB8]; omega
 have hle2 : y.natAbs < pw 2 := by rw [zA0, zA0, zB8]; omega
 have hl := zBD hle;have hl2 := zBD hle2;have cm := vNF (cz x) (cz y) (zAM _) (zAM _) (by show nv (vA4 _) ≠ 0; rw [zAO]; omega) (by show (vA4 _).length < _; omega) (by show (vA4 _).length < _; omega)
 rw [show sg ((cz x).neg != (cz y).neg) (nv (cz x).mag) = x by
  rw [show (cz y).neg = false by unfold cz; simp; omega, show ((cz x).neg != false) = (cz x).neg by simp]
  exact zKF x, show nv (cz y).mag = y.natAbs from zAO _] at cm
 refine zAN vA6 hT vR7 (by simp) ?_;refine sts ?_;refine zAA (vJE x hx) rfl ?_;refine sts ?_;refine zAA (vJE y (by omega)) rfl ?_;refine sts ?_;refine zAA cm rfl ?_;refine sts ?_;exact zAB rfl rfl
theorem vR3 : FO 43 Tryz.f43 [.tmp 2] 9 := mkO Tryz.func43 Tryz.ntmps43 Tryz.results43
theorem zG2 (x : RatL) (hx : okR x) (hl : x.num.length < 2147483636) : Fn 43 [vAZ x] (.data (.int .i64 (vBS (qv x)))) := by
 have cs := vNJ ⟨x.neg, x.num⟩ hx.1 (by show x.num.length < _; omega);rw [vFA];refine zAN vA6 hT vR3 (by simp [vAZ]) ?_;refine sts ?_;refine zAA cs rfl ?_;refine sts ?_;exact zAB rfl rfl
theorem vXU : FO 67 Tryz.f67 [.cell 2 35] 9 := mkO Tryz.func67 Tryz.ntmps67 Tryz.results67
theorem uFB (x : RatL) (hx : okR x) (hl : x.num.length < 2147483616) (hl2 : x.den.length < 2147483616) : Fn 67 [vAZ x] (.data (vAZ (cr (- qv x)))) := by
 have cc := zFJ ⟨!x.neg, x.num, x.den⟩ hx hl hl2;rw [show qv ⟨!x.neg, x.num, x.den⟩ = - qv x by unfold qv; rw [Rat.neg_mkRat, zLC]] at cc;refine zAN vA6 hT vXU (by simp [vAZ]) ?_;refine sts ?_;refine zAA cc rfl ?_;refine sts ?_;exact zAB rfl rfl
theorem vXY : FO 36 Tryz.f36 [.cell 4 35] 41 := mkO Tryz.func36 Tryz.ntmps36 Tryz.results36
theorem zD5 (x y : RatL) (hx : okR x) (hy : okR y) (hl1 : x.num.length < 1000000000) (hl2 : x.den.length < 1000000000) (hl3 : y.num.length < 1000000000) (hl4 : y.den.length < 1000000000) : Fn 36 [vAZ x, vAZ y] (.data (vAZ (cr (qv x + qv y)))) := by
 have cu1 := zMM x.den hx.2 (by omega);have cu2 := zMM y.den hy.2 (by omega);have u1 := vI2 hx.2;have u2 := vI2 hy.2;have k1 := zJK (z := nv x.num) hx.1 (Int.natAbs_natCast _) hy.2 (Nat.le_refl _);have k2 := zJK (z := nv y.num) hy.1 (Int.natAbs_natCast _) hx.2 (Nat.le_refl _);rw [← Int.natCast_mul, Int.natAbs_natCast] at k1 k2;have m1 := zMN x.num (vA4 (dn y.den)) hx.1 (zAM _) (by omega) (by omega);have m2 := zMN y.num (vA4 (dn x.den)) hy.1 (zAM _) (by omega) (by omega);have cm := zMN (vA4 (dn x.den)) (vA4 (dn y.den)) (zAM _) (zAM _) (by omega) (by omega);rw [zAO] at m1 m2;rw [zAO, zAO] at cm;have ca := uFF ⟨x.neg, vA4 (nv x.num * dn y.den)⟩ ⟨y.neg, vA4 (nv y.num * dn x.den)⟩ (zAM _) (zAM _) (by show (vA4 _).length < _; omega) (by show (vA4 _).length < _; omega);unfold iv at ca;simp only [zAO, uCT] at ca;rw [uA4]
 have kl : (vA4 (sg x.neg (nv x.num) * (dn y.den : Nat) + sg y.neg (nv y.num) * (dn x.den : Nat)).natAbs).length < 2000000010 := by
  obtain ⟨K, hK⟩ : ∃ K : Nat, K = 2000000003 := ⟨_, rfl⟩;have e0 : (sg x.neg (nv x.num) * (dn y.den : Nat)).natAbs = nv x.num * dn y.den := by rw [Int.natAbs_mul, zFA, Int.natAbs_natCast]
  have e0' : (sg y.neg (nv y.num) * (dn x.den : Nat)).natAbs = nv y.num * dn x.den := by rw [Int.natAbs_mul, zFA, Int.natAbs_natCast]
  have e1 : (sg x.neg (nv x.num) * (dn y.den : Nat)).natAbs < pw K := by
   have := zDO (zAM (nv x.num * dn y.den));rw [zAO] at this; rw [e0]; exact Nat.lt_of_lt_of_le this (zD2 (by omega))
  have e2 : (sg y.neg (nv y.num) * (dn x.den : Nat)).natAbs < pw K := by
   have := zDO (zAM (nv y.num * dn x.den));rw [zAO] at this; rw [e0']; exact Nat.lt_of_lt_of_le this (zD2 (by omega))
  have e3 := zA0 K;have := zBD (n := (sg x.neg (nv x.num) * (dn y.den : Nat) + sg y.neg (nv y.num) * (dn x.den : Nat)).natAbs) (k := K + 1) (by omega);omega
 have hd : dn x.den * dn y.den ≠ 0 := Nat.mul_ne_zero (zCB _) (zCB _)
 have k4 : (vA4 (dn x.den * dn y.den)).length ≤ x.den.length + y.den.length + 2 := by
  have := zB4 (zDD hx.2) (zDD hy.2); rw [zDE, zDE] at this;have := zDG x.den; have := zDG y.den; omega
 generalize sg x.neg (nv x.num) * (dn y.den : Nat) + sg y.neg (nv y.num) * (dn x.den : Nat) = S at *
 generalize dn x.den * dn y.den = D at *
 have cq := zKY (cz S).neg (cz S).mag (vA4 D) (zAM _) (zAM _) (by rw [zAO]; exact hd) (by show (vA4 _).length < _; omega) (by omega);rw [show sg (cz S).neg (nv (cz S).mag) = S from zKF S, zAO] at cq;refine zAN vA6 hT vXY (by simp [vAZ]) ?_;refine sts ?_;refine zAA cu2 rfl ?_;refine sts ?_;refine zAA m1 rfl ?_;refine sts ?_;refine zAA cu1 rfl ?_;refine sts ?_;refine zAA m2 rfl ?_;refine sts ?_;refine zAA ca rfl ?_;refine sts ?_;refine zAA cu1 rfl ?_;refine sts ?_;refine zAA cu2 rfl ?_;refine sts ?_;refine zAA cm rfl ?_;refine sts ?_;refine zAA cq rfl ?_;refine sts ?_;exact zAB rfl rfl
theorem vXS : FO 30 Tryz.f30 [.cell 4 35] 9 := mkO Tryz.func30 Tryz.ntmps30 Tryz.results30
theorem vVC (x y : RatL) (hx : okR x) (hy : okR y) (hl1 : x.num.length < 999999999) (hl2 : x.den.length < 999999999) (hl3 : y.num.length < 999999999) (hl4 : y.den.length < 999999999) : Fn 30 [vAZ x, vAZ y] (.data (vAZ (cr (qv x - qv y)))) := by
 have cn := uFB y hy (by omega) (by omega);have hL := zAL (zJY (zES hy (k := max (max y.num.length y.den.length) 1) (by omega) (by omega) (by omega)));have ca := zD5 x (cr (- qv y)) hx (zAI _) (by omega) (by omega) (by omega) (by omega);rw [zAQ, ← Rat.sub_eq_add_neg] at ca;refine zAN vA6 hT vXS (by simp [vAZ]) ?_;refine sts ?_;refine zAA cn rfl ?_;refine sts ?_;refine zAA ca rfl ?_;refine sts ?_;exact zAB rfl rfl
theorem vXV : FO 37 Tryz.f37 [.cell 4 35] 23 := mkO Tryz.func37 Tryz.ntmps37 Tryz.results37
theorem zJP (x y : RatL) (hx : okR x) (hy : okR y) (hl1 : x.num.length < 1000000000) (hl2 : x.den.length < 1000000000) (hl3 : y.num.length < 1000000000) (hl4 : y.den.length < 1000000000) : Fn 37 [vAZ x, vAZ y] (.data (vAZ (cr (qv x * qv y)))) := by
 have cu1 := zMM x.den hx.2 (by omega);have cu2 := zMM y.den hy.2 (by omega);have u1 := vI2 hx.2;have u2 := vI2 hy.2;have cm := zMN (vA4 (dn x.den)) (vA4 (dn y.den)) (zAM _) (zAM _) (by omega) (by omega);have cn := zMN x.num y.num hx.1 hy.1 (by omega) (by omega);rw [zAO, zAO] at cm;have k3 := zB4 hx.1 hy.1
 have k4 : (vA4 (dn x.den * dn y.den)).length ≤ x.den.length + y.den.length + 2 := by
  have := zB4 (zDD hx.2) (zDD hy.2); rw [zDE, zDE] at this;have := zDG x.den; have := zDG y.den; omega
 have hd : dn x.den * dn y.den ≠ 0 := Nat.mul_ne_zero (zCB _) (zCB _);have cq := zKY (x.neg != y.neg) (vA4 (nv x.num * nv y.num)) (vA4 (dn x.den * dn y.den)) (zAM _) (zAM _) (by rw [zAO]; exact hd) (by omega) (by omega);rw [zAO, zAO, vLW, ← uA3] at cq;refine zAN vA6 hT vXV (by simp [vAZ]) ?_;refine sts ?_;refine zAA cn rfl ?_;refine sts ?_;refine zAA cu1 rfl ?_;refine sts ?_;refine zAA cu2 rfl ?_;refine sts ?_;refine zAA cm rfl ?_;refine sts ?_;refine zAA cq rfl ?_;refine sts ?_;exact zAB rfl rfl
theorem vXX : FO 26 Tryz.f26 [.tmp 4] 9 := mkO Tryz.func26 Tryz.ntmps26 Tryz.results26
theorem zEP (x y : RatL) (hx : okR x) (hy : okR y) (hl1 : x.num.length < 999999999) (hl2 : x.den.length < 999999999) (hl3 : y.num.length < 999999999) (hl4 : y.den.length < 999999999) : Fn 26 [vAZ x, vAZ y] (.data (.int .i64 (vBS (qv x - qv y)))) := by
 have cs := vVC x y hx hy hl1 hl2 hl3 hl4;have hL := zAL (zBY (zES hx (k := 999999999) (by omega) (by omega) (by omega)) (zJY (zES hy (k := 999999999) (by omega) (by omega) (by omega))));rw [← Rat.sub_eq_add_neg] at hL;have cg := zG2 (cr (qv x - qv y)) (zAI _) (by omega);rw [zAQ] at cg;refine zAN vA6 hT vXX (by simp [vAZ]) ?_;refine sts ?_;refine zAA cs rfl ?_;refine sts ?_;refine zAA cg rfl ?_;refine sts ?_;exact zAB rfl rfl
theorem vOX : FO 114 Tryz.f114 [.tmp 4] 59 := mkO Tryz.func114 Tryz.ntmps114 Tryz.results114
theorem zMO (f : AffL) (n : Int) (hf : okA 2147483596 f) : Fn 114 [vBD f, .int .i64 n] (.data (.bool (vCB f n))) := by
 obtain ⟨hc, ht, hl⟩ := hf;refine zAN vA6 hT vOX (by simp [vBD]) ?_;refine sts ?_
 refine zAG hT (fun (i : Nat) => [(1, .int .i64 n), (2, .ptr 0 0 0), (5, .int .i64 i)]) (fun _ => [(0, ⟨[vBD f], 4, true⟩)]) [] 1
  (fun i => i ≤ f.terms.length ∧ ∀ j, j < i → okT f.terms n j) (fun i => f.terms.length - i) 0 ⟨Nat.zero_le _, fun j h => (by omega)⟩ (by decide) (by simp) ?_ ?_
 ·exact ⟨[0], [], [], [], ttt, ⟨zAC rfl rfl, apx, zAC rfl rfl, trivial⟩, ⟨bbx, trivial⟩, by simp [ren]⟩
 intro i ⟨i1, i2⟩;have hcv := zML f.const hc.1 (by have := hc.2; omega) (by have := hc.2; omega);by_cases hi : i < f.terms.length
 ·have hq := vS7 (f := f) ⟨hc, ht, hl⟩ hi
  have cs := zG2 f.terms[i]!.coef hq.1 (by have := hq.2; omega);have cv := zML f.terms[i]!.coef hq.1 (by have := hq.2; omega) (by have := hq.2; omega)
  (repeat' (first|refine stp ?_|with_reducible(refine brr ?_ ?_<;>intro h)));all_goals try(conv=>whnf)
  ·exact zAB rfl (congrArg PV.bool (zBO (i := i) (by omega) fun e => by have := e.1; omega))
  ·exact zAB rfl (congrArg PV.bool (zBO (i := i) (by omega) fun e => by have := e.2.1; omega))
  ·refine zA4 (j := i - 1) (by omega) (by omega) ?_
   (repeat' (first|refine stp ?_|with_reducible(refine brr ?_ ?_<;>intro h)));all_goals try(conv=>whnf)
   ·exact zAB rfl (congrArg PV.bool (zBO (i := i) (by omega) fun e => by have := e.2.2.1 (by omega); omega))
   refine zAA cs rfl ?_
   (repeat' (first|refine stp ?_|with_reducible(refine brr ?_ ?_<;>intro h)));all_goals try(conv=>whnf)
   ·exact zAB rfl (congrArg PV.bool (zBO (i := i) (by omega) fun e => e.2.2.2.1 (sgnQ_zero.1 h)))
   ·refine zAA cv rfl ?_
    (repeat' (first|refine stp ?_|with_reducible(refine brr ?_ ?_<;>intro h)));all_goals try(conv=>whnf)
    ·refine ⟨i + 1, ⟨⟨by omega, fun j hj => ?_⟩, by show f.terms.length - (i + 1) < f.terms.length - i; omega⟩, [0], [], [], [], ttt, ⟨zAC rfl rfl, apx, zAC rfl (by omega), trivial⟩, ⟨bbx, trivial⟩, by simp [ren]⟩
     rcases Nat.lt_or_eq_of_le (Nat.le_of_lt_succ hj) with hj | rfl
     ·exact i2 j hj
     ·exact ⟨by omega, by omega, fun h0 => by omega, fun e => by have := sgnQ_zero.2 e; omega, h⟩
    ·exact zAB rfl (congrArg PV.bool (zBO (i := i) (by omega) fun e => h e.2.2.2.2))
  ·refine zAA cs rfl ?_
   (repeat' (first|refine stp ?_|with_reducible(refine brr ?_ ?_<;>intro h)));all_goals try(conv=>whnf)
   ·exact zAB rfl (congrArg PV.bool (zBO (i := i) (by omega) fun e => e.2.2.2.1 (sgnQ_zero.1 h)))
   ·refine zAA cv rfl ?_
    (repeat' (first|refine stp ?_|with_reducible(refine brr ?_ ?_<;>intro h)));all_goals try(conv=>whnf)
    ·refine ⟨i + 1, ⟨⟨by omega, fun j hj => ?_⟩, by show f.terms.length - (i + 1) < f.terms.length - i; omega⟩, [0], [], [], [], ttt, ⟨zAC rfl rfl, apx, zAC rfl (by omega), trivial⟩, ⟨bbx, trivial⟩, by simp [ren]⟩
     rcases Nat.lt_or_eq_of_le (Nat.le_of_lt_succ hj) with hj | rfl
     ·exact i2 j hj
     ·exact ⟨by omega, by omega, fun h0 => by omega, fun e => by have := sgnQ_zero.2 e; omega, h⟩
    ·exact zAB rfl (congrArg PV.bool (zBO (i := i) (by omega) fun e => h e.2.2.2.2))
  ·omega
 ·(repeat' (first|refine stp ?_|with_reducible(refine brr ?_ ?_<;>intro h)));all_goals try(conv=>whnf)
  all_goals try (exfalso; omega)
  refine zAA hcv rfl ?_;refine sts ?_;exact zAB rfl (congrArg PV.bool (zM4 fun j hj => i2 j (by omega)))
end Go.PI.Tryz
