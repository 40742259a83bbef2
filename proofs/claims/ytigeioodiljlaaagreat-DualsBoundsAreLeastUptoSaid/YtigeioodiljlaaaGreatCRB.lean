/-
  The reference: affine forms: Valid.
-/
import Derived.Test.YtigeioodiljlaaaGreatCNR
import Derived.Test.YtigeioodiljlaaaGreatCIB
import Derived.Test.YtigeioodiljlaaaGreatCPD
set_option linter.unusedVariables false
set_option linter.unusedSimpArgs false
set_option linter.unnecessarySimpa false
namespace Go.PI.Tryz
open Go.Proofs Go.PI
theorem ok_rimake : FO 105 Tryz.f105 [.cell 4 87] 16 := mkO Tryz.func105 Tryz.ntmps105 Tryz.results105
theorem zFC (b : Bool) (xs : List Int) (hx : okN xs) (hl : xs.length < 2147483646) : Fn 105 [.bool b, encN xs] (.data (encInt (cz (sg b (nv xs))))) := by
 rw [cz_sg];have ct := zB1 xs hx (by omega);have hz : lims (nv xs) = [] ↔ nv xs = 0 := ⟨zB0, fun h => by rw [h]; rfl⟩;refine zAO hmix hT ok_rimake (by simp) ?_;refine sts ?_;refine zAA ct rfl ?_
 (repeat' (first|refine stp ?_|with_reducible(refine brr ?_ ?_<;>intro h)));all_goals try(conv=>whnf)
 ·refine zAB rfl ?_
  subst h;have : (0 < (lims (nv xs)).length) ↔ nv xs ≠ 0 := by rw [List.length_pos_iff, ne_eq, hz]
  simp [encInt, this]
 ·subst h
  exact zAB rfl rfl
theorem ok_riof : FO 73 Tryz.f73 [.cell 2 87] 14 := mkO Tryz.func73 Tryz.ntmps73 Tryz.results73
theorem c_riof (x : Int) (hx : -9223372036854775808 ≤ x ∧ x < 9223372036854775808) : Fn 73 [.int .i64 x] (.data (encInt (cz x))) := by
 have hle : x.natAbs < pw 2 := by rw [zAS, zAS, zBQ]; omega
 have hl := zA4 hle;refine zAO hmix hT ok_riof (by simp) ?_
 (repeat' (first|refine stp ?_|with_reducible(refine brr ?_ ?_<;>intro h)));all_goals try(conv=>whnf)
 ·refine zFF ?_
  refine sts ?_;refine zFF ?_;have e : (0 - x % 18446744073709551616) % 18446744073709551616 = ((x.natAbs : Nat) : Int) := by omega
  refine sts ?_;rw [e];refine zAA (c_rnof x.natAbs (by omega)) rfl ?_;refine sts ?_;have cm := zFC true (lims x.natAbs) (zAI _) (by omega);rw [zAJ, show sg true x.natAbs = x by unfold sg; rw [if_pos rfl]; omega] at cm;refine zAA cm rfl ?_;refine sts ?_;exact zAB rfl rfl
 ·refine zAA (c_rnof x.natAbs (by omega)) (by rw [Int.natAbs_of_nonneg (by omega)]; rfl) ?_
  refine sts ?_;have cm := zFC false (lims x.natAbs) (zAI _) (by omega);rw [zAJ, show sg false x.natAbs = x by unfold sg; rw [if_neg (by decide)]; omega] at cm;refine zAA cm rfl ?_;refine sts ?_;exact zAB rfl rfl
theorem ok_risign : FO 84 Tryz.f84 [.tmp 2] 16 := mkO Tryz.func84 Tryz.ntmps84 Tryz.results84
theorem c_risign (x : IntL) (hx : okN x.mag) (hl : x.mag.length < 2147483646) : Fn 84 [encInt x] (.data (.int .i64 (iv x).sign)) := by
 have cm := zFC x.neg x.mag hx (by omega);have hz : lims (nv x.mag) = [] ↔ nv x.mag = 0 := ⟨zB0, fun h => by rw [h]; rfl⟩;rw [cz_sg] at cm;unfold iv;rw [sgn_sg];refine zAO hmix hT ok_risign (by simp [encInt]) ?_;refine sts ?_;refine zAA cm rfl ?_
 (repeat' (first|refine stp ?_|with_reducible(refine brr ?_ ?_<;>intro h)));all_goals try(conv=>whnf)
 ·refine zAB rfl ?_
  rw [if_pos (hz.1 (List.length_eq_zero_iff.1 (by omega)))]
 ·refine zAB rfl ?_
  rw [if_neg h.2, h.1, if_pos rfl]
 ·have hn : nv x.mag ≠ 0 := fun e => by rw [hz.2 e] at *; simp at *
  have hb : x.neg = false := by simpa [hn] using h
  refine zAB rfl ?_;rw [if_neg hn, hb]; rfl
theorem ok_riadd : FO 118 Tryz.f118 [.cell 4 87] 46 := mkO Tryz.func118 Tryz.ntmps118 Tryz.results118
theorem c_riadd (x y : IntL) (hx : okN x.mag) (hy : okN y.mag) (hl : x.mag.length < 2147483644) (hl2 : y.mag.length < 2147483644) : Fn 118 [encInt x, encInt y] (.data (encInt (cz (iv x + iv y)))) := by
 have ca := c_rnadd x.mag y.mag hx hy (by omega) (by omega);have cs1 := c_rnsub x.mag y.mag hx hy (by omega) (by omega);have cs2 := c_rnsub y.mag x.mag hy hx (by omega) (by omega);refine zAO hmix hT ok_riadd (by simp [encInt]) ?_
 (repeat' (first|refine stp ?_|with_reducible(refine brr ?_ ?_<;>intro h)));all_goals try(conv=>whnf)
 ·refine zAA ca rfl ?_
  refine sts ?_;have cm := zFC x.neg (lims (nv x.mag + nv y.mag)) (zAI _) (by have := zAM hx; have := zF9 hx hy; omega);rw [zAJ] at cm;refine zAA cm rfl ?_;refine sts ?_;refine zAB rfl ?_;rw [show iv x + iv y = sg x.neg (nv x.mag + nv y.mag) by unfold iv; rw [← h]; unfold sg; split <;> omega]; rfl
 ·by_cases hlt : nv x.mag < nv y.mag
  ·unfold subR at cs1 cs2
   rw [if_pos hlt] at cs1;rw [if_neg (by omega)] at cs2;refine zAA cs1 rfl ?_;refine sts ?_;refine zAA cs2 rfl ?_;refine sts ?_;have cm := zFC y.neg (lims (nv y.mag - nv x.mag)) (zAI _) (by have := zDU hy (n := nv y.mag - nv x.mag) (by omega); omega);rw [zAJ] at cm;refine zAA cm rfl ?_;refine sts ?_;refine zAB rfl ?_
   rw [show iv x + iv y = sg y.neg (nv y.mag - nv x.mag) by have : x.neg = !y.neg := by (cases hh : x.neg <;> cases hh' : y.neg <;> simp_all)
                                                            unfold iv; rw [this, sg_not]; unfold sg; split <;> omega]
   rfl
  ·unfold subR at cs1
   rw [if_neg (by omega)] at cs1;refine zAA cs1 rfl ?_;refine sts ?_;have cm := zFC x.neg (lims (nv x.mag - nv y.mag)) (zAI _) (by have := zDU hx (n := nv x.mag - nv y.mag) (by omega); omega);rw [zAJ] at cm;refine zAA cm rfl ?_;refine sts ?_;refine zAB rfl ?_
   rw [show iv x + iv y = sg x.neg (nv x.mag - nv y.mag) by have : y.neg = !x.neg := by (cases hh : x.neg <;> cases hh' : y.neg <;> simp_all)
                                                            unfold iv; rw [this, sg_not]; unfold sg; split <;> omega]
   rfl
end Go.PI.Tryz
namespace Go.PI.Tryz
open Go.Proofs Go.PI
theorem dn_len {d : List Int} (h : okN d) : (lims (dn d)).length ≤ d.length + 1 := zA4 (dn_lt h (Nat.le_succ _) (by omega))
theorem ok_rqone : FO 117 Tryz.f117 [.tmp 2] 11 := mkO Tryz.func117 Tryz.ntmps117 Tryz.results117
theorem zJP (d : List Int) (hd : okN d) (hl : d.length < 2147483636) : Fn 117 [encN d] (.data (encN (lims (dn d)))) := by
 have cm := zB1 d hd (by omega);have h2 := zAM hd;refine zAO hmix hT ok_rqone (by simp) ?_;refine sts ?_;refine zAA cm rfl ?_
 (repeat' (first|refine stp ?_|with_reducible(refine brr ?_ ?_<;>intro h)));all_goals try(conv=>whnf)
 ·have : nv d = 0 := zB0 (List.length_eq_zero_iff.1 (by omega))
  refine zAB rfl ?_;rw [dn, if_pos this]; rfl
 ·have : nv d ≠ 0 := fun e => h (by rw [e]; rfl)
  refine zAB rfl ?_;rw [dn, if_neg this]
theorem ok_rqquot : FO 104 Tryz.f104 [.cell 6 27] 49 := mkO Tryz.func104 Tryz.ntmps104 Tryz.results104
theorem zIJ (b : Bool) (xs ys : List Int) (hx : okN xs) (hy : okN ys) (h0 : nv ys ≠ 0) (hl : xs.length < 2147483626) (hl2 : ys.length < 2147483626) : Fn 104 [.bool b, encN xs, encN ys] (.data (encRat (cr (mkRat (sg b (nv xs)) (nv ys))))) := by
 have h1 := zAM hx;have h2 := zAM hy;have hone : ∀ n, lims n = [1] ↔ n = 1 := fun n => ⟨fun h => by rw [← zAJ n, h]; rfl, fun h => by rw [h]; rfl⟩
 have hnil : ∀ n, lims n = [] ↔ n = 0 := fun n => ⟨zB0, fun h => by rw [h]; rfl⟩
 rw [cr_mk _ _ h0];have cg := c_rngcd xs ys hx hy (by omega) (by omega);have hg0 : Nat.gcd (nv xs) (nv ys) ≠ 0 := fun e => h0 (Nat.eq_zero_of_gcd_eq_zero_right e)
 have hg3 : Nat.gcd (nv xs) (nv ys) ∣ nv xs := Nat.gcd_dvd_left ..;have hgl : (lims (Nat.gcd (nv xs) (nv ys))).length ≤ (lims (nv ys)).length := zCI (Nat.gcd_le_right _ (by omega));generalize Nat.gcd (nv xs) (nv ys) = G at *
 have cd1 := zHG xs (lims G) hx (zAI _) (by omega) (by omega);have cd2 := zHG ys (lims G) hy (zAI _) (by omega) (by omega);rw [zAJ, if_neg hg0, if_neg hg0] at cd1 cd2;have hl3 : (lims (nv ys / G)).length ≤ (lims (nv ys)).length := zCI (Nat.div_le_self ..)
 have hN0 : nv xs / G = 0 ↔ nv xs = 0 := by
  obtain ⟨k, hk⟩ := hg3;rw [hk, Nat.mul_div_cancel_left _ (by omega)];constructor
  ·intro e; rw [e]; rfl
  ·intro e; rcases Nat.mul_eq_zero.1 e with e | e
   ·exact absurd e hg0
   ·exact e
 generalize nv xs / G = A at *
 generalize nv ys / G = B at *
 have hA := hnil A;have hB := hone B;have hl4 : (lims A).length = 0 ↔ A = 0 := by rw [List.length_eq_zero_iff, hA]
 have hbA : (b && decide (nv xs ≠ 0)) = (b && decide ((lims A).length > 0)) := by congr 1; rw [decide_eq_decide]; omega
 rw [hbA];have hbB : (if B = 1 then [] else lims B) = (if lims B = [1] then [] else lims B) := by simp only [hB]
 rw [hbB];generalize lims A = LA at *
 generalize lims B = LB at *
 have hLB : LB = [1] ↔ ((LB.length : Int) = 1 ∧ LB[0]! = 1) := by
  constructor
  ·intro e; subst e; simp
  ·rintro ⟨e1, e2⟩
   obtain ⟨x, rfl⟩ := List.length_eq_one_iff.1 (show LB.length = 1 by omega)
   simpa using e2
 refine zAO hmix hT ok_rqquot (by simp) ?_;refine sts ?_;refine zAA cg rfl ?_;refine sts ?_;refine zAA cd1 rfl ?_;refine sts ?_;refine zAA cd2 rfl ?_
 (repeat' (first|refine stp ?_|with_reducible(refine brr ?_ ?_<;>intro h)));all_goals try(conv=>whnf)
 all_goals
  refine zAB rfl ?_;by_cases e : LB = [1]
  ·rw [if_pos e]
   first | exact absurd (hLB.1 e).1 (by assumption) | exact absurd (hLB.1 e).2 (by assumption) | (subst h; simp [encRat])
  ·rw [if_neg e]
   first | exact absurd (hLB.2 ⟨by assumption, by assumption⟩) e | (subst h; simp [encRat])
theorem ok_rqcanon : FO 114 Tryz.f114 [.cell 2 27] 11 := mkO Tryz.func114 Tryz.ntmps114 Tryz.results114
theorem zGN (x : RatL) (hx : okR x) (hl : x.num.length < 2147483616) (hl2 : x.den.length < 2147483616) : Fn 114 [encRat x] (.data (encRat (cr (qv x)))) := by
 have cu := zJP x.den hx.2 (by omega);have hl3 := dn_len hx.2;have cq := zIJ x.neg x.num (lims (dn x.den)) hx.1 (zAI _) (by rw [zAJ]; exact zB8 _) (by omega) (by omega);rw [zAJ] at cq;refine zAO hmix hT ok_rqcanon (by simp [encRat]) ?_;refine sts ?_;refine zAA cu rfl ?_;refine sts ?_;refine zAA cq rfl ?_;refine sts ?_;exact zAB rfl rfl
theorem ok_rqsame : FO 113 Tryz.f113 [.tmp 4] 24 := mkO Tryz.func113 Tryz.ntmps113 Tryz.results113
theorem c_rqsame (x y : RatL) (hl1 : x.num.length < 2147483646) (hl2 : x.den.length < 2147483646) (hl3 : y.num.length < 2147483646) (hl4 : y.den.length < 2147483646) : Fn 113 [encRat x, encRat y] (.data (.bool (decide (x = y)))) := by
 have c1 := c_rnsame x.num y.num (by omega) (by omega);have c2 := c_rnsame x.den y.den (by omega) (by omega);have n1 : x = y ↔ x.neg = y.neg ∧ x.num = y.num ∧ x.den = y.den := by cases x; cases y; simp
 refine zAO hmix hT ok_rqsame (by simp [encRat]) ?_
 (repeat' (first|refine stp ?_|with_reducible(refine brr ?_ ?_<;>intro h)));all_goals try(conv=>whnf)
 ·refine zAA c1 rfl ?_
  (repeat' (first|refine stp ?_|with_reducible(refine brr ?_ ?_<;>intro h)));all_goals try(conv=>whnf)
  ·refine zAA c2 rfl ?_
   refine sts ?_;refine zAB rfl (congrArg PV.bool ?_);rw [decide_eq_decide, n1]
   simp_all
  ·refine zAB rfl (congrArg PV.bool ?_)
   exact (decide_eq_false fun e => h (n1.1 e).2.1).symm
 ·refine zAB rfl (congrArg PV.bool ?_)
  exact (decide_eq_false fun e => h (n1.1 e).1).symm
theorem ok_rqvalid : FO 82 Tryz.f82 [.tmp 2] 7 := mkO Tryz.func82 Tryz.ntmps82 Tryz.results82
theorem zJO (x : RatL) (hx : okR x) (hl : x.num.length < 2147483616) (hl2 : x.den.length < 2147483616) : Fn 82 [encRat x] (.data (.bool (decide (x = cr (qv x))))) := by
 have cc := zGN x hx hl hl2;have hL := zAY (zH2 hx (k := max (max x.num.length x.den.length) 1) (by omega) (by omega) (by omega));have cs := c_rqsame x (cr (qv x)) (by omega) (by omega) (by omega) (by omega);refine zAO hmix hT ok_rqvalid (by simp [encRat]) ?_;refine sts ?_;refine zAA cc rfl ?_;refine sts ?_;refine zAA cs rfl ?_;refine sts ?_;exact zAB rfl rfl
theorem ok_rqof : FO 35 Tryz.f35 [.cell 2 27] 11 := mkO Tryz.func35 Tryz.ntmps35 Tryz.results35
theorem zHY (x : Int) (hx : -9223372036854775808 ≤ x ∧ x < 9223372036854775808) : Fn 35 [.int .i64 x] (.data (encRat (cr x))) := by
 refine zAO hmix hT ok_rqof (by simp) ?_;refine sts ?_;refine zAA (c_riof x hx) rfl ?_;refine sts ?_;refine zAB rfl ?_;simp [encRat, cr, cz];exact decide_eq_decide.2 Iff.rfl
theorem ok_rqmake : FO 72 Tryz.f72 [.cell 4 27, .tmp 5] 20 := mkO Tryz.func72 Tryz.ntmps72 Tryz.results72
theorem c_rqmake (x y : IntL) (hx : okN x.mag) (hy : okN y.mag) (h0 : nv y.mag ≠ 0) (hl : x.mag.length < 2147483616) (hl2 : y.mag.length < 2147483616) : Fn 72 [encInt x, encInt y] (.data (.tup [encRat (cr (mkRat (sg (x.neg != y.neg) (nv x.mag)) (nv y.mag))), .int .i64 0])) := by
 have cs := c_risign y hy (by omega);have cq := zIJ (x.neg != y.neg) x.mag y.mag hx hy h0 (by omega) (by omega);have hs : (iv y).sign ≠ 0 := by unfold iv; rw [sgn_sg, if_neg h0]; split <;> decide
 refine zAO hmix hT ok_rqmake (by simp [encInt]) ?_;refine sts ?_;refine zAA cs rfl ?_
 (repeat' (first|refine stp ?_|with_reducible(refine brr ?_ ?_<;>intro h)));all_goals try(conv=>whnf)
 ·exact absurd h hs
 refine zAA cq rfl ?_;refine sts ?_;exact zAB rfl rfl
theorem ok_rqfrac : FO 34 Tryz.f34 [.cell 4 27, .tmp 5] 13 := mkO Tryz.func34 Tryz.ntmps34 Tryz.results34
theorem c_rqfrac (x y : Int) (hx : -9223372036854775808 ≤ x ∧ x < 9223372036854775808) (hy : 0 < y ∧ y < 9223372036854775808) : Fn 34 [.int .i64 x, .int .i64 y] (.data (.tup [encRat (cr (mkRat x y.natAbs)), .int .i64 0])) := by
 have hle : x.natAbs < pw 2 := by rw [zAS, zAS, zBQ]; omega
 have hle2 : y.natAbs < pw 2 := by rw [zAS, zAS, zBQ]; omega
 have hl := zA4 hle;have hl2 := zA4 hle2;have cm := c_rqmake (cz x) (cz y) (zAI _) (zAI _) (by show nv (lims _) ≠ 0; rw [zAJ]; omega) (by show (lims _).length < _; omega) (by show (lims _).length < _; omega)
 rw [show sg ((cz x).neg != (cz y).neg) (nv (cz x).mag) = x by
  rw [show (cz y).neg = false by unfold cz; simp; omega, show ((cz x).neg != false) = (cz x).neg by simp]
  exact zH3 x, show nv (cz y).mag = y.natAbs from zAJ _] at cm
 refine zAO hmix hT ok_rqfrac (by simp) ?_;refine sts ?_;refine zAA (c_riof x hx) rfl ?_;refine sts ?_;refine zAA (c_riof y (by omega)) rfl ?_;refine sts ?_;refine zAA cm rfl ?_;refine sts ?_;exact zAB rfl rfl
theorem ok_rqsign : FO 45 Tryz.f45 [.tmp 2] 9 := mkO Tryz.func45 Tryz.ntmps45 Tryz.results45
theorem zII (x : RatL) (hx : okR x) (hl : x.num.length < 2147483636) : Fn 45 [encRat x] (.data (.int .i64 (sgnQ (qv x)))) := by
 have cs := c_risign ⟨x.neg, x.num⟩ hx.1 (by show x.num.length < _; omega);rw [sgnQ_qv];refine zAO hmix hT ok_rqsign (by simp [encRat]) ?_;refine sts ?_;refine zAA cs rfl ?_;refine sts ?_;exact zAB rfl rfl
theorem ok_rqneg : FO 86 Tryz.f86 [.cell 2 27] 9 := mkO Tryz.func86 Tryz.ntmps86 Tryz.results86
theorem c_rqneg (x : RatL) (hx : okR x) (hl : x.num.length < 2147483616) (hl2 : x.den.length < 2147483616) : Fn 86 [encRat x] (.data (encRat (cr (- qv x)))) := by
 have cc := zGN ⟨!x.neg, x.num, x.den⟩ hx hl hl2;rw [show qv ⟨!x.neg, x.num, x.den⟩ = - qv x by unfold qv; rw [Rat.neg_mkRat, sg_not]] at cc;refine zAO hmix hT ok_rqneg (by simp [encRat]) ?_;refine sts ?_;refine zAA cc rfl ?_;refine sts ?_;exact zAB rfl rfl
theorem ok_rqadd : FO 85 Tryz.f85 [.cell 4 27] 41 := mkO Tryz.func85 Tryz.ntmps85 Tryz.results85
theorem zHF (x y : RatL) (hx : okR x) (hy : okR y) (hl1 : x.num.length < 1000000000) (hl2 : x.den.length < 1000000000) (hl3 : y.num.length < 1000000000) (hl4 : y.den.length < 1000000000) : Fn 85 [encRat x, encRat y] (.data (encRat (cr (qv x + qv y)))) := by
 have cu1 := zJP x.den hx.2 (by omega);have cu2 := zJP y.den hy.2 (by omega);have u1 := dn_len hx.2;have u2 := dn_len hy.2;have k1 := zHD (z := nv x.num) hx.1 (Int.natAbs_natCast _) hy.2 (Nat.le_refl _);have k2 := zHD (z := nv y.num) hy.1 (Int.natAbs_natCast _) hx.2 (Nat.le_refl _);rw [← Int.natCast_mul, Int.natAbs_natCast] at k1 k2;have m1 := zJR x.num (lims (dn y.den)) hx.1 (zAI _) (by omega) (by omega);have m2 := zJR y.num (lims (dn x.den)) hy.1 (zAI _) (by omega) (by omega);have cm := zJR (lims (dn x.den)) (lims (dn y.den)) (zAI _) (zAI _) (by omega) (by omega);rw [zAJ] at m1 m2;rw [zAJ, zAJ] at cm;have ca := c_riadd ⟨x.neg, lims (nv x.num * dn y.den)⟩ ⟨y.neg, lims (nv y.num * dn x.den)⟩ (zAI _) (zAI _) (by show (lims _).length < _; omega) (by show (lims _).length < _; omega);unfold iv at ca;simp only [zAJ, sg_mulr] at ca;rw [qv_add]
 have kl : (lims (sg x.neg (nv x.num) * (dn y.den : Nat) + sg y.neg (nv y.num) * (dn x.den : Nat)).natAbs).length < 2000000010 := by
  obtain ⟨K, hK⟩ : ∃ K : Nat, K = 2000000003 := ⟨_, rfl⟩;have e0 : (sg x.neg (nv x.num) * (dn y.den : Nat)).natAbs = nv x.num * dn y.den := by rw [Int.natAbs_mul, zD2, Int.natAbs_natCast]
  have e0' : (sg y.neg (nv y.num) * (dn x.den : Nat)).natAbs = nv y.num * dn x.den := by rw [Int.natAbs_mul, zD2, Int.natAbs_natCast]
  have e1 : (sg x.neg (nv x.num) * (dn y.den : Nat)).natAbs < pw K := by
   have := zC6 (zAI (nv x.num * dn y.den));rw [zAJ] at this; rw [e0]; exact Nat.lt_of_lt_of_le this (zDP (by omega))
  have e2 : (sg y.neg (nv y.num) * (dn x.den : Nat)).natAbs < pw K := by
   have := zC6 (zAI (nv y.num * dn x.den));rw [zAJ] at this; rw [e0']; exact Nat.lt_of_lt_of_le this (zDP (by omega))
  have e3 := zAS K;have := zA4 (n := (sg x.neg (nv x.num) * (dn y.den : Nat) + sg y.neg (nv y.num) * (dn x.den : Nat)).natAbs) (k := K + 1) (by omega);omega
 have hd : dn x.den * dn y.den ≠ 0 := Nat.mul_ne_zero (zB8 _) (zB8 _)
 have k4 : (lims (dn x.den * dn y.den)).length ≤ x.den.length + y.den.length + 2 := by
  have := zB7 (zDJ hx.2) (zDJ hy.2); rw [zC9, zC9] at this;have := zDG x.den; have := zDG y.den; omega
 generalize sg x.neg (nv x.num) * (dn y.den : Nat) + sg y.neg (nv y.num) * (dn x.den : Nat) = S at *
 generalize dn x.den * dn y.den = D at *
 have cq := zIJ (cz S).neg (cz S).mag (lims D) (zAI _) (zAI _) (by rw [zAJ]; exact hd) (by show (lims _).length < _; omega) (by omega);rw [show sg (cz S).neg (nv (cz S).mag) = S from zH3 S, zAJ] at cq;refine zAO hmix hT ok_rqadd (by simp [encRat]) ?_;refine sts ?_;refine zAA cu2 rfl ?_;refine sts ?_;refine zAA m1 rfl ?_;refine sts ?_;refine zAA cu1 rfl ?_;refine sts ?_;refine zAA m2 rfl ?_;refine sts ?_;refine zAA ca rfl ?_;refine sts ?_;refine zAA cu1 rfl ?_;refine sts ?_;refine zAA cu2 rfl ?_;refine sts ?_;refine zAA cm rfl ?_;refine sts ?_;refine zAA cq rfl ?_;refine sts ?_;exact zAB rfl rfl
theorem ok_rqsub : FO 46 Tryz.f46 [.cell 4 27] 9 := mkO Tryz.func46 Tryz.ntmps46 Tryz.results46
theorem c_rqsub (x y : RatL) (hx : okR x) (hy : okR y) (hl1 : x.num.length < 999999999) (hl2 : x.den.length < 999999999) (hl3 : y.num.length < 999999999) (hl4 : y.den.length < 999999999) : Fn 46 [encRat x, encRat y] (.data (encRat (cr (qv x - qv y)))) := by
 have cn := c_rqneg y hy (by omega) (by omega);have hL := zAY (sz_neg (zH2 hy (k := max (max y.num.length y.den.length) 1) (by omega) (by omega) (by omega)));have ca := zHF x (cr (- qv y)) hx (zAR _) (by omega) (by omega) (by omega) (by omega);rw [zA3, ← Rat.sub_eq_add_neg] at ca;refine zAO hmix hT ok_rqsub (by simp [encRat]) ?_;refine sts ?_;refine zAA cn rfl ?_;refine sts ?_;refine zAA ca rfl ?_;refine sts ?_;exact zAB rfl rfl
theorem ok_rqmul : FO 96 Tryz.f96 [.cell 4 27] 23 := mkO Tryz.func96 Tryz.ntmps96 Tryz.results96
theorem c_rqmul (x y : RatL) (hx : okR x) (hy : okR y) (hl1 : x.num.length < 1000000000) (hl2 : x.den.length < 1000000000) (hl3 : y.num.length < 1000000000) (hl4 : y.den.length < 1000000000) : Fn 96 [encRat x, encRat y] (.data (encRat (cr (qv x * qv y)))) := by
 have cu1 := zJP x.den hx.2 (by omega);have cu2 := zJP y.den hy.2 (by omega);have u1 := dn_len hx.2;have u2 := dn_len hy.2;have cm := zJR (lims (dn x.den)) (lims (dn y.den)) (zAI _) (zAI _) (by omega) (by omega);have cn := zJR x.num y.num hx.1 hy.1 (by omega) (by omega);rw [zAJ, zAJ] at cm;have k3 := zB7 hx.1 hy.1
 have k4 : (lims (dn x.den * dn y.den)).length ≤ x.den.length + y.den.length + 2 := by
  have := zB7 (zDJ hx.2) (zDJ hy.2); rw [zC9, zC9] at this;have := zDG x.den; have := zDG y.den; omega
 have hd : dn x.den * dn y.den ≠ 0 := Nat.mul_ne_zero (zB8 _) (zB8 _);have cq := zIJ (x.neg != y.neg) (lims (nv x.num * nv y.num)) (lims (dn x.den * dn y.den)) (zAI _) (zAI _) (by rw [zAJ]; exact hd) (by omega) (by omega);rw [zAJ, zAJ, sg_mul, ← qv_mul] at cq;refine zAO hmix hT ok_rqmul (by simp [encRat]) ?_;refine sts ?_;refine zAA cn rfl ?_;refine sts ?_;refine zAA cu1 rfl ?_;refine sts ?_;refine zAA cu2 rfl ?_;refine sts ?_;refine zAA cm rfl ?_;refine sts ?_;refine zAA cq rfl ?_;refine sts ?_;exact zAB rfl rfl
theorem ok_rqcmp : FO 17 Tryz.f17 [.tmp 4] 9 := mkO Tryz.func17 Tryz.ntmps17 Tryz.results17
theorem zJQ (x y : RatL) (hx : okR x) (hy : okR y) (hl1 : x.num.length < 999999999) (hl2 : x.den.length < 999999999) (hl3 : y.num.length < 999999999) (hl4 : y.den.length < 999999999) : Fn 17 [encRat x, encRat y] (.data (.int .i64 (sgnQ (qv x - qv y)))) := by
 have cs := c_rqsub x y hx hy hl1 hl2 hl3 hl4;have hL := zAY (zDQ (zH2 hx (k := 999999999) (by omega) (by omega) (by omega)) (sz_neg (zH2 hy (k := 999999999) (by omega) (by omega) (by omega))));rw [← Rat.sub_eq_add_neg] at hL;have cg := zII (cr (qv x - qv y)) (zAR _) (by omega);rw [zA3] at cg;refine zAO hmix hT ok_rqcmp (by simp [encRat]) ?_;refine sts ?_;refine zAA cs rfl ?_;refine sts ?_;refine zAA cg rfl ?_;refine sts ?_;exact zAB rfl rfl
end Go.PI.Tryz
namespace Go.PI.Tryz
open Go.Proofs Go.PI
theorem ok_rlvalid : FO 64 Tryz.f64 [.tmp 4] 59 := mkO Tryz.func64 Tryz.ntmps64 Tryz.results64
theorem zJS (f : AffL) (n : Int) (hf : okA 2147483596 f) : Fn 64 [encAff f, .int .i64 n] (.data (.bool (validB f n))) := by
 obtain ⟨hc, ht, hl⟩ := hf;refine zAO hmix hT ok_rlvalid (by simp [encAff]) ?_;refine sts ?_
 refine zAH hT (fun (i : Nat) => [(1, .int .i64 n), (2, .ptr 0 0 0), (5, .int .i64 i)]) (fun _ => [(0, ⟨[encAff f], 4, true⟩)]) [] 1
  (fun i => i ≤ f.terms.length ∧ ∀ j, j < i → okT f.terms n j) (fun i => f.terms.length - i) 0 ⟨Nat.zero_le _, fun j h => (by omega)⟩ (by decide) (by simp) ?_ ?_
 ·exact ⟨[0], [], [], [], ttt, ⟨zAC rfl rfl, apx, zAC rfl rfl, trivial⟩, ⟨bbx, trivial⟩, by simp [ren]⟩
 intro i ⟨i1, i2⟩;have hcv := zJO f.const hc.1 (by have := hc.2; omega) (by have := hc.2; omega);by_cases hi : i < f.terms.length
 ·have hq := okA_get (f := f) ⟨hc, ht, hl⟩ hi
  have cs := zII f.terms[i]!.coef hq.1 (by have := hq.2; omega);have cv := zJO f.terms[i]!.coef hq.1 (by have := hq.2; omega) (by have := hq.2; omega)
  (repeat' (first|refine stp ?_|with_reducible(refine brr ?_ ?_<;>intro h)));all_goals try(conv=>whnf)
  ·exact zAB rfl (congrArg PV.bool (zBD (i := i) (by omega) fun e => by have := e.1; omega))
  ·exact zAB rfl (congrArg PV.bool (zBD (i := i) (by omega) fun e => by have := e.2.1; omega))
  ·refine zA0 (j := i - 1) (by omega) (by omega) ?_
   (repeat' (first|refine stp ?_|with_reducible(refine brr ?_ ?_<;>intro h)));all_goals try(conv=>whnf)
   ·exact zAB rfl (congrArg PV.bool (zBD (i := i) (by omega) fun e => by have := e.2.2.1 (by omega); omega))
   refine zAA cs rfl ?_
   (repeat' (first|refine stp ?_|with_reducible(refine brr ?_ ?_<;>intro h)));all_goals try(conv=>whnf)
   ·exact zAB rfl (congrArg PV.bool (zBD (i := i) (by omega) fun e => e.2.2.2.1 (sgnQ_zero.1 h)))
   ·refine zAA cv rfl ?_
    (repeat' (first|refine stp ?_|with_reducible(refine brr ?_ ?_<;>intro h)));all_goals try(conv=>whnf)
    ·refine ⟨i + 1, ⟨⟨by omega, fun j hj => ?_⟩, by show f.terms.length - (i + 1) < f.terms.length - i; omega⟩, [0], [], [], [], ttt, ⟨zAC rfl rfl, apx, zAC rfl (by omega), trivial⟩, ⟨bbx, trivial⟩, by simp [ren]⟩
     rcases Nat.lt_or_eq_of_le (Nat.le_of_lt_succ hj) with hj | rfl
     ·exact i2 j hj
     ·exact ⟨by omega, by omega, fun h0 => by omega, fun e => by have := sgnQ_zero.2 e; omega, h⟩
    ·exact zAB rfl (congrArg PV.bool (zBD (i := i) (by omega) fun e => h e.2.2.2.2))
  ·refine zAA cs rfl ?_
   (repeat' (first|refine stp ?_|with_reducible(refine brr ?_ ?_<;>intro h)));all_goals try(conv=>whnf)
   ·exact zAB rfl (congrArg PV.bool (zBD (i := i) (by omega) fun e => e.2.2.2.1 (sgnQ_zero.1 h)))
   ·refine zAA cv rfl ?_
    (repeat' (first|refine stp ?_|with_reducible(refine brr ?_ ?_<;>intro h)));all_goals try(conv=>whnf)
    ·refine ⟨i + 1, ⟨⟨by omega, fun j hj => ?_⟩, by show f.terms.length - (i + 1) < f.terms.length - i; omega⟩, [0], [], [], [], ttt, ⟨zAC rfl rfl, apx, zAC rfl (by omega), trivial⟩, ⟨bbx, trivial⟩, by simp [ren]⟩
     rcases Nat.lt_or_eq_of_le (Nat.le_of_lt_succ hj) with hj | rfl
     ·exact i2 j hj
     ·exact ⟨by omega, by omega, fun h0 => by omega, fun e => by have := sgnQ_zero.2 e; omega, h⟩
    ·exact zAB rfl (congrArg PV.bool (zBD (i := i) (by omega) fun e => h e.2.2.2.2))
  ·omega
 ·(repeat' (first|refine stp ?_|with_reducible(refine brr ?_ ?_<;>intro h)));all_goals try(conv=>whnf)
  all_goals try (exfalso; omega)
  refine zAA hcv rfl ?_;refine sts ?_;exact zAB rfl (congrArg PV.bool (zKB fun j hj => i2 j (by omega)))
end Go.PI.Tryz
