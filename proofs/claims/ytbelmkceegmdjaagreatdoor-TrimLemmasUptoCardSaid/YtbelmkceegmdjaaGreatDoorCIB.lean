/-
  Rationals: Of, Sign, Cmp, Add, Mul.
-/
import Derived.Test.YtbelmkceegmdjaaGreatDoorCNA
import Derived.Test.YtbelmkceegmdjaaGreatDoorCPD
set_option linter.unusedVariables false
set_option linter.unusedSimpArgs false
set_option linter.unnecessarySimpa false
namespace Go.PI.Tryz
open Go.Proofs Go.PI
theorem vXY : FO 157 Tryz.f157 [.cell 4 101] 16 := mkO Tryz.func157 Tryz.ntmps157 Tryz.results157
theorem zMC (b : Bool) (xs : List Int) (hx : okN xs) (hl : xs.length < 2147483646) : Fn 157 [.bool b, vBK xs] (.data (vB1 (cz (sg b (nv xs))))) := by
 rw [uG4];have ct := zL9 xs hx (by omega);have hz : vBH (nv xs) = [] ↔ nv xs = 0 := ⟨zFX, fun h => by rw [h]; rfl⟩;refine zAO vBC hT vXY (by simp) ?_;refine sts ?_;refine zAA ct rfl ?_
 (repeat' (first|refine stp ?_|with_reducible(refine brr ?_ ?_<;>intro h)));all_goals try(conv=>whnf)
 ·refine zAB rfl ?_
  subst h;have : (0 < (vBH (nv xs)).length) ↔ nv xs ≠ 0 := by rw [List.length_pos_iff, ne_eq, hz]
  simp [vB1, this]
 ·subst h
  exact zAB rfl rfl
theorem uF8 : FO 162 Tryz.f162 [.cell 2 101] 14 := mkO Tryz.func162 Tryz.ntmps162 Tryz.results162
theorem uJN (x : Int) (hx : -9223372036854775808 ≤ x ∧ x < 9223372036854775808) : Fn 162 [.int .i64 x] (.data (vB1 (cz x))) := by
 refine zAO vBC hT uF8 (by simp) ?_
 (repeat' (first|refine stp ?_|with_reducible(refine brr ?_ ?_<;>intro h)));all_goals try(conv=>whnf)
 ·refine zHL ?_
  refine sts ?_;refine zHL ?_;have e : (0 - x % 18446744073709551616) % 18446744073709551616 = ((x.natAbs : Nat) : Int) := by omega
  refine sts ?_;rw [e];refine zAA (vZE x.natAbs (by omega)) rfl ?_;refine sts ?_;refine zAB rfl ?_;simp [vB1, cz, h]
 ·refine zAA (vZE x.natAbs (by omega)) (by rw [Int.natAbs_of_nonneg (by omega)]; rfl) ?_
  refine sts ?_;refine zAB rfl ?_;simp [vB1, cz, h]
theorem vXX : FO 131 Tryz.f131 [.tmp 2] 11 := mkO Tryz.func131 Tryz.ntmps131 Tryz.results131
theorem vL5 (x : IntL) (hx : okN x.mag) (hl : x.mag.length < 2147483646) : Fn 131 [vB1 x] (.data (.int .i64 (iv x).sign)) := by
 have cb := vVD x.mag hx (by omega);have hz := zNI (nv x.mag);unfold iv;rw [uFF];refine zAO vBC hT vXX (by simp [vB1]) ?_;refine sts ?_;refine zAA cb rfl ?_
 (repeat' (first|refine stp ?_|with_reducible(refine brr ?_ ?_<;>intro h)));all_goals try(conv=>whnf)
 ·refine zAB rfl ?_
  rw [if_pos (hz.1 h)]
 ·refine zAB rfl ?_
  rw [if_neg (by omega), h, if_pos rfl]
 ·refine zAB rfl ?_
  rw [if_neg (by omega), h]; rfl
theorem zGG (z : Int) : z.sign = -1 ∧ z < 0 ∨ z.sign = 0 ∧ z = 0 ∨ z.sign = 1 ∧ 0 < z := by
 rcases Int.lt_trichotomy z 0 with h | h | h
 ·exact Or.inl ⟨Int.sign_eq_neg_one_of_neg h, h⟩
 ·exact Or.inr (Or.inl ⟨by rw [h]; rfl, h⟩)
 ·exact Or.inr (Or.inr ⟨Int.sign_eq_one_of_pos h, h⟩)
theorem vY4 {x y : IntL} (h1 : iv x < 0) (h2 : iv y < 0) : vEF (iv x) (iv y) = vEF (nv y.mag) (nv x.mag) := by
 unfold iv sg at *
 unfold vEF
 split at h1 <;> split at h2 <;> try omega
 rename_i e1 e2
 rw [if_pos e1, if_pos e2]
 repeat' split
 all_goals omega
theorem vY3 {x y : IntL} (h1 : 0 ≤ iv x) (h2 : 0 ≤ iv y) : vEF (iv x) (iv y) = vEF (nv x.mag) (nv y.mag) := by
 unfold iv sg at *
 unfold vEF
 split at h1 <;> split at h2 <;> rename_i e1 e2 <;> simp only [e1, e2, if_true, if_false, Bool.false_eq_true, ite_true, ite_false]
 all_goals repeat' split
 all_goals omega
theorem uC2 : FO 129 Tryz.f129 [.tmp 4] 32 := mkO Tryz.func129 Tryz.ntmps129 Tryz.results129
theorem uHQ (x y : IntL) (hx : okN x.mag) (hy : okN y.mag) (hl : x.mag.length < 2147483646) (hl2 : y.mag.length < 2147483646) : Fn 129 [vB1 x, vB1 y] (.data (.int .i64 (vEF (iv x) (iv y)))) := by
 have cs1 := vL5 x hx hl;have cs2 := vL5 y hy hl2;have cc1 := zMB x.mag y.mag hx hy (by omega) (by omega);have cc2 := zMB y.mag x.mag hy hx (by omega) (by omega);have k1 := zGG (iv x);have k2 := zGG (iv y);refine zAO vBC hT uC2 (by simp [vB1]) ?_;refine sts ?_;refine zAA cs1 rfl ?_;refine sts ?_;refine zAA cs2 rfl ?_
 (repeat' (first|refine stp ?_|with_reducible(refine brr ?_ ?_<;>intro h)));all_goals try(conv=>whnf)
 ·refine zAB rfl ?_
  rw [show vEF (iv x) (iv y) = -1 by unfold vEF; rw [if_pos (by omega)]]
 ·refine zAB rfl ?_
  rw [show vEF (iv x) (iv y) = 1 by unfold vEF; rw [if_neg (by omega), if_pos (by omega)]]
 ·refine zAA cc2 rfl ?_
  refine sts ?_;refine zAB rfl ?_;rw [vY4 (by omega) (by omega)]
 ·refine zAA cc1 rfl ?_
  refine sts ?_;refine zAB rfl ?_;rw [vY3 (by omega) (by omega)]
theorem zJ2 {xs : List Int} (h : okN xs) {n : Nat} (hn : n ≤ nv xs) : (vBH n).length ≤ xs.length := zCH (Nat.lt_of_le_of_lt hn (zFV h))
theorem vG0 {xs ys : List Int} (h1 : okN xs) (h2 : okN ys) : (vBH (nv xs + nv ys)).length ≤ max xs.length ys.length + 1 :=
 vJB (Nat.lt_of_lt_of_le (zFV h1) (zGA (Nat.le_max_left ..))) (Nat.lt_of_lt_of_le (zFV h2) (zGA (Nat.le_max_right ..)))
theorem zER {xs ys : List Int} (h1 : okN xs) (h2 : okN ys) : (vBH (nv xs * nv ys)).length ≤ xs.length + ys.length := zCH (zDP (zFV h1) (zFV h2))
theorem uC3 : FO 185 Tryz.f185 [.cell 4 101] 40 := mkO Tryz.func185 Tryz.ntmps185 Tryz.results185
theorem uHR (x y : IntL) (hx : okN x.mag) (hy : okN y.mag) (hl : x.mag.length < 2147483644) (hl2 : y.mag.length < 2147483644) : Fn 185 [vB1 x, vB1 y] (.data (vB1 (cz (iv x + iv y)))) := by
 have ca := uHI x.mag y.mag hx hy (by omega) (by omega);have cc := zMB x.mag y.mag hx hy (by omega) (by omega);have cs1 := uAR x.mag y.mag hx hy (by omega) (by omega);have cs2 := uAR y.mag x.mag hy hx (by omega) (by omega);refine zAO vBC hT uC3 (by simp [vB1]) ?_
 (repeat' (first|refine stp ?_|with_reducible(refine brr ?_ ?_<;>intro h)));all_goals try(conv=>whnf)
 ·refine zAA ca rfl ?_
  refine sts ?_;have cm := zMC x.neg (vBH (nv x.mag + nv y.mag)) (zAW _) (by have := zAX hx; have := vG0 hx hy; omega);rw [zAY] at cm;refine zAA cm rfl ?_;refine sts ?_;refine zAB rfl ?_;rw [show iv x + iv y = sg x.neg (nv x.mag + nv y.mag) by unfold iv; rw [← h]; unfold sg; split <;> omega]; rfl
 ·refine zAA cc rfl ?_
  have hlt := vUX (nv x.mag) (nv y.mag)
  (repeat' (first|refine stp ?_|with_reducible(refine brr ?_ ?_<;>intro h)));all_goals try(conv=>whnf)
  ·unfold uE8 at cs2
   rw [if_neg (by omega)] at cs2;refine zAA cs2 rfl ?_;refine sts ?_;have cm := zMC y.neg (vBH (nv y.mag - nv x.mag)) (zAW _) (by have := zJ2 hy (n := nv y.mag - nv x.mag) (by omega); omega);rw [zAY] at cm;refine zAA cm rfl ?_;refine sts ?_;refine zAB rfl ?_
   rw [show iv x + iv y = sg y.neg (nv y.mag - nv x.mag) by have : x.neg = !y.neg := by (cases hh : x.neg <;> cases hh' : y.neg <;> simp_all)
                                                            unfold iv; rw [this, vRQ]; unfold sg; split <;> omega]
   rfl
  ·unfold uE8 at cs1
   rw [if_neg (by omega)] at cs1;refine zAA cs1 rfl ?_;refine sts ?_;have cm := zMC x.neg (vBH (nv x.mag - nv y.mag)) (zAW _) (by have := zJ2 hx (n := nv x.mag - nv y.mag) (by omega); omega);rw [zAY] at cm;refine zAA cm rfl ?_;refine sts ?_;refine zAB rfl ?_
   rw [show iv x + iv y = sg x.neg (nv x.mag - nv y.mag) by have : y.neg = !x.neg := by (cases hh : x.neg <;> cases hh' : y.neg <;> simp_all)
                                                            unfold iv; rw [this, vRQ]; unfold sg; split <;> omega]
   rfl
theorem uC1 : FO 155 Tryz.f155 [.cell 4 101] 16 := mkO Tryz.func155 Tryz.ntmps155 Tryz.results155
theorem uAX (x y : IntL) (hx : okN x.mag) (hy : okN y.mag) (hl : x.mag.length < 1073741818) (hl2 : y.mag.length < 1073741818) : Fn 155 [vB1 x, vB1 y] (.data (vB1 (cz (iv x * iv y)))) := by
 have ca := vOG x.mag y.mag hx hy (by omega) (by omega);refine zAO vBC hT uC1 (by simp [vB1]) ?_;refine sts ?_;refine zAA ca rfl ?_;refine sts ?_;have cm := zMC (x.neg != y.neg) (vBH (nv x.mag * nv y.mag)) (zAW _) (by have := zER hx hy; omega);rw [zAY] at cm;refine zAA cm rfl ?_;refine sts ?_;refine zAB rfl ?_;rw [vZT]; rfl
theorem uCD : FO 182 Tryz.f182 [.tmp 0] 2 := mkO Tryz.func182 Tryz.ntmps182 Tryz.results182
theorem uAQ : Fn 182 [] (.data (vBK [1])) := by
 refine zAO vBC hT uCD (by simp) ?_;refine sts ?_;exact zAB rfl rfl
theorem vXL : FO 179 Tryz.f179 [.tmp 2] 12 := mkO Tryz.func179 Tryz.ntmps179 Tryz.results179
theorem vL4 (xs : List Int) (hl : xs.length < 2147483646) : Fn 179 [vBK xs] (.data (.bool (decide (xs = [1])))) := by
 refine zAO vBC hT vXL (by simp) ?_
 (repeat' (first|refine stp ?_|with_reducible(refine brr ?_ ?_<;>intro h)));all_goals try(conv=>whnf)
 ·obtain ⟨x, rfl⟩ := List.length_eq_one_iff.1 (show xs.length = 1 by omega)
  refine zAB rfl ?_;simp [vON]
 ·refine zAB rfl ?_
  have : xs ≠ [1] := fun e => h (by rw [e]; rfl)
  simp [this]
def und (d : List Int) : List Int := if nv d = 0 then [1] else d
theorem zF6 (d : List Int) : nv (und d) = dn d := by unfold und dn; split <;> simp [nv]
theorem zGK {d : List Int} (h : okN d) : okN (und d) := by unfold und; split; exact okN_cons.2 ⟨by decide, zFT⟩; exact h
theorem zHO (d : List Int) : (und d).length ≤ d.length + 1 := by unfold und; split <;> simp
theorem vS5 : FO 153 Tryz.f153 [.tmp 2] 10 := mkO Tryz.func153 Tryz.ntmps153 Tryz.results153
theorem zF0 (x : RatL) (hx : okR x) (hl : x.den.length < 2147483646) : Fn 153 [vA8 x] (.data (vBK (und x.den))) := by
 have cb := vVD x.den hx.2 (by omega);have hz := zNI (nv x.den);refine zAO vBC hT vS5 (by simp [vA8]) ?_;refine sts ?_;refine zAA cb rfl ?_
 (repeat' (first|refine stp ?_|with_reducible(refine brr ?_ ?_<;>intro h)));all_goals try(conv=>whnf)
 ·refine zAA uAQ rfl ?_
  refine sts ?_;refine zAB rfl ?_;rw [und, if_pos (hz.1 h)]
 ·refine zAB rfl ?_
  rw [und, if_neg (fun e => h (hz.2 e))]
theorem vPK : FO 132 Tryz.f132 [.cell 2 101] 8 := mkO Tryz.func132 Tryz.ntmps132 Tryz.results132
theorem zL7 (x : RatL) (hx : okR x) (hl : x.num.length < 2147483646) : Fn 132 [vA8 x] (.data (vB1 (cz (sg x.neg (nv x.num))))) := by
 have cm := zMC x.neg x.num hx.1 hl;refine zAO vBC hT vPK (by simp [vA8]) ?_;refine sts ?_;refine zAA cm rfl ?_;refine sts ?_;exact zAB rfl rfl
theorem vXN : FO 152 Tryz.f152 [.cell 6 26] 47 := mkO Tryz.func152 Tryz.ntmps152 Tryz.results152
theorem vHO (b : Bool) (xs ys : List Int) (hx : okN xs) (hy : okN ys) (h0 : nv ys ≠ 0) (hl : xs.length < 2147483636) (hl2 : ys.length < 2147483636) : Fn 152 [.bool b, vBK xs, vBK ys] (.data (vA8 (cr (mkRat (sg b (nv xs)) (nv ys))))) := by
 have cm1 := zL9 xs hx (by omega);have cm2 := zL9 ys hy (by omega);have h1 := zAX hx;have h2 := zAX hy;have hone : ∀ n, vBH n = [1] ↔ n = 1 := fun n => ⟨fun h => by rw [← zAY n, h]; rfl, fun h => by rw [h]; rfl⟩
 have hnil : ∀ n, vBH n = [] ↔ n = 0 := fun n => ⟨zFX, fun h => by rw [h]; rfl⟩
 rw [uG6 _ _ h0];generalize nv xs = N at *
 generalize nv ys = D at *
 have cg := uHH (vBH N) (vBH D) (zAW _) (zAW _) (by omega) (by omega);rw [zAY, zAY] at cg;have hg0 : Nat.gcd N D ≠ 0 := fun e => h0 (Nat.eq_zero_of_gcd_eq_zero_right e)
 have hg1 : N = 0 → Nat.gcd N D = D := fun e => by rw [e, Nat.gcd_zero_left]
 have hg2 : D = 1 → Nat.gcd N D = 1 := fun e => by rw [e, Nat.gcd_one_right]
 have hgl : (vBH (Nat.gcd N D)).length ≤ (vBH D).length := zFY (Nat.gcd_le_right _ (by omega));generalize Nat.gcd N D = G at *
 have cd1 := zMA (vBH N) (vBH G) (zAW _) (zAW _) (by omega) (by omega);have cd2 := zMA (vBH D) (vBH G) (zAW _) (zAW _) (by omega) (by omega);rw [zAY, zAY, if_neg hg0, if_neg hg0] at cd1 cd2;have cu1 := vL4 (vBH D) (by omega);have cu2 := vL4 (vBH G) (by omega);have hl3 : (vBH (D / G)).length ≤ (vBH D).length := zFY (Nat.div_le_self ..);have cu3 := vL4 (vBH (D / G)) (by omega);simp only [hone] at cu1 cu2 cu3;refine zAO vBC hT vXN (by simp) ?_;refine sts ?_;refine zAA cm1 rfl ?_
 (repeat' (first|refine stp ?_|with_reducible(refine brr ?_ ?_<;>intro h)));all_goals try(conv=>whnf)
 ·have e := (hnil N).1 (List.length_eq_zero_iff.1 (by omega))
  refine zAB rfl ?_;have e2 := hg1 e;subst e e2;simp [vA8, zC3, Nat.div_self (Nat.pos_of_ne_zero h0)]
 refine zAA cm2 rfl ?_;refine sts ?_;refine zAA cu1 rfl ?_
 (repeat' (first|refine stp ?_|with_reducible(refine brr ?_ ?_<;>intro h)));all_goals try(conv=>whnf)
 ·have e2 := hg2 h
  subst h e2;have hN : N ≠ 0 := fun e => by rw [(hnil N).2 e] at *; simp at *
  refine zAB rfl ?_;simp [vA8, hN]
 have hN : N ≠ 0 := fun e => by rw [(hnil N).2 e] at *; simp at *
 rw [show (b && decide (N ≠ 0)) = b by simp [hN]];refine zAA cg rfl ?_;refine sts ?_;refine zAA cu2 rfl ?_
 (repeat' (first|refine stp ?_|with_reducible(refine brr ?_ ?_<;>intro h)));all_goals try(conv=>whnf)
 ·subst h
  simp only [Nat.div_one];have hD1 : D ≠ 1 := by assumption
  rw [if_neg hD1];refine zAA cu1 rfl ?_
  (repeat' (first|refine stp ?_|with_reducible(refine brr ?_ ?_<;>intro h)));all_goals try(conv=>whnf)
  ·exact absurd h hD1
  ·exact zAB rfl rfl
 ·refine zAA cd1 rfl ?_
  refine sts ?_;refine zAA cd2 rfl ?_;refine sts ?_;refine zAA cu3 rfl ?_
  (repeat' (first|refine stp ?_|with_reducible(refine brr ?_ ?_<;>intro h)));all_goals try(conv=>whnf)
  ·rw [if_pos h]
   exact zAB rfl rfl
  ·rw [if_neg h]
   exact zAB rfl rfl
theorem vS7 : FO 126 Tryz.f126 [.cell 2 26] 10 := mkO Tryz.func126 Tryz.ntmps126 Tryz.results126
theorem zKW (x : RatL) (hx : okR x) (hl : x.num.length < 2147483626) (hl2 : x.den.length < 2147483626) : Fn 126 [vA8 x] (.data (vA8 (cr (qv x)))) := by
 have cu := zF0 x hx (by omega);have hl3 := zHO x.den;have cq := vHO x.neg x.num (und x.den) hx.1 (zGK hx.2) (by rw [zF6]; exact zC9 _) (by omega) (by omega);rw [zF6] at cq;refine zAO vBC hT vS7 (by simp [vA8]) ?_;refine sts ?_;refine zAA cu rfl ?_;refine sts ?_;refine zAA cq rfl ?_;refine sts ?_;exact zAB rfl rfl
theorem vRV {xs ys : List Int} (h1 : okN xs) (h2 : okN ys) (hl : xs.length = ys.length) (h : nv xs = nv ys) : xs = ys := by
 rw [← zKP h1, ← zKP h2, hl, h]
theorem vUY (a b : Nat) : vEF a b = 0 ↔ a = b := by
 unfold vEF
 repeat' split
 all_goals omega
theorem vOW {xs : List Int} (h : okN xs) : vE0 xs = true ↔ xs = vBH (nv xs) := by
 have e : vE0 xs = true ↔ vL0 xs := by
  unfold vE0 vL0;rw [decide_eq_true_eq];by_cases h0 : xs = []
  ·exact ⟨fun _ => ⟨h, Or.inl h0⟩, fun _ => Or.inl h0⟩
  have hl : xs.length ≠ 0 := fun e => h0 (List.length_eq_zero_iff.1 e)
  rw [getElem!_pos xs _ (by omega), List.getLast?_eq_getElem?, List.getElem?_eq_getElem (by omega)];refine ⟨fun h1 => ⟨h, h1.imp id fun h2 => by simpa using h2⟩, fun h1 => h1.2.imp id fun h2 => by simpa using h2⟩
 rw [e];exact ⟨fun h => (zLO h).symm, fun h => by rw [h]; exact zD8 _⟩
theorem uE0 {x : RatL} (h : okN x.num) (hd : x.den = []) : x = ⟨x.neg && decide (nv x.num ≠ 0), vBH (nv x.num), []⟩ ↔ (vE0 x.num = true ∧ (x.neg = true → 0 < x.num.length)) := by
 obtain ⟨b, n, d⟩ := x;dsimp only at *
 subst hd;rw [vOW h];simp only [RatL.mk.injEq, and_true];constructor
 ·rintro ⟨h1, h2⟩
  refine ⟨h2, fun hb => ?_⟩;rw [hb] at h1;have : nv n ≠ 0 := by simpa using h1
  exact List.length_pos_iff.2 fun e => this (by rw [e]; rfl)
 ·rintro ⟨h1, h2⟩
  refine ⟨?_, h1⟩;cases b
  ·rfl
  ·have : nv n ≠ 0 := fun e => by rw [h1, e] at h2; simp [zC3] at h2
   simp [this]
theorem vS4 : FO 94 Tryz.f94 [.tmp 2] 63 := mkO Tryz.func94 Tryz.ntmps94 Tryz.results94
theorem zFZ (x : RatL) (hx : okR x) (hl : x.num.length < 2147483626) (hl2 : x.den.length < 2147483626) : Fn 94 [vA8 x] (.data (.bool (decide (x = cr (qv x))))) := by
 have cv := vZD x.num (by omega);have cc := zKW x hx hl hl2;have hL := zCL (vWI hx (k := max (max x.num.length x.den.length) 1) (by omega) (by omega) (by omega));have ho := zBX (qv x)
 have hx0 : x.den = [] → cr (qv x) = ⟨x.neg && decide (nv x.num ≠ 0), vBH (nv x.num), []⟩ := fun h => by
  unfold qv; rw [h, show dn [] = 1 from rfl, uG6 _ _ (by decide)]; simp
 generalize cr (qv x) = c at *
 have c1 := zMB x.num c.num hx.1 ho.1 (by omega) (by omega);have c2 := zMB x.den c.den hx.2 ho.2 (by omega) (by omega);refine zAO vBC hT vS4 (by simp [vA8]) ?_
 (repeat' (first|refine stp ?_|with_reducible(refine brr ?_ ?_<;>intro h)));all_goals try(conv=>whnf)
 ·refine zAA cv rfl ?_
  have hd : x.den = [] := List.length_eq_zero_iff.1 (by omega);have hx1 := hx0 hd;have key : x = c ↔ (vE0 x.num = true ∧ (x.neg = true → 0 < x.num.length)) := by rw [hx1]; exact uE0 hx.1 hd
  clear hx1 hx0 hL
  (repeat' (first|refine stp ?_|with_reducible(refine brr ?_ ?_<;>intro h)));all_goals try(conv=>whnf)
  ·refine zAB rfl (congrArg PV.bool ?_)
   simp_all
  ·refine zAB rfl (congrArg PV.bool ?_)
   simp_all
  ·refine zAB rfl (congrArg PV.bool ?_)
   simp_all
 ·refine zAA cc rfl ?_
  have n1 : x = c → x.neg = c.neg ∧ x.num = c.num ∧ x.den = c.den := fun e => by rw [← e]; exact ⟨rfl, rfl, rfl⟩
  have e1 := vUY (nv x.num) (nv c.num);have e2 := vUY (nv x.den) (nv c.den)
  (repeat' (first|refine stp ?_|with_reducible(refine brr ?_ ?_<;>intro h)));all_goals try(conv=>whnf)
  ·refine zAA c1 rfl ?_
   (repeat' (first|refine stp ?_|with_reducible(refine brr ?_ ?_<;>intro h)));all_goals try(conv=>whnf)
   ·refine zAA c2 rfl ?_
    refine sts ?_;refine zAB rfl (congrArg PV.bool ?_);rw [vON];refine decide_eq_decide.2 ⟨fun h4 => ?_, fun h4 => e2.2 (by rw [(n1 h4).2.2])⟩;have a1 := vRV hx.1 ho.1 (by omega) (e1.1 (by assumption));have a2 := vRV hx.2 ho.2 (by omega) (e2.1 h4);have a3 : x.neg = c.neg := by assumption
    cases x; cases c; simp_all
   ·refine zAB rfl (congrArg PV.bool ?_)
    exact (decide_eq_false fun e => h (e1.2 (by rw [(n1 e).2.1]))).symm
  ·refine zAB rfl (congrArg PV.bool ?_)
   exact (decide_eq_false fun e => h (by rw [(n1 e).2.2])).symm
  ·refine zAB rfl (congrArg PV.bool ?_)
   exact (decide_eq_false fun e => h (by rw [(n1 e).2.1])).symm
  ·refine zAB rfl (congrArg PV.bool ?_)
   exact (decide_eq_false fun e => h (n1 e).1).symm
theorem vS3 : FO 161 Tryz.f161 [.cell 2 26] 9 := mkO Tryz.func161 Tryz.ntmps161 Tryz.results161
theorem vZB (z : Int) (hl : (vBH z.natAbs).length < 2147483626) : Fn 161 [vB1 (cz z)] (.data (vA8 (cr z))) := by
 have cq := vHO (cz z).neg (cz z).mag [1] (zAW _) (by rw [okN_cons]; exact ⟨by decide, zFT⟩) (by decide) (by show (vBH _).length < _; omega) (by decide);rw [show sg (cz z).neg (nv (cz z).mag) = z from zMK z, show nv [1] = 1 from rfl, Rat.mkRat_one] at cq;refine zAO vBC hT vS3 (by simp [vB1]) ?_;refine sts ?_;refine zAA uAQ rfl ?_;refine sts ?_;refine zAA cq rfl ?_;refine sts ?_;exact zAB rfl rfl
theorem uF5 : FO 134 Tryz.f134 [.cell 2 26] 6 := mkO Tryz.func134 Tryz.ntmps134 Tryz.results134
theorem uD4 (x : Int) (hx : -9223372036854775808 ≤ x ∧ x < 9223372036854775808) : Fn 134 [.int .i64 x] (.data (vA8 (cr x))) := by
 have hle : x.natAbs < pw 2 := by rw [zA6, zA6, zDX]; omega
 have hl := zCH hle;refine zAO vBC hT uF5 (by simp) ?_;refine sts ?_;refine zAA (uJN x hx) rfl ?_;refine sts ?_;refine zAA (vZB x (by omega)) rfl ?_;refine sts ?_;exact zAB rfl rfl
theorem vXM : FO 98 Tryz.f98 [.tmp 2] 6 := mkO Tryz.func98 Tryz.ntmps98 Tryz.results98
theorem zE2 (x : RatL) (hx : okR x) (hl : x.num.length < 2147483636) : Fn 98 [vA8 x] (.data (.int .i64 (vEU (qv x)))) := by
 have cs := zL7 x hx (by omega);have h2 := zAX hx.1;have ci := vL5 (cz (sg x.neg (nv x.num))) (zAW _) (by show (vBH _).length < _; rw [zGH]; omega);rw [zMK, ← vRP] at ci;refine zAO vBC hT vXM (by simp [vA8]) ?_;refine sts ?_;refine zAA cs rfl ?_;refine sts ?_;refine zAA ci rfl ?_;refine sts ?_;exact zAB rfl rfl
theorem vS6 : FO 128 Tryz.f128 [.cell 4 101, .cell 5 101] 22 := mkO Tryz.func128 Tryz.ntmps128 Tryz.results128
theorem vOE (x y : RatL) (hx : okR x) (hy : okR y) (hl1 : x.num.length < 1000000000) (hl2 : x.den.length < 1000000000) (hl3 : y.num.length < 1000000000) (hl4 : y.den.length < 1000000000) : Fn 128 [vA8 x, vA8 y] (.data (.tup [vB1 (cz (sg x.neg (nv x.num) * dn y.den)), vB1 (cz (sg y.neg (nv y.num) * dn x.den))])) := by
 have cs1 := zL7 x hx (by omega);have cs2 := zL7 y hy (by omega);have cu1 := zF0 x hx (by omega);have cu2 := zF0 y hy (by omega);have h1 := zAX hx.1;have h2 := zAX hy.1;have u1 := zHO x.den;have u2 := zHO y.den;have cm1 := uAX (cz (sg x.neg (nv x.num))) ⟨false, und y.den⟩ (zAW _) (zGK hy.2) (by show (vBH _).length < _; rw [zGH]; omega) (by show (und _).length < _; omega);have cm2 := uAX (cz (sg y.neg (nv y.num))) ⟨false, und x.den⟩ (zAW _) (zGK hx.2) (by show (vBH _).length < _; rw [zGH]; omega) (by show (und _).length < _; omega);rw [zMK, show iv ⟨false, und y.den⟩ = dn y.den by show sg false _ = _; rw [zF6]; rfl] at cm1;rw [zMK, show iv ⟨false, und x.den⟩ = dn x.den by show sg false _ = _; rw [zF6]; rfl] at cm2;refine zAO vBC hT vS6 (by simp [vA8]) ?_;refine sts ?_;refine zAA cu1 rfl ?_;refine sts ?_;refine zAA cu2 rfl ?_;refine sts ?_;refine zAA cs1 rfl ?_;refine sts ?_;refine zAA cm1 rfl ?_;refine sts ?_;refine zAA cs2 rfl ?_;refine sts ?_;refine zAA cm2 rfl ?_;refine sts ?_;exact zAB rfl rfl
theorem uDV (X Y : Int) : (X - Y).sign = vEF X Y := by
 have := zGG (X - Y);unfold vEF
 repeat' split
 all_goals omega
theorem vN4 {z1 z2 : Int} {d1 d2 : Nat} (h1 : d1 ≠ 0) (h2 : d2 ≠ 0) (h : z1.sign < z2.sign) : z1 * d2 < z2 * d1 := by
 have e1 : (z1 * d2).sign = z1.sign := by rw [Int.sign_mul, Int.sign_natCast_of_ne_zero h2, Int.mul_one]
 have e2 : (z2 * d1).sign = z2.sign := by rw [Int.sign_mul, Int.sign_natCast_of_ne_zero h1, Int.mul_one]
 have := zGG (z1 * d2);have := zGG (z2 * d1);omega
theorem vG3 {z : Int} {d : List Int} {j : Nat} {xs : List Int} (h1 : okN xs) (h : z.natAbs = nv xs) (hd : okN d) (hj : xs.length + d.length + 1 ≤ j) : (vBH (z * (dn d : Nat)).natAbs).length ≤ j := by
 refine zCH ?_;rw [Int.natAbs_mul, h, Int.natAbs_natCast];exact Nat.lt_of_lt_of_le (zDP (zFV h1) (uG3 hd (Nat.le_succ _) (by omega))) (zGA (by omega))
theorem uCF : FO 95 Tryz.f95 [.tmp 4] 28 := mkO Tryz.func95 Tryz.ntmps95 Tryz.results95
theorem uHF (x y : RatL) (hx : okR x) (hy : okR y) (hl1 : x.num.length < 1000000000) (hl2 : x.den.length < 1000000000) (hl3 : y.num.length < 1000000000) (hl4 : y.den.length < 1000000000) : Fn 95 [vA8 x, vA8 y] (.data (.int .i64 (vEU (qv x - qv y)))) := by
 have cs1 := zE2 x hx (by omega);have cs2 := zE2 y hy (by omega);have cc := vOE x y hx hy hl1 hl2 hl3 hl4;have k1 := vG3 (z := sg x.neg (nv x.num)) hx.1 (zGH ..) hy.2 (Nat.le_refl _);have k2 := vG3 (z := sg y.neg (nv y.num)) hy.1 (zGH ..) hx.2 (Nat.le_refl _);have ci := uHQ (cz (sg x.neg (nv x.num) * dn y.den)) (cz (sg y.neg (nv y.num) * dn x.den)) (zAW _) (zAW _) (by show (vBH _).length < _; omega) (by show (vBH _).length < _; omega);rw [vWR, uDV];rw [zMK, zMK] at ci;have m1 := vN4 (z1 := sg x.neg (nv x.num)) (z2 := sg y.neg (nv y.num)) (zC9 x.den) (zC9 y.den);have m2 := vN4 (z1 := sg y.neg (nv y.num)) (z2 := sg x.neg (nv x.num)) (zC9 y.den) (zC9 x.den);rw [vRP] at cs1 cs2;refine zAO vBC hT uCF (by simp [vA8]) ?_;refine sts ?_;refine zAA cs1 rfl ?_;refine sts ?_;refine zAA cs2 rfl ?_
 (repeat' (first|refine stp ?_|with_reducible(refine brr ?_ ?_<;>intro h)));all_goals try(conv=>whnf)
 ·refine zAB rfl ?_
  have := m1 h;unfold vEF; rw [if_pos this]
 ·refine zAB rfl ?_
  have := m2 (by omega);unfold vEF; rw [if_neg (by omega), if_pos this]
 ·refine zAA cc rfl ?_
  refine sts ?_;refine zAA ci rfl ?_;refine sts ?_;exact zAB rfl rfl
theorem uCG : FO 158 Tryz.f158 [.cell 4 26] 27 := mkO Tryz.func158 Tryz.ntmps158 Tryz.results158
theorem vOF (x y : RatL) (hx : okR x) (hy : okR y) (hl1 : x.num.length < 1000000000) (hl2 : x.den.length < 1000000000) (hl3 : y.num.length < 1000000000) (hl4 : y.den.length < 1000000000) : Fn 158 [vA8 x, vA8 y] (.data (vA8 (cr (qv x + qv y)))) := by
 have cc := vOE x y hx hy hl1 hl2 hl3 hl4;have cu1 := zF0 x hx (by omega);have cu2 := zF0 y hy (by omega);have u1 := zHO x.den;have u2 := zHO y.den;have k1 := vG3 (z := sg x.neg (nv x.num)) hx.1 (zGH ..) hy.2 (Nat.le_refl _);have k2 := vG3 (z := sg y.neg (nv y.num)) hy.1 (zGH ..) hx.2 (Nat.le_refl _);have ca := uHR (cz (sg x.neg (nv x.num) * dn y.den)) (cz (sg y.neg (nv y.num) * dn x.den)) (zAW _) (zAW _) (by show (vBH _).length < _; omega) (by show (vBH _).length < _; omega);rw [zMK, zMK] at ca;have cm := vOG (und x.den) (und y.den) (zGK hx.2) (zGK hy.2) (by omega) (by omega);rw [zF6, zF6] at cm;rw [uFV]
 have kl : (vBH (sg x.neg (nv x.num) * (dn y.den : Nat) + sg y.neg (nv y.num) * (dn x.den : Nat)).natAbs).length < 2000000010 := by
  obtain ⟨K, hK⟩ : ∃ K : Nat, K = 2000000003 := ⟨_, rfl⟩
  have e1 : (sg x.neg (nv x.num) * (dn y.den : Nat)).natAbs < pw K := by
   have := zFV (zAW (sg x.neg (nv x.num) * (dn y.den : Nat)).natAbs);rw [zAY] at this; exact Nat.lt_of_lt_of_le this (zGA (by omega))
  have e2 : (sg y.neg (nv y.num) * (dn x.den : Nat)).natAbs < pw K := by
   have := zFV (zAW (sg y.neg (nv y.num) * (dn x.den : Nat)).natAbs);rw [zAY] at this; exact Nat.lt_of_lt_of_le this (zGA (by omega))
  have e3 := zA6 K;have := zCH (n := (sg x.neg (nv x.num) * (dn y.den : Nat) + sg y.neg (nv y.num) * (dn x.den : Nat)).natAbs) (k := K + 1) (by omega);omega
 have hd : dn x.den * dn y.den ≠ 0 := Nat.mul_ne_zero (zC9 _) (zC9 _)
 have k4 : (vBH (dn x.den * dn y.den)).length ≤ x.den.length + y.den.length + 2 := by
  have := zER (zGK hx.2) (zGK hy.2); rw [zF6, zF6] at this; omega
 generalize sg x.neg (nv x.num) * (dn y.den : Nat) + sg y.neg (nv y.num) * (dn x.den : Nat) = S at *
 generalize dn x.den * dn y.den = D at *
 have cq := vHO (cz S).neg (cz S).mag (vBH D) (zAW _) (zAW _) (by rw [zAY]; exact hd) (by show (vBH _).length < _; omega) (by omega);rw [show sg (cz S).neg (nv (cz S).mag) = S from zMK S, zAY] at cq;refine zAO vBC hT uCG (by simp [vA8]) ?_;refine sts ?_;refine zAA cc rfl ?_;refine sts ?_;refine zAA ca rfl ?_;refine sts ?_;refine zAA cu1 rfl ?_;refine sts ?_;refine zAA cu2 rfl ?_;refine sts ?_;refine zAA cm rfl ?_;refine sts ?_;refine zAA cq rfl ?_;refine sts ?_;exact zAB rfl rfl
theorem uCE : FO 159 Tryz.f159 [.cell 4 26] 21 := mkO Tryz.func159 Tryz.ntmps159 Tryz.results159
theorem zL8 (x y : RatL) (hx : okR x) (hy : okR y) (hl1 : x.num.length < 1000000000) (hl2 : x.den.length < 1000000000) (hl3 : y.num.length < 1000000000) (hl4 : y.den.length < 1000000000) : Fn 159 [vA8 x, vA8 y] (.data (vA8 (cr (qv x * qv y)))) := by
 have cu1 := zF0 x hx (by omega);have cu2 := zF0 y hy (by omega);have u1 := zHO x.den;have u2 := zHO y.den;have cm := vOG (und x.den) (und y.den) (zGK hx.2) (zGK hy.2) (by omega) (by omega);have cn := vOG x.num y.num hx.1 hy.1 (by omega) (by omega);rw [zF6, zF6] at cm;have k3 := zER hx.1 hy.1
 have k4 : (vBH (dn x.den * dn y.den)).length ≤ x.den.length + y.den.length + 2 := by
  have := zER (zGK hx.2) (zGK hy.2); rw [zF6, zF6] at this; omega
 have hd : dn x.den * dn y.den ≠ 0 := Nat.mul_ne_zero (zC9 _) (zC9 _);have cq := vHO (x.neg != y.neg) (vBH (nv x.num * nv y.num)) (vBH (dn x.den * dn y.den)) (zAW _) (zAW _) (by rw [zAY]; exact hd) (by omega) (by omega);rw [zAY, zAY, vZT, ← uFU] at cq;refine zAO vBC hT uCE (by simp [vA8]) ?_;refine sts ?_;refine zAA cn rfl ?_;refine sts ?_;refine zAA cu1 rfl ?_;refine sts ?_;refine zAA cu2 rfl ?_;refine sts ?_;refine zAA cm rfl ?_;refine sts ?_;refine zAA cq rfl ?_;refine sts ?_;exact zAB rfl rfl
end Go.PI.Tryz
