/-
  Rationals: Of, Sign, Cmp, Add, Mul.
-/
import Derived.Test.YtigeioodiljlaaaGreatCNA
import Derived.Test.YtigeioodiljlaaaGreatCPD
set_option linter.unusedVariables false
set_option linter.unusedSimpArgs false
set_option linter.unnecessarySimpa false
namespace Go.PI.Tryz
open Go.Proofs Go.PI
theorem ok_imake : FO 121 Tryz.f121 [.cell 4 87] 16 := mkO Tryz.func121 Tryz.ntmps121 Tryz.results121
theorem zJX (b : Bool) (xs : List Int) (hx : okN xs) (hl : xs.length < 2147483646) : Fn 121 [.bool b, encN xs] (.data (encInt (cz (sg b (nv xs))))) := by
 rw [cz_sg];have ct := zJU xs hx (by omega);have hz : lims (nv xs) = [] ↔ nv xs = 0 := ⟨zB0, fun h => by rw [h]; rfl⟩;refine zAO hmix hT ok_imake (by simp) ?_;refine sts ?_;refine zAA ct rfl ?_
 (repeat' (first|refine stp ?_|with_reducible(refine brr ?_ ?_<;>intro h)));all_goals try(conv=>whnf)
 ·refine zAB rfl ?_
  subst h;have : (0 < (lims (nv xs)).length) ↔ nv xs ≠ 0 := by rw [List.length_pos_iff, ne_eq, hz]
  simp [encInt, this]
 ·subst h
  exact zAB rfl rfl
theorem ok_iof : FO 109 Tryz.f109 [.cell 2 87] 14 := mkO Tryz.func109 Tryz.ntmps109 Tryz.results109
theorem c_iof (x : Int) (hx : -9223372036854775808 ≤ x ∧ x < 9223372036854775808) : Fn 109 [.int .i64 x] (.data (encInt (cz x))) := by
 refine zAO hmix hT ok_iof (by simp) ?_
 (repeat' (first|refine stp ?_|with_reducible(refine brr ?_ ?_<;>intro h)));all_goals try(conv=>whnf)
 ·refine zFF ?_
  refine sts ?_;refine zFF ?_;have e : (0 - x % 18446744073709551616) % 18446744073709551616 = ((x.natAbs : Nat) : Int) := by omega
  refine sts ?_;rw [e];refine zAA (c_nof x.natAbs (by omega)) rfl ?_;refine sts ?_;refine zAB rfl ?_;simp [encInt, cz, h]
 ·refine zAA (c_nof x.natAbs (by omega)) (by rw [Int.natAbs_of_nonneg (by omega)]; rfl) ?_
  refine sts ?_;refine zAB rfl ?_;simp [encInt, cz, h]
theorem ok_isign : FO 91 Tryz.f91 [.tmp 2] 11 := mkO Tryz.func91 Tryz.ntmps91 Tryz.results91
theorem c_isign (x : IntL) (hx : okN x.mag) (hl : x.mag.length < 2147483646) : Fn 91 [encInt x] (.data (.int .i64 (iv x).sign)) := by
 have cb := c_nbits x.mag hx (by omega);have hz := zK0 (nv x.mag);unfold iv;rw [sgn_sg];refine zAO hmix hT ok_isign (by simp [encInt]) ?_;refine sts ?_;refine zAA cb rfl ?_
 (repeat' (first|refine stp ?_|with_reducible(refine brr ?_ ?_<;>intro h)));all_goals try(conv=>whnf)
 ·refine zAB rfl ?_
  rw [if_pos (hz.1 h)]
 ·refine zAB rfl ?_
  rw [if_neg (by omega), h, if_pos rfl]
 ·refine zAB rfl ?_
  rw [if_neg (by omega), h]; rfl
theorem zET (z : Int) : z.sign = -1 ∧ z < 0 ∨ z.sign = 0 ∧ z = 0 ∨ z.sign = 1 ∧ 0 < z := by
 rcases Int.lt_trichotomy z 0 with h | h | h
 ·exact Or.inl ⟨Int.sign_eq_neg_one_of_neg h, h⟩
 ·exact Or.inr (Or.inl ⟨by rw [h]; rfl, h⟩)
 ·exact Or.inr (Or.inr ⟨Int.sign_eq_one_of_pos h, h⟩)
theorem cmpI_neg {x y : IntL} (h1 : iv x < 0) (h2 : iv y < 0) : cmpI (iv x) (iv y) = cmpI (nv y.mag) (nv x.mag) := by
 unfold iv sg at *
 unfold cmpI
 split at h1 <;> split at h2 <;> try omega
 rename_i e1 e2
 rw [if_pos e1, if_pos e2]
 repeat' split
 all_goals omega
theorem cmpI_pos {x y : IntL} (h1 : 0 ≤ iv x) (h2 : 0 ≤ iv y) : cmpI (iv x) (iv y) = cmpI (nv x.mag) (nv y.mag) := by
 unfold iv sg at *
 unfold cmpI
 split at h1 <;> split at h2 <;> rename_i e1 e2 <;> simp only [e1, e2, if_true, if_false, Bool.false_eq_true, ite_true, ite_false]
 all_goals repeat' split
 all_goals omega
theorem ok_icmp : FO 89 Tryz.f89 [.tmp 4] 32 := mkO Tryz.func89 Tryz.ntmps89 Tryz.results89
theorem c_icmp (x y : IntL) (hx : okN x.mag) (hy : okN y.mag) (hl : x.mag.length < 2147483646) (hl2 : y.mag.length < 2147483646) : Fn 89 [encInt x, encInt y] (.data (.int .i64 (cmpI (iv x) (iv y)))) := by
 have cs1 := c_isign x hx hl;have cs2 := c_isign y hy hl2;have cc1 := zJW x.mag y.mag hx hy (by omega) (by omega);have cc2 := zJW y.mag x.mag hy hx (by omega) (by omega);have k1 := zET (iv x);have k2 := zET (iv y);refine zAO hmix hT ok_icmp (by simp [encInt]) ?_;refine sts ?_;refine zAA cs1 rfl ?_;refine sts ?_;refine zAA cs2 rfl ?_
 (repeat' (first|refine stp ?_|with_reducible(refine brr ?_ ?_<;>intro h)));all_goals try(conv=>whnf)
 ·refine zAB rfl ?_
  rw [show cmpI (iv x) (iv y) = -1 by unfold cmpI; rw [if_pos (by omega)]]
 ·refine zAB rfl ?_
  rw [show cmpI (iv x) (iv y) = 1 by unfold cmpI; rw [if_neg (by omega), if_pos (by omega)]]
 ·refine zAA cc2 rfl ?_
  refine sts ?_;refine zAB rfl ?_;rw [cmpI_neg (by omega) (by omega)]
 ·refine zAA cc1 rfl ?_
  refine sts ?_;refine zAB rfl ?_;rw [cmpI_pos (by omega) (by omega)]
theorem zDU {xs : List Int} (h : okN xs) {n : Nat} (hn : n ≤ nv xs) : (lims n).length ≤ xs.length := zA4 (Nat.lt_of_le_of_lt hn (zC6 h))
theorem zF9 {xs ys : List Int} (h1 : okN xs) (h2 : okN ys) : (lims (nv xs + nv ys)).length ≤ max xs.length ys.length + 1 :=
 lims_add_len (Nat.lt_of_lt_of_le (zC6 h1) (zDP (Nat.le_max_left ..))) (Nat.lt_of_lt_of_le (zC6 h2) (zDP (Nat.le_max_right ..)))
theorem zB7 {xs ys : List Int} (h1 : okN xs) (h2 : okN ys) : (lims (nv xs * nv ys)).length ≤ xs.length + ys.length := zA4 (zC1 (zC6 h1) (zC6 h2))
theorem ok_iadd : FO 122 Tryz.f122 [.cell 4 87] 40 := mkO Tryz.func122 Tryz.ntmps122 Tryz.results122
theorem c_iadd (x y : IntL) (hx : okN x.mag) (hy : okN y.mag) (hl : x.mag.length < 2147483644) (hl2 : y.mag.length < 2147483644) : Fn 122 [encInt x, encInt y] (.data (encInt (cz (iv x + iv y)))) := by
 have ca := c_nadd x.mag y.mag hx hy (by omega) (by omega);have cc := zJW x.mag y.mag hx hy (by omega) (by omega);have cs1 := c_nsub x.mag y.mag hx hy (by omega) (by omega);have cs2 := c_nsub y.mag x.mag hy hx (by omega) (by omega);refine zAO hmix hT ok_iadd (by simp [encInt]) ?_
 (repeat' (first|refine stp ?_|with_reducible(refine brr ?_ ?_<;>intro h)));all_goals try(conv=>whnf)
 ·refine zAA ca rfl ?_
  refine sts ?_;have cm := zJX x.neg (lims (nv x.mag + nv y.mag)) (zAI _) (by have := zAM hx; have := zF9 hx hy; omega);rw [zAJ] at cm;refine zAA cm rfl ?_;refine sts ?_;refine zAB rfl ?_;rw [show iv x + iv y = sg x.neg (nv x.mag + nv y.mag) by unfold iv; rw [← h]; unfold sg; split <;> omega]; rfl
 ·refine zAA cc rfl ?_
  have hlt := zJK (nv x.mag) (nv y.mag)
  (repeat' (first|refine stp ?_|with_reducible(refine brr ?_ ?_<;>intro h)));all_goals try(conv=>whnf)
  ·unfold subR at cs2
   rw [if_neg (by omega)] at cs2;refine zAA cs2 rfl ?_;refine sts ?_;have cm := zJX y.neg (lims (nv y.mag - nv x.mag)) (zAI _) (by have := zDU hy (n := nv y.mag - nv x.mag) (by omega); omega);rw [zAJ] at cm;refine zAA cm rfl ?_;refine sts ?_;refine zAB rfl ?_
   rw [show iv x + iv y = sg y.neg (nv y.mag - nv x.mag) by have : x.neg = !y.neg := by (cases hh : x.neg <;> cases hh' : y.neg <;> simp_all)
                                                            unfold iv; rw [this, sg_not]; unfold sg; split <;> omega]
   rfl
  ·unfold subR at cs1
   rw [if_neg (by omega)] at cs1;refine zAA cs1 rfl ?_;refine sts ?_;have cm := zJX x.neg (lims (nv x.mag - nv y.mag)) (zAI _) (by have := zDU hx (n := nv x.mag - nv y.mag) (by omega); omega);rw [zAJ] at cm;refine zAA cm rfl ?_;refine sts ?_;refine zAB rfl ?_
   rw [show iv x + iv y = sg x.neg (nv x.mag - nv y.mag) by have : y.neg = !x.neg := by (cases hh : x.neg <;> cases hh' : y.neg <;> simp_all)
                                                            unfold iv; rw [this, sg_not]; unfold sg; split <;> omega]
   rfl
theorem ok_imul : FO 119 Tryz.f119 [.cell 4 87] 16 := mkO Tryz.func119 Tryz.ntmps119 Tryz.results119
theorem c_imul (x y : IntL) (hx : okN x.mag) (hy : okN y.mag) (hl : x.mag.length < 1073741818) (hl2 : y.mag.length < 1073741818) : Fn 119 [encInt x, encInt y] (.data (encInt (cz (iv x * iv y)))) := by
 have ca := c_nmul x.mag y.mag hx hy (by omega) (by omega);refine zAO hmix hT ok_imul (by simp [encInt]) ?_;refine sts ?_;refine zAA ca rfl ?_;refine sts ?_;have cm := zJX (x.neg != y.neg) (lims (nv x.mag * nv y.mag)) (zAI _) (by have := zB7 hx hy; omega);rw [zAJ] at cm;refine zAA cm rfl ?_;refine sts ?_;refine zAB rfl ?_;rw [sg_mul]; rfl
end Go.PI.Tryz
namespace Go.PI.Tryz
open Go.Proofs Go.PI
theorem ok_qone : FO 127 Tryz.f127 [.tmp 0] 2 := mkO Tryz.func127 Tryz.ntmps127 Tryz.results127
theorem c_qone : Fn 127 [] (.data (encN [1])) := by
 refine zAO hmix hT ok_qone (by simp) ?_;refine sts ?_;exact zAB rfl rfl
theorem ok_qunit : FO 130 Tryz.f130 [.tmp 2] 12 := mkO Tryz.func130 Tryz.ntmps130 Tryz.results130
theorem c_qunit (xs : List Int) (hl : xs.length < 2147483646) : Fn 130 [encN xs] (.data (.bool (decide (xs = [1])))) := by
 refine zAO hmix hT ok_qunit (by simp) ?_
 (repeat' (first|refine stp ?_|with_reducible(refine brr ?_ ?_<;>intro h)));all_goals try(conv=>whnf)
 ·obtain ⟨x, rfl⟩ := List.length_eq_one_iff.1 (show xs.length = 1 by omega)
  refine zAB rfl ?_;simp [zIM]
 ·refine zAB rfl ?_
  have : xs ≠ [1] := fun e => h (by rw [e]; rfl)
  simp [this]
def und (d : List Int) : List Int := if nv d = 0 then [1] else d
theorem zC9 (d : List Int) : nv (und d) = dn d := by unfold und dn; split <;> simp [nv]
theorem zDJ {d : List Int} (h : okN d) : okN (und d) := by unfold und; split; exact okN_cons.2 ⟨by decide, zEK⟩; exact h
theorem zDG (d : List Int) : (und d).length ≤ d.length + 1 := by unfold und; split <;> simp
theorem ok_qunder : FO 111 Tryz.f111 [.tmp 2] 10 := mkO Tryz.func111 Tryz.ntmps111 Tryz.results111
theorem zEQ (x : RatL) (hx : okR x) (hl : x.den.length < 2147483646) : Fn 111 [encRat x] (.data (encN (und x.den))) := by
 have cb := c_nbits x.den hx.2 (by omega);have hz := zK0 (nv x.den);refine zAO hmix hT ok_qunder (by simp [encRat]) ?_;refine sts ?_;refine zAA cb rfl ?_
 (repeat' (first|refine stp ?_|with_reducible(refine brr ?_ ?_<;>intro h)));all_goals try(conv=>whnf)
 ·refine zAA c_qone rfl ?_
  refine sts ?_;refine zAB rfl ?_;rw [und, if_pos (hz.1 h)]
 ·refine zAB rfl ?_
  rw [und, if_neg (fun e => h (hz.2 e))]
theorem ok_qsigned : FO 92 Tryz.f92 [.cell 2 87] 8 := mkO Tryz.func92 Tryz.ntmps92 Tryz.results92
theorem zJT (x : RatL) (hx : okR x) (hl : x.num.length < 2147483646) : Fn 92 [encRat x] (.data (encInt (cz (sg x.neg (nv x.num))))) := by
 have cm := zJX x.neg x.num hx.1 hl;refine zAO hmix hT ok_qsigned (by simp [encRat]) ?_;refine sts ?_;refine zAA cm rfl ?_;refine sts ?_;exact zAB rfl rfl
theorem ok_qquot : FO 110 Tryz.f110 [.cell 6 27] 47 := mkO Tryz.func110 Tryz.ntmps110 Tryz.results110
theorem c_qquot (b : Bool) (xs ys : List Int) (hx : okN xs) (hy : okN ys) (h0 : nv ys ≠ 0) (hl : xs.length < 2147483636) (hl2 : ys.length < 2147483636) : Fn 110 [.bool b, encN xs, encN ys] (.data (encRat (cr (mkRat (sg b (nv xs)) (nv ys))))) := by
 have cm1 := zJU xs hx (by omega);have cm2 := zJU ys hy (by omega);have h1 := zAM hx;have h2 := zAM hy;have hone : ∀ n, lims n = [1] ↔ n = 1 := fun n => ⟨fun h => by rw [← zAJ n, h]; rfl, fun h => by rw [h]; rfl⟩
 have hnil : ∀ n, lims n = [] ↔ n = 0 := fun n => ⟨zB0, fun h => by rw [h]; rfl⟩
 rw [cr_mk _ _ h0];generalize nv xs = N at *
 generalize nv ys = D at *
 have cg := c_ngcd (lims N) (lims D) (zAI _) (zAI _) (by omega) (by omega);rw [zAJ, zAJ] at cg;have hg0 : Nat.gcd N D ≠ 0 := fun e => h0 (Nat.eq_zero_of_gcd_eq_zero_right e)
 have hg1 : N = 0 → Nat.gcd N D = D := fun e => by rw [e, Nat.gcd_zero_left]
 have hg2 : D = 1 → Nat.gcd N D = 1 := fun e => by rw [e, Nat.gcd_one_right]
 have hgl : (lims (Nat.gcd N D)).length ≤ (lims D).length := zCI (Nat.gcd_le_right _ (by omega));generalize Nat.gcd N D = G at *
 have cd1 := zJV (lims N) (lims G) (zAI _) (zAI _) (by omega) (by omega);have cd2 := zJV (lims D) (lims G) (zAI _) (zAI _) (by omega) (by omega);rw [zAJ, zAJ, if_neg hg0, if_neg hg0] at cd1 cd2;have cu1 := c_qunit (lims D) (by omega);have cu2 := c_qunit (lims G) (by omega);have hl3 : (lims (D / G)).length ≤ (lims D).length := zCI (Nat.div_le_self ..);have cu3 := c_qunit (lims (D / G)) (by omega);simp only [hone] at cu1 cu2 cu3;refine zAO hmix hT ok_qquot (by simp) ?_;refine sts ?_;refine zAA cm1 rfl ?_
 (repeat' (first|refine stp ?_|with_reducible(refine brr ?_ ?_<;>intro h)));all_goals try(conv=>whnf)
 ·have e := (hnil N).1 (List.length_eq_zero_iff.1 (by omega))
  refine zAB rfl ?_;have e2 := hg1 e;subst e e2;simp [encRat, zCD, Nat.div_self (Nat.pos_of_ne_zero h0)]
 refine zAA cm2 rfl ?_;refine sts ?_;refine zAA cu1 rfl ?_
 (repeat' (first|refine stp ?_|with_reducible(refine brr ?_ ?_<;>intro h)));all_goals try(conv=>whnf)
 ·have e2 := hg2 h
  subst h e2;have hN : N ≠ 0 := fun e => by rw [(hnil N).2 e] at *; simp at *
  refine zAB rfl ?_;simp [encRat, hN]
 have hN : N ≠ 0 := fun e => by rw [(hnil N).2 e] at *; simp at *
 rw [show (b && decide (N ≠ 0)) = b by simp [hN]];refine zAA cg rfl ?_;refine sts ?_;refine zAA cu2 rfl ?_
 (repeat' (first|refine stp ?_|with_reducible(refine brr ?_ ?_<;>intro h)));all_goals try(conv=>whnf)
 ·subst h
  simp only [Nat.div_one];have hD1 : D ≠ 1 := by assumption
  rw [if_neg hD1];refine zAA cu1 rfl ?_
  (repeat' (first|refine stp ?_|with_reducible(refine brr ?_ ?_<;>intro h)));all_goals try(conv=>whnf)
  ·exact absurd h hD1
  ·exact zAB rfl rfl
 ·refine zAA cd1 rfl ?_
  refine sts ?_;refine zAA cd2 rfl ?_;refine sts ?_;refine zAA cu3 rfl ?_
  (repeat' (first|refine stp ?_|with_reducible(refine brr ?_ ?_<;>intro h)));all_goals try(conv=>whnf)
  ·rw [if_pos h]
   exact zAB rfl rfl
  ·rw [if_neg h]
   exact zAB rfl rfl
theorem ok_qcanon : FO 80 Tryz.f80 [.cell 2 27] 10 := mkO Tryz.func80 Tryz.ntmps80 Tryz.results80
theorem zIK (x : RatL) (hx : okR x) (hl : x.num.length < 2147483626) (hl2 : x.den.length < 2147483626) : Fn 80 [encRat x] (.data (encRat (cr (qv x)))) := by
 have cu := zEQ x hx (by omega);have hl3 := zDG x.den;have cq := c_qquot x.neg x.num (und x.den) hx.1 (zDJ hx.2) (by rw [zC9]; exact zB8 _) (by omega) (by omega);rw [zC9] at cq;refine zAO hmix hT ok_qcanon (by simp [encRat]) ?_;refine sts ?_;refine zAA cu rfl ?_;refine sts ?_;refine zAA cq rfl ?_;refine sts ?_;exact zAB rfl rfl
theorem same_nv {xs ys : List Int} (h1 : okN xs) (h2 : okN ys) (hl : xs.length = ys.length) (h : nv xs = nv ys) : xs = ys := by
 rw [← zH9 h1, ← zH9 h2, hl, h]
theorem cmpI_eq (a b : Nat) : cmpI a b = 0 ↔ a = b := by
 unfold cmpI
 repeat' split
 all_goals omega
theorem validN_iff {xs : List Int} (h : okN xs) : validN xs = true ↔ xs = lims (nv xs) := by
 have e : validN xs = true ↔ canN xs := by
  unfold validN canN;rw [decide_eq_true_eq];by_cases h0 : xs = []
  ·exact ⟨fun _ => ⟨h, Or.inl h0⟩, fun _ => Or.inl h0⟩
  have hl : xs.length ≠ 0 := fun e => h0 (List.length_eq_zero_iff.1 e)
  rw [getElem!_pos xs _ (by omega), List.getLast?_eq_getElem?, List.getElem?_eq_getElem (by omega)];refine ⟨fun h1 => ⟨h, h1.imp id fun h2 => by simpa using h2⟩, fun h1 => h1.2.imp id fun h2 => by simpa using h2⟩
 rw [e];exact ⟨fun h => (zI8 h).symm, fun h => by rw [h]; exact zCZ _⟩
theorem valid0 {x : RatL} (h : okN x.num) (hd : x.den = []) : x = ⟨x.neg && decide (nv x.num ≠ 0), lims (nv x.num), []⟩ ↔ (validN x.num = true ∧ (x.neg = true → 0 < x.num.length)) := by
 obtain ⟨b, n, d⟩ := x;dsimp only at *
 subst hd;rw [validN_iff h];simp only [RatL.mk.injEq, and_true];constructor
 ·rintro ⟨h1, h2⟩
  refine ⟨h2, fun hb => ?_⟩;rw [hb] at h1;have : nv n ≠ 0 := by simpa using h1
  exact List.length_pos_iff.2 fun e => this (by rw [e]; rfl)
 ·rintro ⟨h1, h2⟩
  refine ⟨?_, h1⟩;cases b
  ·rfl
  ·have : nv n ≠ 0 := fun e => by rw [h1, e] at h2; simp [zCD] at h2
   simp [this]
theorem ok_qvalid : FO 41 Tryz.f41 [.tmp 2] 63 := mkO Tryz.func41 Tryz.ntmps41 Tryz.results41
theorem zGO (x : RatL) (hx : okR x) (hl : x.num.length < 2147483626) (hl2 : x.den.length < 2147483626) : Fn 41 [encRat x] (.data (.bool (decide (x = cr (qv x))))) := by
 have cv := c_nvalid x.num (by omega);have cc := zIK x hx hl hl2;have hL := zAY (zH2 hx (k := max (max x.num.length x.den.length) 1) (by omega) (by omega) (by omega));have ho := zAR (qv x)
 have hx0 : x.den = [] → cr (qv x) = ⟨x.neg && decide (nv x.num ≠ 0), lims (nv x.num), []⟩ := fun h => by
  unfold qv; rw [h, show dn [] = 1 from rfl, cr_mk _ _ (by decide)]; simp
 generalize cr (qv x) = c at *
 have c1 := zJW x.num c.num hx.1 ho.1 (by omega) (by omega);have c2 := zJW x.den c.den hx.2 ho.2 (by omega) (by omega);refine zAO hmix hT ok_qvalid (by simp [encRat]) ?_
 (repeat' (first|refine stp ?_|with_reducible(refine brr ?_ ?_<;>intro h)));all_goals try(conv=>whnf)
 ·refine zAA cv rfl ?_
  have hd : x.den = [] := List.length_eq_zero_iff.1 (by omega);have hx1 := hx0 hd;have key : x = c ↔ (validN x.num = true ∧ (x.neg = true → 0 < x.num.length)) := by rw [hx1]; exact valid0 hx.1 hd
  clear hx1 hx0 hL
  (repeat' (first|refine stp ?_|with_reducible(refine brr ?_ ?_<;>intro h)));all_goals try(conv=>whnf)
  ·refine zAB rfl (congrArg PV.bool ?_)
   simp_all
  ·refine zAB rfl (congrArg PV.bool ?_)
   simp_all
  ·refine zAB rfl (congrArg PV.bool ?_)
   simp_all
 ·refine zAA cc rfl ?_
  have n1 : x = c → x.neg = c.neg ∧ x.num = c.num ∧ x.den = c.den := fun e => by rw [← e]; exact ⟨rfl, rfl, rfl⟩
  have e1 := cmpI_eq (nv x.num) (nv c.num);have e2 := cmpI_eq (nv x.den) (nv c.den)
  (repeat' (first|refine stp ?_|with_reducible(refine brr ?_ ?_<;>intro h)));all_goals try(conv=>whnf)
  ·refine zAA c1 rfl ?_
   (repeat' (first|refine stp ?_|with_reducible(refine brr ?_ ?_<;>intro h)));all_goals try(conv=>whnf)
   ·refine zAA c2 rfl ?_
    refine sts ?_;refine zAB rfl (congrArg PV.bool ?_);rw [zIM];refine decide_eq_decide.2 ⟨fun h4 => ?_, fun h4 => e2.2 (by rw [(n1 h4).2.2])⟩;have a1 := same_nv hx.1 ho.1 (by omega) (e1.1 (by assumption));have a2 := same_nv hx.2 ho.2 (by omega) (e2.1 h4);have a3 : x.neg = c.neg := by assumption
    cases x; cases c; simp_all
   ·refine zAB rfl (congrArg PV.bool ?_)
    exact (decide_eq_false fun e => h (e1.2 (by rw [(n1 e).2.1]))).symm
  ·refine zAB rfl (congrArg PV.bool ?_)
   exact (decide_eq_false fun e => h (by rw [(n1 e).2.2])).symm
  ·refine zAB rfl (congrArg PV.bool ?_)
   exact (decide_eq_false fun e => h (by rw [(n1 e).2.1])).symm
  ·refine zAB rfl (congrArg PV.bool ?_)
   exact (decide_eq_false fun e => h (n1 e).1).symm
end Go.PI.Tryz
namespace Go.PI.Tryz
open Go.Proofs Go.PI
theorem ok_qwhole : FO 108 Tryz.f108 [.cell 2 27] 9 := mkO Tryz.func108 Tryz.ntmps108 Tryz.results108
theorem c_qwhole (z : Int) (hl : (lims z.natAbs).length < 2147483626) : Fn 108 [encInt (cz z)] (.data (encRat (cr z))) := by
 have cq := c_qquot (cz z).neg (cz z).mag [1] (zAI _) (by rw [okN_cons]; exact ⟨by decide, zEK⟩) (by decide) (by show (lims _).length < _; omega) (by decide);rw [show sg (cz z).neg (nv (cz z).mag) = z from zH3 z, show nv [1] = 1 from rfl, Rat.mkRat_one] at cq;refine zAO hmix hT ok_qwhole (by simp [encInt]) ?_;refine sts ?_;refine zAA c_qone rfl ?_;refine sts ?_;refine zAA cq rfl ?_;refine sts ?_;exact zAB rfl rfl
theorem ok_qof : FO 78 Tryz.f78 [.cell 2 27] 6 := mkO Tryz.func78 Tryz.ntmps78 Tryz.results78
theorem c_qof (x : Int) (hx : -9223372036854775808 ≤ x ∧ x < 9223372036854775808) : Fn 78 [.int .i64 x] (.data (encRat (cr x))) := by
 have hle : x.natAbs < pw 2 := by rw [zAS, zAS, zBQ]; omega
 have hl := zA4 hle;refine zAO hmix hT ok_qof (by simp) ?_;refine sts ?_;refine zAA (c_iof x hx) rfl ?_;refine sts ?_;refine zAA (c_qwhole x (by omega)) rfl ?_;refine sts ?_;exact zAB rfl rfl
theorem ok_qsign : FO 56 Tryz.f56 [.tmp 2] 6 := mkO Tryz.func56 Tryz.ntmps56 Tryz.results56
theorem zDX (x : RatL) (hx : okR x) (hl : x.num.length < 2147483636) : Fn 56 [encRat x] (.data (.int .i64 (sgnQ (qv x)))) := by
 have cs := zJT x hx (by omega);have h2 := zAM hx.1;have ci := c_isign (cz (sg x.neg (nv x.num))) (zAI _) (by show (lims _).length < _; rw [zD2]; omega);rw [zH3, ← sgnQ_qv] at ci;refine zAO hmix hT ok_qsign (by simp [encRat]) ?_;refine sts ?_;refine zAA cs rfl ?_;refine sts ?_;refine zAA ci rfl ?_;refine sts ?_;exact zAB rfl rfl
theorem ok_qcross : FO 88 Tryz.f88 [.cell 4 87, .cell 5 87] 22 := mkO Tryz.func88 Tryz.ntmps88 Tryz.results88
theorem c_qcross (x y : RatL) (hx : okR x) (hy : okR y) (hl1 : x.num.length < 1000000000) (hl2 : x.den.length < 1000000000) (hl3 : y.num.length < 1000000000) (hl4 : y.den.length < 1000000000) : Fn 88 [encRat x, encRat y] (.data (.tup [encInt (cz (sg x.neg (nv x.num) * dn y.den)), encInt (cz (sg y.neg (nv y.num) * dn x.den))])) := by
 have cs1 := zJT x hx (by omega);have cs2 := zJT y hy (by omega);have cu1 := zEQ x hx (by omega);have cu2 := zEQ y hy (by omega);have h1 := zAM hx.1;have h2 := zAM hy.1;have u1 := zDG x.den;have u2 := zDG y.den;have cm1 := c_imul (cz (sg x.neg (nv x.num))) ⟨false, und y.den⟩ (zAI _) (zDJ hy.2) (by show (lims _).length < _; rw [zD2]; omega) (by show (und _).length < _; omega);have cm2 := c_imul (cz (sg y.neg (nv y.num))) ⟨false, und x.den⟩ (zAI _) (zDJ hx.2) (by show (lims _).length < _; rw [zD2]; omega) (by show (und _).length < _; omega);rw [zH3, show iv ⟨false, und y.den⟩ = dn y.den by show sg false _ = _; rw [zC9]; rfl] at cm1;rw [zH3, show iv ⟨false, und x.den⟩ = dn x.den by show sg false _ = _; rw [zC9]; rfl] at cm2;refine zAO hmix hT ok_qcross (by simp [encRat]) ?_;refine sts ?_;refine zAA cu1 rfl ?_;refine sts ?_;refine zAA cu2 rfl ?_;refine sts ?_;refine zAA cs1 rfl ?_;refine sts ?_;refine zAA cm1 rfl ?_;refine sts ?_;refine zAA cs2 rfl ?_;refine sts ?_;refine zAA cm2 rfl ?_;refine sts ?_;exact zAB rfl rfl
theorem cmp_sgn (X Y : Int) : (X - Y).sign = cmpI X Y := by
 have := zET (X - Y);unfold cmpI
 repeat' split
 all_goals omega
theorem cmp_sign {z1 z2 : Int} {d1 d2 : Nat} (h1 : d1 ≠ 0) (h2 : d2 ≠ 0) (h : z1.sign < z2.sign) : z1 * d2 < z2 * d1 := by
 have e1 : (z1 * d2).sign = z1.sign := by rw [Int.sign_mul, Int.sign_natCast_of_ne_zero h2, Int.mul_one]
 have e2 : (z2 * d1).sign = z2.sign := by rw [Int.sign_mul, Int.sign_natCast_of_ne_zero h1, Int.mul_one]
 have := zET (z1 * d2);have := zET (z2 * d1);omega
theorem zHD {z : Int} {d : List Int} {j : Nat} {xs : List Int} (h1 : okN xs) (h : z.natAbs = nv xs) (hd : okN d) (hj : xs.length + d.length + 1 ≤ j) : (lims (z * (dn d : Nat)).natAbs).length ≤ j := by
 refine zA4 ?_;rw [Int.natAbs_mul, h, Int.natAbs_natCast];exact Nat.lt_of_lt_of_le (zC1 (zC6 h1) (dn_lt hd (Nat.le_succ _) (by omega))) (zDP (by omega))
theorem ok_qcmp : FO 54 Tryz.f54 [.tmp 4] 28 := mkO Tryz.func54 Tryz.ntmps54 Tryz.results54
theorem c_qcmp (x y : RatL) (hx : okR x) (hy : okR y) (hl1 : x.num.length < 1000000000) (hl2 : x.den.length < 1000000000) (hl3 : y.num.length < 1000000000) (hl4 : y.den.length < 1000000000) : Fn 54 [encRat x, encRat y] (.data (.int .i64 (sgnQ (qv x - qv y)))) := by
 have cs1 := zDX x hx (by omega);have cs2 := zDX y hy (by omega);have cc := c_qcross x y hx hy hl1 hl2 hl3 hl4;have k1 := zHD (z := sg x.neg (nv x.num)) hx.1 (zD2 ..) hy.2 (Nat.le_refl _);have k2 := zHD (z := sg y.neg (nv y.num)) hy.1 (zD2 ..) hx.2 (Nat.le_refl _);have ci := c_icmp (cz (sg x.neg (nv x.num) * dn y.den)) (cz (sg y.neg (nv y.num) * dn x.den)) (zAI _) (zAI _) (by show (lims _).length < _; omega) (by show (lims _).length < _; omega);rw [sgnQ_sub, cmp_sgn];rw [zH3, zH3] at ci;have m1 := cmp_sign (z1 := sg x.neg (nv x.num)) (z2 := sg y.neg (nv y.num)) (zB8 x.den) (zB8 y.den);have m2 := cmp_sign (z1 := sg y.neg (nv y.num)) (z2 := sg x.neg (nv x.num)) (zB8 y.den) (zB8 x.den);rw [sgnQ_qv] at cs1 cs2;refine zAO hmix hT ok_qcmp (by simp [encRat]) ?_;refine sts ?_;refine zAA cs1 rfl ?_;refine sts ?_;refine zAA cs2 rfl ?_
 (repeat' (first|refine stp ?_|with_reducible(refine brr ?_ ?_<;>intro h)));all_goals try(conv=>whnf)
 ·refine zAB rfl ?_
  have := m1 h;unfold cmpI; rw [if_pos this]
 ·refine zAB rfl ?_
  have := m2 (by omega);unfold cmpI; rw [if_neg (by omega), if_pos this]
 ·refine zAA cc rfl ?_
  refine sts ?_;refine zAA ci rfl ?_;refine sts ?_;exact zAB rfl rfl
theorem ok_qadd : FO 93 Tryz.f93 [.cell 4 27] 27 := mkO Tryz.func93 Tryz.ntmps93 Tryz.results93
theorem c_qadd (x y : RatL) (hx : okR x) (hy : okR y) (hl1 : x.num.length < 1000000000) (hl2 : x.den.length < 1000000000) (hl3 : y.num.length < 1000000000) (hl4 : y.den.length < 1000000000) : Fn 93 [encRat x, encRat y] (.data (encRat (cr (qv x + qv y)))) := by
 have cc := c_qcross x y hx hy hl1 hl2 hl3 hl4;have cu1 := zEQ x hx (by omega);have cu2 := zEQ y hy (by omega);have u1 := zDG x.den;have u2 := zDG y.den;have k1 := zHD (z := sg x.neg (nv x.num)) hx.1 (zD2 ..) hy.2 (Nat.le_refl _);have k2 := zHD (z := sg y.neg (nv y.num)) hy.1 (zD2 ..) hx.2 (Nat.le_refl _);have ca := c_iadd (cz (sg x.neg (nv x.num) * dn y.den)) (cz (sg y.neg (nv y.num) * dn x.den)) (zAI _) (zAI _) (by show (lims _).length < _; omega) (by show (lims _).length < _; omega);rw [zH3, zH3] at ca;have cm := c_nmul (und x.den) (und y.den) (zDJ hx.2) (zDJ hy.2) (by omega) (by omega);rw [zC9, zC9] at cm;rw [qv_add]
 have kl : (lims (sg x.neg (nv x.num) * (dn y.den : Nat) + sg y.neg (nv y.num) * (dn x.den : Nat)).natAbs).length < 2000000010 := by
  obtain ⟨K, hK⟩ : ∃ K : Nat, K = 2000000003 := ⟨_, rfl⟩
  have e1 : (sg x.neg (nv x.num) * (dn y.den : Nat)).natAbs < pw K := by
   have := zC6 (zAI (sg x.neg (nv x.num) * (dn y.den : Nat)).natAbs);rw [zAJ] at this; exact Nat.lt_of_lt_of_le this (zDP (by omega))
  have e2 : (sg y.neg (nv y.num) * (dn x.den : Nat)).natAbs < pw K := by
   have := zC6 (zAI (sg y.neg (nv y.num) * (dn x.den : Nat)).natAbs);rw [zAJ] at this; exact Nat.lt_of_lt_of_le this (zDP (by omega))
  have e3 := zAS K;have := zA4 (n := (sg x.neg (nv x.num) * (dn y.den : Nat) + sg y.neg (nv y.num) * (dn x.den : Nat)).natAbs) (k := K + 1) (by omega);omega
 have hd : dn x.den * dn y.den ≠ 0 := Nat.mul_ne_zero (zB8 _) (zB8 _)
 have k4 : (lims (dn x.den * dn y.den)).length ≤ x.den.length + y.den.length + 2 := by
  have := zB7 (zDJ hx.2) (zDJ hy.2); rw [zC9, zC9] at this; omega
 generalize sg x.neg (nv x.num) * (dn y.den : Nat) + sg y.neg (nv y.num) * (dn x.den : Nat) = S at *
 generalize dn x.den * dn y.den = D at *
 have cq := c_qquot (cz S).neg (cz S).mag (lims D) (zAI _) (zAI _) (by rw [zAJ]; exact hd) (by show (lims _).length < _; omega) (by omega);rw [show sg (cz S).neg (nv (cz S).mag) = S from zH3 S, zAJ] at cq;refine zAO hmix hT ok_qadd (by simp [encRat]) ?_;refine sts ?_;refine zAA cc rfl ?_;refine sts ?_;refine zAA ca rfl ?_;refine sts ?_;refine zAA cu1 rfl ?_;refine sts ?_;refine zAA cu2 rfl ?_;refine sts ?_;refine zAA cm rfl ?_;refine sts ?_;refine zAA cq rfl ?_;refine sts ?_;exact zAB rfl rfl
theorem ok_qmul : FO 94 Tryz.f94 [.cell 4 27] 21 := mkO Tryz.func94 Tryz.ntmps94 Tryz.results94
theorem zHZ (x y : RatL) (hx : okR x) (hy : okR y) (hl1 : x.num.length < 1000000000) (hl2 : x.den.length < 1000000000) (hl3 : y.num.length < 1000000000) (hl4 : y.den.length < 1000000000) : Fn 94 [encRat x, encRat y] (.data (encRat (cr (qv x * qv y)))) := by
 have cu1 := zEQ x hx (by omega);have cu2 := zEQ y hy (by omega);have u1 := zDG x.den;have u2 := zDG y.den;have cm := c_nmul (und x.den) (und y.den) (zDJ hx.2) (zDJ hy.2) (by omega) (by omega);have cn := c_nmul x.num y.num hx.1 hy.1 (by omega) (by omega);rw [zC9, zC9] at cm;have k3 := zB7 hx.1 hy.1
 have k4 : (lims (dn x.den * dn y.den)).length ≤ x.den.length + y.den.length + 2 := by
  have := zB7 (zDJ hx.2) (zDJ hy.2); rw [zC9, zC9] at this; omega
 have hd : dn x.den * dn y.den ≠ 0 := Nat.mul_ne_zero (zB8 _) (zB8 _);have cq := c_qquot (x.neg != y.neg) (lims (nv x.num * nv y.num)) (lims (dn x.den * dn y.den)) (zAI _) (zAI _) (by rw [zAJ]; exact hd) (by omega) (by omega);rw [zAJ, zAJ, sg_mul, ← qv_mul] at cq;refine zAO hmix hT ok_qmul (by simp [encRat]) ?_;refine sts ?_;refine zAA cn rfl ?_;refine sts ?_;refine zAA cu1 rfl ?_;refine sts ?_;refine zAA cu2 rfl ?_;refine sts ?_;refine zAA cm rfl ?_;refine sts ?_;refine zAA cq rfl ?_;refine sts ?_;exact zAB rfl rfl
end Go.PI.Tryz
