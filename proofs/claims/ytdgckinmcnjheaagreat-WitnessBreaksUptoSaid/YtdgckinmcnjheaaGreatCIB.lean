/-
  Rationals: Of, Sign, Cmp, Add, Mul.
-/
import Derived.Test.YtdgckinmcnjheaaGreatCNA
import Derived.Test.YtdgckinmcnjheaaGreatCPD
set_option linter.unusedVariables false
set_option linter.unusedSimpArgs false
set_option linter.unnecessarySimpa false
namespace Go.PI.Tryz
open Go.Proofs Go.PI
theorem vYM : FO 141 Tryz.f141 [.cell 4 76] 16 := mkO Tryz.func141 Tryz.ntmps141 Tryz.results141
theorem zHQ (b : Bool) (xs : List Int) (hx : okN xs) (hl : xs.length < 2147483646) : Fn 141 [.bool b, vA9 xs] (.data (vBB (cz (sg b (nv xs))))) := by
 rw [uE0];have ct := zHP xs hx (by omega);have hz : vA4 (nv xs) = [] ↔ nv xs = 0 := ⟨zCN, fun h => by rw [h]; rfl⟩;refine zAN vA6 hT vYM (by simp) ?_;refine sts ?_;refine zAA ct rfl ?_
 (repeat' (first|refine stp ?_|with_reducible(refine brr ?_ ?_<;>intro h)));all_goals try(conv=>whnf)
 ·refine zAB rfl ?_
  subst h;have : (0 < (vA4 (nv xs)).length) ↔ nv xs ≠ 0 := by rw [List.length_pos_iff, ne_eq, hz]
  simp [vBB, this]
 ·subst h
  exact zAB rfl rfl
theorem uHE : FO 152 Tryz.f152 [.cell 2 76] 14 := mkO Tryz.func152 Tryz.ntmps152 Tryz.results152
theorem uFM (x : Int) (hx : -9223372036854775808 ≤ x ∧ x < 9223372036854775808) : Fn 152 [.int .i64 x] (.data (vBB (cz x))) := by
 refine zAN vA6 hT uHE (by simp) ?_
 (repeat' (first|refine stp ?_|with_reducible(refine brr ?_ ?_<;>intro h)));all_goals try(conv=>whnf)
 ·refine zG7 ?_
  refine sts ?_;refine zG7 ?_;have e : (0 - x % 18446744073709551616) % 18446744073709551616 = ((x.natAbs : Nat) : Int) := by omega
  refine sts ?_;rw [e];refine zAA (vZ6 x.natAbs (by omega)) rfl ?_;refine sts ?_;refine zAB rfl ?_;simp [vBB, cz, h]
 ·refine zAA (vZ6 x.natAbs (by omega)) (by rw [Int.natAbs_of_nonneg (by omega)]; rfl) ?_
  refine sts ?_;refine zAB rfl ?_;simp [vBB, cz, h]
theorem vYL : FO 83 Tryz.f83 [.tmp 2] 11 := mkO Tryz.func83 Tryz.ntmps83 Tryz.results83
theorem vG0 (x : IntL) (hx : okN x.mag) (hl : x.mag.length < 2147483646) : Fn 83 [vBB x] (.data (.int .i64 (iv x).sign)) := by
 have cb := vVV x.mag hx (by omega);have hz := zNY (nv x.mag);unfold iv;rw [vQ0];refine zAN vA6 hT vYL (by simp [vBB]) ?_;refine sts ?_;refine zAA cb rfl ?_
 (repeat' (first|refine stp ?_|with_reducible(refine brr ?_ ?_<;>intro h)));all_goals try(conv=>whnf)
 ·refine zAB rfl ?_
  rw [if_pos (hz.1 h)]
 ·refine zAB rfl ?_
  rw [if_neg (by omega), h, if_pos rfl]
 ·refine zAB rfl ?_
  rw [if_neg (by omega), h]; rfl
theorem zF7 (z : Int) : z.sign = -1 ∧ z < 0 ∨ z.sign = 0 ∧ z = 0 ∨ z.sign = 1 ∧ 0 < z := by
 rcases Int.lt_trichotomy z 0 with h | h | h
 ·exact Or.inl ⟨Int.sign_eq_neg_one_of_neg h, h⟩
 ·exact Or.inr (Or.inl ⟨by rw [h]; rfl, h⟩)
 ·exact Or.inr (Or.inr ⟨Int.sign_eq_one_of_pos h, h⟩)
theorem vZM {x y : IntL} (h1 : iv x < 0) (h2 : iv y < 0) : vC7 (iv x) (iv y) = vC7 (nv y.mag) (nv x.mag) := by
 unfold iv sg at *
 unfold vC7
 split at h1 <;> split at h2 <;> try omega
 rename_i e1 e2
 rw [if_pos e1, if_pos e2]
 repeat' split
 all_goals omega
theorem vZL {x y : IntL} (h1 : 0 ≤ iv x) (h2 : 0 ≤ iv y) : vC7 (iv x) (iv y) = vC7 (nv x.mag) (nv y.mag) := by
 unfold iv sg at *
 unfold vC7
 split at h1 <;> split at h2 <;> rename_i e1 e2 <;> simp only [e1, e2, if_true, if_false, Bool.false_eq_true, ite_true, ite_false]
 all_goals repeat' split
 all_goals omega
theorem uDY : FO 160 Tryz.f160 [.tmp 4] 32 := mkO Tryz.func160 Tryz.ntmps160 Tryz.results160
theorem uIL (x y : IntL) (hx : okN x.mag) (hy : okN y.mag) (hl : x.mag.length < 2147483646) (hl2 : y.mag.length < 2147483646) : Fn 160 [vBB x, vBB y] (.data (.int .i64 (vC7 (iv x) (iv y)))) := by
 have cs1 := vG0 x hx hl;have cs2 := vG0 y hy hl2;have cc1 := zMQ x.mag y.mag hx hy (by omega) (by omega);have cc2 := zMQ y.mag x.mag hy hx (by omega) (by omega);have k1 := zF7 (iv x);have k2 := zF7 (iv y);refine zAN vA6 hT uDY (by simp [vBB]) ?_;refine sts ?_;refine zAA cs1 rfl ?_;refine sts ?_;refine zAA cs2 rfl ?_
 (repeat' (first|refine stp ?_|with_reducible(refine brr ?_ ?_<;>intro h)));all_goals try(conv=>whnf)
 ·refine zAB rfl ?_
  rw [show vC7 (iv x) (iv y) = -1 by unfold vC7; rw [if_pos (by omega)]]
 ·refine zAB rfl ?_
  rw [show vC7 (iv x) (iv y) = 1 by unfold vC7; rw [if_neg (by omega), if_pos (by omega)]]
 ·refine zAA cc2 rfl ?_
  refine sts ?_;refine zAB rfl ?_;rw [vZM (by omega) (by omega)]
 ·refine zAA cc1 rfl ?_
  refine sts ?_;refine zAB rfl ?_;rw [vZL (by omega) (by omega)]
theorem zEZ {xs : List Int} (h : okN xs) {n : Nat} (hn : n ≤ nv xs) : (vA4 n).length ≤ xs.length := zBD (Nat.lt_of_le_of_lt hn (zDO h))
theorem zH9 {xs ys : List Int} (h1 : okN xs) (h2 : okN ys) : (vA4 (nv xs + nv ys)).length ≤ max xs.length ys.length + 1 :=
 vIJ (Nat.lt_of_lt_of_le (zDO h1) (zD2 (Nat.le_max_left ..))) (Nat.lt_of_lt_of_le (zDO h2) (zD2 (Nat.le_max_right ..)))
theorem zB4 {xs ys : List Int} (h1 : okN xs) (h2 : okN ys) : (vA4 (nv xs * nv ys)).length ≤ xs.length + ys.length := zBD (zDY (zDO h1) (zDO h2))
theorem uDZ : FO 155 Tryz.f155 [.cell 4 76] 40 := mkO Tryz.func155 Tryz.ntmps155 Tryz.results155
theorem uIM (x y : IntL) (hx : okN x.mag) (hy : okN y.mag) (hl : x.mag.length < 2147483644) (hl2 : y.mag.length < 2147483644) : Fn 155 [vBB x, vBB y] (.data (vBB (cz (iv x + iv y)))) := by
 have ca := uIJ x.mag y.mag hx hy (by omega) (by omega);have cc := zMQ x.mag y.mag hx hy (by omega) (by omega);have cs1 := uBX x.mag y.mag hx hy (by omega) (by omega);have cs2 := uBX y.mag x.mag hy hx (by omega) (by omega);refine zAN vA6 hT uDZ (by simp [vBB]) ?_
 (repeat' (first|refine stp ?_|with_reducible(refine brr ?_ ?_<;>intro h)));all_goals try(conv=>whnf)
 ·refine zAA ca rfl ?_
  refine sts ?_;have cm := zHQ x.neg (vA4 (nv x.mag + nv y.mag)) (zAM _) (by have := zAT hx; have := zH9 hx hy; omega);rw [zAO] at cm;refine zAA cm rfl ?_;refine sts ?_;refine zAB rfl ?_;rw [show iv x + iv y = sg x.neg (nv x.mag + nv y.mag) by unfold iv; rw [← h]; unfold sg; split <;> omega]; rfl
 ·refine zAA cc rfl ?_
  have hlt := zMF (nv x.mag) (nv y.mag)
  (repeat' (first|refine stp ?_|with_reducible(refine brr ?_ ?_<;>intro h)));all_goals try(conv=>whnf)
  ·unfold vP4 at cs2
   rw [if_neg (by omega)] at cs2;refine zAA cs2 rfl ?_;refine sts ?_;have cm := zHQ y.neg (vA4 (nv y.mag - nv x.mag)) (zAM _) (by have := zEZ hy (n := nv y.mag - nv x.mag) (by omega); omega);rw [zAO] at cm;refine zAA cm rfl ?_;refine sts ?_;refine zAB rfl ?_
   rw [show iv x + iv y = sg y.neg (nv y.mag - nv x.mag) by have : x.neg = !y.neg := by (cases hh : x.neg <;> cases hh' : y.neg <;> simp_all)
                                                            unfold iv; rw [this, zLC]; unfold sg; split <;> omega]
   rfl
  ·unfold vP4 at cs1
   rw [if_neg (by omega)] at cs1;refine zAA cs1 rfl ?_;refine sts ?_;have cm := zHQ x.neg (vA4 (nv x.mag - nv y.mag)) (zAM _) (by have := zEZ hx (n := nv x.mag - nv y.mag) (by omega); omega);rw [zAO] at cm;refine zAA cm rfl ?_;refine sts ?_;refine zAB rfl ?_
   rw [show iv x + iv y = sg x.neg (nv x.mag - nv y.mag) by have : y.neg = !x.neg := by (cases hh : x.neg <;> cases hh' : y.neg <;> simp_all)
                                                            unfold iv; rw [this, zLC]; unfold sg; split <;> omega]
   rfl
theorem uDX : FO 189 Tryz.f189 [.cell 4 76] 16 := mkO Tryz.func189 Tryz.ntmps189 Tryz.results189
theorem uBZ (x y : IntL) (hx : okN x.mag) (hy : okN y.mag) (hl : x.mag.length < 1073741818) (hl2 : y.mag.length < 1073741818) : Fn 189 [vBB x, vBB y] (.data (vBB (cz (iv x * iv y)))) := by
 have ca := zNX x.mag y.mag hx hy (by omega) (by omega);refine zAN vA6 hT uDX (by simp [vBB]) ?_;refine sts ?_;refine zAA ca rfl ?_;refine sts ?_;have cm := zHQ (x.neg != y.neg) (vA4 (nv x.mag * nv y.mag)) (zAM _) (by have := zB4 hx hy; omega);rw [zAO] at cm;refine zAA cm rfl ?_;refine sts ?_;refine zAB rfl ?_;rw [vLW]; rfl
theorem uDG : FO 182 Tryz.f182 [.tmp 0] 2 := mkO Tryz.func182 Tryz.ntmps182 Tryz.results182
theorem uBW : Fn 182 [] (.data (vA9 [1])) := by
 refine zAN vA6 hT uDG (by simp) ?_;refine sts ?_;exact zAB rfl rfl
theorem vYB : FO 179 Tryz.f179 [.tmp 2] 12 := mkO Tryz.func179 Tryz.ntmps179 Tryz.results179
theorem vLF (xs : List Int) (hl : xs.length < 2147483646) : Fn 179 [vA9 xs] (.data (.bool (decide (xs = [1])))) := by
 refine zAN vA6 hT vYB (by simp) ?_
 (repeat' (first|refine stp ?_|with_reducible(refine brr ?_ ?_<;>intro h)));all_goals try(conv=>whnf)
 ·obtain ⟨x, rfl⟩ := List.length_eq_one_iff.1 (show xs.length = 1 by omega)
  refine zAB rfl ?_;simp [vNU]
 ·refine zAB rfl ?_
  have : xs ≠ [1] := fun e => h (by rw [e]; rfl)
  simp [this]
def und (d : List Int) : List Int := if nv d = 0 then [1] else d
theorem zDE (d : List Int) : nv (und d) = dn d := by unfold und dn; split <;> simp [nv]
theorem zDD {d : List Int} (h : okN d) : okN (und d) := by unfold und; split; exact okN_cons.2 ⟨by decide, zFV⟩; exact h
theorem zDG (d : List Int) : (und d).length ≤ d.length + 1 := by unfold und; split <;> simp
theorem vSL : FO 145 Tryz.f145 [.tmp 2] 10 := mkO Tryz.func145 Tryz.ntmps145 Tryz.results145
theorem zDX (x : RatL) (hx : okR x) (hl : x.den.length < 2147483646) : Fn 145 [vAZ x] (.data (vA9 (und x.den))) := by
 have cb := vVV x.den hx.2 (by omega);have hz := zNY (nv x.den);refine zAN vA6 hT vSL (by simp [vAZ]) ?_;refine sts ?_;refine zAA cb rfl ?_
 (repeat' (first|refine stp ?_|with_reducible(refine brr ?_ ?_<;>intro h)));all_goals try(conv=>whnf)
 ·refine zAA uBW rfl ?_
  refine sts ?_;refine zAB rfl ?_;rw [und, if_pos (hz.1 h)]
 ·refine zAB rfl ?_
  rw [und, if_neg (fun e => h (hz.2 e))]
theorem vO0 : FO 84 Tryz.f84 [.cell 2 76] 8 := mkO Tryz.func84 Tryz.ntmps84 Tryz.results84
theorem zIP (x : RatL) (hx : okR x) (hl : x.num.length < 2147483646) : Fn 84 [vAZ x] (.data (vBB (cz (sg x.neg (nv x.num))))) := by
 have cm := zHQ x.neg x.num hx.1 hl;refine zAN vA6 hT vO0 (by simp [vAZ]) ?_;refine sts ?_;refine zAA cm rfl ?_;refine sts ?_;exact zAB rfl rfl
theorem vYD : FO 143 Tryz.f143 [.cell 6 35] 47 := mkO Tryz.func143 Tryz.ntmps143 Tryz.results143
theorem zJR (b : Bool) (xs ys : List Int) (hx : okN xs) (hy : okN ys) (h0 : nv ys ≠ 0) (hl : xs.length < 2147483636) (hl2 : ys.length < 2147483636) : Fn 143 [.bool b, vA9 xs, vA9 ys] (.data (vAZ (cr (mkRat (sg b (nv xs)) (nv ys))))) := by
 have cm1 := zHP xs hx (by omega);have cm2 := zHP ys hy (by omega);have h1 := zAT hx;have h2 := zAT hy;have hone : ∀ n, vA4 n = [1] ↔ n = 1 := fun n => ⟨fun h => by rw [← zAO n, h]; rfl, fun h => by rw [h]; rfl⟩
 have hnil : ∀ n, vA4 n = [] ↔ n = 0 := fun n => ⟨zCN, fun h => by rw [h]; rfl⟩
 rw [uE1 _ _ h0];generalize nv xs = N at *
 generalize nv ys = D at *
 have cg := uII (vA4 N) (vA4 D) (zAM _) (zAM _) (by omega) (by omega);rw [zAO, zAO] at cg;have hg0 : Nat.gcd N D ≠ 0 := fun e => h0 (Nat.eq_zero_of_gcd_eq_zero_right e)
 have hg1 : N = 0 → Nat.gcd N D = D := fun e => by rw [e, Nat.gcd_zero_left]
 have hg2 : D = 1 → Nat.gcd N D = 1 := fun e => by rw [e, Nat.gcd_one_right]
 have hgl : (vA4 (Nat.gcd N D)).length ≤ (vA4 D).length := zDA (Nat.gcd_le_right _ (by omega));generalize Nat.gcd N D = G at *
 have cd1 := zIQ (vA4 N) (vA4 G) (zAM _) (zAM _) (by omega) (by omega);have cd2 := zIQ (vA4 D) (vA4 G) (zAM _) (zAM _) (by omega) (by omega);rw [zAO, zAO, if_neg hg0, if_neg hg0] at cd1 cd2;have cu1 := vLF (vA4 D) (by omega);have cu2 := vLF (vA4 G) (by omega);have hl3 : (vA4 (D / G)).length ≤ (vA4 D).length := zDA (Nat.div_le_self ..);have cu3 := vLF (vA4 (D / G)) (by omega);simp only [hone] at cu1 cu2 cu3;refine zAN vA6 hT vYD (by simp) ?_;refine sts ?_;refine zAA cm1 rfl ?_
 (repeat' (first|refine stp ?_|with_reducible(refine brr ?_ ?_<;>intro h)));all_goals try(conv=>whnf)
 ·have e := (hnil N).1 (List.length_eq_zero_iff.1 (by omega))
  refine zAB rfl ?_;have e2 := hg1 e;subst e e2;simp [vAZ, zC4, Nat.div_self (Nat.pos_of_ne_zero h0)]
 refine zAA cm2 rfl ?_;refine sts ?_;refine zAA cu1 rfl ?_
 (repeat' (first|refine stp ?_|with_reducible(refine brr ?_ ?_<;>intro h)));all_goals try(conv=>whnf)
 ·have e2 := hg2 h
  subst h e2;have hN : N ≠ 0 := fun e => by rw [(hnil N).2 e] at *; simp at *
  refine zAB rfl ?_;simp [vAZ, hN]
 have hN : N ≠ 0 := fun e => by rw [(hnil N).2 e] at *; simp at *
 rw [show (b && decide (N ≠ 0)) = b by simp [hN]];refine zAA cg rfl ?_;refine sts ?_;refine zAA cu2 rfl ?_
 (repeat' (first|refine stp ?_|with_reducible(refine brr ?_ ?_<;>intro h)));all_goals try(conv=>whnf)
 ·subst h
  simp only [Nat.div_one];have hD1 : D ≠ 1 := by assumption
  rw [if_neg hD1];refine zAA cu1 rfl ?_
  (repeat' (first|refine stp ?_|with_reducible(refine brr ?_ ?_<;>intro h)));all_goals try(conv=>whnf)
  ·exact absurd h hD1
  ·exact zAB rfl rfl
 ·refine zAA cd1 rfl ?_
  refine sts ?_;refine zAA cd2 rfl ?_;refine sts ?_;refine zAA cu3 rfl ?_
  (repeat' (first|refine stp ?_|with_reducible(refine brr ?_ ?_<;>intro h)));all_goals try(conv=>whnf)
  ·rw [if_pos h]
   exact zAB rfl rfl
  ·rw [if_neg h]
   exact zAB rfl rfl
theorem vSO : FO 139 Tryz.f139 [.cell 2 35] 10 := mkO Tryz.func139 Tryz.ntmps139 Tryz.results139
theorem zCP (x : RatL) (hx : okR x) (hl : x.num.length < 2147483626) (hl2 : x.den.length < 2147483626) : Fn 139 [vAZ x] (.data (vAZ (cr (qv x)))) := by
 have cu := zDX x hx (by omega);have hl3 := zDG x.den;have cq := zJR x.neg x.num (und x.den) hx.1 (zDD hx.2) (by rw [zDE]; exact zCB _) (by omega) (by omega);rw [zDE] at cq;refine zAN vA6 hT vSO (by simp [vAZ]) ?_;refine sts ?_;refine zAA cu rfl ?_;refine sts ?_;refine zAA cq rfl ?_;refine sts ?_;exact zAB rfl rfl
theorem vQ5 {xs ys : List Int} (h1 : okN xs) (h2 : okN ys) (hl : xs.length = ys.length) (h : nv xs = nv ys) : xs = ys := by
 rw [← zKO h1, ← zKO h2, hl, h]
theorem vUV (a b : Nat) : vC7 a b = 0 ↔ a = b := by
 unfold vC7
 repeat' split
 all_goals omega
theorem vN2 {xs : List Int} (h : okN xs) : vD0 xs = true ↔ xs = vA4 (nv xs) := by
 have e : vD0 xs = true ↔ vLA xs := by
  unfold vD0 vLA;rw [decide_eq_true_eq];by_cases h0 : xs = []
  ·exact ⟨fun _ => ⟨h, Or.inl h0⟩, fun _ => Or.inl h0⟩
  have hl : xs.length ≠ 0 := fun e => h0 (List.length_eq_zero_iff.1 e)
  rw [getElem!_pos xs _ (by omega), List.getLast?_eq_getElem?, List.getElem?_eq_getElem (by omega)];refine ⟨fun h1 => ⟨h, h1.imp id fun h2 => by simpa using h2⟩, fun h1 => h1.2.imp id fun h2 => by simpa using h2⟩
 rw [e];exact ⟨fun h => (zLZ h).symm, fun h => by rw [h]; exact zDW _⟩
theorem uGC {x : RatL} (h : okN x.num) (hd : x.den = []) : x = ⟨x.neg && decide (nv x.num ≠ 0), vA4 (nv x.num), []⟩ ↔ (vD0 x.num = true ∧ (x.neg = true → 0 < x.num.length)) := by
 obtain ⟨b, n, d⟩ := x;dsimp only at *
 subst hd;rw [vN2 h];simp only [RatL.mk.injEq, and_true];constructor
 ·rintro ⟨h1, h2⟩
  refine ⟨h2, fun hb => ?_⟩;rw [hb] at h1;have : nv n ≠ 0 := by simpa using h1
  exact List.length_pos_iff.2 fun e => this (by rw [e]; rfl)
 ·rintro ⟨h1, h2⟩
  refine ⟨?_, h1⟩;cases b
  ·rfl
  ·have : nv n ≠ 0 := fun e => by rw [h1, e] at h2; simp [zC4] at h2
   simp [this]
theorem vSK : FO 134 Tryz.f134 [.tmp 2] 63 := mkO Tryz.func134 Tryz.ntmps134 Tryz.results134
theorem zKZ (x : RatL) (hx : okR x) (hl : x.num.length < 2147483626) (hl2 : x.den.length < 2147483626) : Fn 134 [vAZ x] (.data (.bool (decide (x = cr (qv x))))) := by
 have cv := vZ5 x.num (by omega);have cc := zCP x hx hl hl2;have hL := zAL (zES hx (k := max (max x.num.length x.den.length) 1) (by omega) (by omega) (by omega));have ho := zAI (qv x)
 have hx0 : x.den = [] → cr (qv x) = ⟨x.neg && decide (nv x.num ≠ 0), vA4 (nv x.num), []⟩ := fun h => by
  unfold qv; rw [h, show dn [] = 1 from rfl, uE1 _ _ (by decide)]; simp
 generalize cr (qv x) = c at *
 have c1 := zMQ x.num c.num hx.1 ho.1 (by omega) (by omega);have c2 := zMQ x.den c.den hx.2 ho.2 (by omega) (by omega);refine zAN vA6 hT vSK (by simp [vAZ]) ?_
 (repeat' (first|refine stp ?_|with_reducible(refine brr ?_ ?_<;>intro h)));all_goals try(conv=>whnf)
 ·refine zAA cv rfl ?_
  have hd : x.den = [] := List.length_eq_zero_iff.1 (by omega);have hx1 := hx0 hd;have key : x = c ↔ (vD0 x.num = true ∧ (x.neg = true → 0 < x.num.length)) := by rw [hx1]; exact uGC hx.1 hd
  clear hx1 hx0 hL
  (repeat' (first|refine stp ?_|with_reducible(refine brr ?_ ?_<;>intro h)));all_goals try(conv=>whnf)
  ·refine zAB rfl (congrArg PV.bool ?_)
   simp_all
  ·refine zAB rfl (congrArg PV.bool ?_)
   simp_all
  ·refine zAB rfl (congrArg PV.bool ?_)
   simp_all
 ·refine zAA cc rfl ?_
  have n1 : x = c → x.neg = c.neg ∧ x.num = c.num ∧ x.den = c.den := fun e => by rw [← e]; exact ⟨rfl, rfl, rfl⟩
  have e1 := vUV (nv x.num) (nv c.num);have e2 := vUV (nv x.den) (nv c.den)
  (repeat' (first|refine stp ?_|with_reducible(refine brr ?_ ?_<;>intro h)));all_goals try(conv=>whnf)
  ·refine zAA c1 rfl ?_
   (repeat' (first|refine stp ?_|with_reducible(refine brr ?_ ?_<;>intro h)));all_goals try(conv=>whnf)
   ·refine zAA c2 rfl ?_
    refine sts ?_;refine zAB rfl (congrArg PV.bool ?_);rw [vNU];refine decide_eq_decide.2 ⟨fun h4 => ?_, fun h4 => e2.2 (by rw [(n1 h4).2.2])⟩;have a1 := vQ5 hx.1 ho.1 (by omega) (e1.1 (by assumption));have a2 := vQ5 hx.2 ho.2 (by omega) (e2.1 h4);have a3 : x.neg = c.neg := by assumption
    cases x; cases c; simp_all
   ·refine zAB rfl (congrArg PV.bool ?_)
    exact (decide_eq_false fun e => h (e1.2 (by rw [(n1 e).2.1]))).symm
  ·refine zAB rfl (congrArg PV.bool ?_)
   exact (decide_eq_false fun e => h (by rw [(n1 e).2.2])).symm
  ·refine zAB rfl (congrArg PV.bool ?_)
   exact (decide_eq_false fun e => h (by rw [(n1 e).2.1])).symm
  ·refine zAB rfl (congrArg PV.bool ?_)
   exact (decide_eq_false fun e => h (n1 e).1).symm
theorem vSJ : FO 151 Tryz.f151 [.cell 2 35] 9 := mkO Tryz.func151 Tryz.ntmps151 Tryz.results151
theorem vNL (z : Int) (hl : (vA4 z.natAbs).length < 2147483626) : Fn 151 [vBB (cz z)] (.data (vAZ (cr z))) := by
 have cq := zJR (cz z).neg (cz z).mag [1] (zAM _) (by rw [okN_cons]; exact ⟨by decide, zFV⟩) (by decide) (by show (vA4 _).length < _; omega) (by decide);rw [show sg (cz z).neg (nv (cz z).mag) = z from zKF z, show nv [1] = 1 from rfl, Rat.mkRat_one] at cq;refine zAN vA6 hT vSJ (by simp [vBB]) ?_;refine sts ?_;refine zAA uBW rfl ?_;refine sts ?_;refine zAA cq rfl ?_;refine sts ?_;exact zAB rfl rfl
theorem uHB : FO 94 Tryz.f94 [.cell 2 35] 6 := mkO Tryz.func94 Tryz.ntmps94 Tryz.results94
theorem vVL (x : Int) (hx : -9223372036854775808 ≤ x ∧ x < 9223372036854775808) : Fn 94 [.int .i64 x] (.data (vAZ (cr x))) := by
 have hle : x.natAbs < pw 2 := by rw [zA0, zA0, zB8]; omega
 have hl := zBD hle;refine zAN vA6 hT uHB (by simp) ?_;refine sts ?_;refine zAA (uFM x hx) rfl ?_;refine sts ?_;refine zAA (vNL x (by omega)) rfl ?_;refine sts ?_;exact zAB rfl rfl
theorem vYC : FO 41 Tryz.f41 [.tmp 2] 6 := mkO Tryz.func41 Tryz.ntmps41 Tryz.results41
theorem zDR (x : RatL) (hx : okR x) (hl : x.num.length < 2147483636) : Fn 41 [vAZ x] (.data (.int .i64 (vBS (qv x)))) := by
 have cs := zIP x hx (by omega);have h2 := zAT hx.1;have ci := vG0 (cz (sg x.neg (nv x.num))) (zAM _) (by show (vA4 _).length < _; rw [zFA]; omega);rw [zKF, ← vFA] at ci;refine zAN vA6 hT vYC (by simp [vAZ]) ?_;refine sts ?_;refine zAA cs rfl ?_;refine sts ?_;refine zAA ci rfl ?_;refine sts ?_;exact zAB rfl rfl
theorem vSN : FO 154 Tryz.f154 [.cell 4 76, .cell 5 76] 22 := mkO Tryz.func154 Tryz.ntmps154 Tryz.results154
theorem vNN (x y : RatL) (hx : okR x) (hy : okR y) (hl1 : x.num.length < 1000000000) (hl2 : x.den.length < 1000000000) (hl3 : y.num.length < 1000000000) (hl4 : y.den.length < 1000000000) : Fn 154 [vAZ x, vAZ y] (.data (.tup [vBB (cz (sg x.neg (nv x.num) * dn y.den)), vBB (cz (sg y.neg (nv y.num) * dn x.den))])) := by
 have cs1 := zIP x hx (by omega);have cs2 := zIP y hy (by omega);have cu1 := zDX x hx (by omega);have cu2 := zDX y hy (by omega);have h1 := zAT hx.1;have h2 := zAT hy.1;have u1 := zDG x.den;have u2 := zDG y.den;have cm1 := uBZ (cz (sg x.neg (nv x.num))) ⟨false, und y.den⟩ (zAM _) (zDD hy.2) (by show (vA4 _).length < _; rw [zFA]; omega) (by show (und _).length < _; omega);have cm2 := uBZ (cz (sg y.neg (nv y.num))) ⟨false, und x.den⟩ (zAM _) (zDD hx.2) (by show (vA4 _).length < _; rw [zFA]; omega) (by show (und _).length < _; omega);rw [zKF, show iv ⟨false, und y.den⟩ = dn y.den by show sg false _ = _; rw [zDE]; rfl] at cm1;rw [zKF, show iv ⟨false, und x.den⟩ = dn x.den by show sg false _ = _; rw [zDE]; rfl] at cm2;refine zAN vA6 hT vSN (by simp [vAZ]) ?_;refine sts ?_;refine zAA cu1 rfl ?_;refine sts ?_;refine zAA cu2 rfl ?_;refine sts ?_;refine zAA cs1 rfl ?_;refine sts ?_;refine zAA cm1 rfl ?_;refine sts ?_;refine zAA cs2 rfl ?_;refine sts ?_;refine zAA cm2 rfl ?_;refine sts ?_;exact zAB rfl rfl
theorem uE3 (X Y : Int) : (X - Y).sign = vC7 X Y := by
 have := zF7 (X - Y);unfold vC7
 repeat' split
 all_goals omega
theorem vNB {z1 z2 : Int} {d1 d2 : Nat} (h1 : d1 ≠ 0) (h2 : d2 ≠ 0) (h : z1.sign < z2.sign) : z1 * d2 < z2 * d1 := by
 have e1 : (z1 * d2).sign = z1.sign := by rw [Int.sign_mul, Int.sign_natCast_of_ne_zero h2, Int.mul_one]
 have e2 : (z2 * d1).sign = z2.sign := by rw [Int.sign_mul, Int.sign_natCast_of_ne_zero h1, Int.mul_one]
 have := zF7 (z1 * d2);have := zF7 (z2 * d1);omega
theorem zJK {z : Int} {d : List Int} {j : Nat} {xs : List Int} (h1 : okN xs) (h : z.natAbs = nv xs) (hd : okN d) (hj : xs.length + d.length + 1 ≤ j) : (vA4 (z * (dn d : Nat)).natAbs).length ≤ j := by
 refine zBD ?_;rw [Int.natAbs_mul, h, Int.natAbs_natCast];exact Nat.lt_of_lt_of_le (zDY (zDO h1) (uEV hd (Nat.le_succ _) (by omega))) (zD2 (by omega))
theorem uDM : FO 112 Tryz.f112 [.tmp 4] 28 := mkO Tryz.func112 Tryz.ntmps112 Tryz.results112
theorem zHC (x y : RatL) (hx : okR x) (hy : okR y) (hl1 : x.num.length < 1000000000) (hl2 : x.den.length < 1000000000) (hl3 : y.num.length < 1000000000) (hl4 : y.den.length < 1000000000) : Fn 112 [vAZ x, vAZ y] (.data (.int .i64 (vBS (qv x - qv y)))) := by
 have cs1 := zDR x hx (by omega);have cs2 := zDR y hy (by omega);have cc := vNN x y hx hy hl1 hl2 hl3 hl4;have k1 := zJK (z := sg x.neg (nv x.num)) hx.1 (zFA ..) hy.2 (Nat.le_refl _);have k2 := zJK (z := sg y.neg (nv y.num)) hy.1 (zFA ..) hx.2 (Nat.le_refl _);have ci := uIL (cz (sg x.neg (nv x.num) * dn y.den)) (cz (sg y.neg (nv y.num) * dn x.den)) (zAM _) (zAM _) (by show (vA4 _).length < _; omega) (by show (vA4 _).length < _; omega);rw [vW5, uE3];rw [zKF, zKF] at ci;have m1 := vNB (z1 := sg x.neg (nv x.num)) (z2 := sg y.neg (nv y.num)) (zCB x.den) (zCB y.den);have m2 := vNB (z1 := sg y.neg (nv y.num)) (z2 := sg x.neg (nv x.num)) (zCB y.den) (zCB x.den);rw [vFA] at cs1 cs2;refine zAN vA6 hT uDM (by simp [vAZ]) ?_;refine sts ?_;refine zAA cs1 rfl ?_;refine sts ?_;refine zAA cs2 rfl ?_
 (repeat' (first|refine stp ?_|with_reducible(refine brr ?_ ?_<;>intro h)));all_goals try(conv=>whnf)
 ·refine zAB rfl ?_
  have := m1 h;unfold vC7; rw [if_pos this]
 ·refine zAB rfl ?_
  have := m2 (by omega);unfold vC7; rw [if_neg (by omega), if_pos this]
 ·refine zAA cc rfl ?_
  refine sts ?_;refine zAA ci rfl ?_;refine sts ?_;exact zAB rfl rfl
theorem uDN : FO 98 Tryz.f98 [.cell 4 35] 27 := mkO Tryz.func98 Tryz.ntmps98 Tryz.results98
theorem zGP (x y : RatL) (hx : okR x) (hy : okR y) (hl1 : x.num.length < 1000000000) (hl2 : x.den.length < 1000000000) (hl3 : y.num.length < 1000000000) (hl4 : y.den.length < 1000000000) : Fn 98 [vAZ x, vAZ y] (.data (vAZ (cr (qv x + qv y)))) := by
 have cc := vNN x y hx hy hl1 hl2 hl3 hl4;have cu1 := zDX x hx (by omega);have cu2 := zDX y hy (by omega);have u1 := zDG x.den;have u2 := zDG y.den;have k1 := zJK (z := sg x.neg (nv x.num)) hx.1 (zFA ..) hy.2 (Nat.le_refl _);have k2 := zJK (z := sg y.neg (nv y.num)) hy.1 (zFA ..) hx.2 (Nat.le_refl _);have ca := uIM (cz (sg x.neg (nv x.num) * dn y.den)) (cz (sg y.neg (nv y.num) * dn x.den)) (zAM _) (zAM _) (by show (vA4 _).length < _; omega) (by show (vA4 _).length < _; omega);rw [zKF, zKF] at ca;have cm := zNX (und x.den) (und y.den) (zDD hx.2) (zDD hy.2) (by omega) (by omega);rw [zDE, zDE] at cm;rw [uA4]
 have kl : (vA4 (sg x.neg (nv x.num) * (dn y.den : Nat) + sg y.neg (nv y.num) * (dn x.den : Nat)).natAbs).length < 2000000010 := by
  obtain ⟨K, hK⟩ : ∃ K : Nat, K = 2000000003 := ⟨_, rfl⟩
  have e1 : (sg x.neg (nv x.num) * (dn y.den : Nat)).natAbs < pw K := by
   have := zDO (zAM (sg x.neg (nv x.num) * (dn y.den : Nat)).natAbs);rw [zAO] at this; exact Nat.lt_of_lt_of_le this (zD2 (by omega))
  have e2 : (sg y.neg (nv y.num) * (dn x.den : Nat)).natAbs < pw K := by
   have := zDO (zAM (sg y.neg (nv y.num) * (dn x.den : Nat)).natAbs);rw [zAO] at this; exact Nat.lt_of_lt_of_le this (zD2 (by omega))
  have e3 := zA0 K;have := zBD (n := (sg x.neg (nv x.num) * (dn y.den : Nat) + sg y.neg (nv y.num) * (dn x.den : Nat)).natAbs) (k := K + 1) (by omega);omega
 have hd : dn x.den * dn y.den ≠ 0 := Nat.mul_ne_zero (zCB _) (zCB _)
 have k4 : (vA4 (dn x.den * dn y.den)).length ≤ x.den.length + y.den.length + 2 := by
  have := zB4 (zDD hx.2) (zDD hy.2); rw [zDE, zDE] at this; omega
 generalize sg x.neg (nv x.num) * (dn y.den : Nat) + sg y.neg (nv y.num) * (dn x.den : Nat) = S at *
 generalize dn x.den * dn y.den = D at *
 have cq := zJR (cz S).neg (cz S).mag (vA4 D) (zAM _) (zAM _) (by rw [zAO]; exact hd) (by show (vA4 _).length < _; omega) (by omega);rw [show sg (cz S).neg (nv (cz S).mag) = S from zKF S, zAO] at cq;refine zAN vA6 hT uDN (by simp [vAZ]) ?_;refine sts ?_;refine zAA cc rfl ?_;refine sts ?_;refine zAA ca rfl ?_;refine sts ?_;refine zAA cu1 rfl ?_;refine sts ?_;refine zAA cu2 rfl ?_;refine sts ?_;refine zAA cm rfl ?_;refine sts ?_;refine zAA cq rfl ?_;refine sts ?_;exact zAB rfl rfl
theorem uDI : FO 97 Tryz.f97 [.cell 4 35] 21 := mkO Tryz.func97 Tryz.ntmps97 Tryz.results97
theorem zF3 (x y : RatL) (hx : okR x) (hy : okR y) (hl1 : x.num.length < 1000000000) (hl2 : x.den.length < 1000000000) (hl3 : y.num.length < 1000000000) (hl4 : y.den.length < 1000000000) : Fn 97 [vAZ x, vAZ y] (.data (vAZ (cr (qv x * qv y)))) := by
 have cu1 := zDX x hx (by omega);have cu2 := zDX y hy (by omega);have u1 := zDG x.den;have u2 := zDG y.den;have cm := zNX (und x.den) (und y.den) (zDD hx.2) (zDD hy.2) (by omega) (by omega);have cn := zNX x.num y.num hx.1 hy.1 (by omega) (by omega);rw [zDE, zDE] at cm;have k3 := zB4 hx.1 hy.1
 have k4 : (vA4 (dn x.den * dn y.den)).length ≤ x.den.length + y.den.length + 2 := by
  have := zB4 (zDD hx.2) (zDD hy.2); rw [zDE, zDE] at this; omega
 have hd : dn x.den * dn y.den ≠ 0 := Nat.mul_ne_zero (zCB _) (zCB _);have cq := zJR (x.neg != y.neg) (vA4 (nv x.num * nv y.num)) (vA4 (dn x.den * dn y.den)) (zAM _) (zAM _) (by rw [zAO]; exact hd) (by omega) (by omega);rw [zAO, zAO, vLW, ← uA3] at cq;refine zAN vA6 hT uDI (by simp [vAZ]) ?_;refine sts ?_;refine zAA cn rfl ?_;refine sts ?_;refine zAA cu1 rfl ?_;refine sts ?_;refine zAA cu2 rfl ?_;refine sts ?_;refine zAA cm rfl ?_;refine sts ?_;refine zAA cq rfl ?_;refine sts ?_;exact zAB rfl rfl
end Go.PI.Tryz
