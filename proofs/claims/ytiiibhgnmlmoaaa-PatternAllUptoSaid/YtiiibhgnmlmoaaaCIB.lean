/-
  Rationals: Of, Sign, Cmp, Add, Mul.
-/
import Derived.Test.YtiiibhgnmlmoaaaCNA
import Derived.Test.YtiiibhgnmlmoaaaCPD
namespace Go.PI.Try
set_option linter.unnecessarySimpa false
open Go.Proofs Go.PI
set_option linter.unusedSimpArgs false
set_option linter.unusedVariables false
theorem ok_imake : FnOk Try.prog 52 Try.f52 (Try.f52.body.getD .skip) [.cell 4 61] 16 := ⟨Try.func52, rfl, by decide, Try.ntmps52, Try.results52, by kernel_rfl, by kernel_rfl⟩
theorem c_imake (b : Bool) (xs : List Int) (hx : okN xs) (hl : xs.length < 2147483646) : Fn 52 [.bool b, encN xs] (.data (encInt (cz (sg b (nv xs))))) := by
  rw [cz_sg]
  have ct := c_nmake xs hx (by omega)
  have hz : lims (nv xs) = [] ↔ nv xs = 0 := ⟨lims_nil, fun h => by rw [h]; rfl⟩
  refine fnC_v hmix hT ok_imake (by simp) ?_
  (repeat' (first|refine stp ?_|with_reducible(refine brr ?_ ?_<;>intro h)));all_goals try(conv=>whnf)
  refine callV_data ct rfl ?_
  (repeat' (first|refine stp ?_|with_reducible(refine brr ?_ ?_<;>intro h)));all_goals try(conv=>whnf)
  · refine givesV_to rfl ?_
    subst h
    have : (0 < (lims (nv xs)).length) ↔ nv xs ≠ 0 := by rw [List.length_pos_iff, ne_eq, hz]
    simp [encInt, this]
  · subst h
    exact givesV_to rfl rfl
theorem ok_iof : FnOk Try.prog 43 Try.f43 (Try.f43.body.getD .skip) [.cell 2 61] 14 := ⟨Try.func43, rfl, by decide, Try.ntmps43, Try.results43, by kernel_rfl, by kernel_rfl⟩
theorem c_iof (x : Int) (hx : -9223372036854775808 ≤ x ∧ x < 9223372036854775808) : Fn 43 [.int .i64 x] (.data (encInt (cz x))) := by
  refine fnC_v hmix hT ok_iof (by simp) ?_
  (repeat' (first|refine stp ?_|with_reducible(refine brr ?_ ?_<;>intro h)));all_goals try(conv=>whnf)
  · refine ov_m64 ?_
    (repeat' (first|refine stp ?_|with_reducible(refine brr ?_ ?_<;>intro h)));all_goals try(conv=>whnf)
    refine ov_m64 ?_
    have e : (0 - x % 18446744073709551616) % 18446744073709551616 = ((x.natAbs : Nat) : Int) := by omega
    (repeat' (first|refine stp ?_|with_reducible(refine brr ?_ ?_<;>intro h)));all_goals try(conv=>whnf)
    rw [e]
    refine callV_data (c_nof x.natAbs (by omega)) rfl ?_
    (repeat' (first|refine stp ?_|with_reducible(refine brr ?_ ?_<;>intro h)));all_goals try(conv=>whnf)
    refine givesV_to rfl ?_
    simp [encInt, cz, h]
  · refine callV_data (c_nof x.natAbs (by omega)) (by rw [Int.natAbs_of_nonneg (by omega)]; rfl) ?_
    (repeat' (first|refine stp ?_|with_reducible(refine brr ?_ ?_<;>intro h)));all_goals try(conv=>whnf)
    refine givesV_to rfl ?_
    simp [encInt, cz, h]
theorem ok_isign : FnOk Try.prog 36 Try.f36 (Try.f36.body.getD .skip) [.tmp 2] 11 := ⟨Try.func36, rfl, by decide, Try.ntmps36, Try.results36, by kernel_rfl, by kernel_rfl⟩
theorem c_isign (x : IntL) (hx : okN x.mag) (hl : x.mag.length < 2147483646) : Fn 36 [encInt x] (.data (.int .i64 (iv x).sign)) := by
  have cb := c_nbits x.mag hx (by omega)
  have hz := bitsV_zero (nv x.mag)
  unfold iv
  rw [sgn_sg]
  refine fnC_v hmix hT ok_isign (by simp [encInt]) ?_
  (repeat' (first|refine stp ?_|with_reducible(refine brr ?_ ?_<;>intro h)));all_goals try(conv=>whnf)
  refine callV_data cb rfl ?_
  (repeat' (first|refine stp ?_|with_reducible(refine brr ?_ ?_<;>intro h)));all_goals try(conv=>whnf)
  · refine givesV_to rfl ?_
    rw [if_pos (hz.1 h)]
  · refine givesV_to rfl ?_
    rw [if_neg (by omega), h, if_pos rfl]
  · refine givesV_to rfl ?_
    rw [if_neg (by omega), h]; rfl
theorem sgn_cases (z : Int) : z.sign = -1 ∧ z < 0 ∨ z.sign = 0 ∧ z = 0 ∨ z.sign = 1 ∧ 0 < z := by
  rcases Int.lt_trichotomy z 0 with h | h | h
  · exact Or.inl ⟨Int.sign_eq_neg_one_of_neg h, h⟩
  · exact Or.inr (Or.inl ⟨by rw [h]; rfl, h⟩)
  · exact Or.inr (Or.inr ⟨Int.sign_eq_one_of_pos h, h⟩)
theorem cmpI_neg {x y : IntL} (h1 : iv x < 0) (h2 : iv y < 0) : cmpI (iv x) (iv y) = cmpI (nv y.mag) (nv x.mag) := by
  unfold iv sg at *
  unfold cmpI
  split at h1 <;> split at h2 <;> try omega
  rename_i e1 e2
  rw [if_pos e1, if_pos e2]
  repeat' split
  all_goals omega
theorem cmpI_pos {x y : IntL} (h1 : 0 ≤ iv x) (h2 : 0 ≤ iv y) : cmpI (iv x) (iv y) = cmpI (nv x.mag) (nv y.mag) := by
  unfold iv sg at *
  unfold cmpI
  split at h1 <;> split at h2 <;> rename_i e1 e2 <;> simp only [e1, e2, if_true, if_false, Bool.false_eq_true, ite_true, ite_false]
  all_goals repeat' split
  all_goals omega
theorem ok_icmp : FnOk Try.prog 79 Try.f79 (Try.f79.body.getD .skip) [.tmp 4] 32 := ⟨Try.func79, rfl, by decide, Try.ntmps79, Try.results79, by kernel_rfl, by kernel_rfl⟩
theorem c_icmp (x y : IntL) (hx : okN x.mag) (hy : okN y.mag) (hl : x.mag.length < 2147483646) (hl2 : y.mag.length < 2147483646) : Fn 79 [encInt x, encInt y] (.data (.int .i64 (cmpI (iv x) (iv y)))) := by
  have cs1 := c_isign x hx hl
  have cs2 := c_isign y hy hl2
  have cc1 := c_ncmp x.mag y.mag hx hy (by omega) (by omega)
  have cc2 := c_ncmp y.mag x.mag hy hx (by omega) (by omega)
  have k1 := sgn_cases (iv x)
  have k2 := sgn_cases (iv y)
  refine fnC_v hmix hT ok_icmp (by simp [encInt]) ?_
  (repeat' (first|refine stp ?_|with_reducible(refine brr ?_ ?_<;>intro h)));all_goals try(conv=>whnf)
  refine callV_data cs1 rfl ?_
  (repeat' (first|refine stp ?_|with_reducible(refine brr ?_ ?_<;>intro h)));all_goals try(conv=>whnf)
  refine callV_data cs2 rfl ?_
  (repeat' (first|refine stp ?_|with_reducible(refine brr ?_ ?_<;>intro h)));all_goals try(conv=>whnf)
  · refine givesV_to rfl ?_
    rw [show cmpI (iv x) (iv y) = -1 by unfold cmpI; rw [if_pos (by omega)]]
  · refine givesV_to rfl ?_
    rw [show cmpI (iv x) (iv y) = 1 by unfold cmpI; rw [if_neg (by omega), if_pos (by omega)]]
  · refine callV_data cc2 rfl ?_
    (repeat' (first|refine stp ?_|with_reducible(refine brr ?_ ?_<;>intro h)));all_goals try(conv=>whnf)
    refine givesV_to rfl ?_
    rw [cmpI_neg (by omega) (by omega)]
  · refine callV_data cc1 rfl ?_
    (repeat' (first|refine stp ?_|with_reducible(refine brr ?_ ?_<;>intro h)));all_goals try(conv=>whnf)
    refine givesV_to rfl ?_
    rw [cmpI_pos (by omega) (by omega)]
theorem lims_len_le2 {xs : List Int} (h : okN xs) {n : Nat} (hn : n ≤ nv xs) : (lims n).length ≤ xs.length := lims_len (Nat.lt_of_le_of_lt hn (nv_lt h))
theorem lims_add_len2 {xs ys : List Int} (h1 : okN xs) (h2 : okN ys) : (lims (nv xs + nv ys)).length ≤ max xs.length ys.length + 1 :=
  lims_add_len (Nat.lt_of_lt_of_le (nv_lt h1) (pw_le (Nat.le_max_left ..))) (Nat.lt_of_lt_of_le (nv_lt h2) (pw_le (Nat.le_max_right ..)))
theorem lims_mul_len {xs ys : List Int} (h1 : okN xs) (h2 : okN ys) : (lims (nv xs * nv ys)).length ≤ xs.length + ys.length := lims_len (pw_mul_lt (nv_lt h1) (nv_lt h2))
theorem ok_iadd : FnOk Try.prog 71 Try.f71 (Try.f71.body.getD .skip) [.cell 4 61] 40 := ⟨Try.func71, rfl, by decide, Try.ntmps71, Try.results71, by kernel_rfl, by kernel_rfl⟩
theorem c_iadd (x y : IntL) (hx : okN x.mag) (hy : okN y.mag) (hl : x.mag.length < 2147483644) (hl2 : y.mag.length < 2147483644) : Fn 71 [encInt x, encInt y] (.data (encInt (cz (iv x + iv y)))) := by
  have ca := c_nadd x.mag y.mag hx hy (by omega) (by omega)
  have cc := c_ncmp x.mag y.mag hx hy (by omega) (by omega)
  have cs1 := c_nsub x.mag y.mag hx hy (by omega) (by omega)
  have cs2 := c_nsub y.mag x.mag hy hx (by omega) (by omega)
  refine fnC_v hmix hT ok_iadd (by simp [encInt]) ?_
  (repeat' (first|refine stp ?_|with_reducible(refine brr ?_ ?_<;>intro h)));all_goals try(conv=>whnf)
  · refine callV_data ca rfl ?_
    (repeat' (first|refine stp ?_|with_reducible(refine brr ?_ ?_<;>intro h)));all_goals try(conv=>whnf)
    have cm := c_imake x.neg (lims (nv x.mag + nv y.mag)) (lims_ok _) (by have := lims_len_nv hx; have := lims_add_len2 hx hy; omega)
    rw [nv_lims] at cm
    refine callV_data cm rfl ?_
    (repeat' (first|refine stp ?_|with_reducible(refine brr ?_ ?_<;>intro h)));all_goals try(conv=>whnf)
    refine givesV_to rfl ?_
    rw [show iv x + iv y = sg x.neg (nv x.mag + nv y.mag) by unfold iv; rw [← h]; unfold sg; split <;> omega]; rfl
  · refine callV_data cc rfl ?_
    have hlt := cmpI_lt (nv x.mag) (nv y.mag)
    (repeat' (first|refine stp ?_|with_reducible(refine brr ?_ ?_<;>intro h)));all_goals try(conv=>whnf)
    · unfold subR at cs2
      rw [if_neg (by omega)] at cs2
      refine callV_data cs2 rfl ?_
      (repeat' (first|refine stp ?_|with_reducible(refine brr ?_ ?_<;>intro h)));all_goals try(conv=>whnf)
      have cm := c_imake y.neg (lims (nv y.mag - nv x.mag)) (lims_ok _) (by have := lims_len_le2 hy (n := nv y.mag - nv x.mag) (by omega); omega)
      rw [nv_lims] at cm
      refine callV_data cm rfl ?_
      (repeat' (first|refine stp ?_|with_reducible(refine brr ?_ ?_<;>intro h)));all_goals try(conv=>whnf)
      refine givesV_to rfl ?_
      rw [show iv x + iv y = sg y.neg (nv y.mag - nv x.mag) by have : x.neg = !y.neg := by (cases hh : x.neg <;> cases hh' : y.neg <;> simp_all)
                                                               unfold iv; rw [this, sg_not]; unfold sg; split <;> omega]
      rfl
    · unfold subR at cs1
      rw [if_neg (by omega)] at cs1
      refine callV_data cs1 rfl ?_
      (repeat' (first|refine stp ?_|with_reducible(refine brr ?_ ?_<;>intro h)));all_goals try(conv=>whnf)
      have cm := c_imake x.neg (lims (nv x.mag - nv y.mag)) (lims_ok _) (by have := lims_len_le2 hx (n := nv x.mag - nv y.mag) (by omega); omega)
      rw [nv_lims] at cm
      refine callV_data cm rfl ?_
      (repeat' (first|refine stp ?_|with_reducible(refine brr ?_ ?_<;>intro h)));all_goals try(conv=>whnf)
      refine givesV_to rfl ?_
      rw [show iv x + iv y = sg x.neg (nv x.mag - nv y.mag) by have : y.neg = !x.neg := by (cases hh : x.neg <;> cases hh' : y.neg <;> simp_all)
                                                               unfold iv; rw [this, sg_not]; unfold sg; split <;> omega]
      rfl
theorem ok_imul : FnOk Try.prog 81 Try.f81 (Try.f81.body.getD .skip) [.cell 4 61] 16 := ⟨Try.func81, rfl, by decide, Try.ntmps81, Try.results81, by kernel_rfl, by kernel_rfl⟩
theorem c_imul (x y : IntL) (hx : okN x.mag) (hy : okN y.mag) (hl : x.mag.length < 1073741818) (hl2 : y.mag.length < 1073741818) : Fn 81 [encInt x, encInt y] (.data (encInt (cz (iv x * iv y)))) := by
  have ca := c_nmul x.mag y.mag hx hy (by omega) (by omega)
  refine fnC_v hmix hT ok_imul (by simp [encInt]) ?_
  (repeat' (first|refine stp ?_|with_reducible(refine brr ?_ ?_<;>intro h)));all_goals try(conv=>whnf)
  refine callV_data ca rfl ?_
  (repeat' (first|refine stp ?_|with_reducible(refine brr ?_ ?_<;>intro h)));all_goals try(conv=>whnf)
  have cm := c_imake (x.neg != y.neg) (lims (nv x.mag * nv y.mag)) (lims_ok _) (by have := lims_mul_len hx hy; omega)
  rw [nv_lims] at cm
  refine callV_data cm rfl ?_
  (repeat' (first|refine stp ?_|with_reducible(refine brr ?_ ?_<;>intro h)));all_goals try(conv=>whnf)
  refine givesV_to rfl ?_
  rw [sg_mul]; rfl
end Go.PI.Try
namespace Go.PI.Try
set_option linter.unnecessarySimpa false
open Go.Proofs Go.PI
set_option linter.unusedSimpArgs false
set_option linter.unusedVariables false
theorem ok_qone : FnOk Try.prog 58 Try.f58 (Try.f58.body.getD .skip) [.tmp 0] 2 := ⟨Try.func58, rfl, by decide, Try.ntmps58, Try.results58, by kernel_rfl, by kernel_rfl⟩
theorem c_qone : Fn 58 [] (.data (encN [1])) := by
  refine fnC_v hmix hT ok_qone (by simp) ?_
  (repeat' (first|refine stp ?_|with_reducible(refine brr ?_ ?_<;>intro h)));all_goals try(conv=>whnf)
  exact givesV_to rfl rfl
theorem ok_qunit : FnOk Try.prog 73 Try.f73 (Try.f73.body.getD .skip) [.tmp 2] 12 := ⟨Try.func73, rfl, by decide, Try.ntmps73, Try.results73, by kernel_rfl, by kernel_rfl⟩
theorem c_qunit (xs : List Int) (hl : xs.length < 2147483646) : Fn 73 [encN xs] (.data (.bool (decide (xs = [1])))) := by
  refine fnC_v hmix hT ok_qunit (by simp) ?_
  (repeat' (first|refine stp ?_|with_reducible(refine brr ?_ ?_<;>intro h)));all_goals try(conv=>whnf)
  · obtain ⟨x, rfl⟩ := List.length_eq_one_iff.1 (show xs.length = 1 by omega)
    refine givesV_to rfl ?_
    simp [beq_dec']
  · refine givesV_to rfl ?_
    have : xs ≠ [1] := fun e => h (by rw [e]; rfl)
    simp [this]
def und (d : List Int) : List Int := if nv d = 0 then [1] else d
theorem nv_und (d : List Int) : nv (und d) = dn d := by unfold und dn; split <;> simp [nv]
theorem ok_und {d : List Int} (h : okN d) : okN (und d) := by unfold und; split; exact okN_cons.2 ⟨by decide, okN_nil⟩; exact h
theorem und_len (d : List Int) : (und d).length ≤ d.length + 1 := by unfold und; split <;> simp
theorem ok_qunder : FnOk Try.prog 65 Try.f65 (Try.f65.body.getD .skip) [.tmp 2] 10 := ⟨Try.func65, rfl, by decide, Try.ntmps65, Try.results65, by kernel_rfl, by kernel_rfl⟩
theorem c_qunder (x : RatL) (hx : okR x) (hl : x.den.length < 2147483646) : Fn 65 [encRat x] (.data (encN (und x.den))) := by
  have cb := c_nbits x.den hx.2 (by omega)
  have hz := bitsV_zero (nv x.den)
  refine fnC_v hmix hT ok_qunder (by simp [encRat]) ?_
  (repeat' (first|refine stp ?_|with_reducible(refine brr ?_ ?_<;>intro h)));all_goals try(conv=>whnf)
  refine callV_data cb rfl ?_
  (repeat' (first|refine stp ?_|with_reducible(refine brr ?_ ?_<;>intro h)));all_goals try(conv=>whnf)
  · refine callV_data c_qone rfl ?_
    (repeat' (first|refine stp ?_|with_reducible(refine brr ?_ ?_<;>intro h)));all_goals try(conv=>whnf)
    refine givesV_to rfl ?_
    rw [und, if_pos (hz.1 h)]
  · refine givesV_to rfl ?_
    rw [und, if_neg (fun e => h (hz.2 e))]
theorem ok_qsigned : FnOk Try.prog 37 Try.f37 (Try.f37.body.getD .skip) [.cell 2 61] 8 := ⟨Try.func37, rfl, by decide, Try.ntmps37, Try.results37, by kernel_rfl, by kernel_rfl⟩
theorem c_qsigned (x : RatL) (hx : okR x) (hl : x.num.length < 2147483646) : Fn 37 [encRat x] (.data (encInt (cz (sg x.neg (nv x.num))))) := by
  have cm := c_imake x.neg x.num hx.1 hl
  refine fnC_v hmix hT ok_qsigned (by simp [encRat]) ?_
  (repeat' (first|refine stp ?_|with_reducible(refine brr ?_ ?_<;>intro h)));all_goals try(conv=>whnf)
  refine callV_data cm rfl ?_
  (repeat' (first|refine stp ?_|with_reducible(refine brr ?_ ?_<;>intro h)));all_goals try(conv=>whnf)
  exact givesV_to rfl rfl
theorem ok_qquot : FnOk Try.prog 57 Try.f57 (Try.f57.body.getD .skip) [.cell 6 42] 47 := ⟨Try.func57, rfl, by decide, Try.ntmps57, Try.results57, by kernel_rfl, by kernel_rfl⟩
theorem c_qquot (b : Bool) (xs ys : List Int) (hx : okN xs) (hy : okN ys) (h0 : nv ys ≠ 0) (hl : xs.length < 2147483636) (hl2 : ys.length < 2147483636) : Fn 57 [.bool b, encN xs, encN ys] (.data (encRat (cr (mkRat (sg b (nv xs)) (nv ys))))) := by
  have cm1 := c_nmake xs hx (by omega)
  have cm2 := c_nmake ys hy (by omega)
  have h1 := lims_len_nv hx
  have h2 := lims_len_nv hy
  have hone : ∀ n, lims n = [1] ↔ n = 1 := fun n => ⟨fun h => by rw [← nv_lims n, h]; rfl, fun h => by rw [h]; rfl⟩
  have hnil : ∀ n, lims n = [] ↔ n = 0 := fun n => ⟨lims_nil, fun h => by rw [h]; rfl⟩
  rw [cr_mk _ _ h0]
  generalize nv xs = N at *
  generalize nv ys = D at *
  have cg := c_ngcd (lims N) (lims D) (lims_ok _) (lims_ok _) (by omega) (by omega)
  rw [nv_lims, nv_lims] at cg
  have hg0 : Nat.gcd N D ≠ 0 := fun e => h0 (Nat.eq_zero_of_gcd_eq_zero_right e)
  have hg1 : N = 0 → Nat.gcd N D = D := fun e => by rw [e, Nat.gcd_zero_left]
  have hg2 : D = 1 → Nat.gcd N D = 1 := fun e => by rw [e, Nat.gcd_one_right]
  have hgl : (lims (Nat.gcd N D)).length ≤ (lims D).length := lims_len_le (Nat.gcd_le_right _ (by omega))
  generalize Nat.gcd N D = G at *
  have cd1 := c_ndivmod (lims N) (lims G) (lims_ok _) (lims_ok _) (by omega) (by omega)
  have cd2 := c_ndivmod (lims D) (lims G) (lims_ok _) (lims_ok _) (by omega) (by omega)
  rw [nv_lims, nv_lims, if_neg hg0, if_neg hg0] at cd1 cd2
  have cu1 := c_qunit (lims D) (by omega)
  have cu2 := c_qunit (lims G) (by omega)
  have hl3 : (lims (D / G)).length ≤ (lims D).length := lims_len_le (Nat.div_le_self ..)
  have cu3 := c_qunit (lims (D / G)) (by omega)
  simp only [hone] at cu1 cu2 cu3
  refine fnC_v hmix hT ok_qquot (by simp) ?_
  (repeat' (first|refine stp ?_|with_reducible(refine brr ?_ ?_<;>intro h)));all_goals try(conv=>whnf)
  refine callV_data cm1 rfl ?_
  (repeat' (first|refine stp ?_|with_reducible(refine brr ?_ ?_<;>intro h)));all_goals try(conv=>whnf)
  · have e := (hnil N).1 (List.length_eq_zero_iff.1 (by omega))
    refine givesV_to rfl ?_
    have e2 := hg1 e
    subst e e2
    simp [encRat, lims_zero, Nat.div_self (Nat.pos_of_ne_zero h0)]
  refine callV_data cm2 rfl ?_
  (repeat' (first|refine stp ?_|with_reducible(refine brr ?_ ?_<;>intro h)));all_goals try(conv=>whnf)
  refine callV_data cu1 rfl ?_
  (repeat' (first|refine stp ?_|with_reducible(refine brr ?_ ?_<;>intro h)));all_goals try(conv=>whnf)
  · have e2 := hg2 h
    subst h e2
    have hN : N ≠ 0 := fun e => by rw [(hnil N).2 e] at *; simp at *
    refine givesV_to rfl ?_
    simp [encRat, hN]
  have hN : N ≠ 0 := fun e => by rw [(hnil N).2 e] at *; simp at *
  rw [show (b && decide (N ≠ 0)) = b by simp [hN]]
  refine callV_data cg rfl ?_
  (repeat' (first|refine stp ?_|with_reducible(refine brr ?_ ?_<;>intro h)));all_goals try(conv=>whnf)
  refine callV_data cu2 rfl ?_
  (repeat' (first|refine stp ?_|with_reducible(refine brr ?_ ?_<;>intro h)));all_goals try(conv=>whnf)
  · subst h
    simp only [Nat.div_one]
    have hD1 : D ≠ 1 := by assumption
    rw [if_neg hD1]
    refine callV_data cu1 rfl ?_
    (repeat' (first|refine stp ?_|with_reducible(refine brr ?_ ?_<;>intro h)));all_goals try(conv=>whnf)
    · exact absurd h hD1
    · exact givesV_to rfl rfl
  · refine callV_data cd1 rfl ?_
    (repeat' (first|refine stp ?_|with_reducible(refine brr ?_ ?_<;>intro h)));all_goals try(conv=>whnf)
    refine callV_data cd2 rfl ?_
    (repeat' (first|refine stp ?_|with_reducible(refine brr ?_ ?_<;>intro h)));all_goals try(conv=>whnf)
    refine callV_data cu3 rfl ?_
    (repeat' (first|refine stp ?_|with_reducible(refine brr ?_ ?_<;>intro h)));all_goals try(conv=>whnf)
    · rw [if_pos h]
      exact givesV_to rfl rfl
    · rw [if_neg h]
      exact givesV_to rfl rfl
theorem ok_qcanon : FnOk Try.prog 48 Try.f48 (Try.f48.body.getD .skip) [.cell 2 42] 10 := ⟨Try.func48, rfl, by decide, Try.ntmps48, Try.results48, by kernel_rfl, by kernel_rfl⟩
theorem c_qcanon (x : RatL) (hx : okR x) (hl : x.num.length < 2147483626) (hl2 : x.den.length < 2147483626) : Fn 48 [encRat x] (.data (encRat (cr (qv x)))) := by
  have cu := c_qunder x hx (by omega)
  have hl3 := und_len x.den
  have cq := c_qquot x.neg x.num (und x.den) hx.1 (ok_und hx.2) (by rw [nv_und]; exact dn_pos _) (by omega) (by omega)
  rw [nv_und] at cq
  refine fnC_v hmix hT ok_qcanon (by simp [encRat]) ?_
  (repeat' (first|refine stp ?_|with_reducible(refine brr ?_ ?_<;>intro h)));all_goals try(conv=>whnf)
  refine callV_data cu rfl ?_
  (repeat' (first|refine stp ?_|with_reducible(refine brr ?_ ?_<;>intro h)));all_goals try(conv=>whnf)
  refine callV_data cq rfl ?_
  (repeat' (first|refine stp ?_|with_reducible(refine brr ?_ ?_<;>intro h)));all_goals try(conv=>whnf)
  exact givesV_to rfl rfl
theorem same_nv {xs ys : List Int} (h1 : okN xs) (h2 : okN ys) (hl : xs.length = ys.length) (h : nv xs = nv ys) : xs = ys := by
  rw [← limsN_nv h1, ← limsN_nv h2, hl, h]
theorem cmpI_eq (a b : Nat) : cmpI a b = 0 ↔ a = b := by
  unfold cmpI
  repeat' split
  all_goals omega
theorem validN_iff {xs : List Int} (h : okN xs) : validN xs = true ↔ xs = lims (nv xs) := by
  have e : validN xs = true ↔ canN xs := by
    unfold validN canN
    rw [decide_eq_true_eq]
    by_cases h0 : xs = []
    · exact ⟨fun _ => ⟨h, Or.inl h0⟩, fun _ => Or.inl h0⟩
    have hl : xs.length ≠ 0 := fun e => h0 (List.length_eq_zero_iff.1 e)
    rw [getElem!_pos xs _ (by omega), List.getLast?_eq_getElem?, List.getElem?_eq_getElem (by omega)]
    refine ⟨fun h1 => ⟨h, h1.imp id fun h2 => by simpa using h2⟩, fun h1 => h1.2.imp id fun h2 => by simpa using h2⟩
  rw [e]
  exact ⟨fun h => (lims_nv h).symm, fun h => by rw [h]; exact can_lims _⟩
theorem valid0 {x : RatL} (h : okN x.num) (hd : x.den = []) : x = ⟨x.neg && decide (nv x.num ≠ 0), lims (nv x.num), []⟩ ↔ (validN x.num = true ∧ (x.neg = true → 0 < x.num.length)) := by
  obtain ⟨b, n, d⟩ := x
  dsimp only at *
  subst hd
  rw [validN_iff h]
  simp only [RatL.mk.injEq, and_true]
  constructor
  · rintro ⟨h1, h2⟩
    refine ⟨h2, fun hb => ?_⟩
    rw [hb] at h1
    have : nv n ≠ 0 := by simpa using h1
    exact List.length_pos_iff.2 fun e => this (by rw [e]; rfl)
  · rintro ⟨h1, h2⟩
    refine ⟨?_, h1⟩
    cases b
    · rfl
    · have : nv n ≠ 0 := fun e => by rw [h1, e] at h2; simp [lims_zero] at h2
      simp [this]
theorem ok_qvalid : FnOk Try.prog 45 Try.f45 (Try.f45.body.getD .skip) [.tmp 2] 63 := ⟨Try.func45, rfl, by decide, Try.ntmps45, Try.results45, by kernel_rfl, by kernel_rfl⟩
theorem c_qvalid (x : RatL) (hx : okR x) (hl : x.num.length < 2147483626) (hl2 : x.den.length < 2147483626) : Fn 45 [encRat x] (.data (.bool (decide (x = cr (qv x))))) := by
  have cv := c_nvalid x.num (by omega)
  have cc := c_qcanon x hx hl hl2
  have hL := cr_len (sz_qv hx (k := max (max x.num.length x.den.length) 1) (by omega) (by omega) (by omega))
  have ho := okR_cr (qv x)
  have hx0 : x.den = [] → cr (qv x) = ⟨x.neg && decide (nv x.num ≠ 0), lims (nv x.num), []⟩ := fun h => by
    unfold qv; rw [h, show dn [] = 1 from rfl, cr_mk _ _ (by decide)]; simp
  generalize cr (qv x) = c at *
  have c1 := c_ncmp x.num c.num hx.1 ho.1 (by omega) (by omega)
  have c2 := c_ncmp x.den c.den hx.2 ho.2 (by omega) (by omega)
  refine fnC_v hmix hT ok_qvalid (by simp [encRat]) ?_
  (repeat' (first|refine stp ?_|with_reducible(refine brr ?_ ?_<;>intro h)));all_goals try(conv=>whnf)
  · refine callV_data cv rfl ?_
    have hd : x.den = [] := List.length_eq_zero_iff.1 (by omega)
    have hx1 := hx0 hd
    have key : x = c ↔ (validN x.num = true ∧ (x.neg = true → 0 < x.num.length)) := by rw [hx1]; exact valid0 hx.1 hd
    clear hx1 hx0 hL
    (repeat' (first|refine stp ?_|with_reducible(refine brr ?_ ?_<;>intro h)));all_goals try(conv=>whnf)
    · refine givesV_to rfl (congrArg PV.bool ?_)
      simp_all
    · refine givesV_to rfl (congrArg PV.bool ?_)
      simp_all
    · refine givesV_to rfl (congrArg PV.bool ?_)
      simp_all
  · refine callV_data cc rfl ?_
    have n1 : x = c → x.neg = c.neg ∧ x.num = c.num ∧ x.den = c.den := fun e => by rw [← e]; exact ⟨rfl, rfl, rfl⟩
    have e1 := cmpI_eq (nv x.num) (nv c.num)
    have e2 := cmpI_eq (nv x.den) (nv c.den)
    (repeat' (first|refine stp ?_|with_reducible(refine brr ?_ ?_<;>intro h)));all_goals try(conv=>whnf)
    · refine callV_data c1 rfl ?_
      (repeat' (first|refine stp ?_|with_reducible(refine brr ?_ ?_<;>intro h)));all_goals try(conv=>whnf)
      · refine callV_data c2 rfl ?_
        (repeat' (first|refine stp ?_|with_reducible(refine brr ?_ ?_<;>intro h)));all_goals try(conv=>whnf)
        refine givesV_to rfl (congrArg PV.bool ?_)
        rw [beq_dec']
        refine decide_eq_decide.2 ⟨fun h4 => ?_, fun h4 => e2.2 (by rw [(n1 h4).2.2])⟩
        have a1 := same_nv hx.1 ho.1 (by omega) (e1.1 (by assumption))
        have a2 := same_nv hx.2 ho.2 (by omega) (e2.1 h4)
        have a3 : x.neg = c.neg := by assumption
        cases x; cases c; simp_all
      · refine givesV_to rfl (congrArg PV.bool ?_)
        exact (decide_eq_false fun e => h (e1.2 (by rw [(n1 e).2.1]))).symm
    · refine givesV_to rfl (congrArg PV.bool ?_)
      exact (decide_eq_false fun e => h (by rw [(n1 e).2.2])).symm
    · refine givesV_to rfl (congrArg PV.bool ?_)
      exact (decide_eq_false fun e => h (by rw [(n1 e).2.1])).symm
    · refine givesV_to rfl (congrArg PV.bool ?_)
      exact (decide_eq_false fun e => h (n1 e).1).symm
end Go.PI.Try
namespace Go.PI.Try
set_option linter.unnecessarySimpa false
open Go.Proofs Go.PI
set_option linter.unusedSimpArgs false
set_option linter.unusedVariables false
theorem ok_qwhole : FnOk Try.prog 42 Try.f42 (Try.f42.body.getD .skip) [.cell 2 42] 9 := ⟨Try.func42, rfl, by decide, Try.ntmps42, Try.results42, by kernel_rfl, by kernel_rfl⟩
theorem c_qwhole (z : Int) (hl : (lims z.natAbs).length < 2147483626) : Fn 42 [encInt (cz z)] (.data (encRat (cr z))) := by
  have cq := c_qquot (cz z).neg (cz z).mag [1] (lims_ok _) (by rw [okN_cons]; exact ⟨by decide, okN_nil⟩) (by decide) (by show (lims _).length < _; omega) (by decide)
  rw [show sg (cz z).neg (nv (cz z).mag) = z from iv_cz z, show nv [1] = 1 from rfl, Rat.mkRat_one] at cq
  refine fnC_v hmix hT ok_qwhole (by simp [encInt]) ?_
  (repeat' (first|refine stp ?_|with_reducible(refine brr ?_ ?_<;>intro h)));all_goals try(conv=>whnf)
  refine callV_data c_qone rfl ?_
  (repeat' (first|refine stp ?_|with_reducible(refine brr ?_ ?_<;>intro h)));all_goals try(conv=>whnf)
  refine callV_data cq rfl ?_
  (repeat' (first|refine stp ?_|with_reducible(refine brr ?_ ?_<;>intro h)));all_goals try(conv=>whnf)
  exact givesV_to rfl rfl
theorem ok_qof : FnOk Try.prog 30 Try.f30 (Try.f30.body.getD .skip) [.cell 2 42] 6 := ⟨Try.func30, rfl, by decide, Try.ntmps30, Try.results30, by kernel_rfl, by kernel_rfl⟩
theorem c_qof (x : Int) (hx : -9223372036854775808 ≤ x ∧ x < 9223372036854775808) : Fn 30 [.int .i64 x] (.data (encRat (cr x))) := by
  have hle : x.natAbs < pw 2 := by rw [pw_succ, pw_succ, pw_zero]; omega
  have hl := lims_len hle
  refine fnC_v hmix hT ok_qof (by simp) ?_
  (repeat' (first|refine stp ?_|with_reducible(refine brr ?_ ?_<;>intro h)));all_goals try(conv=>whnf)
  refine callV_data (c_iof x hx) rfl ?_
  (repeat' (first|refine stp ?_|with_reducible(refine brr ?_ ?_<;>intro h)));all_goals try(conv=>whnf)
  refine callV_data (c_qwhole x (by omega)) rfl ?_
  (repeat' (first|refine stp ?_|with_reducible(refine brr ?_ ?_<;>intro h)));all_goals try(conv=>whnf)
  exact givesV_to rfl rfl
theorem ok_qsign : FnOk Try.prog 24 Try.f24 (Try.f24.body.getD .skip) [.tmp 2] 6 := ⟨Try.func24, rfl, by decide, Try.ntmps24, Try.results24, by kernel_rfl, by kernel_rfl⟩
theorem c_qsign (x : RatL) (hx : okR x) (hl : x.num.length < 2147483636) : Fn 24 [encRat x] (.data (.int .i64 (sgnQ (qv x)))) := by
  have cs := c_qsigned x hx (by omega)
  have h2 := lims_len_nv hx.1
  have ci := c_isign (cz (sg x.neg (nv x.num))) (lims_ok _) (by show (lims _).length < _; rw [sg_abs]; omega)
  rw [iv_cz, ← sgnQ_qv] at ci
  refine fnC_v hmix hT ok_qsign (by simp [encRat]) ?_
  (repeat' (first|refine stp ?_|with_reducible(refine brr ?_ ?_<;>intro h)));all_goals try(conv=>whnf)
  refine callV_data cs rfl ?_
  (repeat' (first|refine stp ?_|with_reducible(refine brr ?_ ?_<;>intro h)));all_goals try(conv=>whnf)
  refine callV_data ci rfl ?_
  (repeat' (first|refine stp ?_|with_reducible(refine brr ?_ ?_<;>intro h)));all_goals try(conv=>whnf)
  exact givesV_to rfl rfl
theorem ok_qcross : FnOk Try.prog 70 Try.f70 (Try.f70.body.getD .skip) [.cell 4 61, .cell 5 61] 22 := ⟨Try.func70, rfl, by decide, Try.ntmps70, Try.results70, by kernel_rfl, by kernel_rfl⟩
theorem c_qcross (x y : RatL) (hx : okR x) (hy : okR y) (hl1 : x.num.length < 1000000000) (hl2 : x.den.length < 1000000000) (hl3 : y.num.length < 1000000000) (hl4 : y.den.length < 1000000000) : Fn 70 [encRat x, encRat y] (.data (.tup [encInt (cz (sg x.neg (nv x.num) * dn y.den)), encInt (cz (sg y.neg (nv y.num) * dn x.den))])) := by
  have cs1 := c_qsigned x hx (by omega)
  have cs2 := c_qsigned y hy (by omega)
  have cu1 := c_qunder x hx (by omega)
  have cu2 := c_qunder y hy (by omega)
  have h1 := lims_len_nv hx.1
  have h2 := lims_len_nv hy.1
  have u1 := und_len x.den
  have u2 := und_len y.den
  have cm1 := c_imul (cz (sg x.neg (nv x.num))) ⟨false, und y.den⟩ (lims_ok _) (ok_und hy.2) (by show (lims _).length < _; rw [sg_abs]; omega) (by show (und _).length < _; omega)
  have cm2 := c_imul (cz (sg y.neg (nv y.num))) ⟨false, und x.den⟩ (lims_ok _) (ok_und hx.2) (by show (lims _).length < _; rw [sg_abs]; omega) (by show (und _).length < _; omega)
  rw [iv_cz, show iv ⟨false, und y.den⟩ = dn y.den by show sg false _ = _; rw [nv_und]; rfl] at cm1
  rw [iv_cz, show iv ⟨false, und x.den⟩ = dn x.den by show sg false _ = _; rw [nv_und]; rfl] at cm2
  refine fnC_v hmix hT ok_qcross (by simp [encRat]) ?_
  (repeat' (first|refine stp ?_|with_reducible(refine brr ?_ ?_<;>intro h)));all_goals try(conv=>whnf)
  refine callV_data cu1 rfl ?_
  (repeat' (first|refine stp ?_|with_reducible(refine brr ?_ ?_<;>intro h)));all_goals try(conv=>whnf)
  refine callV_data cu2 rfl ?_
  (repeat' (first|refine stp ?_|with_reducible(refine brr ?_ ?_<;>intro h)));all_goals try(conv=>whnf)
  refine callV_data cs1 rfl ?_
  (repeat' (first|refine stp ?_|with_reducible(refine brr ?_ ?_<;>intro h)));all_goals try(conv=>whnf)
  refine callV_data cm1 rfl ?_
  (repeat' (first|refine stp ?_|with_reducible(refine brr ?_ ?_<;>intro h)));all_goals try(conv=>whnf)
  refine callV_data cs2 rfl ?_
  (repeat' (first|refine stp ?_|with_reducible(refine brr ?_ ?_<;>intro h)));all_goals try(conv=>whnf)
  refine callV_data cm2 rfl ?_
  (repeat' (first|refine stp ?_|with_reducible(refine brr ?_ ?_<;>intro h)));all_goals try(conv=>whnf)
  exact givesV_to rfl rfl
theorem cmp_sgn (X Y : Int) : (X - Y).sign = cmpI X Y := by
  have := sgn_cases (X - Y)
  unfold cmpI
  repeat' split
  all_goals omega
theorem cmp_sign {z1 z2 : Int} {d1 d2 : Nat} (h1 : d1 ≠ 0) (h2 : d2 ≠ 0) (h : z1.sign < z2.sign) : z1 * d2 < z2 * d1 := by
  have e1 : (z1 * d2).sign = z1.sign := by rw [Int.sign_mul, Int.sign_natCast_of_ne_zero h2, Int.mul_one]
  have e2 : (z2 * d1).sign = z2.sign := by rw [Int.sign_mul, Int.sign_natCast_of_ne_zero h1, Int.mul_one]
  have := sgn_cases (z1 * d2)
  have := sgn_cases (z2 * d1)
  omega
theorem len_mul {z : Int} {d : List Int} {j : Nat} {xs : List Int} (h1 : okN xs) (h : z.natAbs = nv xs) (hd : okN d) (hj : xs.length + d.length + 1 ≤ j) : (lims (z * (dn d : Nat)).natAbs).length ≤ j := by
  refine lims_len ?_
  rw [Int.natAbs_mul, h, Int.natAbs_natCast]
  exact Nat.lt_of_lt_of_le (pw_mul_lt (nv_lt h1) (dn_lt hd (Nat.le_succ _) (by omega))) (pw_le (by omega))
theorem ok_qcmp : FnOk Try.prog 66 Try.f66 (Try.f66.body.getD .skip) [.tmp 4] 28 := ⟨Try.func66, rfl, by decide, Try.ntmps66, Try.results66, by kernel_rfl, by kernel_rfl⟩
theorem c_qcmp (x y : RatL) (hx : okR x) (hy : okR y) (hl1 : x.num.length < 1000000000) (hl2 : x.den.length < 1000000000) (hl3 : y.num.length < 1000000000) (hl4 : y.den.length < 1000000000) : Fn 66 [encRat x, encRat y] (.data (.int .i64 (sgnQ (qv x - qv y)))) := by
  have cs1 := c_qsign x hx (by omega)
  have cs2 := c_qsign y hy (by omega)
  have cc := c_qcross x y hx hy hl1 hl2 hl3 hl4
  have k1 := len_mul (z := sg x.neg (nv x.num)) hx.1 (sg_abs ..) hy.2 (Nat.le_refl _)
  have k2 := len_mul (z := sg y.neg (nv y.num)) hy.1 (sg_abs ..) hx.2 (Nat.le_refl _)
  have ci := c_icmp (cz (sg x.neg (nv x.num) * dn y.den)) (cz (sg y.neg (nv y.num) * dn x.den)) (lims_ok _) (lims_ok _) (by show (lims _).length < _; omega) (by show (lims _).length < _; omega)
  rw [sgnQ_sub, cmp_sgn]
  rw [iv_cz, iv_cz] at ci
  have m1 := cmp_sign (z1 := sg x.neg (nv x.num)) (z2 := sg y.neg (nv y.num)) (dn_pos x.den) (dn_pos y.den)
  have m2 := cmp_sign (z1 := sg y.neg (nv y.num)) (z2 := sg x.neg (nv x.num)) (dn_pos y.den) (dn_pos x.den)
  rw [sgnQ_qv] at cs1 cs2
  refine fnC_v hmix hT ok_qcmp (by simp [encRat]) ?_
  (repeat' (first|refine stp ?_|with_reducible(refine brr ?_ ?_<;>intro h)));all_goals try(conv=>whnf)
  refine callV_data cs1 rfl ?_
  (repeat' (first|refine stp ?_|with_reducible(refine brr ?_ ?_<;>intro h)));all_goals try(conv=>whnf)
  refine callV_data cs2 rfl ?_
  (repeat' (first|refine stp ?_|with_reducible(refine brr ?_ ?_<;>intro h)));all_goals try(conv=>whnf)
  · refine givesV_to rfl ?_
    have := m1 h
    unfold cmpI; rw [if_pos this]
  · refine givesV_to rfl ?_
    have := m2 (by omega)
    unfold cmpI; rw [if_neg (by omega), if_pos this]
  · refine callV_data cc rfl ?_
    (repeat' (first|refine stp ?_|with_reducible(refine brr ?_ ?_<;>intro h)));all_goals try(conv=>whnf)
    refine callV_data ci rfl ?_
    (repeat' (first|refine stp ?_|with_reducible(refine brr ?_ ?_<;>intro h)));all_goals try(conv=>whnf)
    exact givesV_to rfl rfl
theorem ok_qadd : FnOk Try.prog 54 Try.f54 (Try.f54.body.getD .skip) [.cell 4 42] 27 := ⟨Try.func54, rfl, by decide, Try.ntmps54, Try.results54, by kernel_rfl, by kernel_rfl⟩
theorem c_qadd (x y : RatL) (hx : okR x) (hy : okR y) (hl1 : x.num.length < 1000000000) (hl2 : x.den.length < 1000000000) (hl3 : y.num.length < 1000000000) (hl4 : y.den.length < 1000000000) : Fn 54 [encRat x, encRat y] (.data (encRat (cr (qv x + qv y)))) := by
  have cc := c_qcross x y hx hy hl1 hl2 hl3 hl4
  have cu1 := c_qunder x hx (by omega)
  have cu2 := c_qunder y hy (by omega)
  have u1 := und_len x.den
  have u2 := und_len y.den
  have k1 := len_mul (z := sg x.neg (nv x.num)) hx.1 (sg_abs ..) hy.2 (Nat.le_refl _)
  have k2 := len_mul (z := sg y.neg (nv y.num)) hy.1 (sg_abs ..) hx.2 (Nat.le_refl _)
  have ca := c_iadd (cz (sg x.neg (nv x.num) * dn y.den)) (cz (sg y.neg (nv y.num) * dn x.den)) (lims_ok _) (lims_ok _) (by show (lims _).length < _; omega) (by show (lims _).length < _; omega)
  rw [iv_cz, iv_cz] at ca
  have cm := c_nmul (und x.den) (und y.den) (ok_und hx.2) (ok_und hy.2) (by omega) (by omega)
  rw [nv_und, nv_und] at cm
  rw [qv_add]
  have kl : (lims (sg x.neg (nv x.num) * (dn y.den : Nat) + sg y.neg (nv y.num) * (dn x.den : Nat)).natAbs).length < 2000000010 := by
    obtain ⟨K, hK⟩ : ∃ K : Nat, K = 2000000003 := ⟨_, rfl⟩
    have e1 : (sg x.neg (nv x.num) * (dn y.den : Nat)).natAbs < pw K := by
      have := nv_lt (lims_ok (sg x.neg (nv x.num) * (dn y.den : Nat)).natAbs)
      rw [nv_lims] at this; exact Nat.lt_of_lt_of_le this (pw_le (by omega))
    have e2 : (sg y.neg (nv y.num) * (dn x.den : Nat)).natAbs < pw K := by
      have := nv_lt (lims_ok (sg y.neg (nv y.num) * (dn x.den : Nat)).natAbs)
      rw [nv_lims] at this; exact Nat.lt_of_lt_of_le this (pw_le (by omega))
    have e3 := pw_succ K
    have := lims_len (n := (sg x.neg (nv x.num) * (dn y.den : Nat) + sg y.neg (nv y.num) * (dn x.den : Nat)).natAbs) (k := K + 1) (by omega)
    omega
  have hd : dn x.den * dn y.den ≠ 0 := Nat.mul_ne_zero (dn_pos _) (dn_pos _)
  have k4 : (lims (dn x.den * dn y.den)).length ≤ x.den.length + y.den.length + 2 := by
    have := lims_mul_len (ok_und hx.2) (ok_und hy.2); rw [nv_und, nv_und] at this; omega
  generalize sg x.neg (nv x.num) * (dn y.den : Nat) + sg y.neg (nv y.num) * (dn x.den : Nat) = S at *
  generalize dn x.den * dn y.den = D at *
  have cq := c_qquot (cz S).neg (cz S).mag (lims D) (lims_ok _) (lims_ok _) (by rw [nv_lims]; exact hd) (by show (lims _).length < _; omega) (by omega)
  rw [show sg (cz S).neg (nv (cz S).mag) = S from iv_cz S, nv_lims] at cq
  refine fnC_v hmix hT ok_qadd (by simp [encRat]) ?_
  (repeat' (first|refine stp ?_|with_reducible(refine brr ?_ ?_<;>intro h)));all_goals try(conv=>whnf)
  refine callV_data cc rfl ?_
  (repeat' (first|refine stp ?_|with_reducible(refine brr ?_ ?_<;>intro h)));all_goals try(conv=>whnf)
  refine callV_data ca rfl ?_
  (repeat' (first|refine stp ?_|with_reducible(refine brr ?_ ?_<;>intro h)));all_goals try(conv=>whnf)
  refine callV_data cu1 rfl ?_
  (repeat' (first|refine stp ?_|with_reducible(refine brr ?_ ?_<;>intro h)));all_goals try(conv=>whnf)
  refine callV_data cu2 rfl ?_
  (repeat' (first|refine stp ?_|with_reducible(refine brr ?_ ?_<;>intro h)));all_goals try(conv=>whnf)
  refine callV_data cm rfl ?_
  (repeat' (first|refine stp ?_|with_reducible(refine brr ?_ ?_<;>intro h)));all_goals try(conv=>whnf)
  refine callV_data cq rfl ?_
  (repeat' (first|refine stp ?_|with_reducible(refine brr ?_ ?_<;>intro h)));all_goals try(conv=>whnf)
  exact givesV_to rfl rfl
theorem ok_qmul : FnOk Try.prog 55 Try.f55 (Try.f55.body.getD .skip) [.cell 4 42] 21 := ⟨Try.func55, rfl, by decide, Try.ntmps55, Try.results55, by kernel_rfl, by kernel_rfl⟩
theorem c_qmul (x y : RatL) (hx : okR x) (hy : okR y) (hl1 : x.num.length < 1000000000) (hl2 : x.den.length < 1000000000) (hl3 : y.num.length < 1000000000) (hl4 : y.den.length < 1000000000) : Fn 55 [encRat x, encRat y] (.data (encRat (cr (qv x * qv y)))) := by
  have cu1 := c_qunder x hx (by omega)
  have cu2 := c_qunder y hy (by omega)
  have u1 := und_len x.den
  have u2 := und_len y.den
  have cm := c_nmul (und x.den) (und y.den) (ok_und hx.2) (ok_und hy.2) (by omega) (by omega)
  have cn := c_nmul x.num y.num hx.1 hy.1 (by omega) (by omega)
  rw [nv_und, nv_und] at cm
  have k3 := lims_mul_len hx.1 hy.1
  have k4 : (lims (dn x.den * dn y.den)).length ≤ x.den.length + y.den.length + 2 := by
    have := lims_mul_len (ok_und hx.2) (ok_und hy.2); rw [nv_und, nv_und] at this; omega
  have hd : dn x.den * dn y.den ≠ 0 := Nat.mul_ne_zero (dn_pos _) (dn_pos _)
  have cq := c_qquot (x.neg != y.neg) (lims (nv x.num * nv y.num)) (lims (dn x.den * dn y.den)) (lims_ok _) (lims_ok _) (by rw [nv_lims]; exact hd) (by omega) (by omega)
  rw [nv_lims, nv_lims, sg_mul, ← qv_mul] at cq
  refine fnC_v hmix hT ok_qmul (by simp [encRat]) ?_
  (repeat' (first|refine stp ?_|with_reducible(refine brr ?_ ?_<;>intro h)));all_goals try(conv=>whnf)
  refine callV_data cn rfl ?_
  (repeat' (first|refine stp ?_|with_reducible(refine brr ?_ ?_<;>intro h)));all_goals try(conv=>whnf)
  refine callV_data cu1 rfl ?_
  (repeat' (first|refine stp ?_|with_reducible(refine brr ?_ ?_<;>intro h)));all_goals try(conv=>whnf)
  refine callV_data cu2 rfl ?_
  (repeat' (first|refine stp ?_|with_reducible(refine brr ?_ ?_<;>intro h)));all_goals try(conv=>whnf)
  refine callV_data cm rfl ?_
  (repeat' (first|refine stp ?_|with_reducible(refine brr ?_ ?_<;>intro h)));all_goals try(conv=>whnf)
  refine callV_data cq rfl ?_
  (repeat' (first|refine stp ?_|with_reducible(refine brr ?_ ?_<;>intro h)));all_goals try(conv=>whnf)
  exact givesV_to rfl rfl
end Go.PI.Try
