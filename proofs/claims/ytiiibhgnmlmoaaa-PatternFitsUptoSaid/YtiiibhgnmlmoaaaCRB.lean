/-
  The reference: affine forms: Valid.
-/
import Derived.Test.YtiiibhgnmlmoaaaCNR
import Derived.Test.YtiiibhgnmlmoaaaCIB
import Derived.Test.YtiiibhgnmlmoaaaCPD
namespace Go.PI.Try
set_option linter.unnecessarySimpa false
open Go.Proofs Go.PI
set_option linter.unusedSimpArgs false
set_option linter.unusedVariables false
theorem ok_rimake : FnOk Try.prog 38 Try.f38 (Try.f38.body.getD .skip) [.cell 4 61] 16 := ⟨Try.func38, rfl, by decide, Try.ntmps38, Try.results38, by kernel_rfl, by kernel_rfl⟩
theorem c_rimake (b : Bool) (xs : List Int) (hx : okN xs) (hl : xs.length < 2147483646) : Fn 38 [.bool b, encN xs] (.data (encInt (cz (sg b (nv xs))))) := by
  rw [cz_sg]
  have ct := c_rnmake xs hx (by omega)
  have hz : lims (nv xs) = [] ↔ nv xs = 0 := ⟨lims_nil, fun h => by rw [h]; rfl⟩
  refine fnC_v hmix hT ok_rimake (by simp) ?_
  (repeat' (first|refine stp ?_|with_reducible(refine brr ?_ ?_<;>intro h)));all_goals try(conv=>whnf)
  refine callV_data ct rfl ?_
  (repeat' (first|refine stp ?_|with_reducible(refine brr ?_ ?_<;>intro h)));all_goals try(conv=>whnf)
  · refine givesV_to rfl ?_
    subst h
    have : (0 < (lims (nv xs)).length) ↔ nv xs ≠ 0 := by rw [List.length_pos_iff, ne_eq, hz]
    simp [encInt, this]
  · subst h
    exact givesV_to rfl rfl
theorem ok_riof : FnOk Try.prog 25 Try.f25 (Try.f25.body.getD .skip) [.cell 2 61] 14 := ⟨Try.func25, rfl, by decide, Try.ntmps25, Try.results25, by kernel_rfl, by kernel_rfl⟩
theorem c_riof (x : Int) (hx : -9223372036854775808 ≤ x ∧ x < 9223372036854775808) : Fn 25 [.int .i64 x] (.data (encInt (cz x))) := by
  have hle : x.natAbs < pw 2 := by rw [pw_succ, pw_succ, pw_zero]; omega
  have hl := lims_len hle
  refine fnC_v hmix hT ok_riof (by simp) ?_
  (repeat' (first|refine stp ?_|with_reducible(refine brr ?_ ?_<;>intro h)));all_goals try(conv=>whnf)
  · refine ov_m64 ?_
    (repeat' (first|refine stp ?_|with_reducible(refine brr ?_ ?_<;>intro h)));all_goals try(conv=>whnf)
    refine ov_m64 ?_
    have e : (0 - x % 18446744073709551616) % 18446744073709551616 = ((x.natAbs : Nat) : Int) := by omega
    (repeat' (first|refine stp ?_|with_reducible(refine brr ?_ ?_<;>intro h)));all_goals try(conv=>whnf)
    rw [e]
    refine callV_data (c_rnof x.natAbs (by omega)) rfl ?_
    (repeat' (first|refine stp ?_|with_reducible(refine brr ?_ ?_<;>intro h)));all_goals try(conv=>whnf)
    have cm := c_rimake true (lims x.natAbs) (lims_ok _) (by omega)
    rw [nv_lims, show sg true x.natAbs = x by unfold sg; rw [if_pos rfl]; omega] at cm
    refine callV_data cm rfl ?_
    (repeat' (first|refine stp ?_|with_reducible(refine brr ?_ ?_<;>intro h)));all_goals try(conv=>whnf)
    exact givesV_to rfl rfl
  · refine callV_data (c_rnof x.natAbs (by omega)) (by rw [Int.natAbs_of_nonneg (by omega)]; rfl) ?_
    (repeat' (first|refine stp ?_|with_reducible(refine brr ?_ ?_<;>intro h)));all_goals try(conv=>whnf)
    have cm := c_rimake false (lims x.natAbs) (lims_ok _) (by omega)
    rw [nv_lims, show sg false x.natAbs = x by unfold sg; rw [if_neg (by decide)]; omega] at cm
    refine callV_data cm rfl ?_
    (repeat' (first|refine stp ?_|with_reducible(refine brr ?_ ?_<;>intro h)));all_goals try(conv=>whnf)
    exact givesV_to rfl rfl
theorem ok_risign : FnOk Try.prog 76 Try.f76 (Try.f76.body.getD .skip) [.tmp 2] 16 := ⟨Try.func76, rfl, by decide, Try.ntmps76, Try.results76, by kernel_rfl, by kernel_rfl⟩
theorem c_risign (x : IntL) (hx : okN x.mag) (hl : x.mag.length < 2147483646) : Fn 76 [encInt x] (.data (.int .i64 (iv x).sign)) := by
  have cm := c_rimake x.neg x.mag hx (by omega)
  have hz : lims (nv x.mag) = [] ↔ nv x.mag = 0 := ⟨lims_nil, fun h => by rw [h]; rfl⟩
  rw [cz_sg] at cm
  unfold iv
  rw [sgn_sg]
  refine fnC_v hmix hT ok_risign (by simp [encInt]) ?_
  (repeat' (first|refine stp ?_|with_reducible(refine brr ?_ ?_<;>intro h)));all_goals try(conv=>whnf)
  refine callV_data cm rfl ?_
  (repeat' (first|refine stp ?_|with_reducible(refine brr ?_ ?_<;>intro h)));all_goals try(conv=>whnf)
  · refine givesV_to rfl ?_
    rw [if_pos (hz.1 (List.length_eq_zero_iff.1 (by omega)))]
  · refine givesV_to rfl ?_
    rw [if_neg h.2, h.1, if_pos rfl]
  · have hn : nv x.mag ≠ 0 := fun e => by rw [hz.2 e] at *; simp at *
    have hb : x.neg = false := by simpa [hn] using h
    refine givesV_to rfl ?_
    rw [if_neg hn, hb]; rfl
theorem ok_riadd : FnOk Try.prog 93 Try.f93 (Try.f93.body.getD .skip) [.cell 4 61] 46 := ⟨Try.func93, rfl, by decide, Try.ntmps93, Try.results93, by kernel_rfl, by kernel_rfl⟩
theorem c_riadd (x y : IntL) (hx : okN x.mag) (hy : okN y.mag) (hl : x.mag.length < 2147483644) (hl2 : y.mag.length < 2147483644) : Fn 93 [encInt x, encInt y] (.data (encInt (cz (iv x + iv y)))) := by
  have ca := c_rnadd x.mag y.mag hx hy (by omega) (by omega)
  have cs1 := c_rnsub x.mag y.mag hx hy (by omega) (by omega)
  have cs2 := c_rnsub y.mag x.mag hy hx (by omega) (by omega)
  refine fnC_v hmix hT ok_riadd (by simp [encInt]) ?_
  (repeat' (first|refine stp ?_|with_reducible(refine brr ?_ ?_<;>intro h)));all_goals try(conv=>whnf)
  · refine callV_data ca rfl ?_
    (repeat' (first|refine stp ?_|with_reducible(refine brr ?_ ?_<;>intro h)));all_goals try(conv=>whnf)
    have cm := c_rimake x.neg (lims (nv x.mag + nv y.mag)) (lims_ok _) (by have := lims_len_nv hx; have := lims_add_len2 hx hy; omega)
    rw [nv_lims] at cm
    refine callV_data cm rfl ?_
    (repeat' (first|refine stp ?_|with_reducible(refine brr ?_ ?_<;>intro h)));all_goals try(conv=>whnf)
    refine givesV_to rfl ?_
    rw [show iv x + iv y = sg x.neg (nv x.mag + nv y.mag) by unfold iv; rw [← h]; unfold sg; split <;> omega]; rfl
  · by_cases hlt : nv x.mag < nv y.mag
    · unfold subR at cs1 cs2
      rw [if_pos hlt] at cs1
      rw [if_neg (by omega)] at cs2
      refine callV_data cs1 rfl ?_
      (repeat' (first|refine stp ?_|with_reducible(refine brr ?_ ?_<;>intro h)));all_goals try(conv=>whnf)
      refine callV_data cs2 rfl ?_
      (repeat' (first|refine stp ?_|with_reducible(refine brr ?_ ?_<;>intro h)));all_goals try(conv=>whnf)
      have cm := c_rimake y.neg (lims (nv y.mag - nv x.mag)) (lims_ok _) (by have := lims_len_le2 hy (n := nv y.mag - nv x.mag) (by omega); omega)
      rw [nv_lims] at cm
      refine callV_data cm rfl ?_
      (repeat' (first|refine stp ?_|with_reducible(refine brr ?_ ?_<;>intro h)));all_goals try(conv=>whnf)
      refine givesV_to rfl ?_
      rw [show iv x + iv y = sg y.neg (nv y.mag - nv x.mag) by have : x.neg = !y.neg := by (cases hh : x.neg <;> cases hh' : y.neg <;> simp_all)
                                                               unfold iv; rw [this, sg_not]; unfold sg; split <;> omega]
      rfl
    · unfold subR at cs1
      rw [if_neg (by omega)] at cs1
      refine callV_data cs1 rfl ?_
      (repeat' (first|refine stp ?_|with_reducible(refine brr ?_ ?_<;>intro h)));all_goals try(conv=>whnf)
      have cm := c_rimake x.neg (lims (nv x.mag - nv y.mag)) (lims_ok _) (by have := lims_len_le2 hx (n := nv x.mag - nv y.mag) (by omega); omega)
      rw [nv_lims] at cm
      refine callV_data cm rfl ?_
      (repeat' (first|refine stp ?_|with_reducible(refine brr ?_ ?_<;>intro h)));all_goals try(conv=>whnf)
      refine givesV_to rfl ?_
      rw [show iv x + iv y = sg x.neg (nv x.mag - nv y.mag) by have : y.neg = !x.neg := by (cases hh : x.neg <;> cases hh' : y.neg <;> simp_all)
                                                               unfold iv; rw [this, sg_not]; unfold sg; split <;> omega]
      rfl
end Go.PI.Try
namespace Go.PI.Try
set_option linter.unnecessarySimpa false
open Go.Proofs Go.PI
set_option linter.unusedSimpArgs false
set_option linter.unusedVariables false
theorem dn_len {d : List Int} (h : okN d) : (lims (dn d)).length ≤ d.length + 1 := lims_len (dn_lt h (Nat.le_succ _) (by omega))
theorem ok_rqone : FnOk Try.prog 92 Try.f92 (Try.f92.body.getD .skip) [.tmp 2] 11 := ⟨Try.func92, rfl, by decide, Try.ntmps92, Try.results92, by kernel_rfl, by kernel_rfl⟩
theorem c_rqone (d : List Int) (hd : okN d) (hl : d.length < 2147483636) : Fn 92 [encN d] (.data (encN (lims (dn d)))) := by
  have cm := c_rnmake d hd (by omega)
  have h2 := lims_len_nv hd
  refine fnC_v hmix hT ok_rqone (by simp) ?_
  (repeat' (first|refine stp ?_|with_reducible(refine brr ?_ ?_<;>intro h)));all_goals try(conv=>whnf)
  refine callV_data cm rfl ?_
  (repeat' (first|refine stp ?_|with_reducible(refine brr ?_ ?_<;>intro h)));all_goals try(conv=>whnf)
  · have : nv d = 0 := lims_nil (List.length_eq_zero_iff.1 (by omega))
    refine givesV_to rfl ?_
    rw [dn, if_pos this]; rfl
  · have : nv d ≠ 0 := fun e => h (by rw [e]; rfl)
    refine givesV_to rfl ?_
    rw [dn, if_neg this]
theorem ok_rqquot : FnOk Try.prog 94 Try.f94 (Try.f94.body.getD .skip) [.cell 6 42] 49 := ⟨Try.func94, rfl, by decide, Try.ntmps94, Try.results94, by kernel_rfl, by kernel_rfl⟩
theorem c_rqquot (b : Bool) (xs ys : List Int) (hx : okN xs) (hy : okN ys) (h0 : nv ys ≠ 0) (hl : xs.length < 2147483626) (hl2 : ys.length < 2147483626) : Fn 94 [.bool b, encN xs, encN ys] (.data (encRat (cr (mkRat (sg b (nv xs)) (nv ys))))) := by
  have h1 := lims_len_nv hx
  have h2 := lims_len_nv hy
  have hone : ∀ n, lims n = [1] ↔ n = 1 := fun n => ⟨fun h => by rw [← nv_lims n, h]; rfl, fun h => by rw [h]; rfl⟩
  have hnil : ∀ n, lims n = [] ↔ n = 0 := fun n => ⟨lims_nil, fun h => by rw [h]; rfl⟩
  rw [cr_mk _ _ h0]
  have cg := c_rngcd xs ys hx hy (by omega) (by omega)
  have hg0 : Nat.gcd (nv xs) (nv ys) ≠ 0 := fun e => h0 (Nat.eq_zero_of_gcd_eq_zero_right e)
  have hg3 : Nat.gcd (nv xs) (nv ys) ∣ nv xs := Nat.gcd_dvd_left ..
  have hgl : (lims (Nat.gcd (nv xs) (nv ys))).length ≤ (lims (nv ys)).length := lims_len_le (Nat.gcd_le_right _ (by omega))
  generalize Nat.gcd (nv xs) (nv ys) = G at *
  have cd1 := c_rndivmod xs (lims G) hx (lims_ok _) (by omega) (by omega)
  have cd2 := c_rndivmod ys (lims G) hy (lims_ok _) (by omega) (by omega)
  rw [nv_lims, if_neg hg0, if_neg hg0] at cd1 cd2
  have hl3 : (lims (nv ys / G)).length ≤ (lims (nv ys)).length := lims_len_le (Nat.div_le_self ..)
  have hN0 : nv xs / G = 0 ↔ nv xs = 0 := by
    obtain ⟨k, hk⟩ := hg3
    rw [hk, Nat.mul_div_cancel_left _ (by omega)]
    constructor
    · intro e; rw [e]; rfl
    · intro e; rcases Nat.mul_eq_zero.1 e with e | e
      · exact absurd e hg0
      · exact e
  generalize nv xs / G = A at *
  generalize nv ys / G = B at *
  have hA := hnil A
  have hB := hone B
  have hl4 : (lims A).length = 0 ↔ A = 0 := by rw [List.length_eq_zero_iff, hA]
  have hbA : (b && decide (nv xs ≠ 0)) = (b && decide ((lims A).length > 0)) := by congr 1; rw [decide_eq_decide]; omega
  rw [hbA]
  have hbB : (if B = 1 then [] else lims B) = (if lims B = [1] then [] else lims B) := by simp only [hB]
  rw [hbB]
  generalize lims A = LA at *
  generalize lims B = LB at *
  have hLB : LB = [1] ↔ ((LB.length : Int) = 1 ∧ LB[0]! = 1) := by
    constructor
    · intro e; subst e; simp
    · rintro ⟨e1, e2⟩
      obtain ⟨x, rfl⟩ := List.length_eq_one_iff.1 (show LB.length = 1 by omega)
      simpa using e2
  refine fnC_v hmix hT ok_rqquot (by simp) ?_
  (repeat' (first|refine stp ?_|with_reducible(refine brr ?_ ?_<;>intro h)));all_goals try(conv=>whnf)
  refine callV_data cg rfl ?_
  (repeat' (first|refine stp ?_|with_reducible(refine brr ?_ ?_<;>intro h)));all_goals try(conv=>whnf)
  refine callV_data cd1 rfl ?_
  (repeat' (first|refine stp ?_|with_reducible(refine brr ?_ ?_<;>intro h)));all_goals try(conv=>whnf)
  refine callV_data cd2 rfl ?_
  (repeat' (first|refine stp ?_|with_reducible(refine brr ?_ ?_<;>intro h)));all_goals try(conv=>whnf)
  all_goals
    refine givesV_to rfl ?_
    by_cases e : LB = [1]
    · rw [if_pos e]
      first | exact absurd (hLB.1 e).1 (by assumption) | exact absurd (hLB.1 e).2 (by assumption) | (subst h; simp [encRat])
    · rw [if_neg e]
      first | exact absurd (hLB.2 ⟨by assumption, by assumption⟩) e | (subst h; simp [encRat])
theorem ok_rqcanon : FnOk Try.prog 95 Try.f95 (Try.f95.body.getD .skip) [.cell 2 42] 11 := ⟨Try.func95, rfl, by decide, Try.ntmps95, Try.results95, by kernel_rfl, by kernel_rfl⟩
theorem c_rqcanon (x : RatL) (hx : okR x) (hl : x.num.length < 2147483616) (hl2 : x.den.length < 2147483616) : Fn 95 [encRat x] (.data (encRat (cr (qv x)))) := by
  have cu := c_rqone x.den hx.2 (by omega)
  have hl3 := dn_len hx.2
  have cq := c_rqquot x.neg x.num (lims (dn x.den)) hx.1 (lims_ok _) (by rw [nv_lims]; exact dn_pos _) (by omega) (by omega)
  rw [nv_lims] at cq
  refine fnC_v hmix hT ok_rqcanon (by simp [encRat]) ?_
  (repeat' (first|refine stp ?_|with_reducible(refine brr ?_ ?_<;>intro h)));all_goals try(conv=>whnf)
  refine callV_data cu rfl ?_
  (repeat' (first|refine stp ?_|with_reducible(refine brr ?_ ?_<;>intro h)));all_goals try(conv=>whnf)
  refine callV_data cq rfl ?_
  (repeat' (first|refine stp ?_|with_reducible(refine brr ?_ ?_<;>intro h)));all_goals try(conv=>whnf)
  exact givesV_to rfl rfl
theorem ok_rqof : FnOk Try.prog 14 Try.f14 (Try.f14.body.getD .skip) [.cell 2 42] 11 := ⟨Try.func14, rfl, by decide, Try.ntmps14, Try.results14, by kernel_rfl, by kernel_rfl⟩
theorem c_rqof (x : Int) (hx : -9223372036854775808 ≤ x ∧ x < 9223372036854775808) : Fn 14 [.int .i64 x] (.data (encRat (cr x))) := by
  refine fnC_v hmix hT ok_rqof (by simp) ?_
  (repeat' (first|refine stp ?_|with_reducible(refine brr ?_ ?_<;>intro h)));all_goals try(conv=>whnf)
  refine callV_data (c_riof x hx) rfl ?_
  (repeat' (first|refine stp ?_|with_reducible(refine brr ?_ ?_<;>intro h)));all_goals try(conv=>whnf)
  refine givesV_to rfl ?_
  simp [encRat, cr, cz]
  exact decide_eq_decide.2 Iff.rfl
theorem ok_rqsign : FnOk Try.prog 60 Try.f60 (Try.f60.body.getD .skip) [.tmp 2] 9 := ⟨Try.func60, rfl, by decide, Try.ntmps60, Try.results60, by kernel_rfl, by kernel_rfl⟩
theorem c_rqsign (x : RatL) (hx : okR x) (hl : x.num.length < 2147483636) : Fn 60 [encRat x] (.data (.int .i64 (sgnQ (qv x)))) := by
  have cs := c_risign ⟨x.neg, x.num⟩ hx.1 (by show x.num.length < _; omega)
  rw [sgnQ_qv]
  refine fnC_v hmix hT ok_rqsign (by simp [encRat]) ?_
  (repeat' (first|refine stp ?_|with_reducible(refine brr ?_ ?_<;>intro h)));all_goals try(conv=>whnf)
  refine callV_data cs rfl ?_
  (repeat' (first|refine stp ?_|with_reducible(refine brr ?_ ?_<;>intro h)));all_goals try(conv=>whnf)
  exact givesV_to rfl rfl
theorem ok_rqneg : FnOk Try.prog 78 Try.f78 (Try.f78.body.getD .skip) [.cell 2 42] 9 := ⟨Try.func78, rfl, by decide, Try.ntmps78, Try.results78, by kernel_rfl, by kernel_rfl⟩
theorem c_rqneg (x : RatL) (hx : okR x) (hl : x.num.length < 2147483616) (hl2 : x.den.length < 2147483616) : Fn 78 [encRat x] (.data (encRat (cr (- qv x)))) := by
  have cc := c_rqcanon ⟨!x.neg, x.num, x.den⟩ hx hl hl2
  rw [show qv ⟨!x.neg, x.num, x.den⟩ = - qv x by unfold qv; rw [Rat.neg_mkRat, sg_not]] at cc
  refine fnC_v hmix hT ok_rqneg (by simp [encRat]) ?_
  (repeat' (first|refine stp ?_|with_reducible(refine brr ?_ ?_<;>intro h)));all_goals try(conv=>whnf)
  refine callV_data cc rfl ?_
  (repeat' (first|refine stp ?_|with_reducible(refine brr ?_ ?_<;>intro h)));all_goals try(conv=>whnf)
  exact givesV_to rfl rfl
theorem ok_rqadd : FnOk Try.prog 77 Try.f77 (Try.f77.body.getD .skip) [.cell 4 42] 41 := ⟨Try.func77, rfl, by decide, Try.ntmps77, Try.results77, by kernel_rfl, by kernel_rfl⟩
theorem c_rqadd (x y : RatL) (hx : okR x) (hy : okR y) (hl1 : x.num.length < 1000000000) (hl2 : x.den.length < 1000000000) (hl3 : y.num.length < 1000000000) (hl4 : y.den.length < 1000000000) : Fn 77 [encRat x, encRat y] (.data (encRat (cr (qv x + qv y)))) := by
  have cu1 := c_rqone x.den hx.2 (by omega)
  have cu2 := c_rqone y.den hy.2 (by omega)
  have u1 := dn_len hx.2
  have u2 := dn_len hy.2
  have k1 := len_mul (z := nv x.num) hx.1 (Int.natAbs_natCast _) hy.2 (Nat.le_refl _)
  have k2 := len_mul (z := nv y.num) hy.1 (Int.natAbs_natCast _) hx.2 (Nat.le_refl _)
  rw [← Int.natCast_mul, Int.natAbs_natCast] at k1 k2
  have m1 := c_rnmul x.num (lims (dn y.den)) hx.1 (lims_ok _) (by omega) (by omega)
  have m2 := c_rnmul y.num (lims (dn x.den)) hy.1 (lims_ok _) (by omega) (by omega)
  have cm := c_rnmul (lims (dn x.den)) (lims (dn y.den)) (lims_ok _) (lims_ok _) (by omega) (by omega)
  rw [nv_lims] at m1 m2
  rw [nv_lims, nv_lims] at cm
  have ca := c_riadd ⟨x.neg, lims (nv x.num * dn y.den)⟩ ⟨y.neg, lims (nv y.num * dn x.den)⟩ (lims_ok _) (lims_ok _) (by show (lims _).length < _; omega) (by show (lims _).length < _; omega)
  unfold iv at ca
  simp only [nv_lims, sg_mulr] at ca
  rw [qv_add]
  have kl : (lims (sg x.neg (nv x.num) * (dn y.den : Nat) + sg y.neg (nv y.num) * (dn x.den : Nat)).natAbs).length < 2000000010 := by
    obtain ⟨K, hK⟩ : ∃ K : Nat, K = 2000000003 := ⟨_, rfl⟩
    have e0 : (sg x.neg (nv x.num) * (dn y.den : Nat)).natAbs = nv x.num * dn y.den := by rw [Int.natAbs_mul, sg_abs, Int.natAbs_natCast]
    have e0' : (sg y.neg (nv y.num) * (dn x.den : Nat)).natAbs = nv y.num * dn x.den := by rw [Int.natAbs_mul, sg_abs, Int.natAbs_natCast]
    have e1 : (sg x.neg (nv x.num) * (dn y.den : Nat)).natAbs < pw K := by
      have := nv_lt (lims_ok (nv x.num * dn y.den))
      rw [nv_lims] at this; rw [e0]; exact Nat.lt_of_lt_of_le this (pw_le (by omega))
    have e2 : (sg y.neg (nv y.num) * (dn x.den : Nat)).natAbs < pw K := by
      have := nv_lt (lims_ok (nv y.num * dn x.den))
      rw [nv_lims] at this; rw [e0']; exact Nat.lt_of_lt_of_le this (pw_le (by omega))
    have e3 := pw_succ K
    have := lims_len (n := (sg x.neg (nv x.num) * (dn y.den : Nat) + sg y.neg (nv y.num) * (dn x.den : Nat)).natAbs) (k := K + 1) (by omega)
    omega
  have hd : dn x.den * dn y.den ≠ 0 := Nat.mul_ne_zero (dn_pos _) (dn_pos _)
  have k4 : (lims (dn x.den * dn y.den)).length ≤ x.den.length + y.den.length + 2 := by
    have := lims_mul_len (ok_und hx.2) (ok_und hy.2); rw [nv_und, nv_und] at this
    have := und_len x.den; have := und_len y.den; omega
  generalize sg x.neg (nv x.num) * (dn y.den : Nat) + sg y.neg (nv y.num) * (dn x.den : Nat) = S at *
  generalize dn x.den * dn y.den = D at *
  have cq := c_rqquot (cz S).neg (cz S).mag (lims D) (lims_ok _) (lims_ok _) (by rw [nv_lims]; exact hd) (by show (lims _).length < _; omega) (by omega)
  rw [show sg (cz S).neg (nv (cz S).mag) = S from iv_cz S, nv_lims] at cq
  refine fnC_v hmix hT ok_rqadd (by simp [encRat]) ?_
  (repeat' (first|refine stp ?_|with_reducible(refine brr ?_ ?_<;>intro h)));all_goals try(conv=>whnf)
  refine callV_data cu2 rfl ?_
  (repeat' (first|refine stp ?_|with_reducible(refine brr ?_ ?_<;>intro h)));all_goals try(conv=>whnf)
  refine callV_data m1 rfl ?_
  (repeat' (first|refine stp ?_|with_reducible(refine brr ?_ ?_<;>intro h)));all_goals try(conv=>whnf)
  refine callV_data cu1 rfl ?_
  (repeat' (first|refine stp ?_|with_reducible(refine brr ?_ ?_<;>intro h)));all_goals try(conv=>whnf)
  refine callV_data m2 rfl ?_
  (repeat' (first|refine stp ?_|with_reducible(refine brr ?_ ?_<;>intro h)));all_goals try(conv=>whnf)
  refine callV_data ca rfl ?_
  (repeat' (first|refine stp ?_|with_reducible(refine brr ?_ ?_<;>intro h)));all_goals try(conv=>whnf)
  refine callV_data cu1 rfl ?_
  (repeat' (first|refine stp ?_|with_reducible(refine brr ?_ ?_<;>intro h)));all_goals try(conv=>whnf)
  refine callV_data cu2 rfl ?_
  (repeat' (first|refine stp ?_|with_reducible(refine brr ?_ ?_<;>intro h)));all_goals try(conv=>whnf)
  refine callV_data cm rfl ?_
  (repeat' (first|refine stp ?_|with_reducible(refine brr ?_ ?_<;>intro h)));all_goals try(conv=>whnf)
  refine callV_data cq rfl ?_
  (repeat' (first|refine stp ?_|with_reducible(refine brr ?_ ?_<;>intro h)));all_goals try(conv=>whnf)
  exact givesV_to rfl rfl
theorem ok_rqsub : FnOk Try.prog 61 Try.f61 (Try.f61.body.getD .skip) [.cell 4 42] 9 := ⟨Try.func61, rfl, by decide, Try.ntmps61, Try.results61, by kernel_rfl, by kernel_rfl⟩
theorem c_rqsub (x y : RatL) (hx : okR x) (hy : okR y) (hl1 : x.num.length < 999999999) (hl2 : x.den.length < 999999999) (hl3 : y.num.length < 999999999) (hl4 : y.den.length < 999999999) : Fn 61 [encRat x, encRat y] (.data (encRat (cr (qv x - qv y)))) := by
  have cn := c_rqneg y hy (by omega) (by omega)
  have hL := cr_len (sz_neg (sz_qv hy (k := max (max y.num.length y.den.length) 1) (by omega) (by omega) (by omega)))
  have ca := c_rqadd x (cr (- qv y)) hx (okR_cr _) (by omega) (by omega) (by omega) (by omega)
  rw [qv_cr, ← Rat.sub_eq_add_neg] at ca
  refine fnC_v hmix hT ok_rqsub (by simp [encRat]) ?_
  (repeat' (first|refine stp ?_|with_reducible(refine brr ?_ ?_<;>intro h)));all_goals try(conv=>whnf)
  refine callV_data cn rfl ?_
  (repeat' (first|refine stp ?_|with_reducible(refine brr ?_ ?_<;>intro h)));all_goals try(conv=>whnf)
  refine callV_data ca rfl ?_
  (repeat' (first|refine stp ?_|with_reducible(refine brr ?_ ?_<;>intro h)));all_goals try(conv=>whnf)
  exact givesV_to rfl rfl
theorem ok_rqcmp : FnOk Try.prog 44 Try.f44 (Try.f44.body.getD .skip) [.tmp 4] 9 := ⟨Try.func44, rfl, by decide, Try.ntmps44, Try.results44, by kernel_rfl, by kernel_rfl⟩
theorem c_rqcmp (x y : RatL) (hx : okR x) (hy : okR y) (hl1 : x.num.length < 999999999) (hl2 : x.den.length < 999999999) (hl3 : y.num.length < 999999999) (hl4 : y.den.length < 999999999) : Fn 44 [encRat x, encRat y] (.data (.int .i64 (sgnQ (qv x - qv y)))) := by
  have cs := c_rqsub x y hx hy hl1 hl2 hl3 hl4
  have hL := cr_len (sz_add (sz_qv hx (k := 999999999) (by omega) (by omega) (by omega)) (sz_neg (sz_qv hy (k := 999999999) (by omega) (by omega) (by omega))))
  rw [← Rat.sub_eq_add_neg] at hL
  have cg := c_rqsign (cr (qv x - qv y)) (okR_cr _) (by omega)
  rw [qv_cr] at cg
  refine fnC_v hmix hT ok_rqcmp (by simp [encRat]) ?_
  (repeat' (first|refine stp ?_|with_reducible(refine brr ?_ ?_<;>intro h)));all_goals try(conv=>whnf)
  refine callV_data cs rfl ?_
  (repeat' (first|refine stp ?_|with_reducible(refine brr ?_ ?_<;>intro h)));all_goals try(conv=>whnf)
  refine callV_data cg rfl ?_
  (repeat' (first|refine stp ?_|with_reducible(refine brr ?_ ?_<;>intro h)));all_goals try(conv=>whnf)
  exact givesV_to rfl rfl
end Go.PI.Try
namespace Go.PI.Try
set_option linter.unnecessarySimpa false
open Go.Proofs Go.PI
set_option linter.unusedSimpArgs false
set_option linter.unusedVariables false
end Go.PI.Try
