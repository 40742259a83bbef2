/-
  The reference: affine forms: Valid.
-/
import Derived.Test.YtiiibhgnmlmoaaaGreatCNR
import Derived.Test.YtiiibhgnmlmoaaaGreatCIB
import Derived.Test.YtiiibhgnmlmoaaaGreatCPD
namespace Go.PI.Tryz
set_option linter.unnecessarySimpa false
open Go.Proofs Go.PI
set_option linter.unusedSimpArgs false
set_option linter.unusedVariables false
theorem ok_rimake : FnOk Tryz.prog 75 Tryz.f75 (Tryz.f75.body.getD .skip) [.cell 4 75] 16 := ⟨Tryz.func75, rfl, by decide, Tryz.ntmps75, Tryz.results75, by kernel_rfl, by kernel_rfl⟩
theorem c_rimake (b : Bool) (xs : List Int) (hx : okN xs) (hl : xs.length < 2147483646) : Fn 75 [.bool b, encN xs] (.data (encInt (cz (sg b (nv xs))))) := by
  rw [cz_sg]
  have ct := c_rnmake xs hx (by omega)
  have hz : lims (nv xs) = [] ↔ nv xs = 0 := ⟨lims_nil, fun h => by rw [h]; rfl⟩
  refine fnC_v hmix hT ok_rimake (by simp) ?_
  (repeat' (first|refine stp ?_|with_reducible(refine brr ?_ ?_<;>intro h)));all_goals try(conv=>whnf)
  refine callV_data ct rfl ?_
  (repeat' (first|refine stp ?_|with_reducible(refine brr ?_ ?_<;>intro h)));all_goals try(conv=>whnf)
  · refine givesV_to rfl ?_
    subst h
    have : (0 < (lims (nv xs)).length) ↔ nv xs ≠ 0 := by rw [List.length_pos_iff, ne_eq, hz]
    simp [encInt, this]
  · subst h
    exact givesV_to rfl rfl
theorem ok_riof : FnOk Tryz.prog 54 Tryz.f54 (Tryz.f54.body.getD .skip) [.cell 2 75] 14 := ⟨Tryz.func54, rfl, by decide, Tryz.ntmps54, Tryz.results54, by kernel_rfl, by kernel_rfl⟩
theorem c_riof (x : Int) (hx : -9223372036854775808 ≤ x ∧ x < 9223372036854775808) : Fn 54 [.int .i64 x] (.data (encInt (cz x))) := by
  have hle : x.natAbs < pw 2 := by rw [pw_succ, pw_succ, pw_zero]; omega
  have hl := lims_len hle
  refine fnC_v hmix hT ok_riof (by simp) ?_
  (repeat' (first|refine stp ?_|with_reducible(refine brr ?_ ?_<;>intro h)));all_goals try(conv=>whnf)
  · refine ov_m64 ?_
    (repeat' (first|refine stp ?_|with_reducible(refine brr ?_ ?_<;>intro h)));all_goals try(conv=>whnf)
    refine ov_m64 ?_
    have e : (0 - x % 18446744073709551616) % 18446744073709551616 = ((x.natAbs : Nat) : Int) := by omega
    (repeat' (first|refine stp ?_|with_reducible(refine brr ?_ ?_<;>intro h)));all_goals try(conv=>whnf)
    rw [e]
    refine callV_data (c_rnof x.natAbs (by omega)) rfl ?_
    (repeat' (first|refine stp ?_|with_reducible(refine brr ?_ ?_<;>intro h)));all_goals try(conv=>whnf)
    have cm := c_rimake true (lims x.natAbs) (lims_ok _) (by omega)
    rw [nv_lims, show sg true x.natAbs = x by unfold sg; rw [if_pos rfl]; omega] at cm
    refine callV_data cm rfl ?_
    (repeat' (first|refine stp ?_|with_reducible(refine brr ?_ ?_<;>intro h)));all_goals try(conv=>whnf)
    exact givesV_to rfl rfl
  · refine callV_data (c_rnof x.natAbs (by omega)) (by rw [Int.natAbs_of_nonneg (by omega)]; rfl) ?_
    (repeat' (first|refine stp ?_|with_reducible(refine brr ?_ ?_<;>intro h)));all_goals try(conv=>whnf)
    have cm := c_rimake false (lims x.natAbs) (lims_ok _) (by omega)
    rw [nv_lims, show sg false x.natAbs = x by unfold sg; rw [if_neg (by decide)]; omega] at cm
    refine callV_data cm rfl ?_
    (repeat' (first|refine stp ?_|with_reducible(refine brr ?_ ?_<;>intro h)));all_goals try(conv=>whnf)
    exact givesV_to rfl rfl
theorem ok_risign : FnOk Tryz.prog 46 Tryz.f46 (Tryz.f46.body.getD .skip) [.tmp 2] 16 := ⟨Tryz.func46, rfl, by decide, Tryz.ntmps46, Tryz.results46, by kernel_rfl, by kernel_rfl⟩
theorem c_risign (x : IntL) (hx : okN x.mag) (hl : x.mag.length < 2147483646) : Fn 46 [encInt x] (.data (.int .i64 (iv x).sign)) := by
  have cm := c_rimake x.neg x.mag hx (by omega)
  have hz : lims (nv x.mag) = [] ↔ nv x.mag = 0 := ⟨lims_nil, fun h => by rw [h]; rfl⟩
  rw [cz_sg] at cm
  unfold iv
  rw [sgn_sg]
  refine fnC_v hmix hT ok_risign (by simp [encInt]) ?_
  (repeat' (first|refine stp ?_|with_reducible(refine brr ?_ ?_<;>intro h)));all_goals try(conv=>whnf)
  refine callV_data cm rfl ?_
  (repeat' (first|refine stp ?_|with_reducible(refine brr ?_ ?_<;>intro h)));all_goals try(conv=>whnf)
  · refine givesV_to rfl ?_
    rw [if_pos (hz.1 (List.length_eq_zero_iff.1 (by omega)))]
  · refine givesV_to rfl ?_
    rw [if_neg h.2, h.1, if_pos rfl]
  · have hn : nv x.mag ≠ 0 := fun e => by rw [hz.2 e] at *; simp at *
    have hb : x.neg = false := by simpa [hn] using h
    refine givesV_to rfl ?_
    rw [if_neg hn, hb]; rfl
theorem ok_riadd : FnOk Tryz.prog 73 Tryz.f73 (Tryz.f73.body.getD .skip) [.cell 4 75] 46 := ⟨Tryz.func73, rfl, by decide, Tryz.ntmps73, Tryz.results73, by kernel_rfl, by kernel_rfl⟩
theorem c_riadd (x y : IntL) (hx : okN x.mag) (hy : okN y.mag) (hl : x.mag.length < 2147483644) (hl2 : y.mag.length < 2147483644) : Fn 73 [encInt x, encInt y] (.data (encInt (cz (iv x + iv y)))) := by
  have ca := c_rnadd x.mag y.mag hx hy (by omega) (by omega)
  have cs1 := c_rnsub x.mag y.mag hx hy (by omega) (by omega)
  have cs2 := c_rnsub y.mag x.mag hy hx (by omega) (by omega)
  refine fnC_v hmix hT ok_riadd (by simp [encInt]) ?_
  (repeat' (first|refine stp ?_|with_reducible(refine brr ?_ ?_<;>intro h)));all_goals try(conv=>whnf)
  · refine callV_data ca rfl ?_
    (repeat' (first|refine stp ?_|with_reducible(refine brr ?_ ?_<;>intro h)));all_goals try(conv=>whnf)
    have cm := c_rimake x.neg (lims (nv x.mag + nv y.mag)) (lims_ok _) (by have := lims_len_nv hx; have := lims_add_len2 hx hy; omega)
    rw [nv_lims] at cm
    refine callV_data cm rfl ?_
    (repeat' (first|refine stp ?_|with_reducible(refine brr ?_ ?_<;>intro h)));all_goals try(conv=>whnf)
    refine givesV_to rfl ?_
    rw [show iv x + iv y = sg x.neg (nv x.mag + nv y.mag) by unfold iv; rw [← h]; unfold sg; split <;> omega]; rfl
  · by_cases hlt : nv x.mag < nv y.mag
    · unfold subR at cs1 cs2
      rw [if_pos hlt] at cs1
      rw [if_neg (by omega)] at cs2
      refine callV_data cs1 rfl ?_
      (repeat' (first|refine stp ?_|with_reducible(refine brr ?_ ?_<;>intro h)));all_goals try(conv=>whnf)
      refine callV_data cs2 rfl ?_
      (repeat' (first|refine stp ?_|with_reducible(refine brr ?_ ?_<;>intro h)));all_goals try(conv=>whnf)
      have cm := c_rimake y.neg (lims (nv y.mag - nv x.mag)) (lims_ok _) (by have := lims_len_le2 hy (n := nv y.mag - nv x.mag) (by omega); omega)
      rw [nv_lims] at cm
      refine callV_data cm rfl ?_
      (repeat' (first|refine stp ?_|with_reducible(refine brr ?_ ?_<;>intro h)));all_goals try(conv=>whnf)
      refine givesV_to rfl ?_
      rw [show iv x + iv y = sg y.neg (nv y.mag - nv x.mag) by have : x.neg = !y.neg := by (cases hh : x.neg <;> cases hh' : y.neg <;> simp_all)
                                                               unfold iv; rw [this, sg_not]; unfold sg; split <;> omega]
      rfl
    · unfold subR at cs1
      rw [if_neg (by omega)] at cs1
      refine callV_data cs1 rfl ?_
      (repeat' (first|refine stp ?_|with_reducible(refine brr ?_ ?_<;>intro h)));all_goals try(conv=>whnf)
      have cm := c_rimake x.neg (lims (nv x.mag - nv y.mag)) (lims_ok _) (by have := lims_len_le2 hx (n := nv x.mag - nv y.mag) (by omega); omega)
      rw [nv_lims] at cm
      refine callV_data cm rfl ?_
      (repeat' (first|refine stp ?_|with_reducible(refine brr ?_ ?_<;>intro h)));all_goals try(conv=>whnf)
      refine givesV_to rfl ?_
      rw [show iv x + iv y = sg x.neg (nv x.mag - nv y.mag) by have : y.neg = !x.neg := by (cases hh : x.neg <;> cases hh' : y.neg <;> simp_all)
                                                               unfold iv; rw [this, sg_not]; unfold sg; split <;> omega]
      rfl
end Go.PI.Tryz
namespace Go.PI.Tryz
set_option linter.unnecessarySimpa false
open Go.Proofs Go.PI
set_option linter.unusedSimpArgs false
set_option linter.unusedVariables false
theorem dn_len {d : List Int} (h : okN d) : (lims (dn d)).length ≤ d.length + 1 := lims_len (dn_lt h (Nat.le_succ _) (by omega))
theorem ok_rqone : FnOk Tryz.prog 72 Tryz.f72 (Tryz.f72.body.getD .skip) [.tmp 2] 11 := ⟨Tryz.func72, rfl, by decide, Tryz.ntmps72, Tryz.results72, by kernel_rfl, by kernel_rfl⟩
theorem c_rqone (d : List Int) (hd : okN d) (hl : d.length < 2147483636) : Fn 72 [encN d] (.data (encN (lims (dn d)))) := by
  have cm := c_rnmake d hd (by omega)
  have h2 := lims_len_nv hd
  refine fnC_v hmix hT ok_rqone (by simp) ?_
  (repeat' (first|refine stp ?_|with_reducible(refine brr ?_ ?_<;>intro h)));all_goals try(conv=>whnf)
  refine callV_data cm rfl ?_
  (repeat' (first|refine stp ?_|with_reducible(refine brr ?_ ?_<;>intro h)));all_goals try(conv=>whnf)
  · have : nv d = 0 := lims_nil (List.length_eq_zero_iff.1 (by omega))
    refine givesV_to rfl ?_
    rw [dn, if_pos this]; rfl
  · have : nv d ≠ 0 := fun e => h (by rw [e]; rfl)
    refine givesV_to rfl ?_
    rw [dn, if_neg this]
theorem ok_rqquot : FnOk Tryz.prog 74 Tryz.f74 (Tryz.f74.body.getD .skip) [.cell 6 44] 49 := ⟨Tryz.func74, rfl, by decide, Tryz.ntmps74, Tryz.results74, by kernel_rfl, by kernel_rfl⟩
theorem c_rqquot (b : Bool) (xs ys : List Int) (hx : okN xs) (hy : okN ys) (h0 : nv ys ≠ 0) (hl : xs.length < 2147483626) (hl2 : ys.length < 2147483626) : Fn 74 [.bool b, encN xs, encN ys] (.data (encRat (cr (mkRat (sg b (nv xs)) (nv ys))))) := by
  have h1 := lims_len_nv hx
  have h2 := lims_len_nv hy
  have hone : ∀ n, lims n = [1] ↔ n = 1 := fun n => ⟨fun h => by rw [← nv_lims n, h]; rfl, fun h => by rw [h]; rfl⟩
  have hnil : ∀ n, lims n = [] ↔ n = 0 := fun n => ⟨lims_nil, fun h => by rw [h]; rfl⟩
  rw [cr_mk _ _ h0]
  have cg := c_rngcd xs ys hx hy (by omega) (by omega)
  have hg0 : Nat.gcd (nv xs) (nv ys) ≠ 0 := fun e => h0 (Nat.eq_zero_of_gcd_eq_zero_right e)
  have hg3 : Nat.gcd (nv xs) (nv ys) ∣ nv xs := Nat.gcd_dvd_left ..
  have hgl : (lims (Nat.gcd (nv xs) (nv ys))).length ≤ (lims (nv ys)).length := lims_len_le (Nat.gcd_le_right _ (by omega))
  generalize Nat.gcd (nv xs) (nv ys) = G at *
  have cd1 := c_rndivmod xs (lims G) hx (lims_ok _) (by omega) (by omega)
  have cd2 := c_rndivmod ys (lims G) hy (lims_ok _) (by omega) (by omega)
  rw [nv_lims, if_neg hg0, if_neg hg0] at cd1 cd2
  have hl3 : (lims (nv ys / G)).length ≤ (lims (nv ys)).length := lims_len_le (Nat.div_le_self ..)
  have hN0 : nv xs / G = 0 ↔ nv xs = 0 := by
    obtain ⟨k, hk⟩ := hg3
    rw [hk, Nat.mul_div_cancel_left _ (by omega)]
    constructor
    · intro e; rw [e]; rfl
    · intro e; rcases Nat.mul_eq_zero.1 e with e | e
      · exact absurd e hg0
      · exact e
  generalize nv xs / G = A at *
  generalize nv ys / G = B at *
  have hA := hnil A
  have hB := hone B
  have hl4 : (lims A).length = 0 ↔ A = 0 := by rw [List.length_eq_zero_iff, hA]
  have hbA : (b && decide (nv xs ≠ 0)) = (b && decide ((lims A).length > 0)) := by congr 1; rw [decide_eq_decide]; omega
  rw [hbA]
  have hbB : (if B = 1 then [] else lims B) = (if lims B = [1] then [] else lims B) := by simp only [hB]
  rw [hbB]
  generalize lims A = LA at *
  generalize lims B = LB at *
  have hLB : LB = [1] ↔ ((LB.length : Int) = 1 ∧ LB[0]! = 1) := by
    constructor
    · intro e; subst e; simp
    · rintro ⟨e1, e2⟩
      obtain ⟨x, rfl⟩ := List.length_eq_one_iff.1 (show LB.length = 1 by omega)
      simpa using e2
  refine fnC_v hmix hT ok_rqquot (by simp) ?_
  (repeat' (first|refine stp ?_|with_reducible(refine brr ?_ ?_<;>intro h)));all_goals try(conv=>whnf)
  refine callV_data cg rfl ?_
  (repeat' (first|refine stp ?_|with_reducible(refine brr ?_ ?_<;>intro h)));all_goals try(conv=>whnf)
  refine callV_data cd1 rfl ?_
  (repeat' (first|refine stp ?_|with_reducible(refine brr ?_ ?_<;>intro h)));all_goals try(conv=>whnf)
  refine callV_data cd2 rfl ?_
  (repeat' (first|refine stp ?_|with_reducible(refine brr ?_ ?_<;>intro h)));all_goals try(conv=>whnf)
  all_goals
    refine givesV_to rfl ?_
    by_cases e : LB = [1]
    · rw [if_pos e]
      first | exact absurd (hLB.1 e).1 (by assumption) | exact absurd (hLB.1 e).2 (by assumption) | (subst h; simp [encRat])
    · rw [if_neg e]
      first | exact absurd (hLB.2 ⟨by assumption, by assumption⟩) e | (subst h; simp [encRat])
theorem ok_rqcanon : FnOk Tryz.prog 48 Tryz.f48 (Tryz.f48.body.getD .skip) [.cell 2 44] 11 := ⟨Tryz.func48, rfl, by decide, Tryz.ntmps48, Tryz.results48, by kernel_rfl, by kernel_rfl⟩
theorem c_rqcanon (x : RatL) (hx : okR x) (hl : x.num.length < 2147483616) (hl2 : x.den.length < 2147483616) : Fn 48 [encRat x] (.data (encRat (cr (qv x)))) := by
  have cu := c_rqone x.den hx.2 (by omega)
  have hl3 := dn_len hx.2
  have cq := c_rqquot x.neg x.num (lims (dn x.den)) hx.1 (lims_ok _) (by rw [nv_lims]; exact dn_pos _) (by omega) (by omega)
  rw [nv_lims] at cq
  refine fnC_v hmix hT ok_rqcanon (by simp [encRat]) ?_
  (repeat' (first|refine stp ?_|with_reducible(refine brr ?_ ?_<;>intro h)));all_goals try(conv=>whnf)
  refine callV_data cu rfl ?_
  (repeat' (first|refine stp ?_|with_reducible(refine brr ?_ ?_<;>intro h)));all_goals try(conv=>whnf)
  refine callV_data cq rfl ?_
  (repeat' (first|refine stp ?_|with_reducible(refine brr ?_ ?_<;>intro h)));all_goals try(conv=>whnf)
  exact givesV_to rfl rfl
theorem ok_rqsame : FnOk Tryz.prog 79 Tryz.f79 (Tryz.f79.body.getD .skip) [.tmp 4] 24 := ⟨Tryz.func79, rfl, by decide, Tryz.ntmps79, Tryz.results79, by kernel_rfl, by kernel_rfl⟩
theorem c_rqsame (x y : RatL) (hl1 : x.num.length < 2147483646) (hl2 : x.den.length < 2147483646) (hl3 : y.num.length < 2147483646) (hl4 : y.den.length < 2147483646) : Fn 79 [encRat x, encRat y] (.data (.bool (decide (x = y)))) := by
  have c1 := c_rnsame x.num y.num (by omega) (by omega)
  have c2 := c_rnsame x.den y.den (by omega) (by omega)
  have n1 : x = y ↔ x.neg = y.neg ∧ x.num = y.num ∧ x.den = y.den := by cases x; cases y; simp
  refine fnC_v hmix hT ok_rqsame (by simp [encRat]) ?_
  (repeat' (first|refine stp ?_|with_reducible(refine brr ?_ ?_<;>intro h)));all_goals try(conv=>whnf)
  · refine callV_data c1 rfl ?_
    (repeat' (first|refine stp ?_|with_reducible(refine brr ?_ ?_<;>intro h)));all_goals try(conv=>whnf)
    · refine callV_data c2 rfl ?_
      (repeat' (first|refine stp ?_|with_reducible(refine brr ?_ ?_<;>intro h)));all_goals try(conv=>whnf)
      refine givesV_to rfl (congrArg PV.bool ?_)
      rw [decide_eq_decide, n1]
      simp_all
    · refine givesV_to rfl (congrArg PV.bool ?_)
      exact (decide_eq_false fun e => h (n1.1 e).2.1).symm
  · refine givesV_to rfl (congrArg PV.bool ?_)
    exact (decide_eq_false fun e => h (n1.1 e).1).symm
theorem ok_rqvalid : FnOk Tryz.prog 56 Tryz.f56 (Tryz.f56.body.getD .skip) [.tmp 2] 7 := ⟨Tryz.func56, rfl, by decide, Tryz.ntmps56, Tryz.results56, by kernel_rfl, by kernel_rfl⟩
theorem c_rqvalid (x : RatL) (hx : okR x) (hl : x.num.length < 2147483616) (hl2 : x.den.length < 2147483616) : Fn 56 [encRat x] (.data (.bool (decide (x = cr (qv x))))) := by
  have cc := c_rqcanon x hx hl hl2
  have hL := cr_len (sz_qv hx (k := max (max x.num.length x.den.length) 1) (by omega) (by omega) (by omega))
  have cs := c_rqsame x (cr (qv x)) (by omega) (by omega) (by omega) (by omega)
  refine fnC_v hmix hT ok_rqvalid (by simp [encRat]) ?_
  (repeat' (first|refine stp ?_|with_reducible(refine brr ?_ ?_<;>intro h)));all_goals try(conv=>whnf)
  refine callV_data cc rfl ?_
  (repeat' (first|refine stp ?_|with_reducible(refine brr ?_ ?_<;>intro h)));all_goals try(conv=>whnf)
  refine callV_data cs rfl ?_
  (repeat' (first|refine stp ?_|with_reducible(refine brr ?_ ?_<;>intro h)));all_goals try(conv=>whnf)
  exact givesV_to rfl rfl
theorem ok_rqof : FnOk Tryz.prog 27 Tryz.f27 (Tryz.f27.body.getD .skip) [.cell 2 44] 11 := ⟨Tryz.func27, rfl, by decide, Tryz.ntmps27, Tryz.results27, by kernel_rfl, by kernel_rfl⟩
theorem c_rqof (x : Int) (hx : -9223372036854775808 ≤ x ∧ x < 9223372036854775808) : Fn 27 [.int .i64 x] (.data (encRat (cr x))) := by
  refine fnC_v hmix hT ok_rqof (by simp) ?_
  (repeat' (first|refine stp ?_|with_reducible(refine brr ?_ ?_<;>intro h)));all_goals try(conv=>whnf)
  refine callV_data (c_riof x hx) rfl ?_
  (repeat' (first|refine stp ?_|with_reducible(refine brr ?_ ?_<;>intro h)));all_goals try(conv=>whnf)
  refine givesV_to rfl ?_
  simp [encRat, cr, cz]
  exact decide_eq_decide.2 Iff.rfl
theorem ok_rqsign : FnOk Tryz.prog 20 Tryz.f20 (Tryz.f20.body.getD .skip) [.tmp 2] 9 := ⟨Tryz.func20, rfl, by decide, Tryz.ntmps20, Tryz.results20, by kernel_rfl, by kernel_rfl⟩
theorem c_rqsign (x : RatL) (hx : okR x) (hl : x.num.length < 2147483636) : Fn 20 [encRat x] (.data (.int .i64 (sgnQ (qv x)))) := by
  have cs := c_risign ⟨x.neg, x.num⟩ hx.1 (by show x.num.length < _; omega)
  rw [sgnQ_qv]
  refine fnC_v hmix hT ok_rqsign (by simp [encRat]) ?_
  (repeat' (first|refine stp ?_|with_reducible(refine brr ?_ ?_<;>intro h)));all_goals try(conv=>whnf)
  refine callV_data cs rfl ?_
  (repeat' (first|refine stp ?_|with_reducible(refine brr ?_ ?_<;>intro h)));all_goals try(conv=>whnf)
  exact givesV_to rfl rfl
theorem ok_rqneg : FnOk Tryz.prog 101 Tryz.f101 (Tryz.f101.body.getD .skip) [.cell 2 44] 9 := ⟨Tryz.func101, rfl, by decide, Tryz.ntmps101, Tryz.results101, by kernel_rfl, by kernel_rfl⟩
theorem c_rqneg (x : RatL) (hx : okR x) (hl : x.num.length < 2147483616) (hl2 : x.den.length < 2147483616) : Fn 101 [encRat x] (.data (encRat (cr (- qv x)))) := by
  have cc := c_rqcanon ⟨!x.neg, x.num, x.den⟩ hx hl hl2
  rw [show qv ⟨!x.neg, x.num, x.den⟩ = - qv x by unfold qv; rw [Rat.neg_mkRat, sg_not]] at cc
  refine fnC_v hmix hT ok_rqneg (by simp [encRat]) ?_
  (repeat' (first|refine stp ?_|with_reducible(refine brr ?_ ?_<;>intro h)));all_goals try(conv=>whnf)
  refine callV_data cc rfl ?_
  (repeat' (first|refine stp ?_|with_reducible(refine brr ?_ ?_<;>intro h)));all_goals try(conv=>whnf)
  exact givesV_to rfl rfl
theorem ok_rqadd : FnOk Tryz.prog 44 Tryz.f44 (Tryz.f44.body.getD .skip) [.cell 4 44] 41 := ⟨Tryz.func44, rfl, by decide, Tryz.ntmps44, Tryz.results44, by kernel_rfl, by kernel_rfl⟩
theorem c_rqadd (x y : RatL) (hx : okR x) (hy : okR y) (hl1 : x.num.length < 1000000000) (hl2 : x.den.length < 1000000000) (hl3 : y.num.length < 1000000000) (hl4 : y.den.length < 1000000000) : Fn 44 [encRat x, encRat y] (.data (encRat (cr (qv x + qv y)))) := by
  have cu1 := c_rqone x.den hx.2 (by omega)
  have cu2 := c_rqone y.den hy.2 (by omega)
  have u1 := dn_len hx.2
  have u2 := dn_len hy.2
  have k1 := len_mul (z := nv x.num) hx.1 (Int.natAbs_natCast _) hy.2 (Nat.le_refl _)
  have k2 := len_mul (z := nv y.num) hy.1 (Int.natAbs_natCast _) hx.2 (Nat.le_refl _)
  rw [← Int.natCast_mul, Int.natAbs_natCast] at k1 k2
  have m1 := c_rnmul x.num (lims (dn y.den)) hx.1 (lims_ok _) (by omega) (by omega)
  have m2 := c_rnmul y.num (lims (dn x.den)) hy.1 (lims_ok _) (by omega) (by omega)
  have cm := c_rnmul (lims (dn x.den)) (lims (dn y.den)) (lims_ok _) (lims_ok _) (by omega) (by omega)
  rw [nv_lims] at m1 m2
  rw [nv_lims, nv_lims] at cm
  have ca := c_riadd ⟨x.neg, lims (nv x.num * dn y.den)⟩ ⟨y.neg, lims (nv y.num * dn x.den)⟩ (lims_ok _) (lims_ok _) (by show (lims _).length < _; omega) (by show (lims _).length < _; omega)
  unfold iv at ca
  simp only [nv_lims, sg_mulr] at ca
  rw [qv_add]
  have kl : (lims (sg x.neg (nv x.num) * (dn y.den : Nat) + sg y.neg (nv y.num) * (dn x.den : Nat)).natAbs).length < 2000000010 := by
    obtain ⟨K, hK⟩ : ∃ K : Nat, K = 2000000003 := ⟨_, rfl⟩
    have e0 : (sg x.neg (nv x.num) * (dn y.den : Nat)).natAbs = nv x.num * dn y.den := by rw [Int.natAbs_mul, sg_abs, Int.natAbs_natCast]
    have e0' : (sg y.neg (nv y.num) * (dn x.den : Nat)).natAbs = nv y.num * dn x.den := by rw [Int.natAbs_mul, sg_abs, Int.natAbs_natCast]
    have e1 : (sg x.neg (nv x.num) * (dn y.den : Nat)).natAbs < pw K := by
      have := nv_lt (lims_ok (nv x.num * dn y.den))
      rw [nv_lims] at this; rw [e0]; exact Nat.lt_of_lt_of_le this (pw_le (by omega))
    have e2 : (sg y.neg (nv y.num) * (dn x.den : Nat)).natAbs < pw K := by
      have := nv_lt (lims_ok (nv y.num * dn x.den))
      rw [nv_lims] at this; rw [e0']; exact Nat.lt_of_lt_of_le this (pw_le (by omega))
    have e3 := pw_succ K
    have := lims_len (n := (sg x.neg (nv x.num) * (dn y.den : Nat) + sg y.neg (nv y.num) * (dn x.den : Nat)).natAbs) (k := K + 1) (by omega)
    omega
  have hd : dn x.den * dn y.den ≠ 0 := Nat.mul_ne_zero (dn_pos _) (dn_pos _)
  have k4 : (lims (dn x.den * dn y.den)).length ≤ x.den.length + y.den.length + 2 := by
    have := lims_mul_len (ok_und hx.2) (ok_und hy.2); rw [nv_und, nv_und] at this
    have := und_len x.den; have := und_len y.den; omega
  generalize sg x.neg (nv x.num) * (dn y.den : Nat) + sg y.neg (nv y.num) * (dn x.den : Nat) = S at *
  generalize dn x.den * dn y.den = D at *
  have cq := c_rqquot (cz S).neg (cz S).mag (lims D) (lims_ok _) (lims_ok _) (by rw [nv_lims]; exact hd) (by show (lims _).length < _; omega) (by omega)
  rw [show sg (cz S).neg (nv (cz S).mag) = S from iv_cz S, nv_lims] at cq
  refine fnC_v hmix hT ok_rqadd (by simp [encRat]) ?_
  (repeat' (first|refine stp ?_|with_reducible(refine brr ?_ ?_<;>intro h)));all_goals try(conv=>whnf)
  refine callV_data cu2 rfl ?_
  (repeat' (first|refine stp ?_|with_reducible(refine brr ?_ ?_<;>intro h)));all_goals try(conv=>whnf)
  refine callV_data m1 rfl ?_
  (repeat' (first|refine stp ?_|with_reducible(refine brr ?_ ?_<;>intro h)));all_goals try(conv=>whnf)
  refine callV_data cu1 rfl ?_
  (repeat' (first|refine stp ?_|with_reducible(refine brr ?_ ?_<;>intro h)));all_goals try(conv=>whnf)
  refine callV_data m2 rfl ?_
  (repeat' (first|refine stp ?_|with_reducible(refine brr ?_ ?_<;>intro h)));all_goals try(conv=>whnf)
  refine callV_data ca rfl ?_
  (repeat' (first|refine stp ?_|with_reducible(refine brr ?_ ?_<;>intro h)));all_goals try(conv=>whnf)
  refine callV_data cu1 rfl ?_
  (repeat' (first|refine stp ?_|with_reducible(refine brr ?_ ?_<;>intro h)));all_goals try(conv=>whnf)
  refine callV_data cu2 rfl ?_
  (repeat' (first|refine stp ?_|with_reducible(refine brr ?_ ?_<;>intro h)));all_goals try(conv=>whnf)
  refine callV_data cm rfl ?_
  (repeat' (first|refine stp ?_|with_reducible(refine brr ?_ ?_<;>intro h)));all_goals try(conv=>whnf)
  refine callV_data cq rfl ?_
  (repeat' (first|refine stp ?_|with_reducible(refine brr ?_ ?_<;>intro h)));all_goals try(conv=>whnf)
  exact givesV_to rfl rfl
theorem ok_rqsub : FnOk Tryz.prog 76 Tryz.f76 (Tryz.f76.body.getD .skip) [.cell 4 44] 9 := ⟨Tryz.func76, rfl, by decide, Tryz.ntmps76, Tryz.results76, by kernel_rfl, by kernel_rfl⟩
theorem c_rqsub (x y : RatL) (hx : okR x) (hy : okR y) (hl1 : x.num.length < 999999999) (hl2 : x.den.length < 999999999) (hl3 : y.num.length < 999999999) (hl4 : y.den.length < 999999999) : Fn 76 [encRat x, encRat y] (.data (encRat (cr (qv x - qv y)))) := by
  have cn := c_rqneg y hy (by omega) (by omega)
  have hL := cr_len (sz_neg (sz_qv hy (k := max (max y.num.length y.den.length) 1) (by omega) (by omega) (by omega)))
  have ca := c_rqadd x (cr (- qv y)) hx (okR_cr _) (by omega) (by omega) (by omega) (by omega)
  rw [qv_cr, ← Rat.sub_eq_add_neg] at ca
  refine fnC_v hmix hT ok_rqsub (by simp [encRat]) ?_
  (repeat' (first|refine stp ?_|with_reducible(refine brr ?_ ?_<;>intro h)));all_goals try(conv=>whnf)
  refine callV_data cn rfl ?_
  (repeat' (first|refine stp ?_|with_reducible(refine brr ?_ ?_<;>intro h)));all_goals try(conv=>whnf)
  refine callV_data ca rfl ?_
  (repeat' (first|refine stp ?_|with_reducible(refine brr ?_ ?_<;>intro h)));all_goals try(conv=>whnf)
  exact givesV_to rfl rfl
theorem ok_rqcmp : FnOk Tryz.prog 51 Tryz.f51 (Tryz.f51.body.getD .skip) [.tmp 4] 9 := ⟨Tryz.func51, rfl, by decide, Tryz.ntmps51, Tryz.results51, by kernel_rfl, by kernel_rfl⟩
theorem c_rqcmp (x y : RatL) (hx : okR x) (hy : okR y) (hl1 : x.num.length < 999999999) (hl2 : x.den.length < 999999999) (hl3 : y.num.length < 999999999) (hl4 : y.den.length < 999999999) : Fn 51 [encRat x, encRat y] (.data (.int .i64 (sgnQ (qv x - qv y)))) := by
  have cs := c_rqsub x y hx hy hl1 hl2 hl3 hl4
  have hL := cr_len (sz_add (sz_qv hx (k := 999999999) (by omega) (by omega) (by omega)) (sz_neg (sz_qv hy (k := 999999999) (by omega) (by omega) (by omega))))
  rw [← Rat.sub_eq_add_neg] at hL
  have cg := c_rqsign (cr (qv x - qv y)) (okR_cr _) (by omega)
  rw [qv_cr] at cg
  refine fnC_v hmix hT ok_rqcmp (by simp [encRat]) ?_
  (repeat' (first|refine stp ?_|with_reducible(refine brr ?_ ?_<;>intro h)));all_goals try(conv=>whnf)
  refine callV_data cs rfl ?_
  (repeat' (first|refine stp ?_|with_reducible(refine brr ?_ ?_<;>intro h)));all_goals try(conv=>whnf)
  refine callV_data cg rfl ?_
  (repeat' (first|refine stp ?_|with_reducible(refine brr ?_ ?_<;>intro h)));all_goals try(conv=>whnf)
  exact givesV_to rfl rfl
end Go.PI.Tryz
namespace Go.PI.Tryz
set_option linter.unnecessarySimpa false
open Go.Proofs Go.PI
set_option linter.unusedSimpArgs false
set_option linter.unusedVariables false
theorem ok_rlvalid : FnOk Tryz.prog 62 Tryz.f62 (Tryz.f62.body.getD .skip) [.tmp 4] 59 := ⟨Tryz.func62, rfl, by decide, Tryz.ntmps62, Tryz.results62, by kernel_rfl, by kernel_rfl⟩
theorem c_rlvalid (f : AffL) (n : Int) (hf : okA 2147483596 f) : Fn 62 [encAff f, .int .i64 n] (.data (.bool (validB f n))) := by
  obtain ⟨hc, ht, hl⟩ := hf
  refine fnC_v hmix hT ok_rlvalid (by simp [encAff]) ?_
  (repeat' (first|refine stp ?_|with_reducible(refine brr ?_ ?_<;>intro h)));all_goals try(conv=>whnf)
  refine loopV_kept hT (fun (i : Nat) => [(1, .int .i64 n), (2, .ptr 0 0 0), (5, .int .i64 i)]) (fun _ => [(0, ⟨[encAff f], 4, true⟩)]) [] 1
    (fun i => i ≤ f.terms.length ∧ ∀ j, j < i → okT f.terms n j) (fun i => f.terms.length - i) 0 ⟨Nat.zero_le _, fun j h => (by omega)⟩ (by decide) (by simp) ?_ ?_
  · exact ⟨[0], [], [], [], ⟨trivial, trivial, trivial⟩, ⟨at_int rfl rfl, at_ptr (by decide) rfl, at_int rfl rfl, trivial⟩, ⟨blk_box (by decide) rfl rfl rfl rfl rfl, trivial⟩, by simp [ren]⟩
  intro i ⟨i1, i2⟩
  have hcv := c_rqvalid f.const hc.1 (by have := hc.2; omega) (by have := hc.2; omega)
  by_cases hi : i < f.terms.length
  · have hq := okA_get (f := f) ⟨hc, ht, hl⟩ hi
    have cs := c_rqsign f.terms[i]!.coef hq.1 (by have := hq.2; omega)
    have cv := c_rqvalid f.terms[i]!.coef hq.1 (by have := hq.2; omega) (by have := hq.2; omega)
    (repeat' (first|refine stp ?_|with_reducible(refine brr ?_ ?_<;>intro h)));all_goals try(conv=>whnf)
    · exact givesV_to rfl (congrArg PV.bool (validB_bad (i := i) (by omega) fun e => by have := e.1; omega))
    · exact givesV_to rfl (congrArg PV.bool (validB_bad (i := i) (by omega) fun e => by have := e.2.1; omega))
    · refine oK_map' (j := i - 1) (by omega) (by omega) ?_
      (repeat' (first|refine stp ?_|with_reducible(refine brr ?_ ?_<;>intro h)));all_goals try(conv=>whnf)
      · exact givesV_to rfl (congrArg PV.bool (validB_bad (i := i) (by omega) fun e => by have := e.2.2.1 (by omega); omega))
      refine callV_data cs rfl ?_
      (repeat' (first|refine stp ?_|with_reducible(refine brr ?_ ?_<;>intro h)));all_goals try(conv=>whnf)
      · exact givesV_to rfl (congrArg PV.bool (validB_bad (i := i) (by omega) fun e => e.2.2.2.1 (sgnQ_zero.1 h)))
      · refine callV_data cv rfl ?_
        (repeat' (first|refine stp ?_|with_reducible(refine brr ?_ ?_<;>intro h)));all_goals try(conv=>whnf)
        · refine ⟨i + 1, ⟨⟨by omega, fun j hj => ?_⟩, by show f.terms.length - (i + 1) < f.terms.length - i; omega⟩, [0], [], [], [], ⟨trivial, trivial, trivial⟩, ⟨at_int rfl rfl, at_ptr (by decide) rfl, at_int rfl (by omega), trivial⟩, ⟨blk_box (by decide) rfl rfl rfl rfl rfl, trivial⟩, by simp [ren]⟩
          rcases Nat.lt_or_eq_of_le (Nat.le_of_lt_succ hj) with hj | rfl
          · exact i2 j hj
          · exact ⟨by omega, by omega, fun h0 => by omega, fun e => by have := sgnQ_zero.2 e; omega, h⟩
        · exact givesV_to rfl (congrArg PV.bool (validB_bad (i := i) (by omega) fun e => h e.2.2.2.2))
    · refine callV_data cs rfl ?_
      (repeat' (first|refine stp ?_|with_reducible(refine brr ?_ ?_<;>intro h)));all_goals try(conv=>whnf)
      · exact givesV_to rfl (congrArg PV.bool (validB_bad (i := i) (by omega) fun e => e.2.2.2.1 (sgnQ_zero.1 h)))
      · refine callV_data cv rfl ?_
        (repeat' (first|refine stp ?_|with_reducible(refine brr ?_ ?_<;>intro h)));all_goals try(conv=>whnf)
        · refine ⟨i + 1, ⟨⟨by omega, fun j hj => ?_⟩, by show f.terms.length - (i + 1) < f.terms.length - i; omega⟩, [0], [], [], [], ⟨trivial, trivial, trivial⟩, ⟨at_int rfl rfl, at_ptr (by decide) rfl, at_int rfl (by omega), trivial⟩, ⟨blk_box (by decide) rfl rfl rfl rfl rfl, trivial⟩, by simp [ren]⟩
          rcases Nat.lt_or_eq_of_le (Nat.le_of_lt_succ hj) with hj | rfl
          · exact i2 j hj
          · exact ⟨by omega, by omega, fun h0 => by omega, fun e => by have := sgnQ_zero.2 e; omega, h⟩
        · exact givesV_to rfl (congrArg PV.bool (validB_bad (i := i) (by omega) fun e => h e.2.2.2.2))
    · omega
  · (repeat' (first|refine stp ?_|with_reducible(refine brr ?_ ?_<;>intro h)));all_goals try(conv=>whnf)
    all_goals try (exfalso; omega)
    refine callV_data hcv rfl ?_
    (repeat' (first|refine stp ?_|with_reducible(refine brr ?_ ?_<;>intro h)));all_goals try(conv=>whnf)
    exact givesV_to rfl (congrArg PV.bool (validB_end fun j hj => i2 j (by omega)))
end Go.PI.Tryz
