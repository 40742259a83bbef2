/-
  Graphs of the program at an input whose row the caller goes on to write: run, Pre, Of.
-/
import Derived.Test.YtdgckinmcnjheaaGreatCGA
import Derived.Test.YtdgckinmcnjheaaGreatCPE
import Derived.Test.YtdgckinmcnjheaaGreatCHA
set_option linter.unusedVariables false
set_option linter.unusedSimpArgs false
set_option linter.unnecessarySimpa false
namespace Go.PI.Tryz
open Go.Proofs Go.PI
theorem qv_div (a b : RatL) (h : qv b ≠ 0) : qv a / qv b = mkRat (sg (a.neg != b.neg) (nv a.num * dn b.den)) (dn a.den * nv b.num) := by
 have hb : nv b.num ≠ 0 := fun e => h (qv_zero.2 e)
 have e1 : (qv b)⁻¹ = mkRat (sg b.neg (dn b.den)) (nv b.num) := by
  unfold qv;rw [← Rat.divInt_ofNat, Rat.inv_divInt];unfold sg;cases b.neg
  ·simp
  ·rw [if_pos rfl, if_pos rfl]
   have := Rat.neg_divInt_neg (dn b.den : Int) (-(nv b.num : Int));rw [← this, Int.neg_neg, Rat.divInt_ofNat]
 rw [Rat.div_def, e1, show qv a = mkRat (sg a.neg (nv a.num)) (dn a.den) from rfl, Rat.mkRat_mul_mkRat, sg_mul]
theorem ok_qdiv : FO 88 Tryz.f88 [.cell 4 35, .tmp 5] 26 := mkO Tryz.func88 Tryz.ntmps88 Tryz.results88
theorem c_qdiv (x y : RatL) (hx : okR x) (hy : okR y) (hl1 : x.num.length < 1000000000) (hl2 : x.den.length < 1000000000) (hl3 : y.num.length < 1000000000) (hl4 : y.den.length < 1000000000) (h0 : qv y ≠ 0) : Fn 88 [encRat x, encRat y] (.data (.tup [encRat (cr (qv x / qv y)), .int .i64 0])) := by
 have cs := zD1 y hy (by omega);have cu1 := zD6 x hx (by omega);have cu2 := zD6 y hy (by omega);have u1 := zDQ x.den;have u2 := zDQ y.den;have cm1 := zOY x.num (und y.den) hx.1 (zDN hy.2) (by omega) (by omega);have cm2 := zOY (und x.den) y.num (zDN hx.2) hy.1 (by omega) (by omega);rw [zDO] at cm1 cm2;have k1 := zBO hx.1 (zDN hy.2);have k2 := zBO (zDN hx.2) hy.1;rw [zDO] at k1 k2;have hb : nv y.num ≠ 0 := fun e => h0 (qv_zero.2 e)
 have hs : ¬ sgnQ (qv y) = 0 := fun e => h0 (sgnQ_zero.1 e)
 have cq := zKI (x.neg != y.neg) (lims (nv x.num * dn y.den)) (lims (dn x.den * nv y.num)) (zAO _) (zAO _) (by rw [zAP]; exact Nat.mul_ne_zero (zCA _) hb) (by omega) (by omega);rw [zAP, zAP, ← qv_div x y h0] at cq;generalize sgnQ (qv y) = S at *
 refine zAM hmix hT ok_qdiv (by simp [encRat]) ?_;refine sts ?_;refine zAA cs rfl ?_
 (repeat' (first|refine stp ?_|with_reducible(refine brr ?_ ?_<;>intro h)));all_goals try(conv=>whnf)
 all_goals try exact absurd (by assumption) hs
 refine zAA cu2 rfl ?_;refine sts ?_;refine zAA cm1 rfl ?_;refine sts ?_;refine zAA cu1 rfl ?_;refine sts ?_;refine zAA cm2 rfl ?_;refine sts ?_;refine zAA cq rfl ?_;refine sts ?_;exact zAB rfl rfl
theorem ok_qneg : FO 156 Tryz.f156 [.cell 2 35] 9 := mkO Tryz.func156 Tryz.ntmps156 Tryz.results156
theorem c_qneg (x : RatL) (hx : okR x) (hl : x.num.length < 2147483616) (hl2 : x.den.length < 2147483616) : Fn 156 [encRat x] (.data (encRat (cr (- qv x)))) := by
 have cc := zCV ⟨!x.neg, x.num, x.den⟩ hx (by show x.num.length < _; omega) (by show x.den.length < _; omega);rw [show qv ⟨!x.neg, x.num, x.den⟩ = - qv x by unfold qv; rw [Rat.neg_mkRat, zL3]] at cc;refine zAM hmix hT ok_qneg (by simp [encRat]) ?_;refine sts ?_;refine zAA cc rfl ?_;refine sts ?_;exact zAB rfl rfl
theorem cr_pos {q : Rat} (h : 0 < q) : (cr q).neg = false ∧ nv (cr q).num = q.num.natAbs := by
 have := zET h;exact ⟨decide_eq_false (by omega), zAP _⟩
theorem floor_nat {q : Rat} (h : 0 < q) : q.floor = ((q.num.natAbs / q.den : Nat) : Int) := by
 have := zET h;rw [Rat.floor_def, Int.natCast_ediv]
 congr 1
 omega
theorem ok_idivmod : FO 205 Tryz.f205 [.cell 4 76, .cell 5 76, .tmp 6] 50 := mkO Tryz.func205 Tryz.ntmps205 Tryz.results205
theorem c_idivmodP (a b : List Int) (ha : okN a) (hb : okN b) (h0 : nv b ≠ 0) (hl : a.length < 2147483640) (hl2 : b.length < 2147483640) : Fn 205 [encInt ⟨false, a⟩, encInt ⟨false, b⟩] (.data (.tup [encInt (cz ((nv a / nv b : Nat) : Int)), encInt (cz ((nv a % nv b : Nat) : Int)), .int .i64 0])) := by
 have cd := zJH a b ha hb (by omega) (by omega);rw [if_neg h0, if_neg h0] at cd;have k1 : (lims (nv a / nv b)).length ≤ a.length := zBC (Nat.lt_of_le_of_lt (Nat.div_le_self ..) (zDR ha));have k2 : (lims (nv a % nv b)).length ≤ a.length := zBC (Nat.lt_of_le_of_lt (Nat.mod_le ..) (zDR ha));have c1 := zIA false (lims (nv a / nv b)) (zAO _) (by omega);have c2 := zIA false (lims (nv a % nv b)) (zAO _) (by omega);rw [zAP, sg_false] at c1 c2;refine zAM hmix hT ok_idivmod (by simp [encInt]) ?_;refine sts ?_;refine zAA cd rfl ?_;refine sts ?_;refine zAA c1 rfl ?_;refine sts ?_;refine zAA c2 rfl ?_;refine sts ?_;exact zAB rfl rfl
theorem ok_qfloor : FO 192 Tryz.f192 [.cell 2 76] 17 := mkO Tryz.func192 Tryz.ntmps192 Tryz.results192
theorem c_qfloorP (q : Rat) (k : Nat) (hq : sz k q) (hk : k ≤ 900000000) (hp : 0 < q) : Fn 192 [encRat (cr q)] (.data (encInt (cz q.floor))) := by
 have hl := zAJ hq;have okq := zAF q;obtain ⟨e1, e2⟩ := cr_pos hp;have cs := zJG (cr q) okq (by omega);rw [sg_cr] at cs;have cu := zD6 (cr q) okq (by omega);have u1 := zDQ (cr q).den
 have ez : cz q.num = ⟨false, (cr q).num⟩ := by
  have := zET hp;unfold cz cr; rw [decide_eq_false (by omega)]
 have cd := c_idivmodP (cr q).num (und (cr q).den) okq.1 (zDN okq.2) (by rw [zDO]; exact zCA _) (by omega) (by omega);rw [zDO, dn_cr, e2, ← floor_nat hp] at cd;rw [ez] at cs;refine zAM hmix hT ok_qfloor (by simp [encRat]) ?_;refine sts ?_;refine zAA cs rfl ?_;refine sts ?_;refine zAA cu rfl ?_;refine sts ?_;refine zAA cd rfl ?_;refine sts ?_;exact zAB rfl rfl
theorem sgn_sub0 {a b : Rat} : sgnQ (a - b) = 0 ↔ a = b := by rw [sgnQ_zero]; constructor <;> intro h <;> grind
theorem zJ4 : FO 157 Tryz.f157 [.cell 4 35] 56 := mkO Tryz.func157 Tryz.ntmps157 Tryz.results157
theorem zNM (k : Nat) (hk : k ≤ 100000000) (hk1 : 1 ≤ k) : ∀ (n : Nat) (lo hi : Rat), DescS n lo hi → sz k lo → sz k hi → Fn 157 [encRat (cr lo), encRat (cr hi)] (.data (encRat (cr (desc n lo hi))))
 | 0, lo, hi, h, _, _ => by have := h.den; have := lo.den_pos; omega
 | n + 1, lo, hi, h, hl, hh => by
   have sF := floor_sz h.pos hl;have l1 := zAJ hl;have l2 := zAJ hh;have l3 := zAJ sF;have s1 : sz 1 (1 : Rat) := ⟨by decide, by decide⟩;have sN := zBR sF s1;have l4 := zAJ sN;have l5 := zAJ s1;have cf := c_qfloorP lo k hl (by omega) h.pos;have cw := c_qwhole lo.floor (by have := l3.1; unfold cr at this; rw [Rat.num_intCast] at this; dsimp only at this; omega);have cc := zHT (cr ((lo.floor : Int) : Rat)) (cr lo) (zAF _) (zAF _) (by omega) (by omega) (by omega) (by omega);rw [zAL, zAL] at cc;have co := c_qof 1 (by decide);have e1 : ((1 : Int) : Rat) = 1 := rfl;rw [e1] at co;have ca := zG2 (cr ((lo.floor : Int) : Rat)) (cr 1) (zAF _) (zAF _) (by omega) (by omega) (by omega) (by omega);rw [zAL, zAL] at ca;have cc2 := zHT (cr (((lo.floor : Int) : Rat) + 1)) (cr hi) (zAF _) (zAF _) (by omega) (by omega) (by omega) (by omega);rw [zAL, zAL] at cc2;have hstep := zI7 h;have hszs := desc_szs (k := k) h
   have ed : desc (n + 1) lo hi = if ((lo.floor : Int) : Rat) = lo then ((lo.floor : Int) : Rat) else if ((lo.floor : Int) : Rat) + 1 ≤ hi then ((lo.floor : Int) : Rat) + 1
    else ((lo.floor : Int) : Rat) + 1 / desc n (1 / (hi - ((lo.floor : Int) : Rat))) (1 / (lo - ((lo.floor : Int) : Rat))) := rfl
   rw [ed];clear ed;generalize lo.floor = z at *
   generalize ((z : Int) : Rat) = F at *
   by_cases h1 : F = lo
   ·rw [if_pos h1]
    have e0 := sgn_sub0.2 h1;generalize sgnQ (F - lo) = S at *
    refine zAM hmix hT zJ4 (by simp [encRat]) ?_;refine sts ?_;refine zAA cf rfl ?_;refine sts ?_;refine zAA cw rfl ?_;refine sts ?_;refine zAA cc rfl ?_
    (repeat' (first|refine stp ?_|with_reducible(refine brr ?_ ?_<;>intro h)));all_goals try(conv=>whnf)
    all_goals first | exact absurd e0 (by assumption) | exact zAB rfl rfl
   ·rw [if_neg h1]
    have e0 : ¬ sgnQ (F - lo) = 0 := fun e => h1 (sgn_sub0.1 e)
    generalize sgnQ (F - lo) = S at *
    by_cases h2 : F + 1 ≤ hi
    ·rw [if_pos h2]
     have e2 := sgn_le.2 h2;generalize sgnQ (F + 1 - hi) = S2 at *
     refine zAM hmix hT zJ4 (by simp [encRat]) ?_;refine sts ?_;refine zAA cf rfl ?_;refine sts ?_;refine zAA cw rfl ?_;refine sts ?_;refine zAA cc rfl ?_
     (repeat' (first|refine stp ?_|with_reducible(refine brr ?_ ?_<;>intro h)));all_goals try(conv=>whnf)
     all_goals try exact absurd (by assumption) e0
     refine zAA co rfl ?_;refine sts ?_;refine zAA ca rfl ?_;refine sts ?_;refine zAA cc2 rfl ?_
     (repeat' (first|refine stp ?_|with_reducible(refine brr ?_ ?_<;>intro h)));all_goals try(conv=>whnf)
     all_goals first | (exfalso; omega) | exact zAB rfl rfl
    ·rw [if_neg h2]
     have e2 : ¬ sgnQ (F + 1 - hi) ≤ 0 := fun e => h2 (sgn_le.1 e)
     generalize sgnQ (F + 1 - hi) = S2 at *
     obtain ⟨hn, a1, b1, _, _⟩ := hstep h1 h2;obtain ⟨z1, z2⟩ := hszs h1 h2 hl hh;have i1 := zJN a1 z1;have i2 := zJN b1 z2;obtain ⟨y1, y2⟩ := desc_sz hn i1;have y3 := zJN y2 y1;have ih := zNM k hk hk1 n _ _ hn i1 i2;have m1 := zAJ z1;have m2 := zAJ z2;have m5 := zAJ y1;have m6 := zAJ y3;have ne1 : hi - F ≠ 0 := Rat.ne_of_gt a1;have ne2 : lo - F ≠ 0 := Rat.ne_of_gt b1;have b1' := c_qsub (cr hi) (cr F) (zAF _) (zAF _) (by omega) (by omega) (by omega) (by omega);have b2' := c_qsub (cr lo) (cr F) (zAF _) (zAF _) (by omega) (by omega) (by omega) (by omega);rw [zAL, zAL] at b1' b2';have d1 := c_qdiv (cr 1) (cr (hi - F)) (zAF _) (zAF _) (by omega) (by omega) (by omega) (by omega) (by rw [zAL]; exact ne1);have d2 := c_qdiv (cr 1) (cr (lo - F)) (zAF _) (zAF _) (by omega) (by omega) (by omega) (by omega) (by rw [zAL]; exact ne2);rw [zAL, zAL] at d1 d2;generalize desc n (1 / (hi - F)) (1 / (lo - F)) = Y at *
     have ne3 : Y ≠ 0 := Rat.ne_of_gt y2;have d3 := c_qdiv (cr 1) (cr Y) (zAF _) (zAF _) (by omega) (by omega) (by omega) (by omega) (by rw [zAL]; exact ne3);rw [zAL, zAL] at d3;have ca2 := zG2 (cr F) (cr (1 / Y)) (zAF _) (zAF _) (by omega) (by omega) (by omega) (by omega);rw [zAL, zAL] at ca2;generalize hi - F = HF at *
     generalize lo - F = LF at *
     refine zAM hmix hT zJ4 (by simp [encRat]) ?_;refine sts ?_;refine zAA cf rfl ?_;refine sts ?_;refine zAA cw rfl ?_;refine sts ?_;refine zAA cc rfl ?_
     (repeat' (first|refine stp ?_|with_reducible(refine brr ?_ ?_<;>intro h)));all_goals try(conv=>whnf)
     all_goals try exact absurd (by assumption) e0
     refine zAA co rfl ?_;refine sts ?_;refine zAA ca rfl ?_;refine sts ?_;refine zAA cc2 rfl ?_
     (repeat' (first|refine stp ?_|with_reducible(refine brr ?_ ?_<;>intro h)));all_goals try(conv=>whnf)
     all_goals try (exfalso; omega)
     refine zAA co rfl ?_;refine sts ?_;refine zAA b1' rfl ?_;refine sts ?_;refine zAA d1 rfl ?_;refine sts ?_;refine zAA co rfl ?_;refine sts ?_;refine zAA b2' rfl ?_;refine sts ?_;refine zAA d2 rfl ?_;refine sts ?_;refine zAA co rfl ?_;refine sts ?_;refine zAA ih rfl ?_;refine sts ?_;refine zAA d3 rfl ?_;refine sts ?_;refine zAA ca2 rfl ?_;refine sts ?_;exact zAB rfl rfl
theorem zGM : FO 99 Tryz.f99 [.cell 4 35, .tmp 5] 35 := mkO Tryz.func99 Tryz.ntmps99 Tryz.results99
theorem c_qsimplest (lo hi : Rat) (k : Nat) (hk : k ≤ 100000000) (hk1 : 1 ≤ k) (hl : sz k lo) (hh : sz k hi) (hle : lo ≤ hi) : Fn 99 [encRat (cr lo), encRat (cr hi)] (.data (.tup [encRat (cr (simp2 lo hi)), .int .i64 0])) := by
 have l1 := zAJ hl;have l2 := zAJ hh;have cc := zHT (cr lo) (cr hi) (zAF _) (zAF _) (by omega) (by omega) (by omega) (by omega);rw [zAL, zAL] at cc;have c1 := zD1 (cr lo) (zAF _) (by omega);have c2 := zD1 (cr hi) (zAF _) (by omega);rw [zAL] at c1 c2;have n1 := c_qneg (cr lo) (zAF _) (by omega) (by omega);have n2 := c_qneg (cr hi) (zAF _) (by omega) (by omega);rw [zAL] at n1 n2;have e0 := sgn_le.2 hle
 have s1 : sgnQ lo ≤ 0 ↔ lo ≤ 0 := by
  constructor
  ·intro h; exact Rat.not_lt.1 fun h2 => by have := sgnQ_pos.2 h2; omega
  ·intro h; exact Int.not_lt.1 fun h2 => absurd (sgnQ_pos.1 h2) (Rat.not_lt.2 h)
 have s2 : 0 ≤ sgnQ hi ↔ 0 ≤ hi := by
  constructor
  ·intro h; exact Rat.not_lt.1 fun h2 => by have := sgnQ_neg.2 h2; omega
  ·intro h; exact Int.not_lt.1 fun h2 => absurd (sgnQ_neg.1 h2) (Rat.not_lt.2 h)
 unfold simp2;generalize sgnQ (lo - hi) = S0 at *
 by_cases h0 : lo ≤ 0 ∧ 0 ≤ hi
 ·rw [if_pos h0, zGB]
  have t1 := s1.2 h0.1;have t2 := s2.2 h0.2;generalize sgnQ lo = S1 at *
  generalize sgnQ hi = S2 at *
  refine zAM hmix hT zGM (by simp [encRat]) ?_;refine sts ?_;refine zAA cc rfl ?_
  (repeat' (first|refine stp ?_|with_reducible(refine brr ?_ ?_<;>intro h)));all_goals try(conv=>whnf)
  all_goals try (exfalso; omega)
  refine zAA c1 rfl ?_
  (repeat' (first|refine stp ?_|with_reducible(refine brr ?_ ?_<;>intro h)));all_goals try(conv=>whnf)
  all_goals try (exfalso; omega)
  refine zAA c2 rfl ?_
  (repeat' (first|refine stp ?_|with_reducible(refine brr ?_ ?_<;>intro h)));all_goals try(conv=>whnf)
  all_goals try (exfalso; omega)
  exact zAB rfl rfl
 ·rw [if_neg h0]
  by_cases hn : hi < 0
  ·rw [if_pos hn]
   have hd : DescS (hi.den + lo.den) (-hi) (-lo) := ⟨by grind, by grind, by simp⟩;have cd := zNM k hk hk1 _ _ _ hd (zGE hh) (zGE hl);have l3 := zAJ (desc_sz hd (zGE hh)).1;generalize desc (hi.den + lo.den) (-hi) (-lo) = Y at *
   have n3 := c_qneg (cr Y) (zAF _) (by omega) (by omega);rw [zAL] at n3;have t1 := s1.2 (show lo ≤ 0 by grind);have t2 := sgnQ_neg.2 hn;generalize sgnQ lo = S1 at *
   generalize sgnQ hi = S2 at *
   refine zAM hmix hT zGM (by simp [encRat]) ?_;refine sts ?_;refine zAA cc rfl ?_
   (repeat' (first|refine stp ?_|with_reducible(refine brr ?_ ?_<;>intro h)));all_goals try(conv=>whnf)
   all_goals try (exfalso; omega)
   refine zAA c1 rfl ?_
   (repeat' (first|refine stp ?_|with_reducible(refine brr ?_ ?_<;>intro h)));all_goals try(conv=>whnf)
   all_goals try (exfalso; omega)
   refine zAA c2 rfl ?_
   (repeat' (first|refine stp ?_|with_reducible(refine brr ?_ ?_<;>intro h)));all_goals try(conv=>whnf)
   all_goals try (exfalso; omega)
   refine zAA c2 rfl ?_
   (repeat' (first|refine stp ?_|with_reducible(refine brr ?_ ?_<;>intro h)));all_goals try(conv=>whnf)
   all_goals try (exfalso; omega)
   refine zAA n2 rfl ?_;refine sts ?_;refine zAA n1 rfl ?_;refine sts ?_;refine zAA cd rfl ?_;refine sts ?_;refine zAA n3 rfl ?_;refine sts ?_;exact zAB rfl rfl
  ·rw [if_neg hn]
   have hp : 0 < lo := by grind
   have hd : DescS (lo.den + hi.den) lo hi := ⟨hp, hle, Nat.le_refl _⟩;have cd := zNM k hk hk1 _ _ _ hd hl hh;have t1 := sgnQ_pos.2 hp;have t2 := s2.2 (show 0 ≤ hi by grind);generalize sgnQ lo = S1 at *
   generalize sgnQ hi = S2 at *
   refine zAM hmix hT zGM (by simp [encRat]) ?_;refine sts ?_;refine zAA cc rfl ?_
   (repeat' (first|refine stp ?_|with_reducible(refine brr ?_ ?_<;>intro h)));all_goals try(conv=>whnf)
   all_goals try (exfalso; omega)
   refine zAA c1 rfl ?_
   (repeat' (first|refine stp ?_|with_reducible(refine brr ?_ ?_<;>intro h)));all_goals try(conv=>whnf)
   all_goals try (exfalso; omega)
   refine zAA c2 rfl ?_
   (repeat' (first|refine stp ?_|with_reducible(refine brr ?_ ?_<;>intro h)));all_goals try(conv=>whnf)
   all_goals try (exfalso; omega)
   refine zAA cd rfl ?_;refine sts ?_;exact zAB rfl rfl
end Go.PI.Tryz
namespace Go.PI.Tryz
open Go.Proofs Go.PI
theorem ok_rqdiv : FO 103 Tryz.f103 [.cell 4 35, .tmp 5] 28 := mkO Tryz.func103 Tryz.ntmps103 Tryz.results103
theorem c_rqdiv (x y : RatL) (hx : okR x) (hy : okR y) (hl1 : x.num.length < 1000000000) (hl2 : x.den.length < 1000000000) (hl3 : y.num.length < 1000000000) (hl4 : y.den.length < 1000000000) (h0 : qv y ≠ 0) : Fn 103 [encRat x, encRat y] (.data (.tup [encRat (cr (qv x / qv y)), .int .i64 0])) := by
 have cs := zDG y hy (by omega);have cu1 := zG0 x.den hx.2 (by omega);have cu2 := zG0 y.den hy.2 (by omega);have u1 := zM7 hx.2;have u2 := zM7 hy.2;have cm1 := zH8 x.num (lims (dn y.den)) hx.1 (zAO _) (by omega) (by omega);have cm2 := zH8 (lims (dn x.den)) y.num (zAO _) hy.1 (by omega) (by omega);rw [zAP] at cm1 cm2;have k1 := zBO hx.1 (zAO (dn y.den));have k2 := zBO (zAO (dn x.den)) hy.1;rw [zAP] at k1 k2;have hb : nv y.num ≠ 0 := fun e => h0 (qv_zero.2 e)
 have hs : ¬ sgnQ (qv y) = 0 := fun e => h0 (sgnQ_zero.1 e)
 have cq := zJF (x.neg != y.neg) (lims (nv x.num * dn y.den)) (lims (dn x.den * nv y.num)) (zAO _) (zAO _) (by rw [zAP]; exact Nat.mul_ne_zero (zCA _) hb) (by omega) (by omega);rw [zAP, zAP, ← qv_div x y h0] at cq;generalize sgnQ (qv y) = S at *
 refine zAM hmix hT ok_rqdiv (by simp [encRat]) ?_;refine sts ?_;refine zAA cs rfl ?_
 (repeat' (first|refine stp ?_|with_reducible(refine brr ?_ ?_<;>intro h)));all_goals try(conv=>whnf)
 all_goals try exact absurd (by assumption) hs
 refine zAA cu2 rfl ?_;refine sts ?_;refine zAA cm1 rfl ?_;refine sts ?_;refine zAA cu1 rfl ?_;refine sts ?_;refine zAA cm2 rfl ?_;refine sts ?_;refine zAA cq rfl ?_;refine sts ?_;exact zAB rfl rfl
theorem c_rqdiv0 (x y : RatL) (hy : okR y) (hl3 : y.num.length < 1000000000) (h0 : qv y = 0) : Fn 103 [encRat x, encRat y] (.data (.tup [encRat ⟨false, [], []⟩, .int .i64 3])) := by
 have cs := zDG y hy (by omega);have hs : sgnQ (qv y) = 0 := sgnQ_zero.2 h0;generalize sgnQ (qv y) = S at *
 refine zAM hmix hT ok_rqdiv (by simp [encRat]) ?_;refine sts ?_;refine zAA cs rfl ?_
 (repeat' (first|refine stp ?_|with_reducible(refine brr ?_ ?_<;>intro h)));all_goals try(conv=>whnf)
 all_goals try exact absurd hs (by assumption)
 exact zAB rfl rfl
theorem ok_rqnum : FO 207 Tryz.f207 [.cell 2 76] 10 := mkO Tryz.func207 Tryz.ntmps207 Tryz.results207
theorem c_rqnum (x : RatL) (hx : okR x) (hl : x.num.length < 2147483600) (hl2 : x.den.length < 2147483600) : Fn 207 [encRat x] (.data (encInt (cz (qv x).num))) := by
 have cc := zC2 x hx (by omega) (by omega);refine zAM hmix hT ok_rqnum (by simp [encRat]) ?_;refine sts ?_;refine zAA cc rfl ?_;refine sts ?_;exact zAB rfl rfl
theorem ok_rqden : FO 20 Tryz.f20 [.tmp 2] 7 := mkO Tryz.func20 Tryz.ntmps20 Tryz.results20
theorem c_rqden (q : Rat) (k : Nat) (hq : sz k q) (hk : k ≤ 1000000000) : Fn 20 [encRat (cr q)] (.data (encN (lims q.den))) := by
 have hl := zAJ hq;have cc := zC2 (cr q) (zAF _) (by omega) (by omega);rw [zAL] at cc;have cu := zG0 (cr q).den (zAF q).2 (by omega);rw [dn_cr] at cu;refine zAM hmix hT ok_rqden (by simp [encRat]) ?_;refine sts ?_;refine zAA cc rfl ?_;refine sts ?_;refine zAA cu rfl ?_;refine sts ?_;exact zAB rfl rfl
theorem ok_rqwhole : FO 194 Tryz.f194 [.cell 2 35] 9 := mkO Tryz.func194 Tryz.ntmps194 Tryz.results194
theorem c_rqwhole (z : Int) (hl : (lims z.natAbs).length < 2147483600) : Fn 194 [encInt (cz z)] (.data (encRat (cr z))) := by
 have cc := zC2 ⟨(cz z).neg, (cz z).mag, []⟩ ⟨zAO _, zED⟩ (by show (lims _).length < _; omega) (by show (0 : Nat) < _; omega)
 rw [show qv ⟨(cz z).neg, (cz z).mag, []⟩ = (z : Rat) by
  unfold qv;rw [show sg (cz z).neg (nv (cz z).mag) = z from zKD z, show dn [] = 1 from rfl]
  exact (Rat.mkRat_eq_div z 1).trans (by rw [Rat.div_def]; show (z : Rat) * (1 : Rat)⁻¹ = z; rw [show (1 : Rat)⁻¹ = 1 by decide +kernel, Rat.mul_one])] at cc
 refine zAM hmix hT ok_rqwhole (by simp [encInt]) ?_;refine sts ?_;refine zAA cc rfl ?_;refine sts ?_;exact zAB rfl rfl
theorem ok_ridivmod : FO 206 Tryz.f206 [.cell 4 76, .cell 5 76, .tmp 6] 50 := mkO Tryz.func206 Tryz.ntmps206 Tryz.results206
theorem c_ridivmodP (a b : List Int) (ha : okN a) (hb : okN b) (h0 : nv b ≠ 0) (hl : a.length < 2147483630) (hl2 : b.length < 2147483630) : Fn 206 [encInt ⟨false, a⟩, encInt ⟨false, b⟩] (.data (.tup [encInt (cz ((nv a / nv b : Nat) : Int)), encInt (cz ((nv a % nv b : Nat) : Int)), .int .i64 0])) := by
 have cd := zHI a b ha hb (by omega) (by omega);rw [if_neg h0, if_neg h0] at cd;have k1 : (lims (nv a / nv b)).length ≤ a.length := zBC (Nat.lt_of_le_of_lt (Nat.div_le_self ..) (zDR ha));have k2 : (lims (nv a % nv b)).length ≤ a.length := zBC (Nat.lt_of_le_of_lt (Nat.mod_le ..) (zDR ha));have c1 := zE7 false (lims (nv a / nv b)) (zAO _) (by omega);have c2 := zE7 false (lims (nv a % nv b)) (zAO _) (by omega);rw [zAP, sg_false] at c1 c2;refine zAM hmix hT ok_ridivmod (by simp [encInt]) ?_;refine sts ?_;refine zAA cd rfl ?_;refine sts ?_;refine zAA c1 rfl ?_;refine sts ?_;refine zAA c2 rfl ?_;refine sts ?_;exact zAB rfl rfl
theorem ok_rqfloor : FO 195 Tryz.f195 [.cell 2 76] 17 := mkO Tryz.func195 Tryz.ntmps195 Tryz.results195
theorem c_rqfloorP (q : Rat) (k : Nat) (hq : sz k q) (hk : k ≤ 900000000) (hp : 0 < q) : Fn 195 [encRat (cr q)] (.data (encInt (cz q.floor))) := by
 have hl := zAJ hq;have okq := zAF q;obtain ⟨e1, e2⟩ := cr_pos hp;have cs := c_rqnum (cr q) okq (by omega) (by omega);rw [zAL] at cs;have cu := c_rqden q k hq (by omega);have u1 : (lims q.den).length ≤ k := zBC hq.2
 have ez : cz q.num = ⟨false, (cr q).num⟩ := by
  have := zET hp;unfold cz cr; rw [decide_eq_false (by omega)]
 have cd := c_ridivmodP (cr q).num (lims q.den) okq.1 (zAO _) (by rw [zAP]; exact q.den_nz) (by omega) (by omega);rw [zAP, e2, ← floor_nat hp] at cd;rw [ez] at cs;refine zAM hmix hT ok_rqfloor (by simp [encRat]) ?_;refine sts ?_;refine zAA cs rfl ?_;refine sts ?_;refine zAA cu rfl ?_;refine sts ?_;refine zAA cd rfl ?_;refine sts ?_;exact zAB rfl rfl
theorem zH1 : FO 159 Tryz.f159 [.cell 4 35] 56 := mkO Tryz.func159 Tryz.ntmps159 Tryz.results159
theorem zKJ (k : Nat) (hk : k ≤ 100000000) (hk1 : 1 ≤ k) : ∀ (n : Nat) (lo hi : Rat), DescS n lo hi → sz k lo → sz k hi → Fn 159 [encRat (cr lo), encRat (cr hi)] (.data (encRat (cr (desc n lo hi))))
 | 0, lo, hi, h, _, _ => by have := h.den; have := lo.den_pos; omega
 | n + 1, lo, hi, h, hl, hh => by
   have sF := floor_sz h.pos hl;have l1 := zAJ hl;have l2 := zAJ hh;have l3 := zAJ sF;have s1 : sz 1 (1 : Rat) := ⟨by decide, by decide⟩;have sN := zBR sF s1;have l4 := zAJ sN;have l5 := zAJ s1;have cf := c_rqfloorP lo k hl (by omega) h.pos;have cw := c_rqwhole lo.floor (by have := l3.1; unfold cr at this; rw [Rat.num_intCast] at this; dsimp only at this; omega);have cc := zDK (cr ((lo.floor : Int) : Rat)) (cr lo) (zAF _) (zAF _) (by omega) (by omega) (by omega) (by omega);rw [zAL, zAL] at cc;have co := zFY 1 (by decide);have e1 : ((1 : Int) : Rat) = 1 := rfl;rw [e1] at co;have ca := zC9 (cr ((lo.floor : Int) : Rat)) (cr 1) (zAF _) (zAF _) (by omega) (by omega) (by omega) (by omega);rw [zAL, zAL] at ca;have cc2 := zDK (cr (((lo.floor : Int) : Rat) + 1)) (cr hi) (zAF _) (zAF _) (by omega) (by omega) (by omega) (by omega);rw [zAL, zAL] at cc2;have hstep := zI7 h;have hszs := desc_szs (k := k) h
   have ed : desc (n + 1) lo hi = if ((lo.floor : Int) : Rat) = lo then ((lo.floor : Int) : Rat) else if ((lo.floor : Int) : Rat) + 1 ≤ hi then ((lo.floor : Int) : Rat) + 1
    else ((lo.floor : Int) : Rat) + 1 / desc n (1 / (hi - ((lo.floor : Int) : Rat))) (1 / (lo - ((lo.floor : Int) : Rat))) := rfl
   rw [ed];clear ed;generalize lo.floor = z at *
   generalize ((z : Int) : Rat) = F at *
   by_cases h1 : F = lo
   ·rw [if_pos h1]
    have e0 := sgn_sub0.2 h1;generalize sgnQ (F - lo) = S at *
    refine zAM hmix hT zH1 (by simp [encRat]) ?_;refine sts ?_;refine zAA cf rfl ?_;refine sts ?_;refine zAA cw rfl ?_;refine sts ?_;refine zAA cc rfl ?_
    (repeat' (first|refine stp ?_|with_reducible(refine brr ?_ ?_<;>intro h)));all_goals try(conv=>whnf)
    all_goals first | exact absurd e0 (by assumption) | exact zAB rfl rfl
   ·rw [if_neg h1]
    have e0 : ¬ sgnQ (F - lo) = 0 := fun e => h1 (sgn_sub0.1 e)
    generalize sgnQ (F - lo) = S at *
    by_cases h2 : F + 1 ≤ hi
    ·rw [if_pos h2]
     have e2 := sgn_le.2 h2;generalize sgnQ (F + 1 - hi) = S2 at *
     refine zAM hmix hT zH1 (by simp [encRat]) ?_;refine sts ?_;refine zAA cf rfl ?_;refine sts ?_;refine zAA cw rfl ?_;refine sts ?_;refine zAA cc rfl ?_
     (repeat' (first|refine stp ?_|with_reducible(refine brr ?_ ?_<;>intro h)));all_goals try(conv=>whnf)
     all_goals try exact absurd (by assumption) e0
     refine zAA co rfl ?_;refine sts ?_;refine zAA ca rfl ?_;refine sts ?_;refine zAA cc2 rfl ?_
     (repeat' (first|refine stp ?_|with_reducible(refine brr ?_ ?_<;>intro h)));all_goals try(conv=>whnf)
     all_goals first | (exfalso; omega) | exact zAB rfl rfl
    ·rw [if_neg h2]
     have e2 : ¬ sgnQ (F + 1 - hi) ≤ 0 := fun e => h2 (sgn_le.1 e)
     generalize sgnQ (F + 1 - hi) = S2 at *
     obtain ⟨hn, a1, b1, _, _⟩ := hstep h1 h2;obtain ⟨z1, z2⟩ := hszs h1 h2 hl hh;have i1 := zJN a1 z1;have i2 := zJN b1 z2;obtain ⟨y1, y2⟩ := desc_sz hn i1;have y3 := zJN y2 y1;have ih := zKJ k hk hk1 n _ _ hn i1 i2;have m1 := zAJ z1;have m2 := zAJ z2;have m5 := zAJ y1;have m6 := zAJ y3;have ne1 : hi - F ≠ 0 := Rat.ne_of_gt a1;have ne2 : lo - F ≠ 0 := Rat.ne_of_gt b1;have b1' := zNH (cr hi) (cr F) (zAF _) (zAF _) (by omega) (by omega) (by omega) (by omega);have b2' := zNH (cr lo) (cr F) (zAF _) (zAF _) (by omega) (by omega) (by omega) (by omega);rw [zAL, zAL] at b1' b2';have d1 := c_rqdiv (cr 1) (cr (hi - F)) (zAF _) (zAF _) (by omega) (by omega) (by omega) (by omega) (by rw [zAL]; exact ne1);have d2 := c_rqdiv (cr 1) (cr (lo - F)) (zAF _) (zAF _) (by omega) (by omega) (by omega) (by omega) (by rw [zAL]; exact ne2);rw [zAL, zAL] at d1 d2;generalize desc n (1 / (hi - F)) (1 / (lo - F)) = Y at *
     have ne3 : Y ≠ 0 := Rat.ne_of_gt y2;have d3 := c_rqdiv (cr 1) (cr Y) (zAF _) (zAF _) (by omega) (by omega) (by omega) (by omega) (by rw [zAL]; exact ne3);rw [zAL, zAL] at d3;have ca2 := zC9 (cr F) (cr (1 / Y)) (zAF _) (zAF _) (by omega) (by omega) (by omega) (by omega);rw [zAL, zAL] at ca2;generalize hi - F = HF at *
     generalize lo - F = LF at *
     refine zAM hmix hT zH1 (by simp [encRat]) ?_;refine sts ?_;refine zAA cf rfl ?_;refine sts ?_;refine zAA cw rfl ?_;refine sts ?_;refine zAA cc rfl ?_
     (repeat' (first|refine stp ?_|with_reducible(refine brr ?_ ?_<;>intro h)));all_goals try(conv=>whnf)
     all_goals try exact absurd (by assumption) e0
     refine zAA co rfl ?_;refine sts ?_;refine zAA ca rfl ?_;refine sts ?_;refine zAA cc2 rfl ?_
     (repeat' (first|refine stp ?_|with_reducible(refine brr ?_ ?_<;>intro h)));all_goals try(conv=>whnf)
     all_goals try (exfalso; omega)
     refine zAA co rfl ?_;refine sts ?_;refine zAA b1' rfl ?_;refine sts ?_;refine zAA d1 rfl ?_;refine sts ?_;refine zAA co rfl ?_;refine sts ?_;refine zAA b2' rfl ?_;refine sts ?_;refine zAA d2 rfl ?_;refine sts ?_;refine zAA co rfl ?_;refine sts ?_;refine zAA ih rfl ?_;refine sts ?_;refine zAA d3 rfl ?_;refine sts ?_;refine zAA ca2 rfl ?_;refine sts ?_;exact zAB rfl rfl
theorem zF7 : FO 106 Tryz.f106 [.cell 4 35, .tmp 5] 35 := mkO Tryz.func106 Tryz.ntmps106 Tryz.results106
theorem c_rqsimplest (lo hi : Rat) (k : Nat) (hk : k ≤ 100000000) (hk1 : 1 ≤ k) (hl : sz k lo) (hh : sz k hi) (hle : lo ≤ hi) : Fn 106 [encRat (cr lo), encRat (cr hi)] (.data (.tup [encRat (cr (simp2 lo hi)), .int .i64 0])) := by
 have l1 := zAJ hl;have l2 := zAJ hh;have cc := zDK (cr lo) (cr hi) (zAF _) (zAF _) (by omega) (by omega) (by omega) (by omega);rw [zAL, zAL] at cc;have c1 := zDG (cr lo) (zAF _) (by omega);have c2 := zDG (cr hi) (zAF _) (by omega);rw [zAL] at c1 c2;have n1 := zNI (cr lo) (zAF _) (by omega) (by omega);have n2 := zNI (cr hi) (zAF _) (by omega) (by omega);rw [zAL] at n1 n2;have e0 := sgn_le.2 hle
 have s1 : sgnQ lo ≤ 0 ↔ lo ≤ 0 := by
  constructor
  ·intro h; exact Rat.not_lt.1 fun h2 => by have := sgnQ_pos.2 h2; omega
  ·intro h; exact Int.not_lt.1 fun h2 => absurd (sgnQ_pos.1 h2) (Rat.not_lt.2 h)
 have s2 : 0 ≤ sgnQ hi ↔ 0 ≤ hi := by
  constructor
  ·intro h; exact Rat.not_lt.1 fun h2 => by have := sgnQ_neg.2 h2; omega
  ·intro h; exact Int.not_lt.1 fun h2 => absurd (sgnQ_neg.1 h2) (Rat.not_lt.2 h)
 unfold simp2;generalize sgnQ (lo - hi) = S0 at *
 by_cases h0 : lo ≤ 0 ∧ 0 ≤ hi
 ·rw [if_pos h0, zGB]
  have t1 := s1.2 h0.1;have t2 := s2.2 h0.2;generalize sgnQ lo = S1 at *
  generalize sgnQ hi = S2 at *
  refine zAM hmix hT zF7 (by simp [encRat]) ?_;refine sts ?_;refine zAA cc rfl ?_
  (repeat' (first|refine stp ?_|with_reducible(refine brr ?_ ?_<;>intro h)));all_goals try(conv=>whnf)
  all_goals try (exfalso; omega)
  refine zAA c1 rfl ?_
  (repeat' (first|refine stp ?_|with_reducible(refine brr ?_ ?_<;>intro h)));all_goals try(conv=>whnf)
  all_goals try (exfalso; omega)
  refine zAA c2 rfl ?_
  (repeat' (first|refine stp ?_|with_reducible(refine brr ?_ ?_<;>intro h)));all_goals try(conv=>whnf)
  all_goals try (exfalso; omega)
  exact zAB rfl rfl
 ·rw [if_neg h0]
  by_cases hn : hi < 0
  ·rw [if_pos hn]
   have hd : DescS (hi.den + lo.den) (-hi) (-lo) := ⟨by grind, by grind, by simp⟩;have cd := zKJ k hk hk1 _ _ _ hd (zGE hh) (zGE hl);have l3 := zAJ (desc_sz hd (zGE hh)).1;generalize desc (hi.den + lo.den) (-hi) (-lo) = Y at *
   have n3 := zNI (cr Y) (zAF _) (by omega) (by omega);rw [zAL] at n3;have t1 := s1.2 (show lo ≤ 0 by grind);have t2 := sgnQ_neg.2 hn;generalize sgnQ lo = S1 at *
   generalize sgnQ hi = S2 at *
   refine zAM hmix hT zF7 (by simp [encRat]) ?_;refine sts ?_;refine zAA cc rfl ?_
   (repeat' (first|refine stp ?_|with_reducible(refine brr ?_ ?_<;>intro h)));all_goals try(conv=>whnf)
   all_goals try (exfalso; omega)
   refine zAA c1 rfl ?_
   (repeat' (first|refine stp ?_|with_reducible(refine brr ?_ ?_<;>intro h)));all_goals try(conv=>whnf)
   all_goals try (exfalso; omega)
   refine zAA c2 rfl ?_
   (repeat' (first|refine stp ?_|with_reducible(refine brr ?_ ?_<;>intro h)));all_goals try(conv=>whnf)
   all_goals try (exfalso; omega)
   refine zAA c2 rfl ?_
   (repeat' (first|refine stp ?_|with_reducible(refine brr ?_ ?_<;>intro h)));all_goals try(conv=>whnf)
   all_goals try (exfalso; omega)
   refine zAA n2 rfl ?_;refine sts ?_;refine zAA n1 rfl ?_;refine sts ?_;refine zAA cd rfl ?_;refine sts ?_;refine zAA n3 rfl ?_;refine sts ?_;exact zAB rfl rfl
  ·rw [if_neg hn]
   have hp : 0 < lo := by grind
   have hd : DescS (lo.den + hi.den) lo hi := ⟨hp, hle, Nat.le_refl _⟩;have cd := zKJ k hk hk1 _ _ _ hd hl hh;have t1 := sgnQ_pos.2 hp;have t2 := s2.2 (show 0 ≤ hi by grind);generalize sgnQ lo = S1 at *
   generalize sgnQ hi = S2 at *
   refine zAM hmix hT zF7 (by simp [encRat]) ?_;refine sts ?_;refine zAA cc rfl ?_
   (repeat' (first|refine stp ?_|with_reducible(refine brr ?_ ?_<;>intro h)));all_goals try(conv=>whnf)
   all_goals try (exfalso; omega)
   refine zAA c1 rfl ?_
   (repeat' (first|refine stp ?_|with_reducible(refine brr ?_ ?_<;>intro h)));all_goals try(conv=>whnf)
   all_goals try (exfalso; omega)
   refine zAA c2 rfl ?_
   (repeat' (first|refine stp ?_|with_reducible(refine brr ?_ ?_<;>intro h)));all_goals try(conv=>whnf)
   all_goals try (exfalso; omega)
   refine zAA cd rfl ?_;refine sts ?_;exact zAB rfl rfl
end Go.PI.Tryz
namespace Go.PI.Tryz
open Go.Proofs Go.PI
theorem c_grunB (g : GraL) (x : List Rat) (k K : Nat) (hg : okGra k g) (hk : k ≤ 950000000) (hk1 : 1 ≤ k) (hK1 : 1 ≤ K) (hv : VaG g) (hx : ∀ q ∈ x, sz 900000000 q) (hl : (x.length : Int) = g.ins) (hK : ∀ j, j < g.units.length → (∀ q ∈ valsN g.us x j, sz K q) ∧ sz K (preL g.us x)[j]!) (hb : ∀ f ∈ g.units, k + f.terms.length * (k + K + 1) + k + K ≤ 949999990) : Fn 138 [encGra g, .own 0 0 x.length] (.wrt (rowX x) (.tup [.imm ((valsN g.us x g.us.length).map encX), .imm ((preL g.us x).map encX), .int .i64 0]) (rowX x)) := by
 have cv := zJJ g ⟨⟨hg.1.1, fun f hf => zB0 hk (hg.1.2 f hf)⟩, ⟨hg.2.1, fun f hf => zB0 hk (hg.2.2 f hf)⟩⟩;rw [dB_true.2 hv] at cv;have l2 := hg.1.1;have lu := zGD g;have hn := hv.2.1;have hx2 : x.length ≤ 256 := by have := hv.1.2; omega
 refine zCT hmix hT ok_grun (by simp [encGra]) ?_;refine sts ?_;refine zAA cv rfl ?_
 (repeat' (first|refine stp ?_|with_reducible(refine brr ?_ ?_<;>intro h)));all_goals try(conv=>whnf)
 ·exfalso; omega
 refine zBV hT [(.sl 4, 3, true), (.sl 5, 3, true)] (fun (i : Nat) => [(2, .ptr 1 0 0), (4, .own 2 0 i), (5, .own 3 0 0), (23, .own 0 0 x.length), (24, .int .i64 x.length), (25, .int .i64 i)]) (fun i => [(0, rowX x), (1, ⟨[encGra g], 3, true⟩), (2, ⟨(x.take i).map encX, 3, true⟩), (3, ⟨[], 3, true⟩)]) [] 4
  (fun i => i ≤ x.length) (fun i => x.length - i) 0 (Nat.zero_le _) (by decide) (by simp) ⟨rfl, rfl, trivial⟩ ?_ ?_
 ·exact ⟨[1, _, _], [], [], [], ttt, ⟨(apy rfl), zAH (by decide) rfl rfl, zAH (by decide) rfl rfl, zAH (by decide) rfl rfl, zAC rfl rfl, zAC rfl rfl, trivial⟩,
   ⟨zAE (by decide) rfl rfl (zAN x) rfl, bbx, zAE (by decide) rfl rfl (zAN []) rfl, zAE (by decide) rfl rfl (zAN []) rfl, trivial⟩, by simp [ren]⟩
 intro i i1;have hlen : (x.take i).length = i := by rw [List.length_take]; omega
 by_cases hi : i < x.length
 ·have q1 := zAJ (hx _ (get_mem hi))
  have cc := zCV (cr x[i]!) (zAF _) (by omega) (by omega);rw [zAL] at cc
  (repeat' (first|refine stp ?_|with_reducible(refine brr ?_ ?_<;>intro h)));all_goals try(conv=>whnf)
  all_goals try (exfalso; omega)
  refine zA0 i (Nat.zero_add _) hi ?_;refine sts ?_;refine zAA cc rfl ?_;refine sts ?_
  exact ⟨i + 1, ⟨by omega, by show x.length - (i + 1) < x.length - i; omega⟩, [1, _, 3], [], [], [], ttt, ⟨(apy rfl), zAH (by decide) rfl rfl, zAH (by decide) rfl rfl, zAH (by decide) rfl rfl, zAC rfl rfl, zAC rfl rfl, trivial⟩,
   ⟨zAE (by decide) rfl rfl (zAN x) rfl, bbx, zAE (by decide) rfl (X_snoc hi rfl) (zAN _) rfl, zAE (by decide) rfl rfl (zAN []) rfl, trivial⟩, by simp [ren]⟩
 ·have e0 : x.take i = valsN g.us x 0 := by rw [zEK, List.take_of_length_le (by omega)]
  (repeat' (first|refine stp ?_|with_reducible(refine brr ?_ ?_<;>intro h)));all_goals try(conv=>whnf)
  all_goals try (exfalso; omega)
  refine zAG hT (fun (j : Nat) => [(2, .ptr 1 0 0), (4, .own 2 0 (x.length + j)), (5, .own 3 0 j), (36, .imm (g.units.map encAff)), (37, .int .i64 g.units.length), (38, .int .i64 j)]) (fun j => [(0, rowX x), (1, ⟨[encGra g], 3, true⟩), (2, ⟨(valsN g.us x j).map encX, 3, true⟩), (3, ⟨((preL g.us x).take j).map encX, 3, true⟩)]) [] 4
   (fun j => j ≤ g.units.length) (fun j => g.units.length - j) 0 (Nat.zero_le _) (by decide) (by simp) ?_ ?_
  ·exact ⟨[1, 2, 3], [], [], [], ttt, ⟨apx, zAH (by decide) rfl (by omega), zAH (by decide) rfl rfl, zAD rfl rfl, zAC rfl (by simp), zAC rfl rfl, trivial⟩,
    ⟨zAE (by decide) rfl rfl (zAN x) rfl, bbx, zAE (by decide) rfl (congrArg (List.map encX) e0) (zAN _) rfl, zAE (by decide) rfl rfl (zAN []) rfl, trivial⟩, by simp [ren]⟩
  intro j j1;have hvl : (valsN g.us x j).length = x.length + j := by rw [zCI j (by omega)]
  have hp2 := zB9 g.us x;have hpl : ((preL g.us x).take j).length = j := by rw [List.length_take, zB9]; omega
  by_cases hj : j < g.units.length
  ·have hvu := hv.2.2.2.1 j hj
   have hmem := get_mem hj;have hou := hg.1.2 _ hmem;have hb1 := hb _ hmem;obtain ⟨hs1, hs2⟩ := hK j hj;have hvr : ∀ p ∈ g.units[j]!.Q.ts, 0 ≤ p.1 ∧ p.1 < ((valsN g.us x j).length : Nat) := fun p hp => by have := (zCC hvu).2 p hp; omega
   have ce := zLS g.units[j]!.Q (valsN g.us x j) k K (zBT hou hk1) hs1 hvr (by rw [zE1]; exact hb1) (by rw [zE1]; exact hou.2.2) (by omega);rw [zE6 hvu, hvl] at ce;have hp : (preL g.us x)[j]! = evQ g.units[j]!.Q (valsN g.us x j) := by rw [zG7 (by omega), zEP hj]
   rw [hp] at hs2;have l3 := zAJ hs2;have cx := c_qmax ⟨false, [], []⟩ (cr (evQ g.units[j]!.Q (valsN g.us x j))) K okQ_zero (zB7 hs2) (by omega);rw [zAL, show qv ⟨false, [], []⟩ = 0 by rfl] at cx
   have hvs : (valsN g.us x j).map encX ++ [encRat (cr (maxQ 0 (evQ g.units[j]!.Q (valsN g.us x j))))] = (valsN g.us x (j + 1)).map encX := by
    rw [zDV (by omega), List.map_append, zEP hj]; rfl
   have hps := X_snoc (l := preL g.us x) (j := j) (by rw [zB9]; omega) hp
   (repeat' (first|refine stp ?_|with_reducible(refine brr ?_ ?_<;>intro h)));all_goals try(conv=>whnf)
   ·refine zB5 (r := 2) ce rfl rfl rfl rfl (zBA (zAN _)) ?_
    refine sts ?_;refine zAA cx rfl ?_;refine sts ?_
    exact ⟨j + 1, ⟨by omega, by show g.units.length - (j + 1) < g.units.length - j; omega⟩, [1, _, _], [], [], [], ttt, ⟨(apy rfl), zAH (by decide) rfl rfl, zAH (by decide) rfl rfl, zAD rfl rfl, zAC rfl rfl, zAC rfl rfl, trivial⟩,
     ⟨zAE (by decide) rfl rfl (zAN x) rfl, bbx, zAE (by decide) rfl hvs (zAN _) rfl, zAE (by decide) rfl hps (zAN _) rfl, trivial⟩, by simp [ren]⟩
   all_goals (exfalso; omega)
  ·have ej : j = g.us.length := by omega
   have hp2 := zB9 g.us x;have et : (preL g.us x).take j = preL g.us x := List.take_of_length_le (by rw [zB9]; omega);rw [et];refine sus ?_;refine zA5 ?_
   (repeat' (first|refine stu ?_|with_reducible(refine brr ?_ ?_<;>intro h)));all_goals try(conv=>whnf)
   all_goals try (exfalso; omega)
   refine tellV [] [(4, .imm ((valsN g.us x j).map encX)), (5, .imm ((preL g.us x).map encX))] [(0, rowX x)] [] 1 (by decide) (by simp) trivial
    ⟨[], [2, 3], [(4, .imm ((valsN g.us x j).map encX)), (5, .imm ((preL g.us x).map encX))], [], ⟨⟨⟨_, rfl⟩, ⟨_, rfl⟩, trivial⟩, ⟨⟨6, _, zAI rfl rfl (by omega) fun q => zCH (cr q), rfl⟩, ⟨6, _, zAI rfl rfl (by omega) fun q => zCH (cr q), rfl⟩, trivial⟩, trivial⟩, ⟨zAD rfl rfl, zAD rfl rfl, trivial⟩, ⟨zAE (by decide) rfl rfl (zAN x) rfl, trivial⟩, by simp [ren]⟩ ?_
   refine sts ?_;exact zCP (by rw [ej]) rfl rfl rfl rfl (zJO x)
theorem c_gpreB (g : GraL) (x : List Rat) (k K : Nat) (hg : okGra k g) (hk : k ≤ 950000000) (hk1 : 1 ≤ k) (hK1 : 1 ≤ K) (hv : VaG g) (hx : ∀ q ∈ x, sz 900000000 q) (hl : (x.length : Int) = g.ins) (hK : ∀ j, j < g.units.length → (∀ q ∈ valsN g.us x j, sz K q) ∧ sz K (preL g.us x)[j]!) (hb : ∀ f ∈ g.units, k + f.terms.length * (k + K + 1) + k + K ≤ 949999990) : Fn 183 [encGra g, .own 0 0 x.length] (.wrt (rowX x) (.tup [.imm ((preL g.us x).map encX), .int .i64 0]) (rowX x)) := by
 have cc := c_grunB g x k K hg hk hk1 hK1 hv hx hl hK hb;refine zCT hmix hT ok_gpre (by simp [encGra]) ?_;refine sts ?_;refine zB5 (r := 0) cc rfl rfl rfl rfl (zBA (zAN _)) ?_;refine sts ?_;exact zCP rfl rfl rfl rfl rfl (zJO x)
end Go.PI.Tryz
