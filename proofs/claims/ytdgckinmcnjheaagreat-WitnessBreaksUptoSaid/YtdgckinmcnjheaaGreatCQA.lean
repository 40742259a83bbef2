/-
  Graphs of the program at an input whose row the caller goes on to write: run, Pre, Of.
-/
import Derived.Test.YtdgckinmcnjheaaGreatCGA
import Derived.Test.YtdgckinmcnjheaaGreatCPE
import Derived.Test.YtdgckinmcnjheaaGreatCHA
set_option linter.unusedVariables false
set_option linter.unusedSimpArgs false
set_option linter.unnecessarySimpa false
namespace Go.PI.Tryz
open Go.Proofs Go.PI
theorem uG1 (a b : RatL) (h : qv b ≠ 0) : qv a / qv b = mkRat (sg (a.neg != b.neg) (nv a.num * dn b.den)) (dn a.den * nv b.num) := by
 have hb : nv b.num ≠ 0 := fun e => h (qv_zero.2 e)
 have e1 : (qv b)⁻¹ = mkRat (sg b.neg (dn b.den)) (nv b.num) := by
  unfold qv;rw [← Rat.divInt_ofNat, Rat.inv_divInt];unfold sg;cases b.neg
  ·simp
  ·rw [if_pos rfl, if_pos rfl]
   have := Rat.neg_divInt_neg (dn b.den : Int) (-(nv b.num : Int));rw [← this, Int.neg_neg, Rat.divInt_ofNat]
 rw [Rat.div_def, e1, show qv a = mkRat (sg a.neg (nv a.num)) (dn a.den) from rfl, Rat.mkRat_mul_mkRat, vLW]
theorem uDL : FO 88 Tryz.f88 [.cell 4 35, .tmp 5] 26 := mkO Tryz.func88 Tryz.ntmps88 Tryz.results88
theorem vNM (x y : RatL) (hx : okR x) (hy : okR y) (hl1 : x.num.length < 1000000000) (hl2 : x.den.length < 1000000000) (hl3 : y.num.length < 1000000000) (hl4 : y.den.length < 1000000000) (h0 : qv y ≠ 0) : Fn 88 [vAZ x, vAZ y] (.data (.tup [vAZ (cr (qv x / qv y)), .int .i64 0])) := by
 have cs := zDR y hy (by omega);have cu1 := zDX x hx (by omega);have cu2 := zDX y hy (by omega);have u1 := zDG x.den;have u2 := zDG y.den;have cm1 := zNX x.num (und y.den) hx.1 (zDD hy.2) (by omega) (by omega);have cm2 := zNX (und x.den) y.num (zDD hx.2) hy.1 (by omega) (by omega);rw [zDE] at cm1 cm2;have k1 := zB4 hx.1 (zDD hy.2);have k2 := zB4 (zDD hx.2) hy.1;rw [zDE] at k1 k2;have hb : nv y.num ≠ 0 := fun e => h0 (qv_zero.2 e)
 have hs : ¬ vBS (qv y) = 0 := fun e => h0 (sgnQ_zero.1 e)
 have cq := zJR (x.neg != y.neg) (vA4 (nv x.num * dn y.den)) (vA4 (dn x.den * nv y.num)) (zAM _) (zAM _) (by rw [zAO]; exact Nat.mul_ne_zero (zCB _) hb) (by omega) (by omega);rw [zAO, zAO, ← uG1 x y h0] at cq;generalize vBS (qv y) = S at *
 refine zAN vA6 hT uDL (by simp [vAZ]) ?_;refine sts ?_;refine zAA cs rfl ?_
 (repeat' (first|refine stp ?_|with_reducible(refine brr ?_ ?_<;>intro h)));all_goals try(conv=>whnf)
 all_goals try exact absurd (by assumption) hs
 refine zAA cu2 rfl ?_;refine sts ?_;refine zAA cm1 rfl ?_;refine sts ?_;refine zAA cu1 rfl ?_;refine sts ?_;refine zAA cm2 rfl ?_;refine sts ?_;refine zAA cq rfl ?_;refine sts ?_;exact zAB rfl rfl
theorem uDH : FO 156 Tryz.f156 [.cell 2 35] 9 := mkO Tryz.func156 Tryz.ntmps156 Tryz.results156
theorem vVM (x : RatL) (hx : okR x) (hl : x.num.length < 2147483616) (hl2 : x.den.length < 2147483616) : Fn 156 [vAZ x] (.data (vAZ (cr (- qv x)))) := by
 have cc := zCP ⟨!x.neg, x.num, x.den⟩ hx (by show x.num.length < _; omega) (by show x.den.length < _; omega);rw [show qv ⟨!x.neg, x.num, x.den⟩ = - qv x by unfold qv; rw [Rat.neg_mkRat, zLC]] at cc;refine zAN vA6 hT uDH (by simp [vAZ]) ?_;refine sts ?_;refine zAA cc rfl ?_;refine sts ?_;exact zAB rfl rfl
theorem uH9 {q : Rat} (h : 0 < q) : (cr q).neg = false ∧ nv (cr q).num = q.num.natAbs := by
 have := zFW h;exact ⟨decide_eq_false (by omega), zAO _⟩
theorem vT8 {q : Rat} (h : 0 < q) : q.floor = ((q.num.natAbs / q.den : Nat) : Int) := by
 have := zFW h;rw [Rat.floor_def, Int.natCast_ediv]
 congr 1
 omega
theorem vO6 : FO 205 Tryz.f205 [.cell 4 76, .cell 5 76, .tmp 6] 50 := mkO Tryz.func205 Tryz.ntmps205 Tryz.results205
theorem vPV (a b : List Int) (ha : okN a) (hb : okN b) (h0 : nv b ≠ 0) (hl : a.length < 2147483640) (hl2 : b.length < 2147483640) : Fn 205 [vBB ⟨false, a⟩, vBB ⟨false, b⟩] (.data (.tup [vBB (cz ((nv a / nv b : Nat) : Int)), vBB (cz ((nv a % nv b : Nat) : Int)), .int .i64 0])) := by
 have cd := zIQ a b ha hb (by omega) (by omega);rw [if_neg h0, if_neg h0] at cd;have k1 : (vA4 (nv a / nv b)).length ≤ a.length := zBD (Nat.lt_of_le_of_lt (Nat.div_le_self ..) (zDO ha));have k2 : (vA4 (nv a % nv b)).length ≤ a.length := zBD (Nat.lt_of_le_of_lt (Nat.mod_le ..) (zDO ha));have c1 := zHQ false (vA4 (nv a / nv b)) (zAM _) (by omega);have c2 := zHQ false (vA4 (nv a % nv b)) (zAM _) (by omega);rw [zAO, vW6] at c1 c2;refine zAN vA6 hT vO6 (by simp [vBB]) ?_;refine sts ?_;refine zAA cd rfl ?_;refine sts ?_;refine zAA c1 rfl ?_;refine sts ?_;refine zAA c2 rfl ?_;refine sts ?_;exact zAB rfl rfl
theorem vSM : FO 192 Tryz.f192 [.cell 2 76] 17 := mkO Tryz.func192 Tryz.ntmps192 Tryz.results192
theorem vVP (q : Rat) (k : Nat) (hq : sz k q) (hk : k ≤ 900000000) (hp : 0 < q) : Fn 192 [vAZ (cr q)] (.data (vBB (cz q.floor))) := by
 have hl := zAL hq;have okq := zAI q;obtain ⟨e1, e2⟩ := uH9 hp;have cs := zIP (cr q) okq (by omega);rw [uGR] at cs;have cu := zDX (cr q) okq (by omega);have u1 := zDG (cr q).den
 have ez : cz q.num = ⟨false, (cr q).num⟩ := by
  have := zFW hp;unfold cz cr; rw [decide_eq_false (by omega)]
 have cd := vPV (cr q).num (und (cr q).den) okq.1 (zDD okq.2) (by rw [zDE]; exact zCB _) (by omega) (by omega);rw [zDE, uH6, e2, ← vT8 hp] at cd;rw [ez] at cs;refine zAN vA6 hT vSM (by simp [vAZ]) ?_;refine sts ?_;refine zAA cs rfl ?_;refine sts ?_;refine zAA cu rfl ?_;refine sts ?_;refine zAA cd rfl ?_;refine sts ?_;exact zAB rfl rfl
theorem sgn_sub0 {a b : Rat} : vBS (a - b) = 0 ↔ a = b := by rw [sgnQ_zero]; constructor <;> intro h <;> grind
theorem zJA : FO 157 Tryz.f157 [.cell 4 35] 56 := mkO Tryz.func157 Tryz.ntmps157 Tryz.results157
theorem zMR (k : Nat) (hk : k ≤ 100000000) (hk1 : 1 ≤ k) : ∀ (n : Nat) (lo hi : Rat), DescS n lo hi → sz k lo → sz k hi → Fn 157 [vAZ (cr lo), vAZ (cr hi)] (.data (vAZ (cr (desc n lo hi))))
 | 0, lo, hi, h, _, _ => by have := h.den; have := lo.den_pos; omega
 | n + 1, lo, hi, h, hl, hh => by
   have sF := vY8 h.pos hl;have l1 := zAL hl;have l2 := zAL hh;have l3 := zAL sF;have s1 : sz 1 (1 : Rat) := ⟨by decide, by decide⟩;have sN := zBY sF s1;have l4 := zAL sN;have l5 := zAL s1;have cf := vVP lo k hl (by omega) h.pos;have cw := vNL lo.floor (by have := l3.1; unfold cr at this; rw [Rat.num_intCast] at this; dsimp only at this; omega);have cc := zHC (cr ((lo.floor : Int) : Rat)) (cr lo) (zAI _) (zAI _) (by omega) (by omega) (by omega) (by omega);rw [zAQ, zAQ] at cc;have co := vVL 1 (by decide);have e1 : ((1 : Int) : Rat) = 1 := rfl;rw [e1] at co;have ca := zGP (cr ((lo.floor : Int) : Rat)) (cr 1) (zAI _) (zAI _) (by omega) (by omega) (by omega) (by omega);rw [zAQ, zAQ] at ca;have cc2 := zHC (cr (((lo.floor : Int) : Rat) + 1)) (cr hi) (zAI _) (zAI _) (by omega) (by omega) (by omega) (by omega);rw [zAQ, zAQ] at cc2;have hstep := zMD h;have hszs := vZF (k := k) h
   have ed : desc (n + 1) lo hi = if ((lo.floor : Int) : Rat) = lo then ((lo.floor : Int) : Rat) else if ((lo.floor : Int) : Rat) + 1 ≤ hi then ((lo.floor : Int) : Rat) + 1
    else ((lo.floor : Int) : Rat) + 1 / desc n (1 / (hi - ((lo.floor : Int) : Rat))) (1 / (lo - ((lo.floor : Int) : Rat))) := rfl
   rw [ed];clear ed;generalize lo.floor = z at *
   generalize ((z : Int) : Rat) = F at *
   by_cases h1 : F = lo
   ·rw [if_pos h1]
    have e0 := sgn_sub0.2 h1;generalize vBS (F - lo) = S at *
    refine zAN vA6 hT zJA (by simp [vAZ]) ?_;refine sts ?_;refine zAA cf rfl ?_;refine sts ?_;refine zAA cw rfl ?_;refine sts ?_;refine zAA cc rfl ?_
    (repeat' (first|refine stp ?_|with_reducible(refine brr ?_ ?_<;>intro h)));all_goals try(conv=>whnf)
    all_goals first | exact absurd e0 (by assumption) | exact zAB rfl rfl
   ·rw [if_neg h1]
    have e0 : ¬ vBS (F - lo) = 0 := fun e => h1 (sgn_sub0.1 e)
    generalize vBS (F - lo) = S at *
    by_cases h2 : F + 1 ≤ hi
    ·rw [if_pos h2]
     have e2 := sgn_le.2 h2;generalize vBS (F + 1 - hi) = S2 at *
     refine zAN vA6 hT zJA (by simp [vAZ]) ?_;refine sts ?_;refine zAA cf rfl ?_;refine sts ?_;refine zAA cw rfl ?_;refine sts ?_;refine zAA cc rfl ?_
     (repeat' (first|refine stp ?_|with_reducible(refine brr ?_ ?_<;>intro h)));all_goals try(conv=>whnf)
     all_goals try exact absurd (by assumption) e0
     refine zAA co rfl ?_;refine sts ?_;refine zAA ca rfl ?_;refine sts ?_;refine zAA cc2 rfl ?_
     (repeat' (first|refine stp ?_|with_reducible(refine brr ?_ ?_<;>intro h)));all_goals try(conv=>whnf)
     all_goals first | (exfalso; omega) | exact zAB rfl rfl
    ·rw [if_neg h2]
     have e2 : ¬ vBS (F + 1 - hi) ≤ 0 := fun e => h2 (sgn_le.1 e)
     generalize vBS (F + 1 - hi) = S2 at *
     obtain ⟨hn, a1, b1, _, _⟩ := hstep h1 h2;obtain ⟨z1, z2⟩ := hszs h1 h2 hl hh;have i1 := vJY a1 z1;have i2 := vJY b1 z2;obtain ⟨y1, y2⟩ := vUO hn i1;have y3 := vJY y2 y1;have ih := zMR k hk hk1 n _ _ hn i1 i2;have m1 := zAL z1;have m2 := zAL z2;have m5 := zAL y1;have m6 := zAL y3;have ne1 : hi - F ≠ 0 := Rat.ne_of_gt a1;have ne2 : lo - F ≠ 0 := Rat.ne_of_gt b1;have b1' := vVK (cr hi) (cr F) (zAI _) (zAI _) (by omega) (by omega) (by omega) (by omega);have b2' := vVK (cr lo) (cr F) (zAI _) (zAI _) (by omega) (by omega) (by omega) (by omega);rw [zAQ, zAQ] at b1' b2';have d1 := vNM (cr 1) (cr (hi - F)) (zAI _) (zAI _) (by omega) (by omega) (by omega) (by omega) (by rw [zAQ]; exact ne1);have d2 := vNM (cr 1) (cr (lo - F)) (zAI _) (zAI _) (by omega) (by omega) (by omega) (by omega) (by rw [zAQ]; exact ne2);rw [zAQ, zAQ] at d1 d2;generalize desc n (1 / (hi - F)) (1 / (lo - F)) = Y at *
     have ne3 : Y ≠ 0 := Rat.ne_of_gt y2;have d3 := vNM (cr 1) (cr Y) (zAI _) (zAI _) (by omega) (by omega) (by omega) (by omega) (by rw [zAQ]; exact ne3);rw [zAQ, zAQ] at d3;have ca2 := zGP (cr F) (cr (1 / Y)) (zAI _) (zAI _) (by omega) (by omega) (by omega) (by omega);rw [zAQ, zAQ] at ca2;generalize hi - F = HF at *
     generalize lo - F = LF at *
     refine zAN vA6 hT zJA (by simp [vAZ]) ?_;refine sts ?_;refine zAA cf rfl ?_;refine sts ?_;refine zAA cw rfl ?_;refine sts ?_;refine zAA cc rfl ?_
     (repeat' (first|refine stp ?_|with_reducible(refine brr ?_ ?_<;>intro h)));all_goals try(conv=>whnf)
     all_goals try exact absurd (by assumption) e0
     refine zAA co rfl ?_;refine sts ?_;refine zAA ca rfl ?_;refine sts ?_;refine zAA cc2 rfl ?_
     (repeat' (first|refine stp ?_|with_reducible(refine brr ?_ ?_<;>intro h)));all_goals try(conv=>whnf)
     all_goals try (exfalso; omega)
     refine zAA co rfl ?_;refine sts ?_;refine zAA b1' rfl ?_;refine sts ?_;refine zAA d1 rfl ?_;refine sts ?_;refine zAA co rfl ?_;refine sts ?_;refine zAA b2' rfl ?_;refine sts ?_;refine zAA d2 rfl ?_;refine sts ?_;refine zAA co rfl ?_;refine sts ?_;refine zAA ih rfl ?_;refine sts ?_;refine zAA d3 rfl ?_;refine sts ?_;refine zAA ca2 rfl ?_;refine sts ?_;exact zAB rfl rfl
theorem zGA : FO 99 Tryz.f99 [.cell 4 35, .tmp 5] 35 := mkO Tryz.func99 Tryz.ntmps99 Tryz.results99
theorem vLG (lo hi : Rat) (k : Nat) (hk : k ≤ 100000000) (hk1 : 1 ≤ k) (hl : sz k lo) (hh : sz k hi) (hle : lo ≤ hi) : Fn 99 [vAZ (cr lo), vAZ (cr hi)] (.data (.tup [vAZ (cr (vE9 lo hi)), .int .i64 0])) := by
 have l1 := zAL hl;have l2 := zAL hh;have cc := zHC (cr lo) (cr hi) (zAI _) (zAI _) (by omega) (by omega) (by omega) (by omega);rw [zAQ, zAQ] at cc;have c1 := zDR (cr lo) (zAI _) (by omega);have c2 := zDR (cr hi) (zAI _) (by omega);rw [zAQ] at c1 c2;have n1 := vVM (cr lo) (zAI _) (by omega) (by omega);have n2 := vVM (cr hi) (zAI _) (by omega) (by omega);rw [zAQ] at n1 n2;have e0 := sgn_le.2 hle
 have s1 : vBS lo ≤ 0 ↔ lo ≤ 0 := by
  constructor
  ·intro h; exact Rat.not_lt.1 fun h2 => by have := sgnQ_pos.2 h2; omega
  ·intro h; exact Int.not_lt.1 fun h2 => absurd (sgnQ_pos.1 h2) (Rat.not_lt.2 h)
 have s2 : 0 ≤ vBS hi ↔ 0 ≤ hi := by
  constructor
  ·intro h; exact Rat.not_lt.1 fun h2 => by have := sgnQ_neg.2 h2; omega
  ·intro h; exact Int.not_lt.1 fun h2 => absurd (sgnQ_neg.1 h2) (Rat.not_lt.2 h)
 unfold vE9;generalize vBS (lo - hi) = S0 at *
 by_cases h0 : lo ≤ 0 ∧ 0 ≤ hi
 ·rw [if_pos h0, zC1]
  have t1 := s1.2 h0.1;have t2 := s2.2 h0.2;generalize vBS lo = S1 at *
  generalize vBS hi = S2 at *
  refine zAN vA6 hT zGA (by simp [vAZ]) ?_;refine sts ?_;refine zAA cc rfl ?_
  (repeat' (first|refine stp ?_|with_reducible(refine brr ?_ ?_<;>intro h)));all_goals try(conv=>whnf)
  all_goals try (exfalso; omega)
  refine zAA c1 rfl ?_
  (repeat' (first|refine stp ?_|with_reducible(refine brr ?_ ?_<;>intro h)));all_goals try(conv=>whnf)
  all_goals try (exfalso; omega)
  refine zAA c2 rfl ?_
  (repeat' (first|refine stp ?_|with_reducible(refine brr ?_ ?_<;>intro h)));all_goals try(conv=>whnf)
  all_goals try (exfalso; omega)
  exact zAB rfl rfl
 ·rw [if_neg h0]
  by_cases hn : hi < 0
  ·rw [if_pos hn]
   have hd : DescS (hi.den + lo.den) (-hi) (-lo) := ⟨by grind, by grind, by simp⟩;have cd := zMR k hk hk1 _ _ _ hd (zJY hh) (zJY hl);have l3 := zAL (vUO hd (zJY hh)).1;generalize desc (hi.den + lo.den) (-hi) (-lo) = Y at *
   have n3 := vVM (cr Y) (zAI _) (by omega) (by omega);rw [zAQ] at n3;have t1 := s1.2 (show lo ≤ 0 by grind);have t2 := sgnQ_neg.2 hn;generalize vBS lo = S1 at *
   generalize vBS hi = S2 at *
   refine zAN vA6 hT zGA (by simp [vAZ]) ?_;refine sts ?_;refine zAA cc rfl ?_
   (repeat' (first|refine stp ?_|with_reducible(refine brr ?_ ?_<;>intro h)));all_goals try(conv=>whnf)
   all_goals try (exfalso; omega)
   refine zAA c1 rfl ?_
   (repeat' (first|refine stp ?_|with_reducible(refine brr ?_ ?_<;>intro h)));all_goals try(conv=>whnf)
   all_goals try (exfalso; omega)
   refine zAA c2 rfl ?_
   (repeat' (first|refine stp ?_|with_reducible(refine brr ?_ ?_<;>intro h)));all_goals try(conv=>whnf)
   all_goals try (exfalso; omega)
   refine zAA c2 rfl ?_
   (repeat' (first|refine stp ?_|with_reducible(refine brr ?_ ?_<;>intro h)));all_goals try(conv=>whnf)
   all_goals try (exfalso; omega)
   refine zAA n2 rfl ?_;refine sts ?_;refine zAA n1 rfl ?_;refine sts ?_;refine zAA cd rfl ?_;refine sts ?_;refine zAA n3 rfl ?_;refine sts ?_;exact zAB rfl rfl
  ·rw [if_neg hn]
   have hp : 0 < lo := by grind
   have hd : DescS (lo.den + hi.den) lo hi := ⟨hp, hle, Nat.le_refl _⟩;have cd := zMR k hk hk1 _ _ _ hd hl hh;have t1 := sgnQ_pos.2 hp;have t2 := s2.2 (show 0 ≤ hi by grind);generalize vBS lo = S1 at *
   generalize vBS hi = S2 at *
   refine zAN vA6 hT zGA (by simp [vAZ]) ?_;refine sts ?_;refine zAA cc rfl ?_
   (repeat' (first|refine stp ?_|with_reducible(refine brr ?_ ?_<;>intro h)));all_goals try(conv=>whnf)
   all_goals try (exfalso; omega)
   refine zAA c1 rfl ?_
   (repeat' (first|refine stp ?_|with_reducible(refine brr ?_ ?_<;>intro h)));all_goals try(conv=>whnf)
   all_goals try (exfalso; omega)
   refine zAA c2 rfl ?_
   (repeat' (first|refine stp ?_|with_reducible(refine brr ?_ ?_<;>intro h)));all_goals try(conv=>whnf)
   all_goals try (exfalso; omega)
   refine zAA cd rfl ?_;refine sts ?_;exact zAB rfl rfl
theorem uFN (g : GraL) (x : List Rat) (k K : Nat) (hg : vCE k g) (hk : k ≤ 950000000) (hk1 : 1 ≤ k) (hK1 : 1 ≤ K) (hv : VaG g) (hx : ∀ q ∈ x, sz 900000000 q) (hl : (x.length : Int) = g.ins) (hK : ∀ j, j < g.units.length → (∀ q ∈ vBC g.us x j, sz K q) ∧ sz K (vCA g.us x)[j]!) (hb : ∀ f ∈ g.units, k + f.terms.length * (k + K + 1) + k + K ≤ 949999990) : Fn 138 [vA8 g, .own 0 0 x.length] (.wrt (vCN x) (.tup [.imm ((vBC g.us x g.us.length).map vBF), .imm ((vCA g.us x).map vBF), .int .i64 0]) (vCN x)) := by
 have cv := zIS g ⟨⟨hg.1.1, fun f hf => zBZ hk (hg.1.2 f hf)⟩, ⟨hg.2.1, fun f hf => zBZ hk (hg.2.2 f hf)⟩⟩;rw [dB_true.2 hv] at cv;have l2 := hg.1.1;have lu := zHU g;have hn := hv.2.1;have hx2 : x.length ≤ 256 := by have := hv.1.2; omega
 refine zCF vA6 hT vSZ (by simp [vA8]) ?_;refine sts ?_;refine zAA cv rfl ?_
 (repeat' (first|refine stp ?_|with_reducible(refine brr ?_ ?_<;>intro h)));all_goals try(conv=>whnf)
 ·exfalso; omega
 refine zBP hT [(.sl 4, 3, true), (.sl 5, 3, true)] (fun (i : Nat) => [(2, .ptr 1 0 0), (4, .own 2 0 i), (5, .own 3 0 0), (23, .own 0 0 x.length), (24, .int .i64 x.length), (25, .int .i64 i)]) (fun i => [(0, vCN x), (1, ⟨[vA8 g], 3, true⟩), (2, ⟨(x.take i).map vBF, 3, true⟩), (3, ⟨[], 3, true⟩)]) [] 4
  (fun i => i ≤ x.length) (fun i => x.length - i) 0 (Nat.zero_le _) (by decide) (by simp) ⟨rfl, rfl, trivial⟩ ?_ ?_
 ·exact ⟨[1, _, _], [], [], [], ttt, ⟨(apy rfl), zAF (by decide) rfl rfl, zAF (by decide) rfl rfl, zAF (by decide) rfl rfl, zAC rfl rfl, zAC rfl rfl, trivial⟩,
   ⟨zAD (by decide) rfl rfl (zAK x) rfl, bbx, zAD (by decide) rfl rfl (zAK []) rfl, zAD (by decide) rfl rfl (zAK []) rfl, trivial⟩, by simp [ren]⟩
 intro i i1;have hlen : (x.take i).length = i := by rw [List.length_take]; omega
 by_cases hi : i < x.length
 ·have q1 := zAL (hx _ (get_mem hi))
  have cc := zCP (cr x[i]!) (zAI _) (by omega) (by omega);rw [zAQ] at cc
  (repeat' (first|refine stp ?_|with_reducible(refine brr ?_ ?_<;>intro h)));all_goals try(conv=>whnf)
  all_goals try (exfalso; omega)
  refine zAU i (Nat.zero_add _) hi ?_;refine sts ?_;refine zAA cc rfl ?_;refine sts ?_
  exact ⟨i + 1, ⟨by omega, by show x.length - (i + 1) < x.length - i; omega⟩, [1, _, 3], [], [], [], ttt, ⟨(apy rfl), zAF (by decide) rfl rfl, zAF (by decide) rfl rfl, zAF (by decide) rfl rfl, zAC rfl rfl, zAC rfl rfl, trivial⟩,
   ⟨zAD (by decide) rfl rfl (zAK x) rfl, bbx, zAD (by decide) rfl (vWH hi rfl) (zAK _) rfl, zAD (by decide) rfl rfl (zAK []) rfl, trivial⟩, by simp [ren]⟩
 ·have e0 : x.take i = vBC g.us x 0 := by rw [zEB, List.take_of_length_le (by omega)]
  (repeat' (first|refine stp ?_|with_reducible(refine brr ?_ ?_<;>intro h)));all_goals try(conv=>whnf)
  all_goals try (exfalso; omega)
  refine zAG hT (fun (j : Nat) => [(2, .ptr 1 0 0), (4, .own 2 0 (x.length + j)), (5, .own 3 0 j), (36, .imm (g.units.map vBD)), (37, .int .i64 g.units.length), (38, .int .i64 j)]) (fun j => [(0, vCN x), (1, ⟨[vA8 g], 3, true⟩), (2, ⟨(vBC g.us x j).map vBF, 3, true⟩), (3, ⟨((vCA g.us x).take j).map vBF, 3, true⟩)]) [] 4
   (fun j => j ≤ g.units.length) (fun j => g.units.length - j) 0 (Nat.zero_le _) (by decide) (by simp) ?_ ?_
  ·exact ⟨[1, 2, 3], [], [], [], ttt, ⟨apx, zAF (by decide) rfl (by omega), zAF (by decide) rfl rfl, zAE rfl rfl, zAC rfl (by simp), zAC rfl rfl, trivial⟩,
    ⟨zAD (by decide) rfl rfl (zAK x) rfl, bbx, zAD (by decide) rfl (congrArg (List.map vBF) e0) (zAK _) rfl, zAD (by decide) rfl rfl (zAK []) rfl, trivial⟩, by simp [ren]⟩
  intro j j1;have hvl : (vBC g.us x j).length = x.length + j := by rw [zC2 j (by omega)]
  have hp2 := zCM g.us x;have hpl : ((vCA g.us x).take j).length = j := by rw [List.length_take, zCM]; omega
  by_cases hj : j < g.units.length
  ·have hvu := hv.2.2.2.1 j hj
   have hmem := get_mem hj;have hou := hg.1.2 _ hmem;have hb1 := hb _ hmem;obtain ⟨hs1, hs2⟩ := hK j hj;have hvr : ∀ p ∈ g.units[j]!.Q.ts, 0 ≤ p.1 ∧ p.1 < ((vBC g.us x j).length : Nat) := fun p hp => by have := (zCX hvu).2 p hp; omega
   have ce := zK1 g.units[j]!.Q (vBC g.us x j) k K (zB0 hou hk1) hs1 hvr (by rw [zF4]; exact hb1) (by rw [zF4]; exact hou.2.2) (by omega);rw [zGM hvu, hvl] at ce;have hp : (vCA g.us x)[j]! = evQ g.units[j]!.Q (vBC g.us x j) := by rw [zGU (by omega), zEU hj]
   rw [hp] at hs2;have l3 := zAL hs2;have cx := vVN ⟨false, [], []⟩ (cr (evQ g.units[j]!.Q (vBC g.us x j))) K vF0 (zEI hs2) (by omega);rw [zAQ, show qv ⟨false, [], []⟩ = 0 by rfl] at cx
   have hvs : (vBC g.us x j).map vBF ++ [vAZ (cr (vC5 0 (evQ g.units[j]!.Q (vBC g.us x j))))] = (vBC g.us x (j + 1)).map vBF := by
    rw [zEC (by omega), List.map_append, zEU hj]; rfl
   have hps := vWH (l := vCA g.us x) (j := j) (by rw [zCM]; omega) hp
   (repeat' (first|refine stp ?_|with_reducible(refine brr ?_ ?_<;>intro h)));all_goals try(conv=>whnf)
   ·refine zB5 (r := 2) ce rfl rfl rfl rfl (zA7 (zAK _)) ?_
    refine sts ?_;refine zAA cx rfl ?_;refine sts ?_
    exact ⟨j + 1, ⟨by omega, by show g.units.length - (j + 1) < g.units.length - j; omega⟩, [1, _, _], [], [], [], ttt, ⟨(apy rfl), zAF (by decide) rfl rfl, zAF (by decide) rfl rfl, zAE rfl rfl, zAC rfl rfl, zAC rfl rfl, trivial⟩,
     ⟨zAD (by decide) rfl rfl (zAK x) rfl, bbx, zAD (by decide) rfl hvs (zAK _) rfl, zAD (by decide) rfl hps (zAK _) rfl, trivial⟩, by simp [ren]⟩
   all_goals (exfalso; omega)
  ·have ej : j = g.us.length := by omega
   have hp2 := zCM g.us x;have et : (vCA g.us x).take j = vCA g.us x := List.take_of_length_le (by rw [zCM]; omega);rw [et];refine sus ?_;refine zAX ?_
   (repeat' (first|refine stu ?_|with_reducible(refine brr ?_ ?_<;>intro h)));all_goals try(conv=>whnf)
   all_goals try (exfalso; omega)
   refine vB7 [] [(4, .imm ((vBC g.us x j).map vBF)), (5, .imm ((vCA g.us x).map vBF))] [(0, vCN x)] [] 1 (by decide) (by simp) trivial
    ⟨[], [2, 3], [(4, .imm ((vBC g.us x j).map vBF)), (5, .imm ((vCA g.us x).map vBF))], [], ⟨⟨⟨_, rfl⟩, ⟨_, rfl⟩, trivial⟩, ⟨⟨6, _, zAH rfl rfl (by omega) fun q => zD4 (cr q), rfl⟩, ⟨6, _, zAH rfl rfl (by omega) fun q => zD4 (cr q), rfl⟩, trivial⟩, trivial⟩, ⟨zAE rfl rfl, zAE rfl rfl, trivial⟩, ⟨zAD (by decide) rfl rfl (zAK x) rfl, trivial⟩, by simp [ren]⟩ ?_
   refine sts ?_;exact zBU (by rw [ej]) rfl rfl rfl rfl (zIX x)
theorem uFO (g : GraL) (x : List Rat) (k K : Nat) (hg : vCE k g) (hk : k ≤ 950000000) (hk1 : 1 ≤ k) (hK1 : 1 ≤ K) (hv : VaG g) (hx : ∀ q ∈ x, sz 900000000 q) (hl : (x.length : Int) = g.ins) (hK : ∀ j, j < g.units.length → (∀ q ∈ vBC g.us x j, sz K q) ∧ sz K (vCA g.us x)[j]!) (hb : ∀ f ∈ g.units, k + f.terms.length * (k + K + 1) + k + K ≤ 949999990) : Fn 183 [vA8 g, .own 0 0 x.length] (.wrt (vCN x) (.tup [.imm ((vCA g.us x).map vBF), .int .i64 0]) (vCN x)) := by
 have cc := uFN g x k K hg hk hk1 hK1 hv hx hl hK hb;refine zCF vA6 hT uD0 (by simp [vA8]) ?_;refine sts ?_;refine zB5 (r := 0) cc rfl rfl rfl rfl (zA7 (zAK _)) ?_;refine sts ?_;exact zBU rfl rfl rfl rfl rfl (zIX x)
end Go.PI.Tryz
