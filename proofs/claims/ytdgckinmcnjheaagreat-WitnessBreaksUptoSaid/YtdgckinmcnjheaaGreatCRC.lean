/-
  The reference: affine forms: Scale, Add, Sub, Make.
-/
import Derived.Test.YtdgckinmcnjheaaGreatCRB
import Derived.Test.YtdgckinmcnjheaaGreatCLB
set_option linter.unusedVariables false
set_option linter.unusedSimpArgs false
set_option linter.unnecessarySimpa false
namespace Go.PI.Tryz
open Go.Proofs Go.PI
theorem zLU : FO 24 Tryz.f24 [.cell 4 35, .tmp 5] 45 := mkO Tryz.func24 Tryz.ntmps24 Tryz.results24
theorem vZ0 (f : QF) (x : List Rat) (k kx : Nat) (hf : szF k f) (hx : ∀ q ∈ x, sz kx q) (hv : ∀ p ∈ f.ts, 0 ≤ p.1 ∧ p.1 < x.length) (hk : k + f.ts.length * (k + kx + 1) + k + kx ≤ 949999990) (hl : f.ts.length ≤ 1048576) (hxl : x.length ≤ 1048576) : Fn 24 [vA5 f, .imm (x.map vBF)] (.data (.tup [vAZ (cr (evQ f x)), .int .i64 0])) := by
 refine zAN vA6 hT zLU (by simp [vA5]) ?_;refine sts ?_
 refine zAG hT (fun ((i, y) : Nat × Rat) => [(1, .imm (x.map vBF)), (2, .ptr 2 0 0), (4, .ptr 0 0 0), (6, .ptr 1 0 0), (7, .int .i64 i)])
  (fun (_, y) => [(0, ⟨[.agg [.bool false, .nilsl, .nilsl]], 3, true⟩), (1, ⟨[vAZ (cr y)], 3, true⟩), (2, ⟨[vA5 f], 4, true⟩)]) [] 3
  (fun (i, y) => i ≤ f.ts.length ∧ y = ev1 x (f.ts.take i) f.c ∧ sz (k + i * (k + kx + 1)) y) (fun (i, _) => f.ts.length - i) (0, f.c) ⟨Nat.zero_le _, rfl, by simpa using hf.1⟩ (by decide) (by simp) ?_ ?_
 ·exact ⟨[_, _, _], [], [], [], ttt, ⟨zAE rfl rfl, (apy rfl), (apy rfl), (apy rfl), zAC rfl rfl, trivial⟩,
   ⟨bbx, bbx, bbx, trivial⟩, by simp [ren]⟩
 intro ⟨i, y⟩ ⟨i1, i2, i3⟩;by_cases hi : i < f.ts.length
 ·have hmem : f.ts[i]! ∈ f.ts := by rw [getElem!_pos f.ts i hi]; exact List.getElem_mem hi
  have hvi := hv _ hmem;have hp := hf.2 _ hmem;have hj : f.ts[i]!.1.toNat < x.length := by omega
  have hxm : x[f.ts[i]!.1.toNat]! ∈ x := by rw [getElem!_pos x _ hj]; exact List.getElem_mem hj
  have hxi := hx _ hxm;have hm := zB6 hp hxi;have hmul : (i + 1) * (k + kx + 1) ≤ f.ts.length * (k + kx + 1) := Nat.mul_le_mul_right _ (by omega);rw [Nat.add_mul] at hmul;have l1 := zAL hp;have l2 := zAL hxi;have l3 := zAL hm;have l4 := zAL i3;have cm := zJP (cr f.ts[i]!.2) (cr x[f.ts[i]!.1.toNat]!) (zAI _) (zAI _) (by omega) (by omega) (by omega) (by omega);rw [zAQ, zAQ] at cm;have ca := zD5 (cr y) (cr (f.ts[i]!.2 * x[f.ts[i]!.1.toNat]!)) (zAI _) (zAI _) (by omega) (by omega) (by omega) (by omega);rw [zAQ, zAQ] at ca;have hsz := zBE (show k + i * (k + kx + 1) + (k + kx) + 1 ≤ k + (i + 1) * (k + kx + 1) by rw [Nat.add_mul]; omega) (zBY i3 hm);have hy : ev1 x (f.ts.take (i + 1)) f.c = y + f.ts[i]!.2 * x[f.ts[i]!.1.toNat]! := by rw [zGZ x f.ts f.c i hi, i2]
  (repeat' (first|refine stp ?_|with_reducible(refine brr ?_ ?_<;>intro h)));all_goals try(conv=>whnf)
  ·exact absurd h (show ¬ f.ts[i]!.1 < 0 by omega)
  ·exact absurd h (show ¬ f.ts[i]!.1 ≥ (x.length : Int) by omega)
  ·refine zA4 (j := f.ts[i]!.1.toNat) (show f.ts[i]!.1 = _ by omega) hj ?_
   refine sts ?_;refine zAA cm rfl ?_;refine sts ?_;refine zAA ca rfl ?_;refine sts ?_
   exact ⟨(i + 1, y + f.ts[i]!.2 * x[f.ts[i]!.1.toNat]!), ⟨⟨by omega, hy.symm, hsz⟩, by show f.ts.length - (i + 1) < f.ts.length - i; omega⟩, [0, 1, 2], [], [], [], ttt, ⟨zAE rfl rfl, apx, apx, apx, zAC rfl (by omega), trivial⟩,
    ⟨bbx, bbx, bbx, trivial⟩, by simp [ren]⟩
  ·exact absurd (show (i : Int) < f.ts.length by omega) h
 ·have hmul : i * (k + kx + 1) ≤ f.ts.length * (k + kx + 1) := Nat.mul_le_mul_right _ (by omega)
  have e : y = evQ f x := by rw [i2, List.take_of_length_le (by omega)]; rfl
  (repeat' (first|refine stp ?_|with_reducible(refine brr ?_ ?_<;>intro h)));all_goals try(conv=>whnf)
  all_goals try (exfalso; omega)
  subst e;exact zAB rfl rfl
theorem vFT (O : List QT) : vEP (vHX O) (.own 0 0 O.length) := Or.inl ⟨fun x hx => by simp [vBJ] at hx; left; simp [hx, vHX], by simp [vBJ, vHX]⟩
theorem zLT : FO 126 Tryz.f126 [.tmp 4] 14 := mkO Tryz.func126 Tryz.ntmps126 Tryz.results126
theorem zBJ (O : List QT) (v : Int) (q : Rat) (k : Nat) (hq : sz k q) (hk : k ≤ 2147483596) (hO : O.length < 4194304) : Fn 126 [.own 0 0 O.length, vDA (v, q)] (.own (some (vHX O)) (.own 0 0 (O ++ nzq v q).length) (vHX (O ++ nzq v q))) := by
 have hl := zAL hq;have cs := zG2 (cr q) (zAI q) (by omega);rw [zAQ] at cs;refine vIQ vA6 hT zLT (by simp) ?_;refine sts ?_;refine zAA cs rfl ?_
 (repeat' (first|refine stp ?_|with_reducible(refine brr ?_ ?_<;>intro h)));all_goals try(conv=>whnf)
 ·rw [show q = 0 from sgnQ_zero.1 h, zKN, List.append_nil]
  exact zFU (r := 0) rfl rfl rfl rfl (fun e he => (zA3 _ e he).1) (vFT _)
 ·rw [zNJ fun e => h (sgnQ_zero.2 e)]
  refine zBL ⟨rfl, by simp [vHX], by simp; omega⟩ ?_;refine sts ?_;refine zFU (r := 10) ?_ rfl ?_ rfl (fun e he => (zA3 _ e he).1) (vFT _)
  ·simp [rk, rk1]
  ·simp [vHX, vDA, vBW, tQ]
theorem zBW (v : Int) (q : Rat) (k : Nat) (hq : sz k q) (hk : k ≤ 2147483596) : Fn 126 [.nilsl, vDA (v, q)] (.own none (.own 0 0 (nzq v q).length) (vHX (nzq v q))) := by
 have hl := zAL hq;have cs := zG2 (cr q) (zAI q) (by omega);rw [zAQ] at cs;refine zGK vA6 hT zLT (by simp) ?_;refine sts ?_;refine zAA cs rfl ?_
 (repeat' (first|refine stp ?_|with_reducible(refine brr ?_ ?_<;>intro h)));all_goals try(conv=>whnf)
 ·rw [show q = 0 from sgnQ_zero.1 h, zKN]
  exact vMG rfl rfl (vFT [])
 ·rw [zNJ fun e => h (sgnQ_zero.2 e)]
  refine zFU (r := 10) ?_ rfl ?_ rfl (fun e he => (zA3 _ e he).1) (vFT _)
  ·simp [rk, rk1]
  ·simp [vDA, vBW, tQ]
def grS : Bool → Nat → PV
 | true, n => .own 0 0 n
 | false, _ => .nilsl
theorem vXZ : FO 66 Tryz.f66 [.cell 6 37] 61 := mkO Tryz.func66 Tryz.ntmps66 Tryz.results66
set_option maxHeartbeats 1000000 in
theorem vVE (f : QF) (v : Int) (c : Rat) (kf kc : Nat) (hf : szF kf f) (hc : sz kc c) (hk : kf ≤ 949999990 ∧ kc ≤ 949999990) (hl : f.ts.length ≤ 2097150) : Fn 66 [vA5 f, .int .i64 v, vAZ (cr c)] (.data (vA5 (uG6 f v c))) := by
 obtain ⟨M, hM⟩ : ∃ M, vBP v c f.ts false = M := ⟨_, rfl⟩;unfold uG6;rw [hM];have lc := zAL hc;have cc := zFJ (cr c) (zAI _) (by omega) (by omega);rw [zAQ] at cc;refine zAN vA6 hT vXZ (by simp [vA5]) ?_;refine sts ?_
 refine zAG hT (fun ((i, O, s, d) : Nat × List QT × Bool × Bool) => [(1, .int .i64 v), (3, .ptr 1 0 0), (5, .ptr 2 0 0), (6, .ptr 3 0 0), (7, grS s O.length), (8, .bool d), (9, .int .i64 i)])
  (fun (i, O, s, d) => (1, ⟨[vA5 f], 4, true⟩) :: (2, ⟨[vAZ (cr c)], 3, true⟩) :: (3, ⟨[vP9], 4, true⟩) :: grH s O) [] 4
  (fun (i, O, s, d) => (s = false → O = []) ∧ O ++ vBP v c (f.ts.drop i) d = M ∧ i ≤ f.ts.length ∧ O.length ≤ 2 * i)
  (fun (i, _) => f.ts.length - i) (0, [], false, false) ⟨fun _ => rfl, hM, Nat.zero_le _, by simp⟩ (by decide) (by simp) ?_ ?_
 ·exact ⟨[0, _, _, _], [], [], [], ttt, ⟨zAC rfl rfl, (apy rfl), (apy rfl), (apy rfl), vG8 rfl, zBF rfl rfl, zAC rfl rfl, trivial⟩,
   ⟨bbx, bbx, bbx, trivial⟩, by simp [ren, grH]⟩
 intro ⟨i, O, s, d⟩ ⟨i1, i2, i3, i4⟩;cases s <;> cases d
 ·by_cases hi : i < f.ts.length
  ·have hdrop : f.ts.drop i = f.ts[i]! :: f.ts.drop (i + 1) := by rw [List.drop_eq_getElem_cons hi, getElem!_pos f.ts i hi]
   have hp := hf.2 f.ts[i]! (by rw [getElem!_pos f.ts i hi]; exact List.getElem_mem hi);have hpc := zBY hp hc;have lp := zAL hp;have ca := zD5 (cr f.ts[i]!.2) (cr c) (zAI _) (zAI _) (by omega) (by omega) (by omega) (by omega);rw [zAQ, zAQ] at ca
   (repeat' (first|refine stp ?_|with_reducible(refine brr ?_ ?_<;>intro h)));all_goals try(conv=>whnf)
   ·have hv : f.ts[i]!.1 = v := h
    refine zAA ca rfl ?_;refine sts ?_;refine zBI (zBW f.ts[i]!.1 (f.ts[i]!.2 + c) _ hpc (by omega)) rfl ?_;refine sts ?_;have nl := zBM f.ts[i]!.1 (f.ts[i]!.2 + c);exact ⟨(i + 1, nzq f.ts[i]!.1 (f.ts[i]!.2 + c), true, true), ⟨⟨by simp, by rw [hdrop] at i2; simp only [vBP, hv, decide_true, Bool.or_true, Bool.true_or, Bool.true_eq_false, false_and, if_false, if_true, List.nil_append] at i2; rw [hv]; rw [i1 rfl, List.nil_append] at i2; exact i2, by omega, by (try simp only [List.length_append]); omega⟩, by show f.ts.length - (i + 1) < f.ts.length - i; omega⟩, [_, _, _, _], [], [], [], ttt, ⟨zAC rfl rfl, (apy rfl), (apy rfl), (apy rfl), zAF (by decide) rfl rfl, zBF rfl rfl, zAC rfl (by omega), trivial⟩, ⟨bbx, bbx, bbx, zAD (by decide) rfl rfl (zA3 _) rfl, trivial⟩, by simp [ren, grH]⟩
   ·have hv : v < f.ts[i]!.1 := h
    have hne : ¬ f.ts[i]!.1 = v := by omega
    refine zAA cc rfl ?_;refine sts ?_;refine zBI (zBW v c _ hc (by omega)) rfl ?_;refine sts ?_;have nl1 := zBM v c;have nl2 := zBM f.ts[i]!.1 f.ts[i]!.2;refine zBQ (r := 33) (zBJ (nzq v c) f.ts[i]!.1 f.ts[i]!.2 _ hp (by omega) (by (try simp only [List.length_append]); omega)) rfl rfl rfl rfl (zA7 (zA3 _)) ?_;refine sts ?_;exact ⟨(i + 1, nzq v c ++ nzq f.ts[i]!.1 f.ts[i]!.2, true, true), ⟨⟨by simp, by rw [hdrop] at i2; simp only [vBP, hne, hv, decide_false, decide_true, Bool.or_false, Bool.or_true, and_self, if_false, if_true] at i2; rw [i1 rfl, List.nil_append] at i2; exact i2, by omega, by (try simp only [List.length_append]); omega⟩, by show f.ts.length - (i + 1) < f.ts.length - i; omega⟩, [_, _, _, _], [], [], [], ttt, ⟨zAC rfl rfl, (apy rfl), (apy rfl), (apy rfl), zAF (by decide) rfl rfl, zBF rfl rfl, zAC rfl (by omega), trivial⟩, ⟨bbx, bbx, bbx, zAD (by decide) rfl rfl (zA3 _) rfl, trivial⟩, by simp [ren, grH]⟩
   ·have hne : ¬ f.ts[i]!.1 = v := ‹¬ (tQ f.ts[i]!).var = v›
    have hle : ¬ v < f.ts[i]!.1 := h;refine zBI (zBW f.ts[i]!.1 f.ts[i]!.2 _ hp (by omega)) rfl ?_;refine sts ?_;have nl := zBM f.ts[i]!.1 f.ts[i]!.2;exact ⟨(i + 1, nzq f.ts[i]!.1 f.ts[i]!.2, true, false), ⟨⟨by simp, by rw [hdrop] at i2; simp only [vBP, hne, hle, decide_false, Bool.or_false, Bool.or_self, and_false, if_false, List.nil_append] at i2; rw [i1 rfl, List.nil_append] at i2; exact i2, by omega, by (try simp only [List.length_append]); omega⟩, by show f.ts.length - (i + 1) < f.ts.length - i; omega⟩, [_, _, _, _], [], [], [], ttt, ⟨zAC rfl rfl, (apy rfl), (apy rfl), (apy rfl), zAF (by decide) rfl rfl, zBF rfl rfl, zAC rfl (by omega), trivial⟩, ⟨bbx, bbx, bbx, zAD (by decide) rfl rfl (zA3 _) rfl, trivial⟩, by simp [ren, grH]⟩
   all_goals (exfalso; omega)
  ·(repeat' (first|refine stp ?_|with_reducible(refine brr ?_ ?_<;>intro h)));all_goals try(conv=>whnf)
   all_goals try (exfalso; omega)
   have hN : vBP v c (f.ts.drop i) false = nzq v c := by rw [List.drop_of_length_le (by omega)]; rfl
   rw [hN] at i2;refine zAA cc rfl ?_;refine sts ?_;refine zBI (zBW v c _ hc (by omega)) rfl ?_;refine sts ?_;rw [i1 rfl, List.nil_append] at i2;subst i2;exact zAB (zC7 (zAP (zAH rfl rfl rfl (fun x => zFX x)) rfl)) rfl
 ·by_cases hi : i < f.ts.length
  ·have hdrop : f.ts.drop i = f.ts[i]! :: f.ts.drop (i + 1) := by rw [List.drop_eq_getElem_cons hi, getElem!_pos f.ts i hi]
   have hp := hf.2 f.ts[i]! (by rw [getElem!_pos f.ts i hi]; exact List.getElem_mem hi);have hpc := zBY hp hc;have lp := zAL hp;have ca := zD5 (cr f.ts[i]!.2) (cr c) (zAI _) (zAI _) (by omega) (by omega) (by omega) (by omega);rw [zAQ, zAQ] at ca
   (repeat' (first|refine stp ?_|with_reducible(refine brr ?_ ?_<;>intro h)));all_goals try(conv=>whnf)
   ·have hv : f.ts[i]!.1 = v := h
    refine zAA ca rfl ?_;refine sts ?_;refine zBI (zBW f.ts[i]!.1 (f.ts[i]!.2 + c) _ hpc (by omega)) rfl ?_;refine sts ?_;have nl := zBM f.ts[i]!.1 (f.ts[i]!.2 + c);exact ⟨(i + 1, nzq f.ts[i]!.1 (f.ts[i]!.2 + c), true, true), ⟨⟨by simp, by rw [hdrop] at i2; simp only [vBP, hv, decide_true, Bool.or_true, Bool.true_or, Bool.true_eq_false, false_and, if_false, if_true, List.nil_append] at i2; rw [hv]; rw [i1 rfl, List.nil_append] at i2; exact i2, by omega, by (try simp only [List.length_append]); omega⟩, by show f.ts.length - (i + 1) < f.ts.length - i; omega⟩, [_, _, _, _], [], [], [], ttt, ⟨zAC rfl rfl, (apy rfl), (apy rfl), (apy rfl), zAF (by decide) rfl rfl, zBF rfl rfl, zAC rfl (by omega), trivial⟩, ⟨bbx, bbx, bbx, zAD (by decide) rfl rfl (zA3 _) rfl, trivial⟩, by simp [ren, grH]⟩
   ·have hne : ¬ f.ts[i]!.1 = v := ‹¬ (tQ f.ts[i]!).var = v›
    refine zBI (zBW f.ts[i]!.1 f.ts[i]!.2 _ hp (by omega)) rfl ?_;refine sts ?_;have nl := zBM f.ts[i]!.1 f.ts[i]!.2;exact ⟨(i + 1, nzq f.ts[i]!.1 f.ts[i]!.2, true, true), ⟨⟨by simp, by rw [hdrop] at i2; simp only [vBP, hne, decide_false, Bool.true_or, Bool.true_eq_false, false_and, if_false, List.nil_append] at i2; rw [i1 rfl, List.nil_append] at i2; exact i2, by omega, by (try simp only [List.length_append]); omega⟩, by show f.ts.length - (i + 1) < f.ts.length - i; omega⟩, [_, _, _, _], [], [], [], ttt, ⟨zAC rfl rfl, (apy rfl), (apy rfl), (apy rfl), zAF (by decide) rfl rfl, zBF rfl rfl, zAC rfl (by omega), trivial⟩, ⟨bbx, bbx, bbx, zAD (by decide) rfl rfl (zA3 _) rfl, trivial⟩, by simp [ren, grH]⟩
   all_goals (exfalso; omega)
  ·(repeat' (first|refine stp ?_|with_reducible(refine brr ?_ ?_<;>intro h)));all_goals try(conv=>whnf)
   all_goals try (exfalso; omega)
   have hN : vBP v c (f.ts.drop i) true = [] := by rw [List.drop_of_length_le (by omega)]; rfl
   rw [hN] at i2;rw [List.append_nil] at i2;subst i2;rw [i1 rfl];exact zAB rfl rfl
 ·by_cases hi : i < f.ts.length
  ·have hdrop : f.ts.drop i = f.ts[i]! :: f.ts.drop (i + 1) := by rw [List.drop_eq_getElem_cons hi, getElem!_pos f.ts i hi]
   have hp := hf.2 f.ts[i]! (by rw [getElem!_pos f.ts i hi]; exact List.getElem_mem hi);have hpc := zBY hp hc;have lp := zAL hp;have ca := zD5 (cr f.ts[i]!.2) (cr c) (zAI _) (zAI _) (by omega) (by omega) (by omega) (by omega);rw [zAQ, zAQ] at ca
   (repeat' (first|refine stp ?_|with_reducible(refine brr ?_ ?_<;>intro h)));all_goals try(conv=>whnf)
   ·have hv : f.ts[i]!.1 = v := h
    refine zAA ca rfl ?_;refine sts ?_;refine zBQ (r := 0) (zBJ O f.ts[i]!.1 (f.ts[i]!.2 + c) _ hpc (by omega) (by (try simp only [List.length_append]); omega)) rfl rfl rfl rfl (zA7 (zA3 _)) ?_;refine sts ?_;have nl := zBM f.ts[i]!.1 (f.ts[i]!.2 + c);exact ⟨(i + 1, O ++ nzq f.ts[i]!.1 (f.ts[i]!.2 + c), true, true), ⟨⟨by simp, by rw [hdrop] at i2; simp only [vBP, hv, decide_true, Bool.or_true, Bool.true_or, Bool.true_eq_false, false_and, if_false, if_true, List.nil_append] at i2; rw [hv]; rw [List.append_assoc]; exact i2, by omega, by (try simp only [List.length_append]); omega⟩, by show f.ts.length - (i + 1) < f.ts.length - i; omega⟩, [_, _, _, _], [], [], [], ttt, ⟨zAC rfl rfl, (apy rfl), (apy rfl), (apy rfl), zAF (by decide) rfl rfl, zBF rfl rfl, zAC rfl (by omega), trivial⟩, ⟨bbx, bbx, bbx, zAD (by decide) rfl rfl (zA3 _) rfl, trivial⟩, by simp [ren, grH]⟩
   ·have hv : v < f.ts[i]!.1 := h
    have hne : ¬ f.ts[i]!.1 = v := by omega
    refine zAA cc rfl ?_;refine sts ?_;refine zBQ (r := 0) (zBJ O v c _ hc (by omega) (by (try simp only [List.length_append]); omega)) rfl rfl rfl rfl (zA7 (zA3 _)) ?_;refine sts ?_;have nl1 := zBM v c;have nl2 := zBM f.ts[i]!.1 f.ts[i]!.2;refine zBQ (r := 33) (zBJ (O ++ nzq v c) f.ts[i]!.1 f.ts[i]!.2 _ hp (by omega) (by (try simp only [List.length_append]); omega)) rfl rfl rfl rfl (zA7 (zA3 _)) ?_;refine sts ?_;exact ⟨(i + 1, O ++ nzq v c ++ nzq f.ts[i]!.1 f.ts[i]!.2, true, true), ⟨⟨by simp, by rw [hdrop] at i2; simp only [vBP, hne, hv, decide_false, decide_true, Bool.or_false, Bool.or_true, and_self, if_false, if_true] at i2; simp only [List.append_assoc] at i2 ⊢; exact i2, by omega, by (try simp only [List.length_append]); omega⟩, by show f.ts.length - (i + 1) < f.ts.length - i; omega⟩, [_, _, _, _], [], [], [], ttt, ⟨zAC rfl rfl, (apy rfl), (apy rfl), (apy rfl), zAF (by decide) rfl rfl, zBF rfl rfl, zAC rfl (by omega), trivial⟩, ⟨bbx, bbx, bbx, zAD (by decide) rfl rfl (zA3 _) rfl, trivial⟩, by simp [ren, grH]⟩
   ·have hne : ¬ f.ts[i]!.1 = v := ‹¬ (tQ f.ts[i]!).var = v›
    have hle : ¬ v < f.ts[i]!.1 := h;refine zBQ (r := 0) (zBJ O f.ts[i]!.1 f.ts[i]!.2 _ hp (by omega) (by (try simp only [List.length_append]); omega)) rfl rfl rfl rfl (zA7 (zA3 _)) ?_;refine sts ?_;have nl := zBM f.ts[i]!.1 f.ts[i]!.2;exact ⟨(i + 1, O ++ nzq f.ts[i]!.1 f.ts[i]!.2, true, false), ⟨⟨by simp, by rw [hdrop] at i2; simp only [vBP, hne, hle, decide_false, Bool.or_false, Bool.or_self, and_false, if_false, List.nil_append] at i2; rw [List.append_assoc]; exact i2, by omega, by (try simp only [List.length_append]); omega⟩, by show f.ts.length - (i + 1) < f.ts.length - i; omega⟩, [_, _, _, _], [], [], [], ttt, ⟨zAC rfl rfl, (apy rfl), (apy rfl), (apy rfl), zAF (by decide) rfl rfl, zBF rfl rfl, zAC rfl (by omega), trivial⟩, ⟨bbx, bbx, bbx, zAD (by decide) rfl rfl (zA3 _) rfl, trivial⟩, by simp [ren, grH]⟩
   all_goals (exfalso; omega)
  ·(repeat' (first|refine stp ?_|with_reducible(refine brr ?_ ?_<;>intro h)));all_goals try(conv=>whnf)
   all_goals try (exfalso; omega)
   have hN : vBP v c (f.ts.drop i) false = nzq v c := by rw [List.drop_of_length_le (by omega)]; rfl
   rw [hN] at i2;refine zAA cc rfl ?_;refine sts ?_;refine zBQ (r := 0) (zBJ O v c _ hc (by omega) (by (try simp only [List.length_append]); omega)) rfl rfl rfl rfl (zA7 (zA3 _)) ?_;refine sts ?_;subst i2;exact zAB (zC7 (zAP (zAH rfl rfl rfl (fun x => zFX x)) rfl)) rfl
 ·by_cases hi : i < f.ts.length
  ·have hdrop : f.ts.drop i = f.ts[i]! :: f.ts.drop (i + 1) := by rw [List.drop_eq_getElem_cons hi, getElem!_pos f.ts i hi]
   have hp := hf.2 f.ts[i]! (by rw [getElem!_pos f.ts i hi]; exact List.getElem_mem hi);have hpc := zBY hp hc;have lp := zAL hp;have ca := zD5 (cr f.ts[i]!.2) (cr c) (zAI _) (zAI _) (by omega) (by omega) (by omega) (by omega);rw [zAQ, zAQ] at ca
   (repeat' (first|refine stp ?_|with_reducible(refine brr ?_ ?_<;>intro h)));all_goals try(conv=>whnf)
   ·have hv : f.ts[i]!.1 = v := h
    refine zAA ca rfl ?_;refine sts ?_;refine zBQ (r := 0) (zBJ O f.ts[i]!.1 (f.ts[i]!.2 + c) _ hpc (by omega) (by (try simp only [List.length_append]); omega)) rfl rfl rfl rfl (zA7 (zA3 _)) ?_;refine sts ?_;have nl := zBM f.ts[i]!.1 (f.ts[i]!.2 + c);exact ⟨(i + 1, O ++ nzq f.ts[i]!.1 (f.ts[i]!.2 + c), true, true), ⟨⟨by simp, by rw [hdrop] at i2; simp only [vBP, hv, decide_true, Bool.or_true, Bool.true_or, Bool.true_eq_false, false_and, if_false, if_true, List.nil_append] at i2; rw [hv]; rw [List.append_assoc]; exact i2, by omega, by (try simp only [List.length_append]); omega⟩, by show f.ts.length - (i + 1) < f.ts.length - i; omega⟩, [_, _, _, _], [], [], [], ttt, ⟨zAC rfl rfl, (apy rfl), (apy rfl), (apy rfl), zAF (by decide) rfl rfl, zBF rfl rfl, zAC rfl (by omega), trivial⟩, ⟨bbx, bbx, bbx, zAD (by decide) rfl rfl (zA3 _) rfl, trivial⟩, by simp [ren, grH]⟩
   ·have hne : ¬ f.ts[i]!.1 = v := ‹¬ (tQ f.ts[i]!).var = v›
    refine zBQ (r := 0) (zBJ O f.ts[i]!.1 f.ts[i]!.2 _ hp (by omega) (by (try simp only [List.length_append]); omega)) rfl rfl rfl rfl (zA7 (zA3 _)) ?_;refine sts ?_;have nl := zBM f.ts[i]!.1 f.ts[i]!.2;exact ⟨(i + 1, O ++ nzq f.ts[i]!.1 f.ts[i]!.2, true, true), ⟨⟨by simp, by rw [hdrop] at i2; simp only [vBP, hne, decide_false, Bool.true_or, Bool.true_eq_false, false_and, if_false, List.nil_append] at i2; rw [List.append_assoc]; exact i2, by omega, by (try simp only [List.length_append]); omega⟩, by show f.ts.length - (i + 1) < f.ts.length - i; omega⟩, [_, _, _, _], [], [], [], ttt, ⟨zAC rfl rfl, (apy rfl), (apy rfl), (apy rfl), zAF (by decide) rfl rfl, zBF rfl rfl, zAC rfl (by omega), trivial⟩, ⟨bbx, bbx, bbx, zAD (by decide) rfl rfl (zA3 _) rfl, trivial⟩, by simp [ren, grH]⟩
   all_goals (exfalso; omega)
  ·(repeat' (first|refine stp ?_|with_reducible(refine brr ?_ ?_<;>intro h)));all_goals try(conv=>whnf)
   all_goals try (exfalso; omega)
   have hN : vBP v c (f.ts.drop i) true = [] := by rw [List.drop_of_length_le (by omega)]; rfl
   rw [hN] at i2;rw [List.append_nil] at i2;subst i2;exact zAB (zC7 (zAP (zAH rfl rfl rfl (fun x => zFX x)) rfl)) rfl
theorem vQ3 {c : Rat} {ts : List QT} {i : Nat} (hi : i < ts.length) : vD2 c (ts.drop i) = nzq ts[i]!.1 (ts[i]!.2 * c) ++ vD2 c (ts.drop (i + 1)) := by
 unfold vD2; rw [List.drop_eq_getElem_cons hi, List.flatMap_cons, getElem!_pos ts i hi]
theorem vR2 : FO 101 Tryz.f101 [.cell 4 37] 39 := mkO Tryz.func101 Tryz.ntmps101 Tryz.results101
theorem zG1 (f : QF) (c : Rat) (kf kc : Nat) (hf : szF kf f) (hc : sz kc c) (hk : kf + kc ≤ 949999990) (hl : f.ts.length ≤ 2097150) : Fn 101 [vA5 f, vAZ (cr c)] (.data (vA5 (vBT f c))) := by
 obtain ⟨M, hM⟩ : ∃ M, vD2 c f.ts = M := ⟨_, rfl⟩;have lf := zAL hf.1;have lc := zAL hc;have cm0 := zJP (cr f.c) (cr c) (zAI _) (zAI _) (by omega) (by omega) (by omega) (by omega);rw [zAQ, zAQ] at cm0;unfold vBT;obtain ⟨C, hC⟩ : ∃ C, f.c * c = C := ⟨_, rfl⟩;rw [hC] at cm0;rw [hM, hC];refine zAN vA6 hT vR2 (by simp [vA5]) ?_;refine sts ?_;refine zAA cm0 rfl ?_;refine sts ?_
 refine zAG hT (fun ((i, O, s) : Nat × List QT × Bool) => [(2, .ptr 1 0 0), (3, .ptr 2 0 0), (4, .ptr 3 0 0), (5, .ptr 4 0 0), (6, .int .i64 i)])
  (fun (i, O, s) => (1, ⟨[vA5 f], 4, true⟩) :: (2, ⟨[vAZ (cr c)], 3, true⟩) :: (3, ⟨[vP9], 4, true⟩) :: (4, ⟨[grF s O.length C], 4, true⟩) :: grH s O) [] 5
  (fun (i, O, s) => (s = false → O = []) ∧ O ++ vD2 c (f.ts.drop i) = M ∧ i ≤ f.ts.length ∧ O.length ≤ i)
  (fun (i, _) => f.ts.length - i) (0, [], false) ⟨fun _ => rfl, hM, Nat.zero_le _, by simp⟩ (by decide) (by simp) ?_ ?_
 ·exact ⟨[0, _, _, _, _], [], [], [], ttt, ⟨(apy rfl), (apy rfl), (apy rfl), (apy rfl), zAC rfl rfl, trivial⟩,
   ⟨bbx, bbx, bbx, bbx, trivial⟩, by simp [ren, grH]⟩
 intro ⟨i, O, s⟩ ⟨i1, i2, i3, i4⟩;by_cases hi : i < f.ts.length
 ·have hp := hf.2 f.ts[i]! (by rw [getElem!_pos f.ts i hi]; exact List.getElem_mem hi)
  have hpc := zB6 hp hc;have lp := zAL hp;have cm := zJP (cr f.ts[i]!.2) (cr c) (zAI _) (zAI _) (by omega) (by omega) (by omega) (by omega);rw [zAQ, zAQ] at cm;have nl := zBM f.ts[i]!.1 (f.ts[i]!.2 * c);rw [vQ3 hi] at i2;cases s
  ·(repeat' (first|refine stp ?_|with_reducible(refine brr ?_ ?_<;>intro h)));all_goals try(conv=>whnf)
   ·refine zAA cm rfl ?_
    refine sts ?_;refine zBI (zBW f.ts[i]!.1 (f.ts[i]!.2 * c) _ hpc (by omega)) rfl ?_;refine sts ?_
    exact ⟨(i + 1, nzq f.ts[i]!.1 (f.ts[i]!.2 * c), true), ⟨⟨by simp, by rw [i1 rfl, List.nil_append] at i2; exact i2, by omega, by omega⟩, by show f.ts.length - (i + 1) < f.ts.length - i; omega⟩, [_, _, _, _, _], [], [], [], ttt,
     ⟨(apy rfl), (apy rfl), (apy rfl), (apy rfl), zAC rfl (by omega), trivial⟩,
     ⟨bbx, bbx, bbx, zA8 (by decide) rfl ⟨⟨by decide, rfl⟩, rfl, rfl, rfl, trivial⟩ rfl rfl, zAD (by decide) rfl rfl (zA3 _) rfl, trivial⟩, by simp [ren, grH]⟩
   all_goals (exfalso; omega)
  ·(repeat' (first|refine stp ?_|with_reducible(refine brr ?_ ?_<;>intro h)));all_goals try(conv=>whnf)
   ·refine zAA cm rfl ?_
    refine sts ?_;refine zBQ (r := 0) (zBJ O f.ts[i]!.1 (f.ts[i]!.2 * c) _ hpc (by omega) (by omega)) rfl rfl rfl rfl (zA7 (zA3 _)) ?_;refine sts ?_
    exact ⟨(i + 1, O ++ nzq f.ts[i]!.1 (f.ts[i]!.2 * c), true), ⟨⟨by simp, by rw [List.append_assoc]; exact i2, by omega, by rw [List.length_append]; omega⟩, by show f.ts.length - (i + 1) < f.ts.length - i; omega⟩, [_, _, _, _, _], [], [], [], ttt,
     ⟨(apy rfl), (apy rfl), (apy rfl), (apy rfl), zAC rfl (by omega), trivial⟩,
     ⟨bbx, bbx, bbx, zA8 (by decide) rfl ⟨⟨by decide, rfl⟩, rfl, rfl, rfl, trivial⟩ rfl rfl, zAD (by decide) rfl rfl (zA3 _) rfl, trivial⟩, by simp [ren, grH]⟩
   all_goals (exfalso; omega)
 ·rw [List.drop_of_length_le (by omega), show vD2 c [] = [] from rfl, List.append_nil] at i2
  subst i2;cases s
  ·rw [i1 rfl]
   (repeat' (first|refine stp ?_|with_reducible(refine brr ?_ ?_<;>intro h)));all_goals try(conv=>whnf)
   all_goals try (exfalso; omega)
   exact zAB rfl rfl
  ·(repeat' (first|refine stp ?_|with_reducible(refine brr ?_ ?_<;>intro h)));all_goals try(conv=>whnf)
   all_goals try (exfalso; omega)
   exact zAB (zC7 (zAP (zAH rfl rfl rfl (fun x => zFX x)) rfl)) rfl
theorem vL8 {v : Int} {c : Rat} {k kc K : Nat} (hc : sz kc c) (hK : k + kc + 1 ≤ K) : ∀ {l : List QT} {d : Bool}, (∀ p ∈ l, sz k p.2) → ∀ r ∈ vBP v c l d, sz K r.2
 | [], d, _, r, h => by
   simp only [vBP] at h
   split at h
   ·cases h
   ·rw [zC9 h]; exact zBE (by omega) hc
 | t :: l, d, hl, r, h => by
   simp only [vBP] at h;rcases List.mem_append.1 h with h | h
   ·rcases List.mem_append.1 h with h | h
    ·split at h
     ·rw [zC9 h]; exact zBE (by omega) hc
     ·cases h
    ·rw [zC9 h]
     show sz K (if t.1 = v then t.2 + c else t.2)
     split
     ·exact zBE hK (zBY (hl t (by simp)) hc)
     ·exact zBE (by omega) (hl t (by simp))
   ·exact vL8 hc hK (fun p hp => hl p (by simp [hp])) r h
theorem zLM {v : Int} {c : Rat} : ∀ {l : List QT} {d : Bool}, (vBP v c l d).length ≤ l.length + (if d then 0 else 1)
 | [], d => by
   simp only [vBP]
   split
   ·simp
   ·have := zBM v c; omega
 | t :: l, d => by
   have nl1 := zBM v c;have nl2 := zBM t.1 (if t.1 = v then t.2 + c else t.2);have ih := zLM (v := v) (c := c) (l := l) (d := ((d || decide (t.1 = v)) || decide (v < t.1)));simp only [vBP, List.length_append, List.length_cons];by_cases hA : (d || decide (t.1 = v)) = false ∧ v < t.1
   ·rw [if_pos hA]
    have hd : d = false := by have := hA.1; cases d <;> simp_all
    have hx : ((d || decide (t.1 = v)) || decide (v < t.1)) = true := by simp [hA.2]
    rw [hx] at ih ⊢;subst hd;simp at ih ⊢;omega
   ·rw [if_neg hA]
    have : (if ((d || decide (t.1 = v)) || decide (v < t.1)) = true then 0 else 1) ≤ (if d = true then 0 else 1) := by cases d <;> simp <;> split <;> omega
    simp only [List.length_nil];omega
theorem uDE : FO 29 Tryz.f29 [.cell 4 37] 43 := mkO Tryz.func29 Tryz.ntmps29 Tryz.results29
theorem vVJ (f g : QF) (kf kg : Nat) (hf : szF kf f) (hg : szF kg g) (hk : kf + kg + (g.ts.length + 1) * (kg + 1) ≤ 949999980) (hl : f.ts.length + g.ts.length ≤ 2097140) : Fn 29 [vA5 f, vA5 g] (.data (vA5 (uB8 f g))) := by
 have lf := zAL hf.1;have lg := zAL hg.1;have hs0 := zBY hf.1 hg.1;have ca := zD5 (cr f.c) (cr g.c) (zAI _) (zAI _) (by omega) (by omega) (by omega) (by omega);rw [zAQ, zAQ] at ca;unfold uB8;obtain ⟨C, hC⟩ : ∃ C, f.c + g.c = C := ⟨_, rfl⟩;rw [hC] at ca hs0;rw [hC];refine zAN vA6 hT uDE (by simp [vA5]) ?_;refine sts ?_;refine zAA ca rfl ?_;refine sts ?_
 refine zAG hT (fun ((i, l) : Nat × List QT) => [(3, .ptr 0 0 0), (4, .ptr 1 0 0), (5, .ptr 2 0 0), (6, .int .i64 i)])
  (fun (i, l) => [(0, ⟨[vA5 g], 4, true⟩), (1, ⟨[vP9], 4, true⟩), (2, ⟨[vA5 ⟨l, C⟩], 4, true⟩)]) [] 3
  (fun (i, l) => l = addL f.ts (g.ts.take i) ∧ i ≤ g.ts.length ∧ l.length ≤ f.ts.length + i ∧ ∀ p ∈ l, sz (kf + i * (kg + 1)) p.2)
  (fun (i, _) => g.ts.length - i) (0, f.ts) ⟨rfl, Nat.zero_le _, Nat.le_refl _, fun p hp => by simpa using hf.2 p hp⟩ (by decide) (by simp) ?_ ?_
 ·exact ⟨[_, _, _], [], [], [], ttt, ⟨(apy rfl), (apy rfl), (apy rfl), zAC rfl rfl, trivial⟩,
   ⟨bbx, bbx, bbx, trivial⟩, by simp [ren]⟩
 intro ⟨i, l⟩ ⟨i1, i2, i3, i4⟩;by_cases hi : i < g.ts.length
 ·have hp := hg.2 g.ts[i]! (by rw [getElem!_pos g.ts i hi]; exact List.getElem_mem hi)
  have hmul : (i + 1) * (kg + 1) ≤ g.ts.length * (kg + 1) := Nat.mul_le_mul_right _ (by omega);rw [Nat.add_mul] at hmul hk;have hK : kf + i * (kg + 1) + kg + 1 ≤ kf + (i + 1) * (kg + 1) := by rw [Nat.add_mul]; omega
  have cp := vVE ⟨l, C⟩ g.ts[i]!.1 g.ts[i]!.2 (kf + kg + 1 + i * (kg + 1)) kg ⟨zBE (by omega) hs0, fun p hp => zBE (by omega) (i4 p hp)⟩ hp (by omega) (by show l.length ≤ _; omega);have hln := zLM (v := g.ts[i]!.1) (c := g.ts[i]!.2) (l := l) (d := false);have hsn := vL8 (v := g.ts[i]!.1) hp hK (l := l) (d := false) i4
  have hn : vBP g.ts[i]!.1 g.ts[i]!.2 l false = addL f.ts (g.ts.take (i + 1)) := by
   rw [i1]; unfold addL; rw [List.take_succ_eq_append_getElem hi, List.foldl_append, getElem!_pos g.ts i hi]; rfl
  simp only [Bool.false_eq_true, if_false] at hln
  (repeat' (first|refine stp ?_|with_reducible(refine brr ?_ ?_<;>intro h)));all_goals try(conv=>whnf)
  ·refine zAA cp rfl ?_
   refine sts ?_
   exact ⟨(i + 1, vBP g.ts[i]!.1 g.ts[i]!.2 l false), ⟨⟨hn, by omega, by omega, hsn⟩, by show g.ts.length - (i + 1) < g.ts.length - i; omega⟩, [0, 1, 2], [], [], [], ttt,
    ⟨apx, apx, apx, zAC rfl (by omega), trivial⟩,
    ⟨bbx, bbx, bbx, trivial⟩, by simp [ren]⟩
  all_goals (exfalso; omega)
 ·rw [List.take_of_length_le (by omega)] at i1
  subst i1
  (repeat' (first|refine stp ?_|with_reducible(refine brr ?_ ?_<;>intro h)));all_goals try(conv=>whnf)
  all_goals try (exfalso; omega)
  exact zAB (zC7 (zAP (zAH rfl (by simp) (by simp) (fun x => zFX x)) rfl)) rfl
theorem uCV {c : Rat} {k kc : Nat} (hc : sz kc c) {l : List QT} (h : ∀ p ∈ l, sz k p.2) : ∀ r ∈ vD2 c l, sz (k + kc) r.2 := fun r hr => by
 unfold vD2 at hr;obtain ⟨t, ht, hr⟩ := List.mem_flatMap.1 hr;rw [zC9 hr]; exact zB6 (h t ht) hc
theorem zKI {c : Rat} : ∀ {l : List QT}, (vD2 c l).length ≤ l.length
 | [] => Nat.le_refl _
 | t :: l => by
   have := zBM t.1 (t.2 * c);have := zKI (c := c) (l := l);unfold vD2 at *
   rw [List.flatMap_cons, List.length_append, List.length_cons]; omega
theorem zLD {f : QF} {c : Rat} {k kc : Nat} (hf : szF k f) (hc : sz kc c) : szF (k + kc) (vBT f c) := ⟨zB6 hf.1 hc, uCV hc hf.2⟩
end Go.PI.Tryz
