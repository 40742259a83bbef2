/-
  Affine forms: Add, Sub, Scale, Eval.
-/
import Derived.Test.YtbelmkceegmdjaaGreatDoorCIB
import Derived.Test.YtbelmkceegmdjaaGreatDoorCPD
set_option linter.unusedVariables false
set_option linter.unusedSimpArgs false
set_option linter.unnecessarySimpa false
namespace Go.PI.Tryz
open Go.Proofs Go.PI
theorem vTB : FO 63 Tryz.f63 [.tmp 4] 56 := mkO Tryz.func63 Tryz.ntmps63 Tryz.results63
theorem zKX (f : AffL) (n : Int) (hf : okA 2147483596 f) : Fn 63 [vBR f, .int .i64 n] (.data (.bool (vCO f n))) := by
 obtain ⟨hc, ht, hl⟩ := hf;refine zAO vBC hT vTB (by simp [vBR]) ?_;refine sts ?_
 refine zA0 hT (fun (i : Nat) => [(1, .int .i64 n), (2, .ptr 0 0 0), (8, .imm (f.terms.map vCW)), (9, .int .i64 f.terms.length), (10, .int .i64 i)]) (fun _ => [(0, ⟨[vBR f], 4, true⟩)]) [] 1
  (fun i => i ≤ f.terms.length ∧ ∀ j, j < i → okT f.terms n j) (fun i => f.terms.length - i) 0 ⟨Nat.zero_le _, fun j h => (by omega)⟩ (by decide) (by simp) ?_ ?_
 ·exact ⟨[0], [], [], [], ttt, ⟨zAC rfl rfl, apx, zAE rfl rfl, zAC rfl (by simp), zAC rfl rfl, trivial⟩, ⟨bbx, trivial⟩, by simp [ren]⟩
 intro i ⟨i1, i2⟩;have hcv := zFZ f.const hc.1 (by have := hc.2; omega) (by have := hc.2; omega);by_cases hi : i < f.terms.length
 ·have hq := uC5 (f := f) ⟨hc, ht, hl⟩ hi
  have cs := zE2 f.terms[i]!.coef hq.1 (by have := hq.2; omega);have cv := zFZ f.terms[i]!.coef hq.1 (by have := hq.2; omega) (by have := hq.2; omega)
  (repeat' (first|refine stp ?_|with_reducible(refine brr ?_ ?_<;>intro h)));all_goals try(conv=>whnf)
  ·exact zAB rfl (congrArg PV.bool (zDA (i := i) (by omega) fun e => by have := e.1; omega))
  ·exact zAB rfl (congrArg PV.bool (zDA (i := i) (by omega) fun e => by have := e.2.1; omega))
  ·refine zA4 (j := i - 1) (by omega) (by omega) ?_
   (repeat' (first|refine stp ?_|with_reducible(refine brr ?_ ?_<;>intro h)));all_goals try(conv=>whnf)
   ·exact zAB rfl (congrArg PV.bool (zDA (i := i) (by omega) fun e => by have := e.2.2.1 (by omega); omega))
   refine zAA cs rfl ?_
   (repeat' (first|refine stp ?_|with_reducible(refine brr ?_ ?_<;>intro h)));all_goals try(conv=>whnf)
   ·exact zAB rfl (congrArg PV.bool (zDA (i := i) (by omega) fun e => e.2.2.2.1 (sgnQ_zero.1 h)))
   ·refine zAA cv rfl ?_
    (repeat' (first|refine stp ?_|with_reducible(refine brr ?_ ?_<;>intro h)));all_goals try(conv=>whnf)
    ·refine ⟨i + 1, ⟨⟨by omega, fun j hj => ?_⟩, by show f.terms.length - (i + 1) < f.terms.length - i; omega⟩, [0], [], [], [], ttt, ⟨zAC rfl rfl, apx, zAE rfl rfl, zAC rfl rfl, zAC rfl (by omega), trivial⟩, ⟨bbx, trivial⟩, by simp [ren]⟩
     rcases Nat.lt_or_eq_of_le (Nat.le_of_lt_succ hj) with hj | rfl
     ·exact i2 j hj
     ·exact ⟨by omega, by omega, fun h0 => by omega, fun e => by have := sgnQ_zero.2 e; omega, h⟩
    ·exact zAB rfl (congrArg PV.bool (zDA (i := i) (by omega) fun e => h e.2.2.2.2))
  ·refine zAA cs rfl ?_
   (repeat' (first|refine stp ?_|with_reducible(refine brr ?_ ?_<;>intro h)));all_goals try(conv=>whnf)
   ·exact zAB rfl (congrArg PV.bool (zDA (i := i) (by omega) fun e => e.2.2.2.1 (sgnQ_zero.1 h)))
   ·refine zAA cv rfl ?_
    (repeat' (first|refine stp ?_|with_reducible(refine brr ?_ ?_<;>intro h)));all_goals try(conv=>whnf)
    ·refine ⟨i + 1, ⟨⟨by omega, fun j hj => ?_⟩, by show f.terms.length - (i + 1) < f.terms.length - i; omega⟩, [0], [], [], [], ttt, ⟨zAC rfl rfl, apx, zAE rfl rfl, zAC rfl rfl, zAC rfl (by omega), trivial⟩, ⟨bbx, trivial⟩, by simp [ren]⟩
     rcases Nat.lt_or_eq_of_le (Nat.le_of_lt_succ hj) with hj | rfl
     ·exact i2 j hj
     ·exact ⟨by omega, by omega, fun h0 => by omega, fun e => by have := sgnQ_zero.2 e; omega, h⟩
    ·exact zAB rfl (congrArg PV.bool (zDA (i := i) (by omega) fun e => h e.2.2.2.2))
  ·omega
 ·(repeat' (first|refine stp ?_|with_reducible(refine brr ?_ ?_<;>intro h)));all_goals try(conv=>whnf)
  all_goals try (exfalso; omega)
  refine zAA hcv rfl ?_;refine sts ?_;exact zAB rfl (congrArg PV.bool (vOX fun j hj => i2 j (by omega)))
def vXA (n : Nat) (c : Rat) : PV := .agg [.own 0 0 n, .bool (cr c).neg, vBK (cr c).num, vBK (cr c).den]
def uJ0 (c : Rat) : PV := .agg [.nilsl, .bool (cr c).neg, vBK (cr c).num, vBK (cr c).den]
def vWU (O : List QT) : Blk := ⟨O.map vNZ, 4, true⟩
theorem vGK (O : List QT) (c : Rat) : vLI (vWU O) (vXA O.length c) := by
 refine Or.inl ⟨fun x hx => ?_, ?_⟩
 ·simp only [vXA, vCD, List.mem_cons, List.not_mem_nil, or_false] at hx
  rcases hx with rfl | rfl | rfl | rfl
  ·left; simp [vWU]
  all_goals right; rfl
 ·simp [vXA, vCD, vWU]
theorem zB9 (O : List QT) : ∀ e ∈ O.map vNZ, nr 3 e = true ∧ e ≠ .any := zAP fun x => ⟨rfl, by simp [vNZ, vCW]⟩
theorem vTD : FO 160 Tryz.f160 [.cell 6 46] 20 := mkO Tryz.func160 Tryz.ntmps160 Tryz.results160
theorem zEN (O : List QT) (c : Rat) (v : Int) (q : Rat) (k : Nat) (hq : sz k q) (hk : k ≤ 2147483596) (hO : O.length < 2147483648) : Fn 160 [vXA O.length c, .int .i64 v, vA8 (cr q)] (.own (some (vWU O)) (vXA (O ++ nzq v q).length c) (vWU (O ++ nzq v q))) := by
 have hl := zCL hq;have cs := zE2 (cr q) (zBX q) (by omega);have cc := zKW (cr q) (zBX q) (by omega) (by omega);rw [zDO] at cs cc;refine vUK vBC hT vTD (by simp) ?_;refine sts ?_;refine zAA cs rfl ?_
 (repeat' (first|refine stp ?_|with_reducible(refine brr ?_ ?_<;>intro h)));all_goals try(conv=>whnf)
 ·rw [vZ7 fun e => h (sgnQ_zero.2 e)]
  refine zAA cc rfl ?_;refine sts ?_;refine zBE ⟨rfl, by simp [vWU], by simp; omega⟩ ?_;refine sts ?_;refine vK7 (r := 14) ?_ rfl ?_ rfl (fun e he => (zB9 _ e he).1) (vGK _ c)
  ·simp [vXA, rk, rk1]
  ·simp [vWU, vNZ, vCW, tQ]
 ·rw [show q = 0 from sgnQ_zero.1 h, vNE, List.append_nil]
  exact vK7 (r := 0) rfl rfl rfl rfl (fun e he => (zB9 _ e he).1) (vGK _ c)
theorem zEO (c : Rat) (v : Int) (q : Rat) (k : Nat) (hq : sz k q) (hk : k ≤ 2147483596) : Fn 160 [uJ0 c, .int .i64 v, vA8 (cr q)] (.own none (vXA (nzq v q).length c) (vWU (nzq v q))) := by
 have hl := zCL hq;have cs := zE2 (cr q) (zBX q) (by omega);have cc := zKW (cr q) (zBX q) (by omega) (by omega);rw [zDO] at cs cc;refine vUL vBC hT vTD (by simp) ?_;refine sts ?_;refine zAA cs rfl ?_
 (repeat' (first|refine stp ?_|with_reducible(refine brr ?_ ?_<;>intro h)));all_goals try(conv=>whnf)
 ·rw [vZ7 fun e => h (sgnQ_zero.2 e)]
  refine zAA cc rfl ?_;refine sts ?_;refine vK7 (r := 14) ?_ rfl ?_ rfl (fun e he => (zB9 _ e he).1) (vGK _ c)
  ·simp [vXA, rk, rk1]
  ·simp [vNZ, vCW, tQ]
 ·rw [show q = 0 from sgnQ_zero.1 h, vNE]
  exact vW9 rfl rfl (vGK [] c)
def grF : Bool → Nat → Rat → PV
 | true, n, c => vXA n c
 | false, _, c => uJ0 c
def grH : Bool → List QT → List (Nat × Blk)
 | true, O => [(0, vWU O)]
 | false, _ => []
def uIC : PV := .agg [.nilsl, .bool false, .nilsl, .nilsl]
theorem zEW (v : Int) (x : Rat) : (nzq v x).length ≤ 1 := by unfold nzq; split <;> simp
theorem vYS {h : Hp} {n : Nat} (x : QT) : frz h (n + 1) (vNZ x) = some (vNZ x, []) := by cases n <;> rfl
theorem zCP (p : QT) (a : List QT) : (((p :: a).length : Nat) : Int) > 0 := by rw [List.length_cons]; omega
theorem vTE : FO 133 Tryz.f133 [.cell 6 46] 113 := mkO Tryz.func133 Tryz.ntmps133 Tryz.results133
set_option maxHeartbeats 1000000 in
theorem vOI (f g : QF) (c : Rat) (kf kg kc : Nat) (hf : ∀ p ∈ f.ts, sz kf p.2) (hg : ∀ p ∈ g.ts, sz kg p.2) (hfc : sz kf f.c) (hgc : sz kg g.c) (hc : sz kc c) (hk : kf + kg + kc ≤ 950000000) (hl1 : f.ts.length ≤ 1048576) (hl2 : g.ts.length ≤ 1048576) :
 Fn 133 [vB4 f, vB4 g, vA8 (cr c)] (.data (vB4 (vCP f g c))) := by
 have q1 := zCL hfc;have q2 := zCL hgc;have q3 := zCL hc;have m0 := zGE hgc hc;have q4 := zCL m0;have cm := zL8 (cr g.c) (cr c) (zBX _) (zBX _) (by omega) (by omega) (by omega) (by omega);rw [zDO, zDO] at cm;have ca := vOF (cr f.c) (cr (g.c * c)) (zBX _) (zBX _) (by omega) (by omega) (by omega) (by omega);rw [zDO, zDO] at ca;refine zAO vBC hT vTE (by simp [vB4]) ?_;refine sts ?_;refine zAA cm rfl ?_;refine sts ?_;refine zAA ca rfl ?_;refine sts ?_;obtain ⟨C, hC⟩ : ∃ C, f.c + g.c * c = C := ⟨_, rfl⟩;obtain ⟨M, hM⟩ : ∃ M, mrg c f.ts g.ts = M := ⟨_, rfl⟩;unfold vCP;rw [hM];simp only [hC];clear ca cm
 refine zA0 hT (fun ((a, b, O, s) : List QT × List QT × List QT × Bool) => [(5, .ptr 1 0 0), (6, .ptr 2 0 0), (7, .ptr 3 0 0), (8, .imm (a.map vNZ)), (9, .imm (b.map vNZ))])
  (fun (a, b, O, s) => (1, ⟨[vA8 (cr c)], 3, true⟩) :: (2, ⟨[uIC], 4, true⟩) :: (3, ⟨[grF s O.length C], 4, true⟩) :: grH s O) [] 4
  (fun (a, b, O, s) => (s = false → O = []) ∧ O ++ mrg c a b = M ∧ (∀ p ∈ a, sz kf p.2) ∧ (∀ p ∈ b, sz kg p.2) ∧ a.length + b.length + O.length ≤ 2147483648)
  (fun (a, b, _, _) => a.length + b.length) (f.ts, g.ts, [], false) ⟨fun _ => rfl, hM, hf, hg, by simp; omega⟩ (by decide) (by simp) ?_ ?_
 ·exact ⟨[0, 2, 3, 12], [], [], [], ttt, ⟨apx, apx, apx, zAE rfl rfl, zAE rfl rfl, trivial⟩,
   ⟨bbx, bbx, bbx, trivial⟩, by simp [ren, grH]⟩
 intro ⟨a, b, O, s⟩ ⟨i1, i2, i3, i4, i5⟩;rcases a with _ | ⟨p, a⟩ <;> rcases b with _ | ⟨q, b⟩ <;> cases s
 ·refine sts ?_
  rw [mrg, List.append_nil] at i2;have hO := i1 rfl;subst hO;subst i2;exact zAB rfl rfl
 ·refine sts ?_
  rw [mrg, List.append_nil] at i2;subst i2;exact zAB (zD5 (zAG (zAM rfl rfl rfl (fun x => vYS x)) rfl)) rfl
 ·(repeat' (first|refine stp ?_|with_reducible(refine brr ?_ ?_<;>intro h)));all_goals try(conv=>whnf)
  ·have hq := i4 q (by simp)
   have hqc := zGE hq hc;have l1 := zCL hq;have cm := zL8 (cr q.2) (cr c) (zBX _) (zBX _) (by omega) (by omega) (by omega) (by omega);rw [zDO, zDO] at cm;refine zAA cm rfl ?_;refine sts ?_;refine zFH (zEO C q.1 (q.2 * c) _ hqc (by omega)) rfl ?_;refine sts ?_;refine zBP (l' := b) (by simp) ?_;refine sts ?_;have nl := zEW q.1 (q.2 * c)
   exact ⟨([], b, nzq q.1 (q.2 * c), true), ⟨⟨by simp, by rw [mrg] at i2; rw [i1 rfl, List.nil_append] at i2; exact i2, fun r hr => i3 r (by simp_all), fun r hr => i4 r (by simp_all), by simp at i5 ⊢; omega⟩, by simp; try omega⟩, [_, _, _, _], [], [], [], ttt, ⟨(apy rfl), (apy rfl), (apy rfl), zAE rfl rfl, zAE rfl rfl, trivial⟩,
    ⟨bbx, bbx, zAI (by decide) rfl ⟨⟨by decide, rfl⟩, rfl, rfl, rfl, trivial⟩ rfl rfl, zAF (by decide) rfl rfl (zB9 _) rfl, trivial⟩, by simp [ren, grH]⟩
  ·exact absurd h (by simp)
 ·(repeat' (first|refine stp ?_|with_reducible(refine brr ?_ ?_<;>intro h)));all_goals try(conv=>whnf)
  ·have hq := i4 q (by simp)
   have hqc := zGE hq hc;have l1 := zCL hq;have cm := zL8 (cr q.2) (cr c) (zBX _) (zBX _) (by omega) (by omega) (by omega) (by omega);rw [zDO, zDO] at cm;refine zAA cm rfl ?_;refine sts ?_;refine zFF (r := 0) (zEN O C q.1 (q.2 * c) _ hqc (by omega) (by omega)) rfl rfl rfl rfl (vI4 (zB9 O)) ?_;refine sts ?_;refine zBP (l' := b) (by simp) ?_;refine sts ?_;have nl := zEW q.1 (q.2 * c)
   exact ⟨([], b, O ++ nzq q.1 (q.2 * c), true), ⟨⟨by simp, by rw [mrg] at i2; rw [List.append_assoc]; exact i2, fun r hr => i3 r (by simp_all), fun r hr => i4 r (by simp_all), by simp at i5 ⊢; omega⟩, by simp; try omega⟩, [_, _, _, _], [], [], [], ttt, ⟨(apy rfl), (apy rfl), (apy rfl), zAE rfl rfl, zAE rfl rfl, trivial⟩,
    ⟨bbx, bbx, zAI (by decide) rfl ⟨⟨by decide, rfl⟩, rfl, rfl, rfl, trivial⟩ rfl rfl, zAF (by decide) rfl rfl (zB9 _) rfl, trivial⟩, by simp [ren, grH]⟩
  ·exact absurd h (by simp)
 ·(repeat' (first|refine stp ?_|with_reducible(refine brr ?_ ?_<;>intro h)));all_goals try(conv=>whnf)
  ·have hp := i3 p (by simp)
   refine zFH (zEO C p.1 p.2 _ hp (by omega)) rfl ?_;refine sts ?_;refine zBP (l' := a) (by simp) ?_;refine sts ?_;have nl := zEW p.1 p.2
   exact ⟨(a, [], nzq p.1 p.2, true), ⟨⟨by simp, by rw [mrg] at i2; rw [i1 rfl, List.nil_append] at i2; exact i2, fun r hr => i3 r (by simp_all), fun r hr => i4 r (by simp_all), by simp at i5 ⊢; omega⟩, by simp; try omega⟩, [_, _, _, _], [], [], [], ttt, ⟨(apy rfl), (apy rfl), (apy rfl), zAE rfl rfl, zAE rfl rfl, trivial⟩,
    ⟨bbx, bbx, zAI (by decide) rfl ⟨⟨by decide, rfl⟩, rfl, rfl, rfl, trivial⟩ rfl rfl, zAF (by decide) rfl rfl (zB9 _) rfl, trivial⟩, by simp [ren, grH]⟩
  all_goals first | contradiction | exact absurd (zCP _ _) h | exact absurd (zCP p a) (by assumption) | exact absurd (zCP q b) (by assumption)
 ·(repeat' (first|refine stp ?_|with_reducible(refine brr ?_ ?_<;>intro h)));all_goals try(conv=>whnf)
  ·have hp := i3 p (by simp)
   refine zFF (r := 0) (zEN O C p.1 p.2 _ hp (by omega) (by omega)) rfl rfl rfl rfl (vI4 (zB9 O)) ?_;refine sts ?_;refine zBP (l' := a) (by simp) ?_;refine sts ?_;have nl := zEW p.1 p.2
   exact ⟨(a, [], O ++ nzq p.1 p.2, true), ⟨⟨by simp, by rw [mrg] at i2; rw [List.append_assoc]; exact i2, fun r hr => i3 r (by simp_all), fun r hr => i4 r (by simp_all), by simp at i5 ⊢; omega⟩, by simp; try omega⟩, [_, _, _, _], [], [], [], ttt, ⟨(apy rfl), (apy rfl), (apy rfl), zAE rfl rfl, zAE rfl rfl, trivial⟩,
    ⟨bbx, bbx, zAI (by decide) rfl ⟨⟨by decide, rfl⟩, rfl, rfl, rfl, trivial⟩ rfl rfl, zAF (by decide) rfl rfl (zB9 _) rfl, trivial⟩, by simp [ren, grH]⟩
  all_goals first | contradiction | exact absurd (zCP _ _) h | exact absurd (zCP p a) (by assumption) | exact absurd (zCP q b) (by assumption)
 ·(repeat' (first|refine stp ?_|with_reducible(refine brr ?_ ?_<;>intro h)));all_goals try(conv=>whnf)
  ·have hp := i3 p (by simp)
   refine zFH (zEO C p.1 p.2 _ hp (by omega)) rfl ?_;refine sts ?_;refine zBP (l' := a) (by simp) ?_;refine sts ?_;have nl := zEW p.1 p.2
   exact ⟨(a, q :: b, nzq p.1 p.2, true), ⟨⟨by simp, by rw [mrg, if_pos (show p.1 < q.1 from h)] at i2; rw [i1 rfl, List.nil_append] at i2; exact i2, fun r hr => i3 r (by simp_all), fun r hr => i4 r (by simp_all), by simp at i5 ⊢; omega⟩, by simp; try omega⟩, [_, _, _, _], [], [], [], ttt, ⟨(apy rfl), (apy rfl), (apy rfl), zAE rfl rfl, zAE rfl rfl, trivial⟩,
    ⟨bbx, bbx, zAI (by decide) rfl ⟨⟨by decide, rfl⟩, rfl, rfl, rfl, trivial⟩ rfl rfl, zAF (by decide) rfl rfl (zB9 _) rfl, trivial⟩, by simp [ren, grH]⟩
  ·have hq := i4 q (by simp)
   have hqc := zGE hq hc;have l1 := zCL hq;have cm := zL8 (cr q.2) (cr c) (zBX _) (zBX _) (by omega) (by omega) (by omega) (by omega);rw [zDO, zDO] at cm;refine zAA cm rfl ?_;refine sts ?_;refine zFH (zEO C q.1 (q.2 * c) _ hqc (by omega)) rfl ?_;refine sts ?_;refine zBP (l' := b) (by simp) ?_;refine sts ?_;have nl := zEW q.1 (q.2 * c)
   exact ⟨(p :: a, b, nzq q.1 (q.2 * c), true), ⟨⟨by simp, by rw [mrg, if_neg (show ¬ p.1 < q.1 from ‹¬ (tQ p).var < (tQ q).var›), if_pos (show q.1 < p.1 from h)] at i2; rw [i1 rfl, List.nil_append] at i2; exact i2, fun r hr => i3 r (by simp_all), fun r hr => i4 r (by simp_all), by simp at i5 ⊢; omega⟩, by simp; try omega⟩, [_, _, _, _], [], [], [], ttt, ⟨(apy rfl), (apy rfl), (apy rfl), zAE rfl rfl, zAE rfl rfl, trivial⟩,
    ⟨bbx, bbx, zAI (by decide) rfl ⟨⟨by decide, rfl⟩, rfl, rfl, rfl, trivial⟩ rfl rfl, zAF (by decide) rfl rfl (zB9 _) rfl, trivial⟩, by simp [ren, grH]⟩
  ·have hq := i4 q (by simp)
   have hqc := zGE hq hc;have l1 := zCL hq;have cm := zL8 (cr q.2) (cr c) (zBX _) (zBX _) (by omega) (by omega) (by omega) (by omega);rw [zDO, zDO] at cm;have hp := i3 p (by simp);have hpq := vH8 hp hqc;have l2 := zCL hp;have l3 := zCL hqc;have ca := vOF (cr p.2) (cr (q.2 * c)) (zBX _) (zBX _) (by omega) (by omega) (by omega) (by omega);rw [zDO, zDO] at ca;refine zAA cm rfl ?_;refine sts ?_;refine zAA ca rfl ?_;refine sts ?_;refine zFH (zEO C p.1 (p.2 + q.2 * c) _ hpq (by omega)) rfl ?_;refine sts ?_;refine zBP (l' := a) (by simp) ?_;refine sts ?_;refine zBP (l' := b) (by simp) ?_;refine sts ?_;have nl := zEW p.1 (p.2 + q.2 * c)
   exact ⟨(a, b, nzq p.1 (p.2 + q.2 * c), true), ⟨⟨by simp, by rw [mrg, if_neg (show ¬ p.1 < q.1 from ‹¬ (tQ p).var < (tQ q).var›), if_neg (show ¬ q.1 < p.1 from h)] at i2; rw [i1 rfl, List.nil_append] at i2; exact i2, fun r hr => i3 r (by simp_all), fun r hr => i4 r (by simp_all), by simp at i5 ⊢; omega⟩, by simp; try omega⟩, [_, _, _, _], [], [], [], ttt, ⟨(apy rfl), (apy rfl), (apy rfl), zAE rfl rfl, zAE rfl rfl, trivial⟩,
    ⟨bbx, bbx, zAI (by decide) rfl ⟨⟨by decide, rfl⟩, rfl, rfl, rfl, trivial⟩ rfl rfl, zAF (by decide) rfl rfl (zB9 _) rfl, trivial⟩, by simp [ren, grH]⟩
  all_goals first | contradiction | exact absurd (zCP _ _) h | exact absurd (zCP p a) (by assumption) | exact absurd (zCP q b) (by assumption)
 ·(repeat' (first|refine stp ?_|with_reducible(refine brr ?_ ?_<;>intro h)));all_goals try(conv=>whnf)
  ·have hp := i3 p (by simp)
   refine zFF (r := 0) (zEN O C p.1 p.2 _ hp (by omega) (by omega)) rfl rfl rfl rfl (vI4 (zB9 O)) ?_;refine sts ?_;refine zBP (l' := a) (by simp) ?_;refine sts ?_;have nl := zEW p.1 p.2
   exact ⟨(a, q :: b, O ++ nzq p.1 p.2, true), ⟨⟨by simp, by rw [mrg, if_pos (show p.1 < q.1 from h)] at i2; rw [List.append_assoc]; exact i2, fun r hr => i3 r (by simp_all), fun r hr => i4 r (by simp_all), by simp at i5 ⊢; omega⟩, by simp; try omega⟩, [_, _, _, _], [], [], [], ttt, ⟨(apy rfl), (apy rfl), (apy rfl), zAE rfl rfl, zAE rfl rfl, trivial⟩,
    ⟨bbx, bbx, zAI (by decide) rfl ⟨⟨by decide, rfl⟩, rfl, rfl, rfl, trivial⟩ rfl rfl, zAF (by decide) rfl rfl (zB9 _) rfl, trivial⟩, by simp [ren, grH]⟩
  ·have hq := i4 q (by simp)
   have hqc := zGE hq hc;have l1 := zCL hq;have cm := zL8 (cr q.2) (cr c) (zBX _) (zBX _) (by omega) (by omega) (by omega) (by omega);rw [zDO, zDO] at cm;refine zAA cm rfl ?_;refine sts ?_;refine zFF (r := 0) (zEN O C q.1 (q.2 * c) _ hqc (by omega) (by omega)) rfl rfl rfl rfl (vI4 (zB9 O)) ?_;refine sts ?_;refine zBP (l' := b) (by simp) ?_;refine sts ?_;have nl := zEW q.1 (q.2 * c)
   exact ⟨(p :: a, b, O ++ nzq q.1 (q.2 * c), true), ⟨⟨by simp, by rw [mrg, if_neg (show ¬ p.1 < q.1 from ‹¬ (tQ p).var < (tQ q).var›), if_pos (show q.1 < p.1 from h)] at i2; rw [List.append_assoc]; exact i2, fun r hr => i3 r (by simp_all), fun r hr => i4 r (by simp_all), by simp at i5 ⊢; omega⟩, by simp; try omega⟩, [_, _, _, _], [], [], [], ttt, ⟨(apy rfl), (apy rfl), (apy rfl), zAE rfl rfl, zAE rfl rfl, trivial⟩,
    ⟨bbx, bbx, zAI (by decide) rfl ⟨⟨by decide, rfl⟩, rfl, rfl, rfl, trivial⟩ rfl rfl, zAF (by decide) rfl rfl (zB9 _) rfl, trivial⟩, by simp [ren, grH]⟩
  ·have hq := i4 q (by simp)
   have hqc := zGE hq hc;have l1 := zCL hq;have cm := zL8 (cr q.2) (cr c) (zBX _) (zBX _) (by omega) (by omega) (by omega) (by omega);rw [zDO, zDO] at cm;have hp := i3 p (by simp);have hpq := vH8 hp hqc;have l2 := zCL hp;have l3 := zCL hqc;have ca := vOF (cr p.2) (cr (q.2 * c)) (zBX _) (zBX _) (by omega) (by omega) (by omega) (by omega);rw [zDO, zDO] at ca;refine zAA cm rfl ?_;refine sts ?_;refine zAA ca rfl ?_;refine sts ?_;refine zFF (r := 0) (zEN O C p.1 (p.2 + q.2 * c) _ hpq (by omega) (by omega)) rfl rfl rfl rfl (vI4 (zB9 O)) ?_;refine sts ?_;refine zBP (l' := a) (by simp) ?_;refine sts ?_;refine zBP (l' := b) (by simp) ?_;refine sts ?_;have nl := zEW p.1 (p.2 + q.2 * c)
   exact ⟨(a, b, O ++ nzq p.1 (p.2 + q.2 * c), true), ⟨⟨by simp, by rw [mrg, if_neg (show ¬ p.1 < q.1 from ‹¬ (tQ p).var < (tQ q).var›), if_neg (show ¬ q.1 < p.1 from h)] at i2; rw [List.append_assoc]; exact i2, fun r hr => i3 r (by simp_all), fun r hr => i4 r (by simp_all), by simp at i5 ⊢; omega⟩, by simp; try omega⟩, [_, _, _, _], [], [], [], ttt, ⟨(apy rfl), (apy rfl), (apy rfl), zAE rfl rfl, zAE rfl rfl, trivial⟩,
    ⟨bbx, bbx, zAI (by decide) rfl ⟨⟨by decide, rfl⟩, rfl, rfl, rfl, trivial⟩ rfl rfl, zAF (by decide) rfl rfl (zB9 _) rfl, trivial⟩, by simp [ren, grH]⟩
  all_goals first | contradiction | exact absurd (zCP _ _) h | exact absurd (zCP p a) (by assumption) | exact absurd (zCP q b) (by assumption)
theorem uCQ : FO 99 Tryz.f99 [.cell 4 46] 9 := mkO Tryz.func99 Tryz.ntmps99 Tryz.results99
theorem zF8 (f g : QF) (kf kg : Nat) (hf : szF kf f) (hg : szF kg g) (hk : kf + kg ≤ 949999990) (hl1 : f.ts.length ≤ 1048576) (hl2 : g.ts.length ≤ 1048576) : Fn 99 [vB4 f, vB4 g] (.data (vB4 (vCP f g (-1)))) := by
 have cm := vOI f g ((-1 : Int) : Rat) kf kg 1 hf.2 hg.2 hf.1 hg.1 (zHJ (by decide)) (by omega) hl1 hl2;have co := uD4 (-1) (by decide);rw [show ((-1 : Int) : Rat) = -1 by rfl] at cm co;refine zAO vBC hT uCQ (by simp [vB4]) ?_;refine sts ?_;refine zAA co rfl ?_;refine sts ?_;refine zAA cm rfl ?_;refine sts ?_;exact zAB rfl rfl
theorem vTC : FO 135 Tryz.f135 [.cell 4 46] 9 := mkO Tryz.func135 Tryz.ntmps135 Tryz.results135
theorem zJA (f : QF) (c : Rat) (kf kc : Nat) (hf : szF kf f) (hc : sz kc c) (hk : kf + kc ≤ 949999990) (hl1 : f.ts.length ≤ 1048576) : Fn 135 [vB4 f, vA8 (cr c)] (.data (vB4 (vCP zeroQ f c))) := by
 have cm := vOI zeroQ f c 1 kf kc (zGV 1 (by decide)).2 hf.2 (zGV 1 (by decide)).1 hf.1 hc (by omega) (by simp [zeroQ]) hl1;rw [zDV] at cm;refine zAO vBC hT vTC (by simp [vB4]) ?_;refine sts ?_;refine zAA cm rfl ?_;refine sts ?_;exact zAB rfl rfl
end Go.PI.Tryz
