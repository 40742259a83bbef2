/-
  Affine forms: Add, Sub, Scale, Eval.
-/
import Derived.Test.YtdgckinmcnjheaaGreatCIB
import Derived.Test.YtdgckinmcnjheaaGreatCPD
set_option linter.unusedVariables false
set_option linter.unusedSimpArgs false
set_option linter.unnecessarySimpa false
namespace Go.PI.Tryz
open Go.Proofs Go.PI
theorem vSS : FO 79 Tryz.f79 [.tmp 4] 56 := mkO Tryz.func79 Tryz.ntmps79 Tryz.results79
theorem zK0 (f : AffL) (n : Int) (hf : okA 2147483596 f) : Fn 79 [vBD f, .int .i64 n] (.data (.bool (vCB f n))) := by
 obtain ⟨hc, ht, hl⟩ := hf;refine zAN vA6 hT vSS (by simp [vBD]) ?_;refine sts ?_
 refine zAG hT (fun (i : Nat) => [(1, .int .i64 n), (2, .ptr 0 0 0), (8, .imm (f.terms.map vBW)), (9, .int .i64 f.terms.length), (10, .int .i64 i)]) (fun _ => [(0, ⟨[vBD f], 4, true⟩)]) [] 1
  (fun i => i ≤ f.terms.length ∧ ∀ j, j < i → okT f.terms n j) (fun i => f.terms.length - i) 0 ⟨Nat.zero_le _, fun j h => (by omega)⟩ (by decide) (by simp) ?_ ?_
 ·exact ⟨[0], [], [], [], ttt, ⟨zAC rfl rfl, apx, zAE rfl rfl, zAC rfl (by simp), zAC rfl rfl, trivial⟩, ⟨bbx, trivial⟩, by simp [ren]⟩
 intro i ⟨i1, i2⟩;have hcv := zKZ f.const hc.1 (by have := hc.2; omega) (by have := hc.2; omega);by_cases hi : i < f.terms.length
 ·have hq := vS7 (f := f) ⟨hc, ht, hl⟩ hi
  have cs := zDR f.terms[i]!.coef hq.1 (by have := hq.2; omega);have cv := zKZ f.terms[i]!.coef hq.1 (by have := hq.2; omega) (by have := hq.2; omega)
  (repeat' (first|refine stp ?_|with_reducible(refine brr ?_ ?_<;>intro h)));all_goals try(conv=>whnf)
  ·exact zAB rfl (congrArg PV.bool (zBO (i := i) (by omega) fun e => by have := e.1; omega))
  ·exact zAB rfl (congrArg PV.bool (zBO (i := i) (by omega) fun e => by have := e.2.1; omega))
  ·refine zA4 (j := i - 1) (by omega) (by omega) ?_
   (repeat' (first|refine stp ?_|with_reducible(refine brr ?_ ?_<;>intro h)));all_goals try(conv=>whnf)
   ·exact zAB rfl (congrArg PV.bool (zBO (i := i) (by omega) fun e => by have := e.2.2.1 (by omega); omega))
   refine zAA cs rfl ?_
   (repeat' (first|refine stp ?_|with_reducible(refine brr ?_ ?_<;>intro h)));all_goals try(conv=>whnf)
   ·exact zAB rfl (congrArg PV.bool (zBO (i := i) (by omega) fun e => e.2.2.2.1 (sgnQ_zero.1 h)))
   ·refine zAA cv rfl ?_
    (repeat' (first|refine stp ?_|with_reducible(refine brr ?_ ?_<;>intro h)));all_goals try(conv=>whnf)
    ·refine ⟨i + 1, ⟨⟨by omega, fun j hj => ?_⟩, by show f.terms.length - (i + 1) < f.terms.length - i; omega⟩, [0], [], [], [], ttt, ⟨zAC rfl rfl, apx, zAE rfl rfl, zAC rfl rfl, zAC rfl (by omega), trivial⟩, ⟨bbx, trivial⟩, by simp [ren]⟩
     rcases Nat.lt_or_eq_of_le (Nat.le_of_lt_succ hj) with hj | rfl
     ·exact i2 j hj
     ·exact ⟨by omega, by omega, fun h0 => by omega, fun e => by have := sgnQ_zero.2 e; omega, h⟩
    ·exact zAB rfl (congrArg PV.bool (zBO (i := i) (by omega) fun e => h e.2.2.2.2))
  ·refine zAA cs rfl ?_
   (repeat' (first|refine stp ?_|with_reducible(refine brr ?_ ?_<;>intro h)));all_goals try(conv=>whnf)
   ·exact zAB rfl (congrArg PV.bool (zBO (i := i) (by omega) fun e => e.2.2.2.1 (sgnQ_zero.1 h)))
   ·refine zAA cv rfl ?_
    (repeat' (first|refine stp ?_|with_reducible(refine brr ?_ ?_<;>intro h)));all_goals try(conv=>whnf)
    ·refine ⟨i + 1, ⟨⟨by omega, fun j hj => ?_⟩, by show f.terms.length - (i + 1) < f.terms.length - i; omega⟩, [0], [], [], [], ttt, ⟨zAC rfl rfl, apx, zAE rfl rfl, zAC rfl rfl, zAC rfl (by omega), trivial⟩, ⟨bbx, trivial⟩, by simp [ren]⟩
     rcases Nat.lt_or_eq_of_le (Nat.le_of_lt_succ hj) with hj | rfl
     ·exact i2 j hj
     ·exact ⟨by omega, by omega, fun h0 => by omega, fun e => by have := sgnQ_zero.2 e; omega, h⟩
    ·exact zAB rfl (congrArg PV.bool (zBO (i := i) (by omega) fun e => h e.2.2.2.2))
  ·omega
 ·(repeat' (first|refine stp ?_|with_reducible(refine brr ?_ ?_<;>intro h)));all_goals try(conv=>whnf)
  all_goals try (exfalso; omega)
  refine zAA hcv rfl ?_;refine sts ?_;exact zAB rfl (congrArg PV.bool (zM4 fun j hj => i2 j (by omega)))
def vXG (n : Nat) (c : Rat) : PV := .agg [.own 0 0 n, .bool (cr c).neg, vA9 (cr c).num, vA9 (cr c).den]
def uJ8 (c : Rat) : PV := .agg [.nilsl, .bool (cr c).neg, vA9 (cr c).num, vA9 (cr c).den]
def vHX (O : List QT) : Blk := ⟨O.map vDA, 4, true⟩
theorem vFS (O : List QT) (c : Rat) : vEP (vHX O) (vXG O.length c) := by
 refine Or.inl ⟨fun x hx => ?_, ?_⟩
 ·simp only [vXG, vBJ, List.mem_cons, List.not_mem_nil, or_false] at hx
  rcases hx with rfl | rfl | rfl | rfl
  ·left; simp [vHX]
  all_goals right; rfl
 ·simp [vXG, vBJ, vHX]
theorem zA3 (O : List QT) : ∀ e ∈ O.map vDA, nr 3 e = true ∧ e ≠ .any := zAW fun x => ⟨rfl, by simp [vDA, vBW]⟩
theorem vSU : FO 187 Tryz.f187 [.cell 6 37] 20 := mkO Tryz.func187 Tryz.ntmps187 Tryz.results187
theorem zEQ (O : List QT) (c : Rat) (v : Int) (q : Rat) (k : Nat) (hq : sz k q) (hk : k ≤ 2147483596) (hO : O.length < 2147483648) : Fn 187 [vXG O.length c, .int .i64 v, vAZ (cr q)] (.own (some (vHX O)) (vXG (O ++ nzq v q).length c) (vHX (O ++ nzq v q))) := by
 have hl := zAL hq;have cs := zDR (cr q) (zAI q) (by omega);have cc := zCP (cr q) (zAI q) (by omega) (by omega);rw [zAQ] at cs cc;refine vIQ vA6 hT vSU (by simp) ?_;refine sts ?_;refine zAA cs rfl ?_
 (repeat' (first|refine stp ?_|with_reducible(refine brr ?_ ?_<;>intro h)));all_goals try(conv=>whnf)
 ·rw [zNJ fun e => h (sgnQ_zero.2 e)]
  refine zAA cc rfl ?_;refine sts ?_;refine zBL ⟨rfl, by simp [vHX], by simp; omega⟩ ?_;refine sts ?_;refine zFU (r := 14) ?_ rfl ?_ rfl (fun e he => (zA3 _ e he).1) (vFS _ c)
  ·simp [vXG, rk, rk1]
  ·simp [vHX, vDA, vBW, tQ]
 ·rw [show q = 0 from sgnQ_zero.1 h, zKN, List.append_nil]
  exact zFU (r := 0) rfl rfl rfl rfl (fun e he => (zA3 _ e he).1) (vFS _ c)
theorem zER (c : Rat) (v : Int) (q : Rat) (k : Nat) (hq : sz k q) (hk : k ≤ 2147483596) : Fn 187 [uJ8 c, .int .i64 v, vAZ (cr q)] (.own none (vXG (nzq v q).length c) (vHX (nzq v q))) := by
 have hl := zAL hq;have cs := zDR (cr q) (zAI q) (by omega);have cc := zCP (cr q) (zAI q) (by omega) (by omega);rw [zAQ] at cs cc;refine zGK vA6 hT vSU (by simp) ?_;refine sts ?_;refine zAA cs rfl ?_
 (repeat' (first|refine stp ?_|with_reducible(refine brr ?_ ?_<;>intro h)));all_goals try(conv=>whnf)
 ·rw [zNJ fun e => h (sgnQ_zero.2 e)]
  refine zAA cc rfl ?_;refine sts ?_;refine zFU (r := 14) ?_ rfl ?_ rfl (fun e he => (zA3 _ e he).1) (vFS _ c)
  ·simp [vXG, rk, rk1]
  ·simp [vDA, vBW, tQ]
 ·rw [show q = 0 from sgnQ_zero.1 h, zKN]
  exact vMG rfl rfl (vFS [] c)
def grF : Bool → Nat → Rat → PV
 | true, n, c => vXG n c
 | false, _, c => uJ8 c
def grH : Bool → List QT → List (Nat × Blk)
 | true, O => [(0, vHX O)]
 | false, _ => []
def vP9 : PV := .agg [.nilsl, .bool false, .nilsl, .nilsl]
theorem zBM (v : Int) (x : Rat) : (nzq v x).length ≤ 1 := by unfold nzq; split <;> simp
theorem zFX {h : Hp} {n : Nat} (x : QT) : frz h (n + 1) (vDA x) = some (vDA x, []) := by cases n <;> rfl
theorem zC8 (p : QT) (a : List QT) : (((p :: a).length : Nat) : Int) > 0 := by rw [List.length_cons]; omega
theorem vSV : FO 150 Tryz.f150 [.cell 6 37] 113 := mkO Tryz.func150 Tryz.ntmps150 Tryz.results150
set_option maxHeartbeats 1000000 in
theorem vNP (f g : QF) (c : Rat) (kf kg kc : Nat) (hf : ∀ p ∈ f.ts, sz kf p.2) (hg : ∀ p ∈ g.ts, sz kg p.2) (hfc : sz kf f.c) (hgc : sz kg g.c) (hc : sz kc c) (hk : kf + kg + kc ≤ 950000000) (hl1 : f.ts.length ≤ 1048576) (hl2 : g.ts.length ≤ 1048576) :
 Fn 150 [vA5 f, vA5 g, vAZ (cr c)] (.data (vA5 (vA3 f g c))) := by
 have q1 := zAL hfc;have q2 := zAL hgc;have q3 := zAL hc;have m0 := zB6 hgc hc;have q4 := zAL m0;have cm := zF3 (cr g.c) (cr c) (zAI _) (zAI _) (by omega) (by omega) (by omega) (by omega);rw [zAQ, zAQ] at cm;have ca := zGP (cr f.c) (cr (g.c * c)) (zAI _) (zAI _) (by omega) (by omega) (by omega) (by omega);rw [zAQ, zAQ] at ca;refine zAN vA6 hT vSV (by simp [vA5]) ?_;refine sts ?_;refine zAA cm rfl ?_;refine sts ?_;refine zAA ca rfl ?_;refine sts ?_;obtain ⟨C, hC⟩ : ∃ C, f.c + g.c * c = C := ⟨_, rfl⟩;obtain ⟨M, hM⟩ : ∃ M, mrg c f.ts g.ts = M := ⟨_, rfl⟩;unfold vA3;rw [hM];simp only [hC];clear ca cm
 refine zAG hT (fun ((a, b, O, s) : List QT × List QT × List QT × Bool) => [(5, .ptr 1 0 0), (6, .ptr 2 0 0), (7, .ptr 3 0 0), (8, .imm (a.map vDA)), (9, .imm (b.map vDA))])
  (fun (a, b, O, s) => (1, ⟨[vAZ (cr c)], 3, true⟩) :: (2, ⟨[vP9], 4, true⟩) :: (3, ⟨[grF s O.length C], 4, true⟩) :: grH s O) [] 4
  (fun (a, b, O, s) => (s = false → O = []) ∧ O ++ mrg c a b = M ∧ (∀ p ∈ a, sz kf p.2) ∧ (∀ p ∈ b, sz kg p.2) ∧ a.length + b.length + O.length ≤ 2147483648)
  (fun (a, b, _, _) => a.length + b.length) (f.ts, g.ts, [], false) ⟨fun _ => rfl, hM, hf, hg, by simp; omega⟩ (by decide) (by simp) ?_ ?_
 ·exact ⟨[0, 2, 3, 12], [], [], [], ttt, ⟨apx, apx, apx, zAE rfl rfl, zAE rfl rfl, trivial⟩,
   ⟨bbx, bbx, bbx, trivial⟩, by simp [ren, grH]⟩
 intro ⟨a, b, O, s⟩ ⟨i1, i2, i3, i4, i5⟩;rcases a with _ | ⟨p, a⟩ <;> rcases b with _ | ⟨q, b⟩ <;> cases s
 ·refine sts ?_
  rw [mrg, List.append_nil] at i2;have hO := i1 rfl;subst hO;subst i2;exact zAB rfl rfl
 ·refine sts ?_
  rw [mrg, List.append_nil] at i2;subst i2;exact zAB (zC7 (zAP (zAH rfl rfl rfl (fun x => zFX x)) rfl)) rfl
 ·(repeat' (first|refine stp ?_|with_reducible(refine brr ?_ ?_<;>intro h)));all_goals try(conv=>whnf)
  ·have hq := i4 q (by simp)
   have hqc := zB6 hq hc;have l1 := zAL hq;have cm := zF3 (cr q.2) (cr c) (zAI _) (zAI _) (by omega) (by omega) (by omega) (by omega);rw [zAQ, zAQ] at cm;refine zAA cm rfl ?_;refine sts ?_;refine zBI (zER C q.1 (q.2 * c) _ hqc (by omega)) rfl ?_;refine sts ?_;refine zCY (l' := b) (by simp) ?_;refine sts ?_;have nl := zBM q.1 (q.2 * c)
   exact ⟨([], b, nzq q.1 (q.2 * c), true), ⟨⟨by simp, by rw [mrg] at i2; rw [i1 rfl, List.nil_append] at i2; exact i2, fun r hr => i3 r (by simp_all), fun r hr => i4 r (by simp_all), by simp at i5 ⊢; omega⟩, by simp; try omega⟩, [_, _, _, _], [], [], [], ttt, ⟨(apy rfl), (apy rfl), (apy rfl), zAE rfl rfl, zAE rfl rfl, trivial⟩,
    ⟨bbx, bbx, zA8 (by decide) rfl ⟨⟨by decide, rfl⟩, rfl, rfl, rfl, trivial⟩ rfl rfl, zAD (by decide) rfl rfl (zA3 _) rfl, trivial⟩, by simp [ren, grH]⟩
  ·exact absurd h (by simp)
 ·(repeat' (first|refine stp ?_|with_reducible(refine brr ?_ ?_<;>intro h)));all_goals try(conv=>whnf)
  ·have hq := i4 q (by simp)
   have hqc := zB6 hq hc;have l1 := zAL hq;have cm := zF3 (cr q.2) (cr c) (zAI _) (zAI _) (by omega) (by omega) (by omega) (by omega);rw [zAQ, zAQ] at cm;refine zAA cm rfl ?_;refine sts ?_;refine zBQ (r := 0) (zEQ O C q.1 (q.2 * c) _ hqc (by omega) (by omega)) rfl rfl rfl rfl (zA7 (zA3 O)) ?_;refine sts ?_;refine zCY (l' := b) (by simp) ?_;refine sts ?_;have nl := zBM q.1 (q.2 * c)
   exact ⟨([], b, O ++ nzq q.1 (q.2 * c), true), ⟨⟨by simp, by rw [mrg] at i2; rw [List.append_assoc]; exact i2, fun r hr => i3 r (by simp_all), fun r hr => i4 r (by simp_all), by simp at i5 ⊢; omega⟩, by simp; try omega⟩, [_, _, _, _], [], [], [], ttt, ⟨(apy rfl), (apy rfl), (apy rfl), zAE rfl rfl, zAE rfl rfl, trivial⟩,
    ⟨bbx, bbx, zA8 (by decide) rfl ⟨⟨by decide, rfl⟩, rfl, rfl, rfl, trivial⟩ rfl rfl, zAD (by decide) rfl rfl (zA3 _) rfl, trivial⟩, by simp [ren, grH]⟩
  ·exact absurd h (by simp)
 ·(repeat' (first|refine stp ?_|with_reducible(refine brr ?_ ?_<;>intro h)));all_goals try(conv=>whnf)
  ·have hp := i3 p (by simp)
   refine zBI (zER C p.1 p.2 _ hp (by omega)) rfl ?_;refine sts ?_;refine zCY (l' := a) (by simp) ?_;refine sts ?_;have nl := zBM p.1 p.2
   exact ⟨(a, [], nzq p.1 p.2, true), ⟨⟨by simp, by rw [mrg] at i2; rw [i1 rfl, List.nil_append] at i2; exact i2, fun r hr => i3 r (by simp_all), fun r hr => i4 r (by simp_all), by simp at i5 ⊢; omega⟩, by simp; try omega⟩, [_, _, _, _], [], [], [], ttt, ⟨(apy rfl), (apy rfl), (apy rfl), zAE rfl rfl, zAE rfl rfl, trivial⟩,
    ⟨bbx, bbx, zA8 (by decide) rfl ⟨⟨by decide, rfl⟩, rfl, rfl, rfl, trivial⟩ rfl rfl, zAD (by decide) rfl rfl (zA3 _) rfl, trivial⟩, by simp [ren, grH]⟩
  all_goals first | contradiction | exact absurd (zC8 _ _) h | exact absurd (zC8 p a) (by assumption) | exact absurd (zC8 q b) (by assumption)
 ·(repeat' (first|refine stp ?_|with_reducible(refine brr ?_ ?_<;>intro h)));all_goals try(conv=>whnf)
  ·have hp := i3 p (by simp)
   refine zBQ (r := 0) (zEQ O C p.1 p.2 _ hp (by omega) (by omega)) rfl rfl rfl rfl (zA7 (zA3 O)) ?_;refine sts ?_;refine zCY (l' := a) (by simp) ?_;refine sts ?_;have nl := zBM p.1 p.2
   exact ⟨(a, [], O ++ nzq p.1 p.2, true), ⟨⟨by simp, by rw [mrg] at i2; rw [List.append_assoc]; exact i2, fun r hr => i3 r (by simp_all), fun r hr => i4 r (by simp_all), by simp at i5 ⊢; omega⟩, by simp; try omega⟩, [_, _, _, _], [], [], [], ttt, ⟨(apy rfl), (apy rfl), (apy rfl), zAE rfl rfl, zAE rfl rfl, trivial⟩,
    ⟨bbx, bbx, zA8 (by decide) rfl ⟨⟨by decide, rfl⟩, rfl, rfl, rfl, trivial⟩ rfl rfl, zAD (by decide) rfl rfl (zA3 _) rfl, trivial⟩, by simp [ren, grH]⟩
  all_goals first | contradiction | exact absurd (zC8 _ _) h | exact absurd (zC8 p a) (by assumption) | exact absurd (zC8 q b) (by assumption)
 ·(repeat' (first|refine stp ?_|with_reducible(refine brr ?_ ?_<;>intro h)));all_goals try(conv=>whnf)
  ·have hp := i3 p (by simp)
   refine zBI (zER C p.1 p.2 _ hp (by omega)) rfl ?_;refine sts ?_;refine zCY (l' := a) (by simp) ?_;refine sts ?_;have nl := zBM p.1 p.2
   exact ⟨(a, q :: b, nzq p.1 p.2, true), ⟨⟨by simp, by rw [mrg, if_pos (show p.1 < q.1 from h)] at i2; rw [i1 rfl, List.nil_append] at i2; exact i2, fun r hr => i3 r (by simp_all), fun r hr => i4 r (by simp_all), by simp at i5 ⊢; omega⟩, by simp; try omega⟩, [_, _, _, _], [], [], [], ttt, ⟨(apy rfl), (apy rfl), (apy rfl), zAE rfl rfl, zAE rfl rfl, trivial⟩,
    ⟨bbx, bbx, zA8 (by decide) rfl ⟨⟨by decide, rfl⟩, rfl, rfl, rfl, trivial⟩ rfl rfl, zAD (by decide) rfl rfl (zA3 _) rfl, trivial⟩, by simp [ren, grH]⟩
  ·have hq := i4 q (by simp)
   have hqc := zB6 hq hc;have l1 := zAL hq;have cm := zF3 (cr q.2) (cr c) (zAI _) (zAI _) (by omega) (by omega) (by omega) (by omega);rw [zAQ, zAQ] at cm;refine zAA cm rfl ?_;refine sts ?_;refine zBI (zER C q.1 (q.2 * c) _ hqc (by omega)) rfl ?_;refine sts ?_;refine zCY (l' := b) (by simp) ?_;refine sts ?_;have nl := zBM q.1 (q.2 * c)
   exact ⟨(p :: a, b, nzq q.1 (q.2 * c), true), ⟨⟨by simp, by rw [mrg, if_neg (show ¬ p.1 < q.1 from ‹¬ (tQ p).var < (tQ q).var›), if_pos (show q.1 < p.1 from h)] at i2; rw [i1 rfl, List.nil_append] at i2; exact i2, fun r hr => i3 r (by simp_all), fun r hr => i4 r (by simp_all), by simp at i5 ⊢; omega⟩, by simp; try omega⟩, [_, _, _, _], [], [], [], ttt, ⟨(apy rfl), (apy rfl), (apy rfl), zAE rfl rfl, zAE rfl rfl, trivial⟩,
    ⟨bbx, bbx, zA8 (by decide) rfl ⟨⟨by decide, rfl⟩, rfl, rfl, rfl, trivial⟩ rfl rfl, zAD (by decide) rfl rfl (zA3 _) rfl, trivial⟩, by simp [ren, grH]⟩
  ·have hq := i4 q (by simp)
   have hqc := zB6 hq hc;have l1 := zAL hq;have cm := zF3 (cr q.2) (cr c) (zAI _) (zAI _) (by omega) (by omega) (by omega) (by omega);rw [zAQ, zAQ] at cm;have hp := i3 p (by simp);have hpq := zBY hp hqc;have l2 := zAL hp;have l3 := zAL hqc;have ca := zGP (cr p.2) (cr (q.2 * c)) (zAI _) (zAI _) (by omega) (by omega) (by omega) (by omega);rw [zAQ, zAQ] at ca;refine zAA cm rfl ?_;refine sts ?_;refine zAA ca rfl ?_;refine sts ?_;refine zBI (zER C p.1 (p.2 + q.2 * c) _ hpq (by omega)) rfl ?_;refine sts ?_;refine zCY (l' := a) (by simp) ?_;refine sts ?_;refine zCY (l' := b) (by simp) ?_;refine sts ?_;have nl := zBM p.1 (p.2 + q.2 * c)
   exact ⟨(a, b, nzq p.1 (p.2 + q.2 * c), true), ⟨⟨by simp, by rw [mrg, if_neg (show ¬ p.1 < q.1 from ‹¬ (tQ p).var < (tQ q).var›), if_neg (show ¬ q.1 < p.1 from h)] at i2; rw [i1 rfl, List.nil_append] at i2; exact i2, fun r hr => i3 r (by simp_all), fun r hr => i4 r (by simp_all), by simp at i5 ⊢; omega⟩, by simp; try omega⟩, [_, _, _, _], [], [], [], ttt, ⟨(apy rfl), (apy rfl), (apy rfl), zAE rfl rfl, zAE rfl rfl, trivial⟩,
    ⟨bbx, bbx, zA8 (by decide) rfl ⟨⟨by decide, rfl⟩, rfl, rfl, rfl, trivial⟩ rfl rfl, zAD (by decide) rfl rfl (zA3 _) rfl, trivial⟩, by simp [ren, grH]⟩
  all_goals first | contradiction | exact absurd (zC8 _ _) h | exact absurd (zC8 p a) (by assumption) | exact absurd (zC8 q b) (by assumption)
 ·(repeat' (first|refine stp ?_|with_reducible(refine brr ?_ ?_<;>intro h)));all_goals try(conv=>whnf)
  ·have hp := i3 p (by simp)
   refine zBQ (r := 0) (zEQ O C p.1 p.2 _ hp (by omega) (by omega)) rfl rfl rfl rfl (zA7 (zA3 O)) ?_;refine sts ?_;refine zCY (l' := a) (by simp) ?_;refine sts ?_;have nl := zBM p.1 p.2
   exact ⟨(a, q :: b, O ++ nzq p.1 p.2, true), ⟨⟨by simp, by rw [mrg, if_pos (show p.1 < q.1 from h)] at i2; rw [List.append_assoc]; exact i2, fun r hr => i3 r (by simp_all), fun r hr => i4 r (by simp_all), by simp at i5 ⊢; omega⟩, by simp; try omega⟩, [_, _, _, _], [], [], [], ttt, ⟨(apy rfl), (apy rfl), (apy rfl), zAE rfl rfl, zAE rfl rfl, trivial⟩,
    ⟨bbx, bbx, zA8 (by decide) rfl ⟨⟨by decide, rfl⟩, rfl, rfl, rfl, trivial⟩ rfl rfl, zAD (by decide) rfl rfl (zA3 _) rfl, trivial⟩, by simp [ren, grH]⟩
  ·have hq := i4 q (by simp)
   have hqc := zB6 hq hc;have l1 := zAL hq;have cm := zF3 (cr q.2) (cr c) (zAI _) (zAI _) (by omega) (by omega) (by omega) (by omega);rw [zAQ, zAQ] at cm;refine zAA cm rfl ?_;refine sts ?_;refine zBQ (r := 0) (zEQ O C q.1 (q.2 * c) _ hqc (by omega) (by omega)) rfl rfl rfl rfl (zA7 (zA3 O)) ?_;refine sts ?_;refine zCY (l' := b) (by simp) ?_;refine sts ?_;have nl := zBM q.1 (q.2 * c)
   exact ⟨(p :: a, b, O ++ nzq q.1 (q.2 * c), true), ⟨⟨by simp, by rw [mrg, if_neg (show ¬ p.1 < q.1 from ‹¬ (tQ p).var < (tQ q).var›), if_pos (show q.1 < p.1 from h)] at i2; rw [List.append_assoc]; exact i2, fun r hr => i3 r (by simp_all), fun r hr => i4 r (by simp_all), by simp at i5 ⊢; omega⟩, by simp; try omega⟩, [_, _, _, _], [], [], [], ttt, ⟨(apy rfl), (apy rfl), (apy rfl), zAE rfl rfl, zAE rfl rfl, trivial⟩,
    ⟨bbx, bbx, zA8 (by decide) rfl ⟨⟨by decide, rfl⟩, rfl, rfl, rfl, trivial⟩ rfl rfl, zAD (by decide) rfl rfl (zA3 _) rfl, trivial⟩, by simp [ren, grH]⟩
  ·have hq := i4 q (by simp)
   have hqc := zB6 hq hc;have l1 := zAL hq;have cm := zF3 (cr q.2) (cr c) (zAI _) (zAI _) (by omega) (by omega) (by omega) (by omega);rw [zAQ, zAQ] at cm;have hp := i3 p (by simp);have hpq := zBY hp hqc;have l2 := zAL hp;have l3 := zAL hqc;have ca := zGP (cr p.2) (cr (q.2 * c)) (zAI _) (zAI _) (by omega) (by omega) (by omega) (by omega);rw [zAQ, zAQ] at ca;refine zAA cm rfl ?_;refine sts ?_;refine zAA ca rfl ?_;refine sts ?_;refine zBQ (r := 0) (zEQ O C p.1 (p.2 + q.2 * c) _ hpq (by omega) (by omega)) rfl rfl rfl rfl (zA7 (zA3 O)) ?_;refine sts ?_;refine zCY (l' := a) (by simp) ?_;refine sts ?_;refine zCY (l' := b) (by simp) ?_;refine sts ?_;have nl := zBM p.1 (p.2 + q.2 * c)
   exact ⟨(a, b, O ++ nzq p.1 (p.2 + q.2 * c), true), ⟨⟨by simp, by rw [mrg, if_neg (show ¬ p.1 < q.1 from ‹¬ (tQ p).var < (tQ q).var›), if_neg (show ¬ q.1 < p.1 from h)] at i2; rw [List.append_assoc]; exact i2, fun r hr => i3 r (by simp_all), fun r hr => i4 r (by simp_all), by simp at i5 ⊢; omega⟩, by simp; try omega⟩, [_, _, _, _], [], [], [], ttt, ⟨(apy rfl), (apy rfl), (apy rfl), zAE rfl rfl, zAE rfl rfl, trivial⟩,
    ⟨bbx, bbx, zA8 (by decide) rfl ⟨⟨by decide, rfl⟩, rfl, rfl, rfl, trivial⟩ rfl rfl, zAD (by decide) rfl rfl (zA3 _) rfl, trivial⟩, by simp [ren, grH]⟩
  all_goals first | contradiction | exact absurd (zC8 _ _) h | exact absurd (zC8 p a) (by assumption) | exact absurd (zC8 q b) (by assumption)
theorem uDW : FO 149 Tryz.f149 [.cell 4 37] 9 := mkO Tryz.func149 Tryz.ntmps149 Tryz.results149
theorem vVY (f g : QF) (kf kg : Nat) (hf : szF kf f) (hg : szF kg g) (hk : kf + kg ≤ 949999990) (hl1 : f.ts.length ≤ 1048576) (hl2 : g.ts.length ≤ 1048576) : Fn 149 [vA5 f, vA5 g] (.data (vA5 (vA3 f g 1))) := by
 have cm := vNP f g ((1 : Int) : Rat) kf kg 1 hf.2 hg.2 hf.1 hg.1 (zF6 (by decide)) (by omega) hl1 hl2;have co := vVL 1 (by decide);rw [Rat.intCast_one] at cm co;refine zAN vA6 hT uDW (by simp [vA5]) ?_;refine sts ?_;refine zAA co rfl ?_;refine sts ?_;refine zAA cm rfl ?_;refine sts ?_;exact zAB rfl rfl
theorem vST : FO 93 Tryz.f93 [.cell 4 37] 9 := mkO Tryz.func93 Tryz.ntmps93 Tryz.results93
theorem zIR (f : QF) (c : Rat) (kf kc : Nat) (hf : szF kf f) (hc : sz kc c) (hk : kf + kc ≤ 949999990) (hl1 : f.ts.length ≤ 1048576) : Fn 93 [vA5 f, vAZ (cr c)] (.data (vA5 (vA3 zeroQ f c))) := by
 have cm := vNP zeroQ f c 1 kf kc (zDT 1 (by decide)).2 hf.2 (zDT 1 (by decide)).1 hf.1 hc (by omega) (by simp [zeroQ]) hl1;rw [zMB] at cm;refine zAN vA6 hT vST (by simp [vA5]) ?_;refine sts ?_;refine zAA cm rfl ?_;refine sts ?_;exact zAB rfl rfl
theorem vFY : FO 82 Tryz.f82 [.cell 4 35, .tmp 5] 42 := mkO Tryz.func82 Tryz.ntmps82 Tryz.results82
theorem uFK (f : QF) (x : List Rat) (k kx : Nat) (hf : szF k f) (hx : ∀ q ∈ x, sz kx q) (hv : ∀ p ∈ f.ts, 0 ≤ p.1 ∧ p.1 < x.length) (hk : k + f.ts.length * (k + kx + 1) + k + kx ≤ 949999990) (hl : f.ts.length ≤ 1048576) (hxl : x.length ≤ 1048576) : Fn 82 [vA5 f, .imm (x.map vBF)] (.data (.tup [vAZ (cr (evQ f x)), .int .i64 0])) := by
 refine zAN vA6 hT vFY (by simp [vA5]) ?_;refine sts ?_
 refine zAG hT (fun ((i, y) : Nat × Rat) => [(1, .imm (x.map vBF)), (4, .ptr 0 0 0), (6, .ptr 1 0 0), (12, .imm (f.ts.map vDA)), (13, .int .i64 f.ts.length), (14, .int .i64 i)])
  (fun (_, y) => [(0, ⟨[.agg [.bool false, .nilsl, .nilsl]], 3, true⟩), (1, ⟨[vAZ (cr y)], 3, true⟩)]) [] 2
  (fun (i, y) => i ≤ f.ts.length ∧ y = ev1 x (f.ts.take i) f.c ∧ sz (k + i * (k + kx + 1)) y) (fun (i, _) => f.ts.length - i) (0, f.c) ⟨Nat.zero_le _, rfl, by simpa using hf.1⟩ (by decide) (by simp) ?_ ?_
 ·exact ⟨[_, _], [], [], [], ttt, ⟨zAE rfl rfl, (apy rfl), (apy rfl), zAE rfl rfl, zAC rfl (by simp), zAC rfl rfl, trivial⟩,
   ⟨bbx, bbx, trivial⟩, by simp [ren]⟩
 intro ⟨i, y⟩ ⟨i1, i2, i3⟩;by_cases hi : i < f.ts.length
 ·have hmem : f.ts[i]! ∈ f.ts := by rw [getElem!_pos f.ts i hi]; exact List.getElem_mem hi
  have hvi := hv _ hmem;have hp := hf.2 _ hmem;have hj : f.ts[i]!.1.toNat < x.length := by omega
  have hxm : x[f.ts[i]!.1.toNat]! ∈ x := by rw [getElem!_pos x _ hj]; exact List.getElem_mem hj
  have hxi := hx _ hxm;have hm := zB6 hp hxi;have hmul : (i + 1) * (k + kx + 1) ≤ f.ts.length * (k + kx + 1) := Nat.mul_le_mul_right _ (by omega);rw [Nat.add_mul] at hmul;have l1 := zAL hp;have l2 := zAL hxi;have l3 := zAL hm;have l4 := zAL i3;have cm := zF3 (cr f.ts[i]!.2) (cr x[f.ts[i]!.1.toNat]!) (zAI _) (zAI _) (by omega) (by omega) (by omega) (by omega);rw [zAQ, zAQ] at cm;have ca := zGP (cr y) (cr (f.ts[i]!.2 * x[f.ts[i]!.1.toNat]!)) (zAI _) (zAI _) (by omega) (by omega) (by omega) (by omega);rw [zAQ, zAQ] at ca;have hsz := zBE (show k + i * (k + kx + 1) + (k + kx) + 1 ≤ k + (i + 1) * (k + kx + 1) by rw [Nat.add_mul]; omega) (zBY i3 hm);have hy : ev1 x (f.ts.take (i + 1)) f.c = y + f.ts[i]!.2 * x[f.ts[i]!.1.toNat]! := by rw [zGZ x f.ts f.c i hi, i2]
  (repeat' (first|refine stp ?_|with_reducible(refine brr ?_ ?_<;>intro h)));all_goals try(conv=>whnf)
  ·exact absurd h (show ¬ f.ts[i]!.1 < 0 by omega)
  ·exact absurd h (show ¬ f.ts[i]!.1 ≥ (x.length : Int) by omega)
  ·refine zA4 (j := f.ts[i]!.1.toNat) (show f.ts[i]!.1 = _ by omega) hj ?_
   refine sts ?_;refine zAA cm rfl ?_;refine sts ?_;refine zAA ca rfl ?_;refine sts ?_
   exact ⟨(i + 1, y + f.ts[i]!.2 * x[f.ts[i]!.1.toNat]!), ⟨⟨by omega, hy.symm, hsz⟩, by show f.ts.length - (i + 1) < f.ts.length - i; omega⟩, [0, 1], [], [], [], ttt, ⟨zAE rfl rfl, apx, apx, zAE rfl rfl, zAC rfl rfl, zAC rfl (by omega), trivial⟩,
    ⟨bbx, bbx, trivial⟩, by simp [ren]⟩
  ·exact absurd (show (i : Int) < f.ts.length by omega) h
 ·have hmul : i * (k + kx + 1) ≤ f.ts.length * (k + kx + 1) := Nat.mul_le_mul_right _ (by omega)
  have e : y = evQ f x := by rw [i2, List.take_of_length_le (by omega)]; rfl
  have l4 := zAL i3;have cc := zCP (cr y) (zAI _) (by omega) (by omega);rw [zAQ] at cc
  (repeat' (first|refine stp ?_|with_reducible(refine brr ?_ ?_<;>intro h)));all_goals try(conv=>whnf)
  all_goals try (exfalso; omega)
  refine zAA cc rfl ?_;refine sts ?_;subst e;exact zAB rfl rfl
end Go.PI.Tryz
