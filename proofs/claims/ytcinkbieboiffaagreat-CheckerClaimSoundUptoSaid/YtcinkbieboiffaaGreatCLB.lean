/-
  Affine forms: Add, Sub, Scale, Eval.
-/
import Derived.Test.YtcinkbieboiffaaGreatCIB
import Derived.Test.YtcinkbieboiffaaGreatCPD
set_option linter.unusedVariables false
set_option linter.unusedSimpArgs false
set_option linter.unnecessarySimpa false
namespace Go.PI.Tryz
open Go.Proofs Go.PI
theorem ok_lvalid : FO 46 Tryz.f46 [.tmp 4] 56 := mkO Tryz.func46 Tryz.ntmps46 Tryz.results46
theorem zI9 (f : AffL) (n : Int) (hf : okA 2147483596 f) : Fn 46 [encAff f, .int .i64 n] (.data (.bool (validB f n))) := by
 obtain ⟨hc, ht, hl⟩ := hf;refine zAJ hmix hT ok_lvalid (by simp [encAff]) ?_;refine sts ?_
 refine zAL hT (fun (i : Nat) => [(1, .int .i64 n), (2, .ptr 0 0 0), (8, .imm (f.terms.map encTerm)), (9, .int .i64 f.terms.length), (10, .int .i64 i)]) (fun _ => [(0, ⟨[encAff f], 4, true⟩)]) [] 1
  (fun i => i ≤ f.terms.length ∧ ∀ j, j < i → okT f.terms n j) (fun i => f.terms.length - i) 0 ⟨Nat.zero_le _, fun j h => (by omega)⟩ (by decide) (by simp) ?_ ?_
 ·exact ⟨[0], [], [], [], ttt, ⟨zAC rfl rfl, apx, zAD rfl rfl, zAC rfl (by simp), zAC rfl rfl, trivial⟩, ⟨bbx, trivial⟩, by simp [ren]⟩
 intro i ⟨i1, i2⟩;have hcv := zFO f.const hc.1 (by have := hc.2; omega) (by have := hc.2; omega);by_cases hi : i < f.terms.length
 ·have hq := okA_get (f := f) ⟨hc, ht, hl⟩ hi
  have cs := zFD f.terms[i]!.coef hq.1 (by have := hq.2; omega);have cv := zFO f.terms[i]!.coef hq.1 (by have := hq.2; omega) (by have := hq.2; omega)
  (repeat' (first|refine stp ?_|with_reducible(refine brr ?_ ?_<;>intro h)));all_goals try(conv=>whnf)
  ·exact zAB rfl (congrArg PV.bool (zBM (i := i) (by omega) fun e => by have := e.1; omega))
  ·exact zAB rfl (congrArg PV.bool (zBM (i := i) (by omega) fun e => by have := e.2.1; omega))
  ·refine zAY (j := i - 1) (by omega) (by omega) ?_
   (repeat' (first|refine stp ?_|with_reducible(refine brr ?_ ?_<;>intro h)));all_goals try(conv=>whnf)
   ·exact zAB rfl (congrArg PV.bool (zBM (i := i) (by omega) fun e => by have := e.2.2.1 (by omega); omega))
   refine zAA cs rfl ?_
   (repeat' (first|refine stp ?_|with_reducible(refine brr ?_ ?_<;>intro h)));all_goals try(conv=>whnf)
   ·exact zAB rfl (congrArg PV.bool (zBM (i := i) (by omega) fun e => e.2.2.2.1 (sgnQ_zero.1 h)))
   ·refine zAA cv rfl ?_
    (repeat' (first|refine stp ?_|with_reducible(refine brr ?_ ?_<;>intro h)));all_goals try(conv=>whnf)
    ·refine ⟨i + 1, ⟨⟨by omega, fun j hj => ?_⟩, by show f.terms.length - (i + 1) < f.terms.length - i; omega⟩, [0], [], [], [], ttt, ⟨zAC rfl rfl, apx, zAD rfl rfl, zAC rfl rfl, zAC rfl (by omega), trivial⟩, ⟨bbx, trivial⟩, by simp [ren]⟩
     rcases Nat.lt_or_eq_of_le (Nat.le_of_lt_succ hj) with hj | rfl
     ·exact i2 j hj
     ·exact ⟨by omega, by omega, fun h0 => by omega, fun e => by have := sgnQ_zero.2 e; omega, h⟩
    ·exact zAB rfl (congrArg PV.bool (zBM (i := i) (by omega) fun e => h e.2.2.2.2))
  ·refine zAA cs rfl ?_
   (repeat' (first|refine stp ?_|with_reducible(refine brr ?_ ?_<;>intro h)));all_goals try(conv=>whnf)
   ·exact zAB rfl (congrArg PV.bool (zBM (i := i) (by omega) fun e => e.2.2.2.1 (sgnQ_zero.1 h)))
   ·refine zAA cv rfl ?_
    (repeat' (first|refine stp ?_|with_reducible(refine brr ?_ ?_<;>intro h)));all_goals try(conv=>whnf)
    ·refine ⟨i + 1, ⟨⟨by omega, fun j hj => ?_⟩, by show f.terms.length - (i + 1) < f.terms.length - i; omega⟩, [0], [], [], [], ttt, ⟨zAC rfl rfl, apx, zAD rfl rfl, zAC rfl rfl, zAC rfl (by omega), trivial⟩, ⟨bbx, trivial⟩, by simp [ren]⟩
     rcases Nat.lt_or_eq_of_le (Nat.le_of_lt_succ hj) with hj | rfl
     ·exact i2 j hj
     ·exact ⟨by omega, by omega, fun h0 => by omega, fun e => by have := sgnQ_zero.2 e; omega, h⟩
    ·exact zAB rfl (congrArg PV.bool (zBM (i := i) (by omega) fun e => h e.2.2.2.2))
  ·omega
 ·(repeat' (first|refine stp ?_|with_reducible(refine brr ?_ ?_<;>intro h)));all_goals try(conv=>whnf)
  all_goals try (exfalso; omega)
  refine zAA hcv rfl ?_;refine sts ?_;exact zAB rfl (congrArg PV.bool (zMY fun j hj => i2 j (by omega)))
end Go.PI.Tryz
namespace Go.PI.Tryz
open Go.Proofs Go.PI
def ownF (n : Nat) (c : Rat) : PV := .agg [.own 0 0 n, .bool (cr c).neg, encN (cr c).num, encN (cr c).den]
def nilF (c : Rat) : PV := .agg [.nilsl, .bool (cr c).neg, encN (cr c).num, encN (cr c).den]
def rowB (O : List QT) : Blk := ⟨O.map encQ, 4, true⟩
theorem ownF_ok (O : List QT) (c : Rat) : okRes (rowB O) (ownF O.length c) := by
 refine Or.inl ⟨fun x hx => ?_, ?_⟩
 ·simp only [ownF, resCells, List.mem_cons, List.not_mem_nil, or_false] at hx
  rcases hx with rfl | rfl | rfl | rfl
  ·left; simp [rowB]
  all_goals right; rfl
 ·simp [ownF, resCells, rowB]
theorem zA5 (O : List QT) : ∀ e ∈ O.map encQ, nr 3 e = true ∧ e ≠ .any := zAM fun x => ⟨rfl, by simp [encQ, encTerm]⟩
theorem ok_lput : FO 142 Tryz.f142 [.cell 6 34] 20 := mkO Tryz.func142 Tryz.ntmps142 Tryz.results142
theorem zFF (O : List QT) (c : Rat) (v : Int) (q : Rat) (k : Nat) (hq : sz k q) (hk : k ≤ 2147483596) (hO : O.length < 2147483648) : Fn 142 [ownF O.length c, .int .i64 v, encRat (cr q)] (.own (some (rowB O)) (ownF (O ++ nzq v q).length c) (rowB (O ++ nzq v q))) := by
 have hl := zA6 hq;have cs := zFD (cr q) (zA1 q) (by omega);have cc := zK1 (cr q) (zA1 q) (by omega) (by omega);rw [zBA] at cs cc;refine fnC_vtake hmix hT ok_lput (by simp) ?_;refine sts ?_;refine zAA cs rfl ?_
 (repeat' (first|refine stp ?_|with_reducible(refine brr ?_ ?_<;>intro h)));all_goals try(conv=>whnf)
 ·rw [zNC fun e => h (sgnQ_zero.2 e)]
  refine zAA cc rfl ?_;refine sts ?_;refine zA9 ⟨rfl, by simp [rowB], by simp; omega⟩ ?_;refine sts ?_;refine zJJ (r := 14) ?_ rfl ?_ rfl (fun e he => (zA5 _ e he).1) (ownF_ok _ c)
  ·simp [ownF, rk, rk1]
  ·simp [rowB, encQ, encTerm, tQ]
 ·rw [show q = 0 from sgnQ_zero.1 h, zKP, List.append_nil]
  exact zJJ (r := 0) rfl rfl rfl rfl (fun e he => (zA5 _ e he).1) (ownF_ok _ c)
theorem zFG (c : Rat) (v : Int) (q : Rat) (k : Nat) (hq : sz k q) (hk : k ≤ 2147483596) : Fn 142 [nilF c, .int .i64 v, encRat (cr q)] (.own none (ownF (nzq v q).length c) (rowB (nzq v q))) := by
 have hl := zA6 hq;have cs := zFD (cr q) (zA1 q) (by omega);have cc := zK1 (cr q) (zA1 q) (by omega) (by omega);rw [zBA] at cs cc;refine fnC_vgive hmix hT ok_lput (by simp) ?_;refine sts ?_;refine zAA cs rfl ?_
 (repeat' (first|refine stp ?_|with_reducible(refine brr ?_ ?_<;>intro h)));all_goals try(conv=>whnf)
 ·rw [zNC fun e => h (sgnQ_zero.2 e)]
  refine zAA cc rfl ?_;refine sts ?_;refine zJJ (r := 14) ?_ rfl ?_ rfl (fun e he => (zA5 _ e he).1) (ownF_ok _ c)
  ·simp [ownF, rk, rk1]
  ·simp [encQ, encTerm, tQ]
 ·rw [show q = 0 from sgnQ_zero.1 h, zKP]
  exact ownV_nil rfl rfl (ownF_ok [] c)
def grF : Bool → Nat → Rat → PV
 | true, n, c => ownF n c
 | false, _, c => nilF c
def grH : Bool → List QT → List (Nat × Blk)
 | true, O => [(0, rowB O)]
 | false, _ => []
def zeroF : PV := .agg [.nilsl, .bool false, .nilsl, .nilsl]
theorem zBK (v : Int) (x : Rat) : (nzq v x).length ≤ 1 := by unfold nzq; split <;> simp
theorem zHI {h : Hp} {n : Nat} (x : QT) : frz h (n + 1) (encQ x) = some (encQ x, []) := by cases n <;> rfl
theorem zC6 (p : QT) (a : List QT) : (((p :: a).length : Nat) : Int) > 0 := by rw [List.length_cons]; omega
theorem ok_lmerge : FO 112 Tryz.f112 [.cell 6 34] 113 := mkO Tryz.func112 Tryz.ntmps112 Tryz.results112
set_option maxHeartbeats 1000000 in
theorem c_lmerge (f g : QF) (c : Rat) (kf kg kc : Nat) (hf : ∀ p ∈ f.ts, sz kf p.2) (hg : ∀ p ∈ g.ts, sz kg p.2) (hfc : sz kf f.c) (hgc : sz kg g.c) (hc : sz kc c) (hk : kf + kg + kc ≤ 950000000) (hl1 : f.ts.length ≤ 1048576) (hl2 : g.ts.length ≤ 1048576) :
 Fn 112 [encF f, encF g, encRat (cr c)] (.data (encF (mergeQ f g c))) := by
 have q1 := zA6 hfc;have q2 := zA6 hgc;have q3 := zA6 hc;have m0 := zDH hgc hc;have q4 := zA6 m0;have cm := zMF (cr g.c) (cr c) (zA1 _) (zA1 _) (by omega) (by omega) (by omega) (by omega);rw [zBA, zBA] at cm;have ca := c_qadd (cr f.c) (cr (g.c * c)) (zA1 _) (zA1 _) (by omega) (by omega) (by omega) (by omega);rw [zBA, zBA] at ca;refine zAJ hmix hT ok_lmerge (by simp [encF]) ?_;refine sts ?_;refine zAA cm rfl ?_;refine sts ?_;refine zAA ca rfl ?_;refine sts ?_;obtain ⟨C, hC⟩ : ∃ C, f.c + g.c * c = C := ⟨_, rfl⟩;obtain ⟨M, hM⟩ : ∃ M, mrg c f.ts g.ts = M := ⟨_, rfl⟩;unfold mergeQ;rw [hM];simp only [hC];clear ca cm
 refine zAL hT (fun ((a, b, O, s) : List QT × List QT × List QT × Bool) => [(5, .ptr 1 0 0), (6, .ptr 2 0 0), (7, .ptr 3 0 0), (8, .imm (a.map encQ)), (9, .imm (b.map encQ))])
  (fun (a, b, O, s) => (1, ⟨[encRat (cr c)], 3, true⟩) :: (2, ⟨[zeroF], 4, true⟩) :: (3, ⟨[grF s O.length C], 4, true⟩) :: grH s O) [] 4
  (fun (a, b, O, s) => (s = false → O = []) ∧ O ++ mrg c a b = M ∧ (∀ p ∈ a, sz kf p.2) ∧ (∀ p ∈ b, sz kg p.2) ∧ a.length + b.length + O.length ≤ 2147483648)
  (fun (a, b, _, _) => a.length + b.length) (f.ts, g.ts, [], false) ⟨fun _ => rfl, hM, hf, hg, by simp; omega⟩ (by decide) (by simp) ?_ ?_
 ·exact ⟨[0, 2, 3, 12], [], [], [], ttt, ⟨apx, apx, apx, zAD rfl rfl, zAD rfl rfl, trivial⟩,
   ⟨bbx, bbx, bbx, trivial⟩, by simp [ren, grH]⟩
 intro ⟨a, b, O, s⟩ ⟨i1, i2, i3, i4, i5⟩;rcases a with _ | ⟨p, a⟩ <;> rcases b with _ | ⟨q, b⟩ <;> cases s
 ·refine sts ?_
  rw [mrg, List.append_nil] at i2;have hO := i1 rfl;subst hO;subst i2;exact zAB rfl rfl
 ·refine sts ?_
  rw [mrg, List.append_nil] at i2;subst i2;exact zAB (zEL (zAF (zAN rfl rfl rfl (fun x => zHI x)) rfl)) rfl
 ·(repeat' (first|refine stp ?_|with_reducible(refine brr ?_ ?_<;>intro h)));all_goals try(conv=>whnf)
  ·have hq := i4 q (by simp)
   have hqc := zDH hq hc;have l1 := zA6 hq;have cm := zMF (cr q.2) (cr c) (zA1 _) (zA1 _) (by omega) (by omega) (by omega) (by omega);rw [zBA, zBA] at cm;refine zAA cm rfl ?_;refine sts ?_;refine zB0 (zFG C q.1 (q.2 * c) _ hqc (by omega)) rfl ?_;refine sts ?_;refine zCY (l' := b) (by simp) ?_;refine sts ?_;have nl := zBK q.1 (q.2 * c)
   exact ⟨([], b, nzq q.1 (q.2 * c), true), ⟨⟨by simp, by rw [mrg] at i2; rw [i1 rfl, List.nil_append] at i2; exact i2, fun r hr => i3 r (by simp_all), fun r hr => i4 r (by simp_all), by simp at i5 ⊢; omega⟩, by simp; try omega⟩, [_, _, _, _], [], [], [], ttt, ⟨(apy rfl), (apy rfl), (apy rfl), zAD rfl rfl, zAD rfl rfl, trivial⟩,
    ⟨bbx, bbx, zAR (by decide) rfl ⟨⟨by decide, rfl⟩, rfl, rfl, rfl, trivial⟩ rfl rfl, zAE (by decide) rfl rfl (zA5 _) rfl, trivial⟩, by simp [ren, grH]⟩
  ·exact absurd h (by simp)
 ·(repeat' (first|refine stp ?_|with_reducible(refine brr ?_ ?_<;>intro h)));all_goals try(conv=>whnf)
  ·have hq := i4 q (by simp)
   have hqc := zDH hq hc;have l1 := zA6 hq;have cm := zMF (cr q.2) (cr c) (zA1 _) (zA1 _) (by omega) (by omega) (by omega) (by omega);rw [zBA, zBA] at cm;refine zAA cm rfl ?_;refine sts ?_;refine zBO (r := 0) (zFF O C q.1 (q.2 * c) _ hqc (by omega) (by omega)) rfl rfl rfl rfl (zE3 (zA5 O)) ?_;refine sts ?_;refine zCY (l' := b) (by simp) ?_;refine sts ?_;have nl := zBK q.1 (q.2 * c)
   exact ⟨([], b, O ++ nzq q.1 (q.2 * c), true), ⟨⟨by simp, by rw [mrg] at i2; rw [List.append_assoc]; exact i2, fun r hr => i3 r (by simp_all), fun r hr => i4 r (by simp_all), by simp at i5 ⊢; omega⟩, by simp; try omega⟩, [_, _, _, _], [], [], [], ttt, ⟨(apy rfl), (apy rfl), (apy rfl), zAD rfl rfl, zAD rfl rfl, trivial⟩,
    ⟨bbx, bbx, zAR (by decide) rfl ⟨⟨by decide, rfl⟩, rfl, rfl, rfl, trivial⟩ rfl rfl, zAE (by decide) rfl rfl (zA5 _) rfl, trivial⟩, by simp [ren, grH]⟩
  ·exact absurd h (by simp)
 ·(repeat' (first|refine stp ?_|with_reducible(refine brr ?_ ?_<;>intro h)));all_goals try(conv=>whnf)
  ·have hp := i3 p (by simp)
   refine zB0 (zFG C p.1 p.2 _ hp (by omega)) rfl ?_;refine sts ?_;refine zCY (l' := a) (by simp) ?_;refine sts ?_;have nl := zBK p.1 p.2
   exact ⟨(a, [], nzq p.1 p.2, true), ⟨⟨by simp, by rw [mrg] at i2; rw [i1 rfl, List.nil_append] at i2; exact i2, fun r hr => i3 r (by simp_all), fun r hr => i4 r (by simp_all), by simp at i5 ⊢; omega⟩, by simp; try omega⟩, [_, _, _, _], [], [], [], ttt, ⟨(apy rfl), (apy rfl), (apy rfl), zAD rfl rfl, zAD rfl rfl, trivial⟩,
    ⟨bbx, bbx, zAR (by decide) rfl ⟨⟨by decide, rfl⟩, rfl, rfl, rfl, trivial⟩ rfl rfl, zAE (by decide) rfl rfl (zA5 _) rfl, trivial⟩, by simp [ren, grH]⟩
  all_goals first | contradiction | exact absurd (zC6 _ _) h | exact absurd (zC6 p a) (by assumption) | exact absurd (zC6 q b) (by assumption)
 ·(repeat' (first|refine stp ?_|with_reducible(refine brr ?_ ?_<;>intro h)));all_goals try(conv=>whnf)
  ·have hp := i3 p (by simp)
   refine zBO (r := 0) (zFF O C p.1 p.2 _ hp (by omega) (by omega)) rfl rfl rfl rfl (zE3 (zA5 O)) ?_;refine sts ?_;refine zCY (l' := a) (by simp) ?_;refine sts ?_;have nl := zBK p.1 p.2
   exact ⟨(a, [], O ++ nzq p.1 p.2, true), ⟨⟨by simp, by rw [mrg] at i2; rw [List.append_assoc]; exact i2, fun r hr => i3 r (by simp_all), fun r hr => i4 r (by simp_all), by simp at i5 ⊢; omega⟩, by simp; try omega⟩, [_, _, _, _], [], [], [], ttt, ⟨(apy rfl), (apy rfl), (apy rfl), zAD rfl rfl, zAD rfl rfl, trivial⟩,
    ⟨bbx, bbx, zAR (by decide) rfl ⟨⟨by decide, rfl⟩, rfl, rfl, rfl, trivial⟩ rfl rfl, zAE (by decide) rfl rfl (zA5 _) rfl, trivial⟩, by simp [ren, grH]⟩
  all_goals first | contradiction | exact absurd (zC6 _ _) h | exact absurd (zC6 p a) (by assumption) | exact absurd (zC6 q b) (by assumption)
 ·(repeat' (first|refine stp ?_|with_reducible(refine brr ?_ ?_<;>intro h)));all_goals try(conv=>whnf)
  ·have hp := i3 p (by simp)
   refine zB0 (zFG C p.1 p.2 _ hp (by omega)) rfl ?_;refine sts ?_;refine zCY (l' := a) (by simp) ?_;refine sts ?_;have nl := zBK p.1 p.2
   exact ⟨(a, q :: b, nzq p.1 p.2, true), ⟨⟨by simp, by rw [mrg, if_pos (show p.1 < q.1 from h)] at i2; rw [i1 rfl, List.nil_append] at i2; exact i2, fun r hr => i3 r (by simp_all), fun r hr => i4 r (by simp_all), by simp at i5 ⊢; omega⟩, by simp; try omega⟩, [_, _, _, _], [], [], [], ttt, ⟨(apy rfl), (apy rfl), (apy rfl), zAD rfl rfl, zAD rfl rfl, trivial⟩,
    ⟨bbx, bbx, zAR (by decide) rfl ⟨⟨by decide, rfl⟩, rfl, rfl, rfl, trivial⟩ rfl rfl, zAE (by decide) rfl rfl (zA5 _) rfl, trivial⟩, by simp [ren, grH]⟩
  ·have hq := i4 q (by simp)
   have hqc := zDH hq hc;have l1 := zA6 hq;have cm := zMF (cr q.2) (cr c) (zA1 _) (zA1 _) (by omega) (by omega) (by omega) (by omega);rw [zBA, zBA] at cm;refine zAA cm rfl ?_;refine sts ?_;refine zB0 (zFG C q.1 (q.2 * c) _ hqc (by omega)) rfl ?_;refine sts ?_;refine zCY (l' := b) (by simp) ?_;refine sts ?_;have nl := zBK q.1 (q.2 * c)
   exact ⟨(p :: a, b, nzq q.1 (q.2 * c), true), ⟨⟨by simp, by rw [mrg, if_neg (show ¬ p.1 < q.1 from ‹¬ (tQ p).var < (tQ q).var›), if_pos (show q.1 < p.1 from h)] at i2; rw [i1 rfl, List.nil_append] at i2; exact i2, fun r hr => i3 r (by simp_all), fun r hr => i4 r (by simp_all), by simp at i5 ⊢; omega⟩, by simp; try omega⟩, [_, _, _, _], [], [], [], ttt, ⟨(apy rfl), (apy rfl), (apy rfl), zAD rfl rfl, zAD rfl rfl, trivial⟩,
    ⟨bbx, bbx, zAR (by decide) rfl ⟨⟨by decide, rfl⟩, rfl, rfl, rfl, trivial⟩ rfl rfl, zAE (by decide) rfl rfl (zA5 _) rfl, trivial⟩, by simp [ren, grH]⟩
  ·have hq := i4 q (by simp)
   have hqc := zDH hq hc;have l1 := zA6 hq;have cm := zMF (cr q.2) (cr c) (zA1 _) (zA1 _) (by omega) (by omega) (by omega) (by omega);rw [zBA, zBA] at cm;have hp := i3 p (by simp);have hpq := zEC hp hqc;have l2 := zA6 hp;have l3 := zA6 hqc;have ca := c_qadd (cr p.2) (cr (q.2 * c)) (zA1 _) (zA1 _) (by omega) (by omega) (by omega) (by omega);rw [zBA, zBA] at ca;refine zAA cm rfl ?_;refine sts ?_;refine zAA ca rfl ?_;refine sts ?_;refine zB0 (zFG C p.1 (p.2 + q.2 * c) _ hpq (by omega)) rfl ?_;refine sts ?_;refine zCY (l' := a) (by simp) ?_;refine sts ?_;refine zCY (l' := b) (by simp) ?_;refine sts ?_;have nl := zBK p.1 (p.2 + q.2 * c)
   exact ⟨(a, b, nzq p.1 (p.2 + q.2 * c), true), ⟨⟨by simp, by rw [mrg, if_neg (show ¬ p.1 < q.1 from ‹¬ (tQ p).var < (tQ q).var›), if_neg (show ¬ q.1 < p.1 from h)] at i2; rw [i1 rfl, List.nil_append] at i2; exact i2, fun r hr => i3 r (by simp_all), fun r hr => i4 r (by simp_all), by simp at i5 ⊢; omega⟩, by simp; try omega⟩, [_, _, _, _], [], [], [], ttt, ⟨(apy rfl), (apy rfl), (apy rfl), zAD rfl rfl, zAD rfl rfl, trivial⟩,
    ⟨bbx, bbx, zAR (by decide) rfl ⟨⟨by decide, rfl⟩, rfl, rfl, rfl, trivial⟩ rfl rfl, zAE (by decide) rfl rfl (zA5 _) rfl, trivial⟩, by simp [ren, grH]⟩
  all_goals first | contradiction | exact absurd (zC6 _ _) h | exact absurd (zC6 p a) (by assumption) | exact absurd (zC6 q b) (by assumption)
 ·(repeat' (first|refine stp ?_|with_reducible(refine brr ?_ ?_<;>intro h)));all_goals try(conv=>whnf)
  ·have hp := i3 p (by simp)
   refine zBO (r := 0) (zFF O C p.1 p.2 _ hp (by omega) (by omega)) rfl rfl rfl rfl (zE3 (zA5 O)) ?_;refine sts ?_;refine zCY (l' := a) (by simp) ?_;refine sts ?_;have nl := zBK p.1 p.2
   exact ⟨(a, q :: b, O ++ nzq p.1 p.2, true), ⟨⟨by simp, by rw [mrg, if_pos (show p.1 < q.1 from h)] at i2; rw [List.append_assoc]; exact i2, fun r hr => i3 r (by simp_all), fun r hr => i4 r (by simp_all), by simp at i5 ⊢; omega⟩, by simp; try omega⟩, [_, _, _, _], [], [], [], ttt, ⟨(apy rfl), (apy rfl), (apy rfl), zAD rfl rfl, zAD rfl rfl, trivial⟩,
    ⟨bbx, bbx, zAR (by decide) rfl ⟨⟨by decide, rfl⟩, rfl, rfl, rfl, trivial⟩ rfl rfl, zAE (by decide) rfl rfl (zA5 _) rfl, trivial⟩, by simp [ren, grH]⟩
  ·have hq := i4 q (by simp)
   have hqc := zDH hq hc;have l1 := zA6 hq;have cm := zMF (cr q.2) (cr c) (zA1 _) (zA1 _) (by omega) (by omega) (by omega) (by omega);rw [zBA, zBA] at cm;refine zAA cm rfl ?_;refine sts ?_;refine zBO (r := 0) (zFF O C q.1 (q.2 * c) _ hqc (by omega) (by omega)) rfl rfl rfl rfl (zE3 (zA5 O)) ?_;refine sts ?_;refine zCY (l' := b) (by simp) ?_;refine sts ?_;have nl := zBK q.1 (q.2 * c)
   exact ⟨(p :: a, b, O ++ nzq q.1 (q.2 * c), true), ⟨⟨by simp, by rw [mrg, if_neg (show ¬ p.1 < q.1 from ‹¬ (tQ p).var < (tQ q).var›), if_pos (show q.1 < p.1 from h)] at i2; rw [List.append_assoc]; exact i2, fun r hr => i3 r (by simp_all), fun r hr => i4 r (by simp_all), by simp at i5 ⊢; omega⟩, by simp; try omega⟩, [_, _, _, _], [], [], [], ttt, ⟨(apy rfl), (apy rfl), (apy rfl), zAD rfl rfl, zAD rfl rfl, trivial⟩,
    ⟨bbx, bbx, zAR (by decide) rfl ⟨⟨by decide, rfl⟩, rfl, rfl, rfl, trivial⟩ rfl rfl, zAE (by decide) rfl rfl (zA5 _) rfl, trivial⟩, by simp [ren, grH]⟩
  ·have hq := i4 q (by simp)
   have hqc := zDH hq hc;have l1 := zA6 hq;have cm := zMF (cr q.2) (cr c) (zA1 _) (zA1 _) (by omega) (by omega) (by omega) (by omega);rw [zBA, zBA] at cm;have hp := i3 p (by simp);have hpq := zEC hp hqc;have l2 := zA6 hp;have l3 := zA6 hqc;have ca := c_qadd (cr p.2) (cr (q.2 * c)) (zA1 _) (zA1 _) (by omega) (by omega) (by omega) (by omega);rw [zBA, zBA] at ca;refine zAA cm rfl ?_;refine sts ?_;refine zAA ca rfl ?_;refine sts ?_;refine zBO (r := 0) (zFF O C p.1 (p.2 + q.2 * c) _ hpq (by omega) (by omega)) rfl rfl rfl rfl (zE3 (zA5 O)) ?_;refine sts ?_;refine zCY (l' := a) (by simp) ?_;refine sts ?_;refine zCY (l' := b) (by simp) ?_;refine sts ?_;have nl := zBK p.1 (p.2 + q.2 * c)
   exact ⟨(a, b, O ++ nzq p.1 (p.2 + q.2 * c), true), ⟨⟨by simp, by rw [mrg, if_neg (show ¬ p.1 < q.1 from ‹¬ (tQ p).var < (tQ q).var›), if_neg (show ¬ q.1 < p.1 from h)] at i2; rw [List.append_assoc]; exact i2, fun r hr => i3 r (by simp_all), fun r hr => i4 r (by simp_all), by simp at i5 ⊢; omega⟩, by simp; try omega⟩, [_, _, _, _], [], [], [], ttt, ⟨(apy rfl), (apy rfl), (apy rfl), zAD rfl rfl, zAD rfl rfl, trivial⟩,
    ⟨bbx, bbx, zAR (by decide) rfl ⟨⟨by decide, rfl⟩, rfl, rfl, rfl, trivial⟩ rfl rfl, zAE (by decide) rfl rfl (zA5 _) rfl, trivial⟩, by simp [ren, grH]⟩
  all_goals first | contradiction | exact absurd (zC6 _ _) h | exact absurd (zC6 p a) (by assumption) | exact absurd (zC6 q b) (by assumption)
end Go.PI.Tryz
namespace Go.PI.Tryz
open Go.Proofs Go.PI
theorem ok_ladd : FO 73 Tryz.f73 [.cell 4 34] 9 := mkO Tryz.func73 Tryz.ntmps73 Tryz.results73
theorem c_ladd (f g : QF) (kf kg : Nat) (hf : szF kf f) (hg : szF kg g) (hk : kf + kg ≤ 949999990) (hl1 : f.ts.length ≤ 1048576) (hl2 : g.ts.length ≤ 1048576) : Fn 73 [encF f, encF g] (.data (encF (mergeQ f g 1))) := by
 have cm := c_lmerge f g ((1 : Int) : Rat) kf kg 1 hf.2 hg.2 hf.1 hg.1 (zCL (by decide)) (by omega) hl1 hl2;have co := c_qof 1 (by decide);rw [Rat.intCast_one] at cm co;refine zAJ hmix hT ok_ladd (by simp [encF]) ?_;refine sts ?_;refine zAA co rfl ?_;refine sts ?_;refine zAA cm rfl ?_;refine sts ?_;exact zAB rfl rfl
theorem ok_lsub : FO 92 Tryz.f92 [.cell 4 34] 9 := mkO Tryz.func92 Tryz.ntmps92 Tryz.results92
theorem zFE (f g : QF) (kf kg : Nat) (hf : szF kf f) (hg : szF kg g) (hk : kf + kg ≤ 949999990) (hl1 : f.ts.length ≤ 1048576) (hl2 : g.ts.length ≤ 1048576) : Fn 92 [encF f, encF g] (.data (encF (mergeQ f g (-1)))) := by
 have cm := c_lmerge f g ((-1 : Int) : Rat) kf kg 1 hf.2 hg.2 hf.1 hg.1 (zCL (by decide)) (by omega) hl1 hl2;have co := c_qof (-1) (by decide);rw [show ((-1 : Int) : Rat) = -1 by rfl] at cm co;refine zAJ hmix hT ok_lsub (by simp [encF]) ?_;refine sts ?_;refine zAA co rfl ?_;refine sts ?_;refine zAA cm rfl ?_;refine sts ?_;exact zAB rfl rfl
theorem ok_lscale : FO 74 Tryz.f74 [.cell 4 34] 9 := mkO Tryz.func74 Tryz.ntmps74 Tryz.results74
theorem zHN (f : QF) (c : Rat) (kf kc : Nat) (hf : szF kf f) (hc : sz kc c) (hk : kf + kc ≤ 949999990) (hl1 : f.ts.length ≤ 1048576) : Fn 74 [encF f, encRat (cr c)] (.data (encF (mergeQ zeroQ f c))) := by
 have cm := c_lmerge zeroQ f c 1 kf kc (zC4 1 (by decide)).2 hf.2 (zC4 1 (by decide)).1 hf.1 hc (by omega) (by simp [zeroQ]) hl1;rw [zA4] at cm;refine zAJ hmix hT ok_lscale (by simp [encF]) ?_;refine sts ?_;refine zAA cm rfl ?_;refine sts ?_;exact zAB rfl rfl
end Go.PI.Tryz
