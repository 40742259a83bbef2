/-
  Affine forms: Add, Sub, Scale, Eval.
-/
import Derived.Test.YtigeioodiljlaaaGreatCIB
import Derived.Test.YtigeioodiljlaaaGreatCPD
set_option linter.unusedVariables false
set_option linter.unusedSimpArgs false
set_option linter.unnecessarySimpa false
namespace Go.PI.Tryz
open Go.Proofs Go.PI
theorem ok_lvalid : FO 76 Tryz.f76 [.tmp 4] 56 := mkO Tryz.func76 Tryz.ntmps76 Tryz.results76
theorem c_lvalid (f : AffL) (n : Int) (hf : okA 2147483596 f) : Fn 76 [encAff f, .int .i64 n] (.data (.bool (validB f n))) := by
 obtain ⟨hc, ht, hl⟩ := hf;refine zAO hmix hT ok_lvalid (by simp [encAff]) ?_;refine sts ?_
 refine zAH hT (fun (i : Nat) => [(1, .int .i64 n), (2, .ptr 0 0 0), (8, .imm (f.terms.map encTerm)), (9, .int .i64 f.terms.length), (10, .int .i64 i)]) (fun _ => [(0, ⟨[encAff f], 4, true⟩)]) [] 1
  (fun i => i ≤ f.terms.length ∧ ∀ j, j < i → okT f.terms n j) (fun i => f.terms.length - i) 0 ⟨Nat.zero_le _, fun j h => (by omega)⟩ (by decide) (by simp) ?_ ?_
 ·exact ⟨[0], [], [], [], ttt, ⟨zAC rfl rfl, apx, zAD rfl rfl, zAC rfl (by simp), zAC rfl rfl, trivial⟩, ⟨bbx, trivial⟩, by simp [ren]⟩
 intro i ⟨i1, i2⟩;have hcv := zGO f.const hc.1 (by have := hc.2; omega) (by have := hc.2; omega);by_cases hi : i < f.terms.length
 ·have hq := okA_get (f := f) ⟨hc, ht, hl⟩ hi
  have cs := zDX f.terms[i]!.coef hq.1 (by have := hq.2; omega);have cv := zGO f.terms[i]!.coef hq.1 (by have := hq.2; omega) (by have := hq.2; omega)
  (repeat' (first|refine stp ?_|with_reducible(refine brr ?_ ?_<;>intro h)));all_goals try(conv=>whnf)
  ·exact zAB rfl (congrArg PV.bool (zBD (i := i) (by omega) fun e => by have := e.1; omega))
  ·exact zAB rfl (congrArg PV.bool (zBD (i := i) (by omega) fun e => by have := e.2.1; omega))
  ·refine zA0 (j := i - 1) (by omega) (by omega) ?_
   (repeat' (first|refine stp ?_|with_reducible(refine brr ?_ ?_<;>intro h)));all_goals try(conv=>whnf)
   ·exact zAB rfl (congrArg PV.bool (zBD (i := i) (by omega) fun e => by have := e.2.2.1 (by omega); omega))
   refine zAA cs rfl ?_
   (repeat' (first|refine stp ?_|with_reducible(refine brr ?_ ?_<;>intro h)));all_goals try(conv=>whnf)
   ·exact zAB rfl (congrArg PV.bool (zBD (i := i) (by omega) fun e => e.2.2.2.1 (sgnQ_zero.1 h)))
   ·refine zAA cv rfl ?_
    (repeat' (first|refine stp ?_|with_reducible(refine brr ?_ ?_<;>intro h)));all_goals try(conv=>whnf)
    ·refine ⟨i + 1, ⟨⟨by omega, fun j hj => ?_⟩, by show f.terms.length - (i + 1) < f.terms.length - i; omega⟩, [0], [], [], [], ttt, ⟨zAC rfl rfl, apx, zAD rfl rfl, zAC rfl rfl, zAC rfl (by omega), trivial⟩, ⟨bbx, trivial⟩, by simp [ren]⟩
     rcases Nat.lt_or_eq_of_le (Nat.le_of_lt_succ hj) with hj | rfl
     ·exact i2 j hj
     ·exact ⟨by omega, by omega, fun h0 => by omega, fun e => by have := sgnQ_zero.2 e; omega, h⟩
    ·exact zAB rfl (congrArg PV.bool (zBD (i := i) (by omega) fun e => h e.2.2.2.2))
  ·refine zAA cs rfl ?_
   (repeat' (first|refine stp ?_|with_reducible(refine brr ?_ ?_<;>intro h)));all_goals try(conv=>whnf)
   ·exact zAB rfl (congrArg PV.bool (zBD (i := i) (by omega) fun e => e.2.2.2.1 (sgnQ_zero.1 h)))
   ·refine zAA cv rfl ?_
    (repeat' (first|refine stp ?_|with_reducible(refine brr ?_ ?_<;>intro h)));all_goals try(conv=>whnf)
    ·refine ⟨i + 1, ⟨⟨by omega, fun j hj => ?_⟩, by show f.terms.length - (i + 1) < f.terms.length - i; omega⟩, [0], [], [], [], ttt, ⟨zAC rfl rfl, apx, zAD rfl rfl, zAC rfl rfl, zAC rfl (by omega), trivial⟩, ⟨bbx, trivial⟩, by simp [ren]⟩
     rcases Nat.lt_or_eq_of_le (Nat.le_of_lt_succ hj) with hj | rfl
     ·exact i2 j hj
     ·exact ⟨by omega, by omega, fun h0 => by omega, fun e => by have := sgnQ_zero.2 e; omega, h⟩
    ·exact zAB rfl (congrArg PV.bool (zBD (i := i) (by omega) fun e => h e.2.2.2.2))
  ·omega
 ·(repeat' (first|refine stp ?_|with_reducible(refine brr ?_ ?_<;>intro h)));all_goals try(conv=>whnf)
  all_goals try (exfalso; omega)
  refine zAA hcv rfl ?_;refine sts ?_;exact zAB rfl (congrArg PV.bool (zKB fun j hj => i2 j (by omega)))
end Go.PI.Tryz
namespace Go.PI.Tryz
open Go.Proofs Go.PI
def ownF (n : Nat) (c : Rat) : PV := .agg [.own 0 0 n, .bool (cr c).neg, encN (cr c).num, encN (cr c).den]
def nilF (c : Rat) : PV := .agg [.nilsl, .bool (cr c).neg, encN (cr c).num, encN (cr c).den]
def rowB (O : List QT) : Blk := ⟨O.map encQ, 4, true⟩
theorem ownF_ok (O : List QT) (c : Rat) : okRes (rowB O) (ownF O.length c) := by
 refine Or.inl ⟨fun x hx => ?_, ?_⟩
 ·simp only [ownF, resCells, List.mem_cons, List.not_mem_nil, or_false] at hx
  rcases hx with rfl | rfl | rfl | rfl
  ·left; simp [rowB]
  all_goals right; rfl
 ·simp [ownF, resCells, rowB]
theorem zAX (O : List QT) : ∀ e ∈ O.map encQ, nr 3 e = true ∧ e ≠ .any := zAW fun x => ⟨rfl, by simp [encQ, encTerm]⟩
theorem ok_lput : FO 107 Tryz.f107 [.cell 6 29] 20 := mkO Tryz.func107 Tryz.ntmps107 Tryz.results107
theorem zDN (O : List QT) (c : Rat) (v : Int) (q : Rat) (k : Nat) (hq : sz k q) (hk : k ≤ 2147483596) (hO : O.length < 2147483648) : Fn 107 [ownF O.length c, .int .i64 v, encRat (cr q)] (.own (some (rowB O)) (ownF (O ++ nzq v q).length c) (rowB (O ++ nzq v q))) := by
 have hl := zAY hq;have cs := zDX (cr q) (zAR q) (by omega);have cc := zIK (cr q) (zAR q) (by omega) (by omega);rw [zA3] at cs cc;refine fnC_vtake hmix hT ok_lput (by simp) ?_;refine sts ?_;refine zAA cs rfl ?_
 (repeat' (first|refine stp ?_|with_reducible(refine brr ?_ ?_<;>intro h)));all_goals try(conv=>whnf)
 ·rw [zKP fun e => h (sgnQ_zero.2 e)]
  refine zAA cc rfl ?_;refine sts ?_;refine zA7 ⟨rfl, by simp [rowB], by simp; omega⟩ ?_;refine sts ?_;refine zG3 (r := 14) ?_ rfl ?_ rfl (fun e he => (zAX _ e he).1) (ownF_ok _ c)
  ·simp [ownF, rk, rk1]
  ·simp [rowB, encQ, encTerm, tQ]
 ·rw [show q = 0 from sgnQ_zero.1 h, zH8, List.append_nil]
  exact zG3 (r := 0) rfl rfl rfl rfl (fun e he => (zAX _ e he).1) (ownF_ok _ c)
theorem zDO (c : Rat) (v : Int) (q : Rat) (k : Nat) (hq : sz k q) (hk : k ≤ 2147483596) : Fn 107 [nilF c, .int .i64 v, encRat (cr q)] (.own none (ownF (nzq v q).length c) (rowB (nzq v q))) := by
 have hl := zAY hq;have cs := zDX (cr q) (zAR q) (by omega);have cc := zIK (cr q) (zAR q) (by omega) (by omega);rw [zA3] at cs cc;refine fnC_vgive hmix hT ok_lput (by simp) ?_;refine sts ?_;refine zAA cs rfl ?_
 (repeat' (first|refine stp ?_|with_reducible(refine brr ?_ ?_<;>intro h)));all_goals try(conv=>whnf)
 ·rw [zKP fun e => h (sgnQ_zero.2 e)]
  refine zAA cc rfl ?_;refine sts ?_;refine zG3 (r := 14) ?_ rfl ?_ rfl (fun e he => (zAX _ e he).1) (ownF_ok _ c)
  ·simp [ownF, rk, rk1]
  ·simp [encQ, encTerm, tQ]
 ·rw [show q = 0 from sgnQ_zero.1 h, zH8]
  exact ownV_nil rfl rfl (ownF_ok [] c)
def grF : Bool → Nat → Rat → PV
 | true, n, c => ownF n c
 | false, _, c => nilF c
def grH : Bool → List QT → List (Nat × Blk)
 | true, O => [(0, rowB O)]
 | false, _ => []
def zeroF : PV := .agg [.nilsl, .bool false, .nilsl, .nilsl]
theorem zA8 (v : Int) (x : Rat) : (nzq v x).length ≤ 1 := by unfold nzq; split <;> simp
theorem zFA {h : Hp} {n : Nat} (x : QT) : frz h (n + 1) (encQ x) = some (encQ x, []) := by cases n <;> rfl
theorem zCG (p : QT) (a : List QT) : (((p :: a).length : Nat) : Int) > 0 := by rw [List.length_cons]; omega
theorem ok_lmerge : FO 77 Tryz.f77 [.cell 6 29] 113 := mkO Tryz.func77 Tryz.ntmps77 Tryz.results77
set_option maxHeartbeats 1000000 in
theorem c_lmerge (f g : QF) (c : Rat) (kf kg kc : Nat) (hf : ∀ p ∈ f.ts, sz kf p.2) (hg : ∀ p ∈ g.ts, sz kg p.2) (hfc : sz kf f.c) (hgc : sz kg g.c) (hc : sz kc c) (hk : kf + kg + kc ≤ 950000000) (hl1 : f.ts.length ≤ 1048576) (hl2 : g.ts.length ≤ 1048576) :
 Fn 77 [encF f, encF g, encRat (cr c)] (.data (encF (mergeQ f g c))) := by
 have q1 := zAY hfc;have q2 := zAY hgc;have q3 := zAY hc;have m0 := zC8 hgc hc;have q4 := zAY m0;have cm := zHZ (cr g.c) (cr c) (zAR _) (zAR _) (by omega) (by omega) (by omega) (by omega);rw [zA3, zA3] at cm;have ca := c_qadd (cr f.c) (cr (g.c * c)) (zAR _) (zAR _) (by omega) (by omega) (by omega) (by omega);rw [zA3, zA3] at ca;refine zAO hmix hT ok_lmerge (by simp [encF]) ?_;refine sts ?_;refine zAA cm rfl ?_;refine sts ?_;refine zAA ca rfl ?_;refine sts ?_;obtain ⟨C, hC⟩ : ∃ C, f.c + g.c * c = C := ⟨_, rfl⟩;obtain ⟨M, hM⟩ : ∃ M, mrg c f.ts g.ts = M := ⟨_, rfl⟩;unfold mergeQ;rw [hM];simp only [hC];clear ca cm
 refine zAH hT (fun ((a, b, O, s) : List QT × List QT × List QT × Bool) => [(5, .ptr 1 0 0), (6, .ptr 2 0 0), (7, .ptr 3 0 0), (8, .imm (a.map encQ)), (9, .imm (b.map encQ))])
  (fun (a, b, O, s) => (1, ⟨[encRat (cr c)], 3, true⟩) :: (2, ⟨[zeroF], 4, true⟩) :: (3, ⟨[grF s O.length C], 4, true⟩) :: grH s O) [] 4
  (fun (a, b, O, s) => (s = false → O = []) ∧ O ++ mrg c a b = M ∧ (∀ p ∈ a, sz kf p.2) ∧ (∀ p ∈ b, sz kg p.2) ∧ a.length + b.length + O.length ≤ 2147483648)
  (fun (a, b, _, _) => a.length + b.length) (f.ts, g.ts, [], false) ⟨fun _ => rfl, hM, hf, hg, by simp; omega⟩ (by decide) (by simp) ?_ ?_
 ·exact ⟨[0, 2, 3, 12], [], [], [], ttt, ⟨apx, apx, apx, zAD rfl rfl, zAD rfl rfl, trivial⟩,
   ⟨bbx, bbx, bbx, trivial⟩, by simp [ren, grH]⟩
 intro ⟨a, b, O, s⟩ ⟨i1, i2, i3, i4, i5⟩;rcases a with _ | ⟨p, a⟩ <;> rcases b with _ | ⟨q, b⟩ <;> cases s
 ·refine sts ?_
  rw [mrg, List.append_nil] at i2;have hO := i1 rfl;subst hO;subst i2;exact zAB rfl rfl
 ·refine sts ?_
  rw [mrg, List.append_nil] at i2;subst i2;exact zAB (zEO (zAV (zAN rfl rfl rfl (fun x => zFA x)) rfl)) rfl
 ·(repeat' (first|refine stp ?_|with_reducible(refine brr ?_ ?_<;>intro h)));all_goals try(conv=>whnf)
  ·have hq := i4 q (by simp)
   have hqc := zC8 hq hc;have l1 := zAY hq;have cm := zHZ (cr q.2) (cr c) (zAR _) (zAR _) (by omega) (by omega) (by omega) (by omega);rw [zA3, zA3] at cm;refine zAA cm rfl ?_;refine sts ?_;refine zBL (zDO C q.1 (q.2 * c) _ hqc (by omega)) rfl ?_;refine sts ?_;refine zB9 (l' := b) (by simp) ?_;refine sts ?_;have nl := zA8 q.1 (q.2 * c)
   exact ⟨([], b, nzq q.1 (q.2 * c), true), ⟨⟨by simp, by rw [mrg] at i2; rw [i1 rfl, List.nil_append] at i2; exact i2, fun r hr => i3 r (by simp_all), fun r hr => i4 r (by simp_all), by simp at i5 ⊢; omega⟩, by simp; try omega⟩, [_, _, _, _], [], [], [], ttt, ⟨(apy rfl), (apy rfl), (apy rfl), zAD rfl rfl, zAD rfl rfl, trivial⟩,
    ⟨bbx, bbx, zCH (by decide) rfl ⟨⟨by decide, rfl⟩, rfl, rfl, rfl, trivial⟩ rfl rfl, zAE (by decide) rfl rfl (zAX _) rfl, trivial⟩, by simp [ren, grH]⟩
  ·exact absurd h (by simp)
 ·(repeat' (first|refine stp ?_|with_reducible(refine brr ?_ ?_<;>intro h)));all_goals try(conv=>whnf)
  ·have hq := i4 q (by simp)
   have hqc := zC8 hq hc;have l1 := zAY hq;have cm := zHZ (cr q.2) (cr c) (zAR _) (zAR _) (by omega) (by omega) (by omega) (by omega);rw [zA3, zA3] at cm;refine zAA cm rfl ?_;refine sts ?_;refine zBE (r := 0) (zDN O C q.1 (q.2 * c) _ hqc (by omega) (by omega)) rfl rfl rfl rfl (zC3 (zAX O)) ?_;refine sts ?_;refine zB9 (l' := b) (by simp) ?_;refine sts ?_;have nl := zA8 q.1 (q.2 * c)
   exact ⟨([], b, O ++ nzq q.1 (q.2 * c), true), ⟨⟨by simp, by rw [mrg] at i2; rw [List.append_assoc]; exact i2, fun r hr => i3 r (by simp_all), fun r hr => i4 r (by simp_all), by simp at i5 ⊢; omega⟩, by simp; try omega⟩, [_, _, _, _], [], [], [], ttt, ⟨(apy rfl), (apy rfl), (apy rfl), zAD rfl rfl, zAD rfl rfl, trivial⟩,
    ⟨bbx, bbx, zCH (by decide) rfl ⟨⟨by decide, rfl⟩, rfl, rfl, rfl, trivial⟩ rfl rfl, zAE (by decide) rfl rfl (zAX _) rfl, trivial⟩, by simp [ren, grH]⟩
  ·exact absurd h (by simp)
 ·(repeat' (first|refine stp ?_|with_reducible(refine brr ?_ ?_<;>intro h)));all_goals try(conv=>whnf)
  ·have hp := i3 p (by simp)
   refine zBL (zDO C p.1 p.2 _ hp (by omega)) rfl ?_;refine sts ?_;refine zB9 (l' := a) (by simp) ?_;refine sts ?_;have nl := zA8 p.1 p.2
   exact ⟨(a, [], nzq p.1 p.2, true), ⟨⟨by simp, by rw [mrg] at i2; rw [i1 rfl, List.nil_append] at i2; exact i2, fun r hr => i3 r (by simp_all), fun r hr => i4 r (by simp_all), by simp at i5 ⊢; omega⟩, by simp; try omega⟩, [_, _, _, _], [], [], [], ttt, ⟨(apy rfl), (apy rfl), (apy rfl), zAD rfl rfl, zAD rfl rfl, trivial⟩,
    ⟨bbx, bbx, zCH (by decide) rfl ⟨⟨by decide, rfl⟩, rfl, rfl, rfl, trivial⟩ rfl rfl, zAE (by decide) rfl rfl (zAX _) rfl, trivial⟩, by simp [ren, grH]⟩
  all_goals first | contradiction | exact absurd (zCG _ _) h | exact absurd (zCG p a) (by assumption) | exact absurd (zCG q b) (by assumption)
 ·(repeat' (first|refine stp ?_|with_reducible(refine brr ?_ ?_<;>intro h)));all_goals try(conv=>whnf)
  ·have hp := i3 p (by simp)
   refine zBE (r := 0) (zDN O C p.1 p.2 _ hp (by omega) (by omega)) rfl rfl rfl rfl (zC3 (zAX O)) ?_;refine sts ?_;refine zB9 (l' := a) (by simp) ?_;refine sts ?_;have nl := zA8 p.1 p.2
   exact ⟨(a, [], O ++ nzq p.1 p.2, true), ⟨⟨by simp, by rw [mrg] at i2; rw [List.append_assoc]; exact i2, fun r hr => i3 r (by simp_all), fun r hr => i4 r (by simp_all), by simp at i5 ⊢; omega⟩, by simp; try omega⟩, [_, _, _, _], [], [], [], ttt, ⟨(apy rfl), (apy rfl), (apy rfl), zAD rfl rfl, zAD rfl rfl, trivial⟩,
    ⟨bbx, bbx, zCH (by decide) rfl ⟨⟨by decide, rfl⟩, rfl, rfl, rfl, trivial⟩ rfl rfl, zAE (by decide) rfl rfl (zAX _) rfl, trivial⟩, by simp [ren, grH]⟩
  all_goals first | contradiction | exact absurd (zCG _ _) h | exact absurd (zCG p a) (by assumption) | exact absurd (zCG q b) (by assumption)
 ·(repeat' (first|refine stp ?_|with_reducible(refine brr ?_ ?_<;>intro h)));all_goals try(conv=>whnf)
  ·have hp := i3 p (by simp)
   refine zBL (zDO C p.1 p.2 _ hp (by omega)) rfl ?_;refine sts ?_;refine zB9 (l' := a) (by simp) ?_;refine sts ?_;have nl := zA8 p.1 p.2
   exact ⟨(a, q :: b, nzq p.1 p.2, true), ⟨⟨by simp, by rw [mrg, if_pos (show p.1 < q.1 from h)] at i2; rw [i1 rfl, List.nil_append] at i2; exact i2, fun r hr => i3 r (by simp_all), fun r hr => i4 r (by simp_all), by simp at i5 ⊢; omega⟩, by simp; try omega⟩, [_, _, _, _], [], [], [], ttt, ⟨(apy rfl), (apy rfl), (apy rfl), zAD rfl rfl, zAD rfl rfl, trivial⟩,
    ⟨bbx, bbx, zCH (by decide) rfl ⟨⟨by decide, rfl⟩, rfl, rfl, rfl, trivial⟩ rfl rfl, zAE (by decide) rfl rfl (zAX _) rfl, trivial⟩, by simp [ren, grH]⟩
  ·have hq := i4 q (by simp)
   have hqc := zC8 hq hc;have l1 := zAY hq;have cm := zHZ (cr q.2) (cr c) (zAR _) (zAR _) (by omega) (by omega) (by omega) (by omega);rw [zA3, zA3] at cm;refine zAA cm rfl ?_;refine sts ?_;refine zBL (zDO C q.1 (q.2 * c) _ hqc (by omega)) rfl ?_;refine sts ?_;refine zB9 (l' := b) (by simp) ?_;refine sts ?_;have nl := zA8 q.1 (q.2 * c)
   exact ⟨(p :: a, b, nzq q.1 (q.2 * c), true), ⟨⟨by simp, by rw [mrg, if_neg (show ¬ p.1 < q.1 from ‹¬ (tQ p).var < (tQ q).var›), if_pos (show q.1 < p.1 from h)] at i2; rw [i1 rfl, List.nil_append] at i2; exact i2, fun r hr => i3 r (by simp_all), fun r hr => i4 r (by simp_all), by simp at i5 ⊢; omega⟩, by simp; try omega⟩, [_, _, _, _], [], [], [], ttt, ⟨(apy rfl), (apy rfl), (apy rfl), zAD rfl rfl, zAD rfl rfl, trivial⟩,
    ⟨bbx, bbx, zCH (by decide) rfl ⟨⟨by decide, rfl⟩, rfl, rfl, rfl, trivial⟩ rfl rfl, zAE (by decide) rfl rfl (zAX _) rfl, trivial⟩, by simp [ren, grH]⟩
  ·have hq := i4 q (by simp)
   have hqc := zC8 hq hc;have l1 := zAY hq;have cm := zHZ (cr q.2) (cr c) (zAR _) (zAR _) (by omega) (by omega) (by omega) (by omega);rw [zA3, zA3] at cm;have hp := i3 p (by simp);have hpq := zDQ hp hqc;have l2 := zAY hp;have l3 := zAY hqc;have ca := c_qadd (cr p.2) (cr (q.2 * c)) (zAR _) (zAR _) (by omega) (by omega) (by omega) (by omega);rw [zA3, zA3] at ca;refine zAA cm rfl ?_;refine sts ?_;refine zAA ca rfl ?_;refine sts ?_;refine zBL (zDO C p.1 (p.2 + q.2 * c) _ hpq (by omega)) rfl ?_;refine sts ?_;refine zB9 (l' := a) (by simp) ?_;refine sts ?_;refine zB9 (l' := b) (by simp) ?_;refine sts ?_;have nl := zA8 p.1 (p.2 + q.2 * c)
   exact ⟨(a, b, nzq p.1 (p.2 + q.2 * c), true), ⟨⟨by simp, by rw [mrg, if_neg (show ¬ p.1 < q.1 from ‹¬ (tQ p).var < (tQ q).var›), if_neg (show ¬ q.1 < p.1 from h)] at i2; rw [i1 rfl, List.nil_append] at i2; exact i2, fun r hr => i3 r (by simp_all), fun r hr => i4 r (by simp_all), by simp at i5 ⊢; omega⟩, by simp; try omega⟩, [_, _, _, _], [], [], [], ttt, ⟨(apy rfl), (apy rfl), (apy rfl), zAD rfl rfl, zAD rfl rfl, trivial⟩,
    ⟨bbx, bbx, zCH (by decide) rfl ⟨⟨by decide, rfl⟩, rfl, rfl, rfl, trivial⟩ rfl rfl, zAE (by decide) rfl rfl (zAX _) rfl, trivial⟩, by simp [ren, grH]⟩
  all_goals first | contradiction | exact absurd (zCG _ _) h | exact absurd (zCG p a) (by assumption) | exact absurd (zCG q b) (by assumption)
 ·(repeat' (first|refine stp ?_|with_reducible(refine brr ?_ ?_<;>intro h)));all_goals try(conv=>whnf)
  ·have hp := i3 p (by simp)
   refine zBE (r := 0) (zDN O C p.1 p.2 _ hp (by omega) (by omega)) rfl rfl rfl rfl (zC3 (zAX O)) ?_;refine sts ?_;refine zB9 (l' := a) (by simp) ?_;refine sts ?_;have nl := zA8 p.1 p.2
   exact ⟨(a, q :: b, O ++ nzq p.1 p.2, true), ⟨⟨by simp, by rw [mrg, if_pos (show p.1 < q.1 from h)] at i2; rw [List.append_assoc]; exact i2, fun r hr => i3 r (by simp_all), fun r hr => i4 r (by simp_all), by simp at i5 ⊢; omega⟩, by simp; try omega⟩, [_, _, _, _], [], [], [], ttt, ⟨(apy rfl), (apy rfl), (apy rfl), zAD rfl rfl, zAD rfl rfl, trivial⟩,
    ⟨bbx, bbx, zCH (by decide) rfl ⟨⟨by decide, rfl⟩, rfl, rfl, rfl, trivial⟩ rfl rfl, zAE (by decide) rfl rfl (zAX _) rfl, trivial⟩, by simp [ren, grH]⟩
  ·have hq := i4 q (by simp)
   have hqc := zC8 hq hc;have l1 := zAY hq;have cm := zHZ (cr q.2) (cr c) (zAR _) (zAR _) (by omega) (by omega) (by omega) (by omega);rw [zA3, zA3] at cm;refine zAA cm rfl ?_;refine sts ?_;refine zBE (r := 0) (zDN O C q.1 (q.2 * c) _ hqc (by omega) (by omega)) rfl rfl rfl rfl (zC3 (zAX O)) ?_;refine sts ?_;refine zB9 (l' := b) (by simp) ?_;refine sts ?_;have nl := zA8 q.1 (q.2 * c)
   exact ⟨(p :: a, b, O ++ nzq q.1 (q.2 * c), true), ⟨⟨by simp, by rw [mrg, if_neg (show ¬ p.1 < q.1 from ‹¬ (tQ p).var < (tQ q).var›), if_pos (show q.1 < p.1 from h)] at i2; rw [List.append_assoc]; exact i2, fun r hr => i3 r (by simp_all), fun r hr => i4 r (by simp_all), by simp at i5 ⊢; omega⟩, by simp; try omega⟩, [_, _, _, _], [], [], [], ttt, ⟨(apy rfl), (apy rfl), (apy rfl), zAD rfl rfl, zAD rfl rfl, trivial⟩,
    ⟨bbx, bbx, zCH (by decide) rfl ⟨⟨by decide, rfl⟩, rfl, rfl, rfl, trivial⟩ rfl rfl, zAE (by decide) rfl rfl (zAX _) rfl, trivial⟩, by simp [ren, grH]⟩
  ·have hq := i4 q (by simp)
   have hqc := zC8 hq hc;have l1 := zAY hq;have cm := zHZ (cr q.2) (cr c) (zAR _) (zAR _) (by omega) (by omega) (by omega) (by omega);rw [zA3, zA3] at cm;have hp := i3 p (by simp);have hpq := zDQ hp hqc;have l2 := zAY hp;have l3 := zAY hqc;have ca := c_qadd (cr p.2) (cr (q.2 * c)) (zAR _) (zAR _) (by omega) (by omega) (by omega) (by omega);rw [zA3, zA3] at ca;refine zAA cm rfl ?_;refine sts ?_;refine zAA ca rfl ?_;refine sts ?_;refine zBE (r := 0) (zDN O C p.1 (p.2 + q.2 * c) _ hpq (by omega) (by omega)) rfl rfl rfl rfl (zC3 (zAX O)) ?_;refine sts ?_;refine zB9 (l' := a) (by simp) ?_;refine sts ?_;refine zB9 (l' := b) (by simp) ?_;refine sts ?_;have nl := zA8 p.1 (p.2 + q.2 * c)
   exact ⟨(a, b, O ++ nzq p.1 (p.2 + q.2 * c), true), ⟨⟨by simp, by rw [mrg, if_neg (show ¬ p.1 < q.1 from ‹¬ (tQ p).var < (tQ q).var›), if_neg (show ¬ q.1 < p.1 from h)] at i2; rw [List.append_assoc]; exact i2, fun r hr => i3 r (by simp_all), fun r hr => i4 r (by simp_all), by simp at i5 ⊢; omega⟩, by simp; try omega⟩, [_, _, _, _], [], [], [], ttt, ⟨(apy rfl), (apy rfl), (apy rfl), zAD rfl rfl, zAD rfl rfl, trivial⟩,
    ⟨bbx, bbx, zCH (by decide) rfl ⟨⟨by decide, rfl⟩, rfl, rfl, rfl, trivial⟩ rfl rfl, zAE (by decide) rfl rfl (zAX _) rfl, trivial⟩, by simp [ren, grH]⟩
  all_goals first | contradiction | exact absurd (zCG _ _) h | exact absurd (zCG p a) (by assumption) | exact absurd (zCG q b) (by assumption)
end Go.PI.Tryz
namespace Go.PI.Tryz
open Go.Proofs Go.PI
theorem ok_ladd : FO 39 Tryz.f39 [.cell 4 29] 9 := mkO Tryz.func39 Tryz.ntmps39 Tryz.results39
theorem c_ladd (f g : QF) (kf kg : Nat) (hf : szF kf f) (hg : szF kg g) (hk : kf + kg ≤ 949999990) (hl1 : f.ts.length ≤ 1048576) (hl2 : g.ts.length ≤ 1048576) : Fn 39 [encF f, encF g] (.data (encF (mergeQ f g 1))) := by
 have cm := c_lmerge f g ((1 : Int) : Rat) kf kg 1 hf.2 hg.2 hf.1 hg.1 (zFU (by decide)) (by omega) hl1 hl2;have co := c_qof 1 (by decide);rw [Rat.intCast_one] at cm co;refine zAO hmix hT ok_ladd (by simp [encF]) ?_;refine sts ?_;refine zAA co rfl ?_;refine sts ?_;refine zAA cm rfl ?_;refine sts ?_;exact zAB rfl rfl
theorem ok_lsub : FO 43 Tryz.f43 [.cell 4 29] 9 := mkO Tryz.func43 Tryz.ntmps43 Tryz.results43
theorem c_lsub (f g : QF) (kf kg : Nat) (hf : szF kf f) (hg : szF kg g) (hk : kf + kg ≤ 949999990) (hl1 : f.ts.length ≤ 1048576) (hl2 : g.ts.length ≤ 1048576) : Fn 43 [encF f, encF g] (.data (encF (mergeQ f g (-1)))) := by
 have cm := c_lmerge f g ((-1 : Int) : Rat) kf kg 1 hf.2 hg.2 hf.1 hg.1 (zFU (by decide)) (by omega) hl1 hl2;have co := c_qof (-1) (by decide);rw [show ((-1 : Int) : Rat) = -1 by rfl] at cm co;refine zAO hmix hT ok_lsub (by simp [encF]) ?_;refine sts ?_;refine zAA co rfl ?_;refine sts ?_;refine zAA cm rfl ?_;refine sts ?_;exact zAB rfl rfl
theorem ok_lscale : FO 40 Tryz.f40 [.cell 4 29] 9 := mkO Tryz.func40 Tryz.ntmps40 Tryz.results40
theorem c_lscale (f : QF) (c : Rat) (kf kc : Nat) (hf : szF kf f) (hc : sz kc c) (hk : kf + kc ≤ 949999990) (hl1 : f.ts.length ≤ 1048576) : Fn 40 [encF f, encRat (cr c)] (.data (encF (mergeQ zeroQ f c))) := by
 have cm := c_lmerge zeroQ f c 1 kf kc (zCM 1 (by decide)).2 hf.2 (zCM 1 (by decide)).1 hf.1 hc (by omega) (by simp [zeroQ]) hl1;rw [encF_zero] at cm;refine zAO hmix hT ok_lscale (by simp [encF]) ?_;refine sts ?_;refine zAA cm rfl ?_;refine sts ?_;exact zAB rfl rfl
theorem ok_leval : FO 60 Tryz.f60 [.cell 4 27, .tmp 5] 42 := mkO Tryz.func60 Tryz.ntmps60 Tryz.results60
theorem c_leval (f : QF) (x : List Rat) (k kx : Nat) (hf : szF k f) (hx : ∀ q ∈ x, sz kx q) (hv : ∀ p ∈ f.ts, 0 ≤ p.1 ∧ p.1 < x.length) (hk : k + f.ts.length * (k + kx + 1) + k + kx ≤ 949999990) (hl : f.ts.length ≤ 1048576) (hxl : x.length ≤ 1048576) : Fn 60 [encF f, .imm (x.map encX)] (.data (.tup [encRat (cr (evQ f x)), .int .i64 0])) := by
 refine zAO hmix hT ok_leval (by simp [encF]) ?_;refine sts ?_
 refine zAH hT (fun ((i, y) : Nat × Rat) => [(1, .imm (x.map encX)), (4, .ptr 0 0 0), (6, .ptr 1 0 0), (12, .imm (f.ts.map encQ)), (13, .int .i64 f.ts.length), (14, .int .i64 i)])
  (fun (_, y) => [(0, ⟨[.agg [.bool false, .nilsl, .nilsl]], 3, true⟩), (1, ⟨[encRat (cr y)], 3, true⟩)]) [] 2
  (fun (i, y) => i ≤ f.ts.length ∧ y = ev1 x (f.ts.take i) f.c ∧ sz (k + i * (k + kx + 1)) y) (fun (i, _) => f.ts.length - i) (0, f.c) ⟨Nat.zero_le _, rfl, by simpa using hf.1⟩ (by decide) (by simp) ?_ ?_
 ·exact ⟨[_, _], [], [], [], ttt, ⟨zAD rfl rfl, (apy rfl), (apy rfl), zAD rfl rfl, zAC rfl (by simp), zAC rfl rfl, trivial⟩,
   ⟨bbx, bbx, trivial⟩, by simp [ren]⟩
 intro ⟨i, y⟩ ⟨i1, i2, i3⟩;by_cases hi : i < f.ts.length
 ·have hmem : f.ts[i]! ∈ f.ts := by rw [getElem!_pos f.ts i hi]; exact List.getElem_mem hi
  have hvi := hv _ hmem;have hp := hf.2 _ hmem;have hj : f.ts[i]!.1.toNat < x.length := by omega
  have hxm : x[f.ts[i]!.1.toNat]! ∈ x := by rw [getElem!_pos x _ hj]; exact List.getElem_mem hj
  have hxi := hx _ hxm;have hm := zC8 hp hxi;have hmul : (i + 1) * (k + kx + 1) ≤ f.ts.length * (k + kx + 1) := Nat.mul_le_mul_right _ (by omega);rw [Nat.add_mul] at hmul;have l1 := zAY hp;have l2 := zAY hxi;have l3 := zAY hm;have l4 := zAY i3;have cm := zHZ (cr f.ts[i]!.2) (cr x[f.ts[i]!.1.toNat]!) (zAR _) (zAR _) (by omega) (by omega) (by omega) (by omega);rw [zA3, zA3] at cm;have ca := c_qadd (cr y) (cr (f.ts[i]!.2 * x[f.ts[i]!.1.toNat]!)) (zAR _) (zAR _) (by omega) (by omega) (by omega) (by omega);rw [zA3, zA3] at ca;have hsz := zC5 (show k + i * (k + kx + 1) + (k + kx) + 1 ≤ k + (i + 1) * (k + kx + 1) by rw [Nat.add_mul]; omega) (zDQ i3 hm);have hy : ev1 x (f.ts.take (i + 1)) f.c = y + f.ts[i]!.2 * x[f.ts[i]!.1.toNat]! := by rw [ev1_take x f.ts f.c i hi, i2]
  (repeat' (first|refine stp ?_|with_reducible(refine brr ?_ ?_<;>intro h)));all_goals try(conv=>whnf)
  ·exact absurd h (show ¬ f.ts[i]!.1 < 0 by omega)
  ·exact absurd h (show ¬ f.ts[i]!.1 ≥ (x.length : Int) by omega)
  ·refine zA0 (j := f.ts[i]!.1.toNat) (show f.ts[i]!.1 = _ by omega) hj ?_
   refine sts ?_;refine zAA cm rfl ?_;refine sts ?_;refine zAA ca rfl ?_;refine sts ?_
   exact ⟨(i + 1, y + f.ts[i]!.2 * x[f.ts[i]!.1.toNat]!), ⟨⟨by omega, hy.symm, hsz⟩, by show f.ts.length - (i + 1) < f.ts.length - i; omega⟩, [0, 1], [], [], [], ttt, ⟨zAD rfl rfl, apx, apx, zAD rfl rfl, zAC rfl rfl, zAC rfl (by omega), trivial⟩,
    ⟨bbx, bbx, trivial⟩, by simp [ren]⟩
  ·exact absurd (show (i : Int) < f.ts.length by omega) h
 ·have hmul : i * (k + kx + 1) ≤ f.ts.length * (k + kx + 1) := Nat.mul_le_mul_right _ (by omega)
  have e : y = evQ f x := by rw [i2, List.take_of_length_le (by omega)]; rfl
  have l4 := zAY i3;have cc := zIK (cr y) (zAR _) (by omega) (by omega);rw [zA3] at cc
  (repeat' (first|refine stp ?_|with_reducible(refine brr ?_ ?_<;>intro h)));all_goals try(conv=>whnf)
  all_goals try (exfalso; omega)
  refine zAA cc rfl ?_;refine sts ?_;subst e;exact zAB rfl rfl
end Go.PI.Tryz
